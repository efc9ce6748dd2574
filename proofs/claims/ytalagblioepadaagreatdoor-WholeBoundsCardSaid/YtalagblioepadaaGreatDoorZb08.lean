/- The proof, part 8. -/
import Derived.Test.YtalagblioepadaaGreatDoorZb04
import Derived.Test.YtalagblioepadaaGreatDoorZb06
namespace Go.Proofs.YtalagblioepadaaGreatDoor
set_option linter.all false
open Proofs.Tryz List Go.RowKit
set_option maxRecDepth 100000
set_option maxHeartbeats 800000
def fS{p:ak}(h:p:=by unfold bk;omega):p:=h
def DO{p:ak}(h:p:=by have:=bW h.head 2 (I m);simpa using this):p:=h
def Mb{p:ak}(h:p:=by have:=bW h.head 1 (I f);simpa using this):p:=h
def Ef{p:ak}(h:p:=by
 go_wp2
 all_goals go_ret
 all_goals first|exact⟨rfl,rfl⟩|(obtain rfl:n=-2147483648:=U;exact⟨rfl,rfl⟩)
 ):p:=h
def hZ(n:aa):aa:=max (-2147483648) (min n 2147483647)
def bk(n:aa):ak:=-2147483648<=n/\n<=2147483647
def ha(n:aa):bk (hZ n):=by unfold bk hZ;omega
def V6{n:aa}(h:bk n):hZ n=n:=by unfold bk at h;unfold hZ;omega
def ds(a b:aa):aa:=hZ (a+b)
def fx(a b:aa):aa:=hZ (a-b)
def ei(a b:aa):aa:=hZ (a*b / 65536)
def tH(a:aa):aa:=hZ (0-a)
def lg(a b:aa):aa:=if (a.tmod b != 0&&!(decide (a<0) == decide (b<0)))=true then a.tdiv b-1 else a.tdiv b
def l1(a b:aa):aa:=if b≠0 then hZ (lg (a*65536) b)else if 0<a then 2147483647 else if a<0 then -2147483648 else 0
def pI{n:aa}(h:bk n):IntKind.i64.wrap n=n:=et _ (by unfold bk at h;omega)
def RA{n:aa}(h:bk n):IntKind.i32.wrap n=n:=by unfold bk at h;rw[IntKind.wrap_i32];omega
def Qq(n:aa)(w:ai):az 282 #[I n,I (-2147483648),I 2147483647] w λe w'=>e=.returned (I (hZ n))/\w=w':=by
 by_cases h1:n<=2147483647
 .by_cases h2:-2147483648<=n
  .rw[V6 ⟨h2,h1⟩];have a:min n 2147483647=n:=U;have b:max (-2147483648) n=n:=U
   go_in
   exact Ef
  rw[show hZ n=-2147483648 by unfold hZ;omega];have a:min n 2147483647=n:=U;have b:max (-2147483648) n=-2147483648:=U
  go_in
  exact Ef
 rw[show hZ n=2147483647 by unfold hZ;omega]
 go_in
 exact Ef
def qD(n:aa)(w:ai):az 214 #[I n] w λe w'=>e=.returned (ag (hZ n))/\w=w':=by
 have a:=RA (ha n)
 go_in
 go_wp2_with fail;refine br (Qq n w) ?_;go_wp2;go_ret;exact⟨rfl,rfl⟩
def xK(a b:aa)(bj:bk a)(aj:bk b)(w:ai):az 278 #[ag a,ag b] w λe w'=>e=.returned (ag (ds a b))/\w=w':=by
 have c:=pI bj;have d:=pI aj;have f:IntKind.i64.wrap (a+b)=a+b:=by unfold bk at bj aj;exact et _ U
 go_in
 go_wp2_with fail;refine br (qD (a+b) w) ?_;go_wp2;go_ret;exact⟨rfl,rfl⟩
def AN(a b:aa)(bj:bk a)(aj:bk b)(w:ai):az 281 #[ag a,ag b] w λe w'=>e=.returned (ag (fx a b))/\w=w':=by
 have c:=pI bj;have d:=pI aj;have f:IntKind.i64.wrap (a-b)=a-b:=by unfold bk at bj aj;exact et _ U
 go_in
 go_wp2_with fail;refine br (qD (a-b) w) ?_;go_wp2;go_ret;exact⟨rfl,rfl⟩
def Gp{a b:aa}(bj:bk a)(aj:bk b):-4611686018427387904<=a*b/\a*b<=4611686018427387904:=by
 unfold bk at bj aj;have h1:a.natAbs<=2147483648:=U;have h2:b.natAbs<=2147483648:=U;have c:(a*b).natAbs<=2147483648*2147483648:=by rw[Int.natAbs_mul];exact Nat.mul_le_mul h1 h2
 omega
def vw(a b:aa)(bj:bk a)(aj:bk b)(w:ai):az 371 #[ag a,ag b] w λe w'=>e=.returned (ag (ei a b))/\w=w':=by
 have c:=pI bj;have d:=pI aj;have f:IntKind.i64.wrap (a*b)=a*b:=by have:=Gp bj aj;exact et _ U
 go_in
 go_wp2_with fail;refine br (qD (a*b / 65536) w) ?_;go_wp2;go_ret;exact⟨rfl,rfl⟩
def GC(a:aa)(bj:bk a)(w:ai):az 383 #[ag a] w λe w'=>e=.returned (ag (tH a))/\w=w':=by
 go_in
 go_wp2_with fail;refine br (AN 0 a fS bj w) ?_;go_wp2;go_ret;exact⟨rfl,rfl⟩
def Xs{a b:aa}(bj:-140737488355328<=a/\a<=140737488355328):-140737488355328<=a.tdiv b/\a.tdiv b<=140737488355328:=by
 have h:(a.tdiv b).natAbs<=a.natAbs:=by rw[Int.natAbs_tdiv];exact Du _ _
 omega
def Qp(a b:aa)(bj:-140737488355328<=a/\a<=140737488355328)(aj:b≠0)(w:ai):az 392 #[I a,I b] w λe w'=>e=.returned (I (lg a b))/\w=w':=by
 have j:=Xs (b:=b) bj;generalize h1:(a.tmod b != 0)=t;cases t with
 | false=>
  have h:lg a b=a.tdiv b:=by unfold lg;simp[h1]
  rw[h]
  go_in
  go_wp2;go_ret;exact⟨rfl,rfl⟩
 | true=>
  have d:¬ a.tmod b=0:=by simpa using h1
  by_cases h2:a<0
  .by_cases c:b<0
   .have h:lg a b=a.tdiv b:=by unfold lg;simp[h1,h2,c]
    rw[h]
    go_in
    go_wp2;go_ret;exact⟨rfl,rfl⟩
   have h:lg a b=a.tdiv b-1:=by unfold lg;simp[h1,h2,c]
   rw[h]
   go_in
   go_wp2;go_ret;exact⟨rfl,rfl⟩
  have f:a.tmod b=a%b:=pf U;have g:¬ a%b=0:=by rw[<-f];exact d
  have i:(a%b != 0)=true:=by simpa using g
  by_cases c:b<0
  .have h:lg a b=a.tdiv b-1:=by unfold lg;simp[h1,h2,c]
   rw[h]
   go_in
   go_wp2;go_ret;exact⟨rfl,rfl⟩
  have h:lg a b=a.tdiv b:=by unfold lg;simp[h1,h2,c]
  rw[h]
  go_in
  go_wp2;go_ret;exact⟨rfl,rfl⟩
def GB(a b:aa)(bj:bk a)(aj:bk b)(w:ai):az 388 #[ag a,ag b] w λe w'=>e=.returned (ag (l1 a b))/\w=w':=by
 have d:=pI aj;by_cases h:b=0
 .subst h;by_cases h1:0<a
  .rw[show l1 a 0=2147483647 by unfold l1;rw[aA U,aD h1]]
   go_in
   go_wp2;go_ret;exact⟨rfl,rfl⟩
  by_cases h2:a<0
  .rw[show l1 a 0=-2147483648 by unfold l1;rw[aA U,aA h1,aD h2]]
   go_in
   go_wp2;go_ret;exact⟨rfl,rfl⟩
  rw[show l1 a 0=0 by unfold l1;rw[aA U,aA h1,aA h2]]
  go_in
  go_wp2;go_ret;exact⟨rfl,rfl⟩
 rw[show l1 a b=hZ (lg (a*65536) b)by unfold l1;rw[aD h]];have c:-140737488355328<=a*65536/\a*65536<=140737488355328:=by unfold bk at bj;omega
 go_in
 go_wp2_with fail;refine br (Qp (a*65536) b c h w) ?_;go_wp2_with fail;refine br (qD (lg (a*65536) b) w) ?_;go_wp2;go_ret;exact⟨rfl,rfl⟩
def iE(s:aa):aa:=(s*1664525+1013904223)%4294967296
def O9(s a b:aa)(w:ai):az 382 #[aM #[aK a,aK b],aK s] w λe w'=>e=.returned (aK ((s*a+b)%4294967296))/\Below w w w':=by
 go_in
 go_wp2;go_ret;refine⟨?_,(bY _ w).alloc bA _⟩;show Ending.returned (aK ((s*a%4294967296+b)%4294967296))=_;rw[Int.emod_add_emod]
def O7(s:aa)(w:ai):az 370 #[aK s] w λe w'=>e=.returned (aK (iE s))/\Below w w w':=by
 go_in
 go_wp2_with fail;refine aT (O9 s 1664525 1013904223 _) λan h1=>?_;go_wp2;go_ret;exact⟨rfl,h1⟩
def O8(s:aa)(w:ai):az 360 #[aK s,I 4] w λe w'=>e=aV #[aK (iE s),I (iE s / 65536*4 / 65536),I 0]/\Below w w w':=by
 have au:0<=iE s/\iE s<=4294967295:=by unfold iE;omega
 have a:=O7 s;generalize iE s=x at *
 go_in
 go_wp2_with fail;refine aT (a w) λan h1=>?_;go_wp2;go_ret3;exact⟨rfl,h1⟩
section
structure RingAt(w:ai)(r B size:J)(A:ah aa)(first n:J):ak where
 head:w.heap[r]?=some (ae #[ao (some (ad B 0 ab)) size size,I first,I n] 181 (0,0))
 body:w.heap[B]?=some (ae (A.map λx=>(aF x)).toArray 5 (0,0))
 gG:A.length=size
 pos:1<=size
 most:size<=4096
 fst:first<size
 e6:n<=size
 ne:r≠B
namespace RingAt
variable{w w':ai}{r B size first n:J}{A:ah aa}
def drew(h:RingAt w r B size A first n)(m:J):RingAt (w.drewN m) r B size A first n:=⟨h.head,h.body,h.gG,h.pos,h.most,h.fst,h.e6,h.ne⟩
theorem keeps{S:J->ak}(h:RingAt w r B size A first n)(hk:Keeps S w w')(b:¬ S r)(a:¬ S B):RingAt w' r B size A first n:=
 ⟨hk.heap h.head b,hk.heap h.body a,h.gG,h.pos,h.most,h.fst,h.e6,h.ne⟩
def bu(h:RingAt w r B size A first n):w.cell? (ad r 0 ab)=some (ao (some (ad B 0 ab)) size size):=bb h.head rfl
def b0(h:RingAt w r B size A first n):w.cell? (ad r 1 ab)=some (I first):=bb h.head rfl
def bs(h:RingAt w r B size A first n):w.cell? (ad r 2 ab)=some (I n):=bb h.head rfl
def f1(h:RingAt w r B size A first n):w.frozen? (ad r 1 ab)=false:=fJ h.head 1
def f2(h:RingAt w r B size A first n):w.frozen? (ad r 2 ab)=false:=fJ h.head 2
theorem cell(h:RingAt w r B size A first n){k:J}{x:aa}(a:A[k]?=some x):w.cell? (ad B k ab)=some (aF x):=bb h.body (by simp[a])
def free(h:RingAt w r B size A first n)(k:J):w.frozen? (ad B k ab)=false:=fJ h.body k
theorem setBody(h:RingAt w r B size A first n)(k:J)(x:aa):RingAt (w.setCell (ad B k ab) (aF x)) r B size (A.set k x) first n:=
 ⟨eO h.head h.ne _,by have:=bW h.body k (aF x);simpa[map_set]using this,by simpa using h.gG,h.pos,h.most,h.fst,h.e6,h.ne⟩
theorem r8(h:RingAt w r B size A first n)(f:J)(a:f<size):RingAt (w.setCell (ad r 1 ab) (I f)) r B size A f n:=
 ⟨Mb,eO h.body (hJ h.ne) _,h.gG,h.pos,h.most,a,h.e6,h.ne⟩
theorem qS(h:RingAt w r B size A first n)(m:J)(hm:m<=size):RingAt (w.setCell (ad r 2 ab) (I m)) r B size A first m:=
 ⟨DO,eO h.body (hJ h.ne) _,h.gG,h.pos,h.most,h.fst,hm,h.ne⟩
end RingAt
variable{w:ai}{r B size first n:J}{A:ah aa}
def yy(x:aa)(w:ai):az 127 #[I x] w λe w'=>e=.returned (.bool (decide (1<=x/\x<=4096)))/\w=w':=by
 by_cases h1:1<=x
 .by_cases h2:x<=4096
  .go_in
   go_wp2;go_ret;exact⟨kY bU,rfl⟩
  go_in
  go_wp2;go_ret;exact⟨kY bU,rfl⟩
 go_in
 go_wp2;go_ret;exact⟨kY bU,rfl⟩
def tV(h:RingAt w r B size A first n)(i k:J)(x:aa)(b:x=i)(av:i<=100000)(hk:(first+i)%size=k):az 283 #[r,I x] w λe w'=>e=.returned (I k)/\∃ m,w'=w.drewN m:=by
 subst b;have bu:=h.bu;have b0:=h.b0;have d:((size:aa) == 0)=false:=by have:=h.pos;rw[er];omega
 have bP:=h.fst;have c:=h.most;have a:=af hk
 go_in
 go_wp2;go_quiet (fail);go_wp2;go_ret;exact⟨qO (by rw[<-a.o];simp),_,rfl⟩
def BX(h:RingAt w r B size A first n):az 55 #[r] w λe w'=>e=.returned (I n)/\w=w':=by
 have bs:=h.bs
 go_in
 go_wp2;go_ret;exact⟨rfl,rfl⟩
def UZ(h:RingAt w r B size A first n)(i k:J)(x:aa)(c:x=i)(av:i<n)(hk:(first+i)%size=k)(v:aa)(aX:A[k]?=some v):az 357 #[r,I x] w λe w'=>e=aV #[(aF v),true]/\∃ m,w'=w.drewN m:=by
 subst c;have bu:=h.bu;have bs:=h.bs;have f:=h.cell aX;have bP:=h.e6;have d:=h.most;have g:=hk▸eW _ h.pos;have b:=af (λa=>tV (h.drew a) i k i rfl U hk)
 go_in
 go_wp2;go_quiet ((go_at_call 283;exact Calls.quiet_of (b.o _)));go_wp2;go_ret2;exact⟨rfl,_,rfl⟩
def U4(h:RingAt w r B size A first n)(au:n=size)(v:aa):az 217 #[r,(aF v)] w λe w'=>e=.returned (I 8)/\∃ m,w'=w.drewN m:=by
 subst au;have bu:=h.bu;have bs:=h.bs
 go_in
 go_wp2;go_quiet (fail);go_wp2;go_ret;exact⟨rfl,_,rfl⟩
def U3(h:RingAt w r B size A first n)(au:n<size)(k:J)(hk:(first+n)%size=k)(v:aa):az 217 #[r,(aF v)] w λe w'=>e=.returned (I 0)/\RingAt w' r B size (A.set k v) first (n+1)/\Keeps (λb=>b=r\/b=B) w w':=by
 have bu:=h.bu;have bs:=h.bs;have f2:=h.f2;have ne:=h.ne;have bP:=h.e6;have g:=h.most;have f:=hk▸eW _ h.pos;have i:w.cell? (ad B k ab)=some (aF (A[k]'(by rw[h.gG];exact f))):=h.cell aI;have j:=h.free k;have l:((n:aa) == (size:aa))=false:=by rw[er];omega
 have a:=af hk
 go_in
 go_wp2;go_quiet (fail);go_wp2;refine iK 12 aH aH ?_;simp only[hI,il,hG,hA]
 repeat (go_big_quiet_step ((go_at_call 283;first|exact Calls.quiet_of (tV (h.drew _) n k _ U U a.o)|exact iF (tV (h.drew _) n k _ U U a.o))))
 refine wpQuiet_nil ?_;intro _ c;obtain⟨nq,d⟩:=c;subst d;go_wp2;go_ret;refine⟨rfl,?_,?_⟩
 .exact(((h.setBody k v).qS (n+1) U).drew _)
 exact(((Keeps.refl (λb=>b=r\/b=B) w).setCell (p:=ad B k ab) (.inr rfl) _).setCell (p:=ad r 2 ab) (.inl rfl) _).drewN _
def U2(h:RingAt w r B size A first n)(au:0<n)(a:J)(c:(first+1)%size=a)(v:aa)(aX:A[first]?=some v):az 333 #[r] w λe w'=>e=aV #[(aF v),true]/\RingAt w' r B size (A.set first 0) a (n-1)/\Keeps (λb=>b=r\/b=B) w w':=by
 have bu:=h.bu;have b0:=h.b0;have bs:=h.bs;have f1:=h.f1;have f2:=h.f2;have ne:=h.ne;have bP:=h.e6;have k:=h.most;have i:=h.fst;have l:=h.cell aX;have q:=h.free first
 have j:=ja i;have g:=af j;have gm:RingAt (w.setCell (ad B first ab) (aF 0)) r B size (A.set first 0) first n:=h.setBody _ _
 go_in
 go_wp2_with fail;refine aT (UZ h 0 first 0 rfl au g.o v aX) ?_;rintro an ⟨m,rfl⟩;go_wp2_with fail;refine iK 10 aH aH ?_;simp only[hI,il,hG,hA]
 repeat (go_big_quiet_step ((fail)))
 refine wpQuiet_nil ?_;intro _ d;obtain⟨nq,f⟩:=d;subst f;go_wp2_with fail;refine aT (tV (gm.keeps (S:=aG) (by first|exact(Keeps.refl _ _).drewN _|exact((Keeps.refl _ _).drewN _).drewN _) id id) 1 a 1 rfl U c) ?_;rintro aB ⟨s,rfl⟩;go_wp2;go_ret2;rw[show((n:aa)-1)=((n-1:J):aa)by omega];exact⟨rfl,((((h.drew _).setBody first 0).drew _).r8 a (c▸eW _ h.pos)).qS (n-1) U,(((((Keeps.refl (λb=>b=r\/b=B) w).drewN _).setCell (p:=ad B first ab) (.inr rfl) _).drewN _).setCell (p:=ad r 1 ab) (.inl rfl) _).setCell (p:=ad r 2 ab) (.inl rfl) _⟩
end
section
structure QRingAt(w:ai)(r B size:J)(A:ah cc)(first n:J):ak where
 head:w.heap[r]?=some (ae #[ao (some (ad B 0 ab)) size size,I first,I n] 239 (0,0))
 body:w.heap[B]?=some (ae (A.map λx=>(Value.string x)).toArray 9 (0,0))
 gG:A.length=size
 pos:1<=size
 most:size<=4096
 fst:first<size
 e6:n<=size
 ne:r≠B
namespace QRingAt
variable{w w':ai}{r B size first n:J}{A:ah cc}
def drew(h:QRingAt w r B size A first n)(m:J):QRingAt (w.drewN m) r B size A first n:=⟨h.head,h.body,h.gG,h.pos,h.most,h.fst,h.e6,h.ne⟩
theorem keeps{S:J->ak}(h:QRingAt w r B size A first n)(hk:Keeps S w w')(b:¬ S r)(a:¬ S B):QRingAt w' r B size A first n:=
 ⟨hk.heap h.head b,hk.heap h.body a,h.gG,h.pos,h.most,h.fst,h.e6,h.ne⟩
def bu(h:QRingAt w r B size A first n):w.cell? (ad r 0 ab)=some (ao (some (ad B 0 ab)) size size):=bb h.head rfl
def b0(h:QRingAt w r B size A first n):w.cell? (ad r 1 ab)=some (I first):=bb h.head rfl
def bs(h:QRingAt w r B size A first n):w.cell? (ad r 2 ab)=some (I n):=bb h.head rfl
def f2(h:QRingAt w r B size A first n):w.frozen? (ad r 2 ab)=false:=fJ h.head 2
theorem cell(h:QRingAt w r B size A first n){k:J}{x:cc}(a:A[k]?=some x):w.cell? (ad B k ab)=some (Value.string x):=bb h.body (by simp[a])
def free(h:QRingAt w r B size A first n)(k:J):w.frozen? (ad B k ab)=false:=fJ h.body k
theorem setBody(h:QRingAt w r B size A first n)(k:J)(x:cc):QRingAt (w.setCell (ad B k ab) (Value.string x)) r B size (A.set k x) first n:=
 ⟨eO h.head h.ne _,by have:=bW h.body k (Value.string x);simpa[map_set]using this,by simpa using h.gG,h.pos,h.most,h.fst,h.e6,h.ne⟩
theorem qS(h:QRingAt w r B size A first n)(m:J)(hm:m<=size):QRingAt (w.setCell (ad r 2 ab) (I m)) r B size A first m:=
 ⟨DO,eO h.body (hJ h.ne) _,h.gG,h.pos,h.most,h.fst,hm,h.ne⟩
end QRingAt
variable{w:ai}{r B size first n:J}{A:ah cc}
def Uz(x:aa)(w:ai):az 127 #[I x] w λe w'=>e=.returned (.bool (decide (1<=x/\x<=4096)))/\w=w':=by
 by_cases h1:1<=x
 .by_cases h2:x<=4096
  .go_in
   go_wp2;go_ret;exact⟨kY bU,rfl⟩
  go_in
  go_wp2;go_ret;exact⟨kY bU,rfl⟩
 go_in
 go_wp2;go_ret;exact⟨kY bU,rfl⟩
def pU(h:QRingAt w r B size A first n)(i k:J)(x:aa)(b:x=i)(av:i<=100000)(hk:(first+i)%size=k):az 157 #[r,I x] w λe w'=>e=.returned (I k)/\∃ m,w'=w.drewN m:=by
 subst b;have bu:=h.bu;have b0:=h.b0;have d:((size:aa) == 0)=false:=by have:=h.pos;rw[er];omega
 have bP:=h.fst;have c:=h.most;have a:=af hk;clear hk
 go_in
 go_wp2;go_quiet (fail);go_wp2;go_ret;exact⟨qO (by rw[<-a.o];simp),_,rfl⟩
def Ut(h:QRingAt w r B size A first n):az 82 #[r] w λe w'=>e=.returned (I n)/\w=w':=by
 have bs:=h.bs
 go_in
 go_wp2;go_ret;exact⟨rfl,rfl⟩
def IM(h:QRingAt w r B size A first n)(x:aa)(a:x<0\/(n:aa)<=x):az 165 #[r,I x] w λe w'=>e=aV #[(Value.string ByteArray.empty),false]/\w=w':=by
 have bu:=h.bu;have bs:=h.bs;by_cases b:x<0
 .clear a
  go_in
  go_wp2;go_ret2;exact⟨rfl,rfl⟩
 have h1:(n:aa)<=x:=U;clear a
 go_in
 go_wp2;go_ret2;exact⟨rfl,rfl⟩
def IL(h:QRingAt w r B size A first n)(i k:J)(x:aa)(c:x=i)(av:i<n)(hk:(first+i)%size=k)(v:cc)(aX:A[k]?=some v):az 165 #[r,I x] w λe w'=>e=aV #[(Value.string v),true]/\∃ m,w'=w.drewN m:=by
 subst c;have bu:=h.bu;have bs:=h.bs;have f:=h.cell aX;have bP:=h.e6;have d:=h.most;have g:k<size:=hk▸eW _ h.pos;have ar:=λa=>pU (h.drew a) i k i rfl U hk;have b:=af ar;clear ar hk aX
 go_in
 go_wp2;go_quiet ((go_at_call 157;exact Calls.quiet_of (b.o _)));go_wp2;go_ret2;exact⟨rfl,_,rfl⟩
def Uw(h:QRingAt w r B size A first n)(au:n=size)(v:cc):az 95 #[r,(Value.string v)] w λe w'=>e=.returned (I 8)/\∃ m,w'=w.drewN m:=by
 subst au;have bu:=h.bu;have bs:=h.bs
 go_in
 go_wp2;go_quiet (fail);go_wp2;go_ret;exact⟨rfl,_,rfl⟩
def Uv(h:QRingAt w r B size A first n)(au:n<size)(k:J)(hk:(first+n)%size=k)(v:cc):az 95 #[r,(Value.string v)] w λe w'=>e=.returned (I 0)/\QRingAt w' r B size (A.set k v) first (n+1)/\Keeps (λb=>b=r\/b=B) w w':=by
 have bu:=h.bu;have bs:=h.bs;have f2:=h.f2;have ne:=h.ne;have bP:=h.e6;have g:=h.most;have f:k<size:=hk▸eW _ h.pos;have i:w.cell? (ad B k ab)=some (Value.string (A[k]'(by rw[h.gG];exact f))):=h.cell aI;have j:=h.free k;have l:((n:aa) == (size:aa))=false:=by rw[er];omega
 have a:=af hk;clear hk
 go_in
 go_wp2;go_quiet (fail);go_wp2;refine iK 12 aH aH ?_;simp only[hI,il,hG,hA]
 repeat (go_big_quiet_step ((go_at_call 157;first|exact Calls.quiet_of (pU (h.drew _) n k _ U U a.o)|exact iF (pU (h.drew _) n k _ U U a.o))))
 refine wpQuiet_nil ?_;intro _ c;obtain⟨nq,d⟩:=c;subst d;go_wp2;go_ret;refine⟨rfl,?_,?_⟩
 .exact(((h.setBody k v).qS (n+1) U).drew _)
 exact(((Keeps.refl (λb=>b=r\/b=B) w).setCell (p:=ad B k ab) (.inr rfl) _).setCell (p:=ad r 2 ab) (.inl rfl) _).drewN _
def Uy(h:QRingAt w r B size A first n)(x:aa)(a:x<0\/(n:aa)<=x):az 164 #[r,I x] w λe w'=>e=aV #[(Value.string ByteArray.empty),false]/\w=w':=by
 go_in
 go_wp2_with fail;refine(IM h x a).mono ?_;rintro e w' ⟨rfl,rfl⟩;go_wp2;go_ret2;exact⟨rfl,rfl⟩
def Ux{L:ah cc}(h:QRingAt w r B size A first L.length)(q:Holds A first size L)(i:J)(x:aa)(Q:x=i)(av:i<L.length)(v:cc)(aX:L[i]?=some v):az 164 #[r,I x] w λe w'=>e=aV #[(Value.string v),true]/\Keeps (λb=>b=r\/b=B) w w'/\∃ cA,QRingAt w' r B size cA first (L.length-1)/\Holds cA first size (L.eraseIdx i):=by
 subst Q;have ne:=h.ne;have bP:=h.e6;have R:=h.most;have C:=h.fst;have D:A[(first+i)%size]?=some v:=(q i av).trans aX;have F:=af D;have K:=af (q.shift i);clear D aX q
 go_in
 go_wp2_with fail;refine(IL h i _ i rfl av rfl v F.o).mono ?_;rintro e an ⟨rfl,m,rfl⟩;go_wp2_with fail;go_loopw [1] (λu wr=>∃ (j:J) (cA:ah cc),i<=j/\j<=L.length-1/\u=I j/\QRingAt wr r B size cA first L.length/\Keeps (λb=>b=r\/b=B) w wr/\Hid (rq cA first size L i j)) (λu _=>L.length-(intOf u).toNat)
 case atStart=>exact⟨i,A,c9 _,U,rfl,h.drew _,(Keeps.refl _ w).drewN _,K⟩
 obtain⟨j,cA,O,T,rfl,c,E,al⟩:=hrel;have bu:=c.bu;have bs:=c.bs;have f2:=c.f2;by_cases V:j<L.length-1
 .obtain⟨a,d⟩:∃ a,(first+j)%size=a:=⟨_,rfl⟩;obtain⟨f,k⟩:∃ f,(first+(j+1))%size=f:=⟨_,rfl⟩;have s:a<size:=d▸eW _ h.pos;have P:f<size:=k▸eW _ h.pos;obtain⟨y,t⟩:∃ y,cA[f]?=some y:=⟨cA[f]'(by rw[c.gG];exact P),aI⟩;have S:=c.cell t;have M:wr.cell? (ad B a ab)=some (Value.string (cA[a]'(by rw[c.gG];exact s))):=c.cell aI;have N:=c.free a;have g:=af d;have z:=af k;have au:=al.out.next C c.gG bP O U y (by rw[k];exact t);rw[d]at au;have H:=af au;clear d k t au;go_wp2;refine iK 18 aH aH ?_;simp only[hI,il,hG,hA]
  repeat (go_big_quiet_step ((first|(go_at_call 157;first|exact Calls.quiet_of (pU (c.drew _) j a _ U U g.o)|exact iF (pU (c.drew _) j a _ U U g.o))|(go_at_call 157;first|exact Calls.quiet_of (pU (c.drew _) (j+1) f _ U U z.o)|exact iF (pU (c.drew _) (j+1) f _ U U z.o)))))
  refine wpQuiet_nil ?_;intro _ l;have⟨nq,n⟩:=l;subst n;go_wp2;go_roundw
  case rel=>exact⟨j+1,cA.set a y,U,U,by go_num,(c.setBody a y).drew _,(E.setCell (p:=ad B a ab) (.inr rfl) _).drewN _,H⟩
  simp[intOf];omega
 obtain rfl:j=L.length-1:=U;obtain⟨a,d⟩:∃ a,(first+(L.length-1))%size=a:=⟨_,rfl⟩;have s:a<size:=d▸eW _ h.pos;have M:wr.cell? (ad B a ab)=some (Value.string (cA[a]'(by rw[c.gG];exact s))):=c.cell aI;have N:=c.free a;have hd:=al.out.done C bP av ByteArray.empty;rw[d]at hd;have g:=af d;have G:=af hd;clear d hd;go_wp2;refine iK 13 aH aH ?_;simp only[hI,il,hG,hA]
 repeat (go_big_quiet_step ((go_at_call 157;first|exact Calls.quiet_of (pU (c.drew _) (L.length-1) a _ U U g.o)|exact iF (pU (c.drew _) (L.length-1) a _ U U g.o))))
 refine wpQuiet_nil ?_;intro _ l;obtain⟨nq,n⟩:=l;subst n;go_wp2;go_ret2;rw[show((L.length:aa)-1)=((L.length-1:J):aa)by omega];exact⟨rfl,((E.setCell (p:=ad B a ab) (.inr rfl) _).setCell (p:=ad r 2 ab) (.inl rfl) _).drewN _,_,((c.setBody a ByteArray.empty).qS (L.length-1) U).drew _,G.o⟩
end
def DF{p:ak}(h:p:=by
 have⟨A,f,h1,h2⟩:=h;exact⟨h1.e6,h1.pos,h1.most,bR h1.head,bR h1.body,h1.ne⟩
 ):p:=h
def DJ{p:ak}(h:p:=by
 have⟨A,f,h1,h2⟩:=h;exact⟨A,f,h1.keeps hk b a,h2⟩
 ):p:=h
def wQ{p:ak}(h:p:=by
 exact⟨f.os,f.tape,f.output,f.size,f.block⟩
 ):p:=h
def LZ{p:ak}(h:p:=by simp[results,results211,asAddr,loadVar,loadCells,isAgg91,sizeOf91,g]):p:=h
def L0{p:ak}(h:p:=by simp[results,results213,asAddr,loadVar,loadCells,isAgg91,sizeOf91,g]):p:=h
def wU{p:ak}(h:p:=by simp[results,results277,go_sem]):p:=h
def uQ{p:ak}(h:p:=by rw[d];omega):p:=h
end Go.Proofs.YtalagblioepadaaGreatDoor
