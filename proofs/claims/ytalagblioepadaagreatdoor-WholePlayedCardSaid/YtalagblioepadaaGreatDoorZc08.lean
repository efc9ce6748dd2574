/- The proof, part 8. -/
import Derived.Test.YtalagblioepadaaGreatDoorZc04
import Derived.Test.YtalagblioepadaaGreatDoorZc06
namespace Go.Proofs.YtalagblioepadaaGreatDoor
set_option linter.all false
open Proofs.Tryz List Go.RowKit
set_option maxRecDepth 100000
set_option maxHeartbeats 800000
def f_{p:ak}(h:p:=by unfold bj;omega):p:=h
def Ec{p:ak}(h:p:=by have:=bV h.head 2 (I m);simpa using this):p:=h
def MJ{p:ak}(h:p:=by have:=bV h.head 1 (I f);simpa using this):p:=h
def EH{p:ak}(h:p:=by
 go_wp2
 all_goals go_ret
 all_goals first|exact⟨rfl,rfl⟩|(obtain rfl:n=-2147483648:=U;exact⟨rfl,rfl⟩)
 ):p:=h
def ia(n:aa):aa:=max (-2147483648) (min n 2147483647)
def bj(n:aa):ak:=-2147483648<=n/\n<=2147483647
def hl(n:aa):bj (ia n):=by unfold bj ia;omega
def WH{n:aa}(h:bj n):ia n=n:=by unfold bj at h;unfold ia;omega
def dj(a b:aa):aa:=ia (a+b)
def fA(a b:aa):aa:=ia (a-b)
def eh(a b:aa):aa:=ia (a*b / 65536)
def tY(a:aa):aa:=ia (0-a)
def lz(a b:aa):aa:=if (a.tmod b != 0&&!(decide (a<0) == decide (b<0)))=true then a.tdiv b-1 else a.tdiv b
def mf(a b:aa):aa:=if b≠0 then ia (lz (a*65536) b)else if 0<a then 2147483647 else if a<0 then -2147483648 else 0
def pW{n:aa}(h:bj n):IntKind.i64.wrap n=n:=ev _ (by unfold bj at h;omega)
def Sb{n:aa}(h:bj n):IntKind.i32.wrap n=n:=by unfold bj at h;rw[IntKind.wrap_i32];omega
def Q1(n:aa)(w:ai):aA 282 #[I n,I (-2147483648),I 2147483647] w λe w'=>e=.returned (I (ia n))/\w=w':=by
 by_cases h1:n<=2147483647
 .by_cases h2:-2147483648<=n
  .rw[WH ⟨h2,h1⟩];have a:min n 2147483647=n:=U;have b:max (-2147483648) n=n:=U
   go_in
   exact EH
  rw[show ia n=-2147483648 by unfold ia;omega];have a:min n 2147483647=n:=U;have b:max (-2147483648) n=-2147483648:=U
  go_in
  exact EH
 rw[show ia n=2147483647 by unfold ia;omega]
 go_in
 exact EH
def qW(n:aa)(w:ai):aA 214 #[I n] w λe w'=>e=.returned (ag (ia n))/\w=w':=by
 have a:=Sb (hl n)
 go_in
 go_wp2_with fail;refine bA (Q1 n w) ?_;go_wp2;go_ret;exact⟨rfl,rfl⟩
def x7(a b:aa)(bd:bj a)(aj:bj b)(w:ai):aA 278 #[ag a,ag b] w λe w'=>e=.returned (ag (dj a b))/\w=w':=by
 have c:=pW bd;have d:=pW aj;have f:IntKind.i64.wrap (a+b)=a+b:=by unfold bj at bd aj;exact ev _ U
 go_in
 go_wp2_with fail;refine bA (qW (a+b) w) ?_;go_wp2;go_ret;exact⟨rfl,rfl⟩
def A9(a b:aa)(bd:bj a)(aj:bj b)(w:ai):aA 281 #[ag a,ag b] w λe w'=>e=.returned (ag (fA a b))/\w=w':=by
 have c:=pW bd;have d:=pW aj;have f:IntKind.i64.wrap (a-b)=a-b:=by unfold bj at bd aj;exact ev _ U
 go_in
 go_wp2_with fail;refine bA (qW (a-b) w) ?_;go_wp2;go_ret;exact⟨rfl,rfl⟩
def GW{a b:aa}(bd:bj a)(aj:bj b):-4611686018427387904<=a*b/\a*b<=4611686018427387904:=by
 unfold bj at bd aj;have h1:a.natAbs<=2147483648:=U;have h2:b.natAbs<=2147483648:=U;have c:(a*b).natAbs<=2147483648*2147483648:=by rw[Int.natAbs_mul];exact Nat.mul_le_mul h1 h2
 omega
def vM(a b:aa)(bd:bj a)(aj:bj b)(w:ai):aA 371 #[ag a,ag b] w λe w'=>e=.returned (ag (eh a b))/\w=w':=by
 have c:=pW bd;have d:=pW aj;have f:IntKind.i64.wrap (a*b)=a*b:=by have:=GW bd aj;exact ev _ U
 go_in
 go_wp2_with fail;refine bA (qW (a*b / 65536) w) ?_;go_wp2;go_ret;exact⟨rfl,rfl⟩
def G8(a:aa)(bd:bj a)(w:ai):aA 383 #[ag a] w λe w'=>e=.returned (ag (tY a))/\w=w':=by
 go_in
 go_wp2_with fail;refine bA (A9 0 a f_ bd w) ?_;go_wp2;go_ret;exact⟨rfl,rfl⟩
def X5{a b:aa}(bd:-140737488355328<=a/\a<=140737488355328):-140737488355328<=a.tdiv b/\a.tdiv b<=140737488355328:=by
 have h:(a.tdiv b).natAbs<=a.natAbs:=by rw[Int.natAbs_tdiv];exact DV _ _
 omega
def Q0(a b:aa)(bd:-140737488355328<=a/\a<=140737488355328)(aj:b≠0)(w:ai):aA 392 #[I a,I b] w λe w'=>e=.returned (I (lz a b))/\w=w':=by
 have j:=X5 (b:=b) bd;generalize h1:(a.tmod b != 0)=t;cases t with
 | false=>
  have h:lz a b=a.tdiv b:=by unfold lz;simp[h1]
  rw[h]
  go_in
  go_wp2;go_ret;exact⟨rfl,rfl⟩
 | true=>
  have d:¬ a.tmod b=0:=by simpa using h1
  by_cases h2:a<0
  .by_cases c:b<0
   .have h:lz a b=a.tdiv b:=by unfold lz;simp[h1,h2,c]
    rw[h]
    go_in
    go_wp2;go_ret;exact⟨rfl,rfl⟩
   have h:lz a b=a.tdiv b-1:=by unfold lz;simp[h1,h2,c]
   rw[h]
   go_in
   go_wp2;go_ret;exact⟨rfl,rfl⟩
  have f:a.tmod b=a%b:=oA U;have g:¬ a%b=0:=by rw[<-f];exact d
  have i:(a%b != 0)=true:=by simpa using g
  by_cases c:b<0
  .have h:lz a b=a.tdiv b-1:=by unfold lz;simp[h1,h2,c]
   rw[h]
   go_in
   go_wp2;go_ret;exact⟨rfl,rfl⟩
  have h:lz a b=a.tdiv b:=by unfold lz;simp[h1,h2,c]
  rw[h]
  go_in
  go_wp2;go_ret;exact⟨rfl,rfl⟩
def G7(a b:aa)(bd:bj a)(aj:bj b)(w:ai):aA 388 #[ag a,ag b] w λe w'=>e=.returned (ag (mf a b))/\w=w':=by
 have d:=pW aj;by_cases h:b=0
 .subst h;by_cases h1:0<a
  .rw[show mf a 0=2147483647 by unfold mf;rw[az U,aD h1]]
   go_in
   go_wp2;go_ret;exact⟨rfl,rfl⟩
  by_cases h2:a<0
  .rw[show mf a 0=-2147483648 by unfold mf;rw[az U,az h1,aD h2]]
   go_in
   go_wp2;go_ret;exact⟨rfl,rfl⟩
  rw[show mf a 0=0 by unfold mf;rw[az U,az h1,az h2]]
  go_in
  go_wp2;go_ret;exact⟨rfl,rfl⟩
 rw[show mf a b=ia (lz (a*65536) b)by unfold mf;rw[aD h]];have c:-140737488355328<=a*65536/\a*65536<=140737488355328:=by unfold bj at bd;omega
 go_in
 go_wp2_with fail;refine bA (Q0 (a*65536) b c h w) ?_;go_wp2_with fail;refine bA (qW (lz (a*65536) b) w) ?_;go_wp2;go_ret;exact⟨rfl,rfl⟩
def iJ(s:aa):aa:=(s*1664525+1013904223)%4294967296
def PL(s a b:aa)(w:ai):aA 382 #[aQ #[aP a,aP b],aP s] w λe w'=>e=.returned (aP ((s*a+b)%4294967296))/\Below w w w':=by
 go_in
 go_wp2;go_ret;refine⟨?_,(b3 _ w).alloc bs _⟩;show Ending.returned (aP ((s*a%4294967296+b)%4294967296))=_;rw[Int.emod_add_emod]
def PJ(s:aa)(w:ai):aA 370 #[aP s] w λe w'=>e=.returned (aP (iJ s))/\Below w w w':=by
 go_in
 go_wp2_with fail;refine aU (PL s 1664525 1013904223 _) λao h1=>?_;go_wp2;go_ret;exact⟨rfl,h1⟩
def PK(s:aa)(w:ai):aA 360 #[aP s,I 4] w λe w'=>e=aV #[aP (iJ s),I (iJ s / 65536*4 / 65536),I 0]/\Below w w w':=by
 have ar:0<=iJ s/\iJ s<=4294967295:=by unfold iJ;omega
 have a:=PJ s;generalize iJ s=x at *
 go_in
 go_wp2_with fail;refine aU (a w) λao h1=>?_;go_wp2;go_ret3;exact⟨rfl,h1⟩
section
structure RingAt(w:ai)(r B size:J)(A:ah aa)(first n:J):ak where
 head:w.heap[r]?=some (ae #[aq (some (ad B 0 ab)) size size,I first,I n] 181 (0,0))
 body:w.heap[B]?=some (ae (A.map λx=>(aF x)).toArray 5 (0,0))
 gM:A.length=size
 pos:1<=size
 most:size<=4096
 fst:first<size
 fb:n<=size
 ne:r≠B
namespace RingAt
variable{w w':ai}{r B size first n:J}{A:ah aa}
def drew(h:RingAt w r B size A first n)(m:J):RingAt (w.drewN m) r B size A first n:=⟨h.head,h.body,h.gM,h.pos,h.most,h.fst,h.fb,h.ne⟩
theorem keeps{S:J->ak}(h:RingAt w r B size A first n)(hk:Keeps S w w')(b:¬ S r)(a:¬ S B):RingAt w' r B size A first n:=
 ⟨hk.heap h.head b,hk.heap h.body a,h.gM,h.pos,h.most,h.fst,h.fb,h.ne⟩
def bt(h:RingAt w r B size A first n):w.cell? (ad r 0 ab)=some (aq (some (ad B 0 ab)) size size):=bb h.head rfl
def bY(h:RingAt w r B size A first n):w.cell? (ad r 1 ab)=some (I first):=bb h.head rfl
def bo(h:RingAt w r B size A first n):w.cell? (ad r 2 ab)=some (I n):=bb h.head rfl
def f1(h:RingAt w r B size A first n):w.frozen? (ad r 1 ab)=false:=fx h.head 1
def f2(h:RingAt w r B size A first n):w.frozen? (ad r 2 ab)=false:=fx h.head 2
theorem cell(h:RingAt w r B size A first n){k:J}{x:aa}(a:A[k]?=some x):w.cell? (ad B k ab)=some (aF x):=bb h.body (by simp[a])
def free(h:RingAt w r B size A first n)(k:J):w.frozen? (ad B k ab)=false:=fx h.body k
theorem setBody(h:RingAt w r B size A first n)(k:J)(x:aa):RingAt (w.setCell (ad B k ab) (aF x)) r B size (A.set k x) first n:=
 ⟨eU h.head h.ne _,by have:=bV h.body k (aF x);simpa[map_set]using this,by simpa using h.gM,h.pos,h.most,h.fst,h.fb,h.ne⟩
theorem sm(h:RingAt w r B size A first n)(f:J)(a:f<size):RingAt (w.setCell (ad r 1 ab) (I f)) r B size A f n:=
 ⟨MJ,eU h.body (hW h.ne) _,h.gM,h.pos,h.most,a,h.fb,h.ne⟩
theorem q_(h:RingAt w r B size A first n)(m:J)(hm:m<=size):RingAt (w.setCell (ad r 2 ab) (I m)) r B size A first m:=
 ⟨Ec,eU h.body (hW h.ne) _,h.gM,h.pos,h.most,h.fst,hm,h.ne⟩
end RingAt
variable{w:ai}{r B size first n:J}{A:ah aa}
def yU(x:aa)(w:ai):aA 127 #[I x] w λe w'=>e=.returned (.bool (decide (1<=x/\x<=4096)))/\w=w':=by
 by_cases h1:1<=x
 .by_cases h2:x<=4096
  .go_in
   go_wp2;go_ret;exact⟨k_ bT,rfl⟩
  go_in
  go_wp2;go_ret;exact⟨k_ bT,rfl⟩
 go_in
 go_wp2;go_ret;exact⟨k_ bT,rfl⟩
def uk(h:RingAt w r B size A first n)(i k:J)(x:aa)(b:x=i)(aw:i<=100000)(hk:(first+i)%size=k):aA 283 #[r,I x] w λe w'=>e=.returned (I k)/\∃ m,w'=w.drewN m:=by
 subst b;have bt:=h.bt;have bY:=h.bY;have d:((size:aa) == 0)=false:=by have:=h.pos;rw[eu];omega
 have bO:=h.fst;have c:=h.most;have a:=af hk
 go_in
 go_wp2;go_quiet (fail);go_wp2;go_ret;exact⟨q6 (by rw[<-a.o];simp),_,rfl⟩
def Cj(h:RingAt w r B size A first n):aA 55 #[r] w λe w'=>e=.returned (I n)/\w=w':=by
 have bo:=h.bo
 go_in
 go_wp2;go_ret;exact⟨rfl,rfl⟩
def Vy(h:RingAt w r B size A first n)(i k:J)(x:aa)(c:x=i)(aw:i<n)(hk:(first+i)%size=k)(v:aa)(aW:A[k]?=some v):aA 357 #[r,I x] w λe w'=>e=aV #[(aF v),true]/\∃ m,w'=w.drewN m:=by
 subst c;have bt:=h.bt;have bo:=h.bo;have f:=h.cell aW;have bO:=h.fb;have d:=h.most;have g:=hk▸e2 _ h.pos;have b:=af (λa=>uk (h.drew a) i k i rfl U hk)
 go_in
 go_wp2;go_quiet ((go_at_call 283;exact Calls.quiet_of (b.o _)));go_wp2;go_ret2;exact⟨rfl,_,rfl⟩
def VD(h:RingAt w r B size A first n)(ar:n=size)(v:aa):aA 217 #[r,(aF v)] w λe w'=>e=.returned (I 8)/\∃ m,w'=w.drewN m:=by
 subst ar;have bt:=h.bt;have bo:=h.bo
 go_in
 go_wp2;go_quiet (fail);go_wp2;go_ret;exact⟨rfl,_,rfl⟩
def VC(h:RingAt w r B size A first n)(ar:n<size)(k:J)(hk:(first+n)%size=k)(v:aa):aA 217 #[r,(aF v)] w λe w'=>e=.returned (I 0)/\RingAt w' r B size (A.set k v) first (n+1)/\Keeps (λb=>b=r\/b=B) w w':=by
 have bt:=h.bt;have bo:=h.bo;have f2:=h.f2;have ne:=h.ne;have bO:=h.fb;have g:=h.most;have f:=hk▸e2 _ h.pos;have i:w.cell? (ad B k ab)=some (aF (A[k]'(by rw[h.gM];exact f))):=h.cell aK;have j:=h.free k;have l:((n:aa) == (size:aa))=false:=by rw[eu];omega
 have a:=af hk
 go_in
 go_wp2;go_quiet (fail);go_wp2;refine iR 12 aH aH ?_;simp only[hV,iy,hU,hI]
 repeat (go_big_quiet_step ((go_at_call 283;first|exact Calls.quiet_of (uk (h.drew _) n k _ U U a.o)|exact iK (uk (h.drew _) n k _ U U a.o))))
 refine wpQuiet_nil ?_;intro _ c;obtain⟨nq,d⟩:=c;subst d;go_wp2;go_ret;refine⟨rfl,?_,?_⟩
 .exact(((h.setBody k v).q_ (n+1) U).drew _)
 exact(((Keeps.refl (λb=>b=r\/b=B) w).setCell (p:=ad B k ab) (.inr rfl) _).setCell (p:=ad r 2 ab) (.inl rfl) _).drewN _
def VB(h:RingAt w r B size A first n)(ar:0<n)(a:J)(c:(first+1)%size=a)(v:aa)(aW:A[first]?=some v):aA 333 #[r] w λe w'=>e=aV #[(aF v),true]/\RingAt w' r B size (A.set first 0) a (n-1)/\Keeps (λb=>b=r\/b=B) w w':=by
 have bt:=h.bt;have bY:=h.bY;have bo:=h.bo;have f1:=h.f1;have f2:=h.f2;have ne:=h.ne;have bO:=h.fb;have k:=h.most;have i:=h.fst;have l:=h.cell aW;have q:=h.free first
 have j:=jh i;have g:=af j;have gw:RingAt (w.setCell (ad B first ab) (aF 0)) r B size (A.set first 0) first n:=h.setBody _ _
 go_in
 go_wp2_with fail;refine aU (Vy h 0 first 0 rfl ar g.o v aW) ?_;rintro ao ⟨m,rfl⟩;go_wp2_with fail;refine iR 10 aH aH ?_;simp only[hV,iy,hU,hI]
 repeat (go_big_quiet_step ((fail)))
 refine wpQuiet_nil ?_;intro _ d;obtain⟨nq,f⟩:=d;subst f;go_wp2_with fail;refine aU (uk (gw.keeps (S:=aI) (by first|exact(Keeps.refl _ _).drewN _|exact((Keeps.refl _ _).drewN _).drewN _) id id) 1 a 1 rfl U c) ?_;rintro aC ⟨s,rfl⟩;go_wp2;go_ret2;rw[show((n:aa)-1)=((n-1:J):aa)by omega];exact⟨rfl,((((h.drew _).setBody first 0).drew _).sm a (c▸e2 _ h.pos)).q_ (n-1) U,(((((Keeps.refl (λb=>b=r\/b=B) w).drewN _).setCell (p:=ad B first ab) (.inr rfl) _).drewN _).setCell (p:=ad r 1 ab) (.inl rfl) _).setCell (p:=ad r 2 ab) (.inl rfl) _⟩
end
section
structure QRingAt(w:ai)(r B size:J)(A:ah cc)(first n:J):ak where
 head:w.heap[r]?=some (ae #[aq (some (ad B 0 ab)) size size,I first,I n] 239 (0,0))
 body:w.heap[B]?=some (ae (A.map λx=>(Value.string x)).toArray 9 (0,0))
 gM:A.length=size
 pos:1<=size
 most:size<=4096
 fst:first<size
 fb:n<=size
 ne:r≠B
namespace QRingAt
variable{w w':ai}{r B size first n:J}{A:ah cc}
def drew(h:QRingAt w r B size A first n)(m:J):QRingAt (w.drewN m) r B size A first n:=⟨h.head,h.body,h.gM,h.pos,h.most,h.fst,h.fb,h.ne⟩
theorem keeps{S:J->ak}(h:QRingAt w r B size A first n)(hk:Keeps S w w')(b:¬ S r)(a:¬ S B):QRingAt w' r B size A first n:=
 ⟨hk.heap h.head b,hk.heap h.body a,h.gM,h.pos,h.most,h.fst,h.fb,h.ne⟩
def bt(h:QRingAt w r B size A first n):w.cell? (ad r 0 ab)=some (aq (some (ad B 0 ab)) size size):=bb h.head rfl
def bY(h:QRingAt w r B size A first n):w.cell? (ad r 1 ab)=some (I first):=bb h.head rfl
def bo(h:QRingAt w r B size A first n):w.cell? (ad r 2 ab)=some (I n):=bb h.head rfl
def f2(h:QRingAt w r B size A first n):w.frozen? (ad r 2 ab)=false:=fx h.head 2
theorem cell(h:QRingAt w r B size A first n){k:J}{x:cc}(a:A[k]?=some x):w.cell? (ad B k ab)=some (Value.string x):=bb h.body (by simp[a])
def free(h:QRingAt w r B size A first n)(k:J):w.frozen? (ad B k ab)=false:=fx h.body k
theorem setBody(h:QRingAt w r B size A first n)(k:J)(x:cc):QRingAt (w.setCell (ad B k ab) (Value.string x)) r B size (A.set k x) first n:=
 ⟨eU h.head h.ne _,by have:=bV h.body k (Value.string x);simpa[map_set]using this,by simpa using h.gM,h.pos,h.most,h.fst,h.fb,h.ne⟩
theorem q_(h:QRingAt w r B size A first n)(m:J)(hm:m<=size):QRingAt (w.setCell (ad r 2 ab) (I m)) r B size A first m:=
 ⟨Ec,eU h.body (hW h.ne) _,h.gM,h.pos,h.most,h.fst,hm,h.ne⟩
end QRingAt
variable{w:ai}{r B size first n:J}{A:ah cc}
def Va(x:aa)(w:ai):aA 127 #[I x] w λe w'=>e=.returned (.bool (decide (1<=x/\x<=4096)))/\w=w':=by
 by_cases h1:1<=x
 .by_cases h2:x<=4096
  .go_in
   go_wp2;go_ret;exact⟨k_ bT,rfl⟩
  go_in
  go_wp2;go_ret;exact⟨k_ bT,rfl⟩
 go_in
 go_wp2;go_ret;exact⟨k_ bT,rfl⟩
def p9(h:QRingAt w r B size A first n)(i k:J)(x:aa)(b:x=i)(aw:i<=100000)(hk:(first+i)%size=k):aA 157 #[r,I x] w λe w'=>e=.returned (I k)/\∃ m,w'=w.drewN m:=by
 subst b;have bt:=h.bt;have bY:=h.bY;have d:((size:aa) == 0)=false:=by have:=h.pos;rw[eu];omega
 have bO:=h.fst;have c:=h.most;have a:=af hk;clear hk
 go_in
 go_wp2;go_quiet (fail);go_wp2;go_ret;exact⟨q6 (by rw[<-a.o];simp),_,rfl⟩
def U6(h:QRingAt w r B size A first n):aA 82 #[r] w λe w'=>e=.returned (I n)/\w=w':=by
 have bo:=h.bo
 go_in
 go_wp2;go_ret;exact⟨rfl,rfl⟩
def Jc(h:QRingAt w r B size A first n)(x:aa)(a:x<0\/(n:aa)<=x):aA 165 #[r,I x] w λe w'=>e=aV #[(Value.string ByteArray.empty),false]/\w=w':=by
 have bt:=h.bt;have bo:=h.bo;by_cases b:x<0
 .clear a
  go_in
  go_wp2;go_ret2;exact⟨rfl,rfl⟩
 have h1:(n:aa)<=x:=U;clear a
 go_in
 go_wp2;go_ret2;exact⟨rfl,rfl⟩
def Jb(h:QRingAt w r B size A first n)(i k:J)(x:aa)(c:x=i)(aw:i<n)(hk:(first+i)%size=k)(v:cc)(aW:A[k]?=some v):aA 165 #[r,I x] w λe w'=>e=aV #[(Value.string v),true]/\∃ m,w'=w.drewN m:=by
 subst c;have bt:=h.bt;have bo:=h.bo;have f:=h.cell aW;have bO:=h.fb;have d:=h.most;have g:k<size:=hk▸e2 _ h.pos;have au:=λa=>p9 (h.drew a) i k i rfl U hk;have b:=af au;clear au hk aW
 go_in
 go_wp2;go_quiet ((go_at_call 157;exact Calls.quiet_of (b.o _)));go_wp2;go_ret2;exact⟨rfl,_,rfl⟩
def U9(h:QRingAt w r B size A first n)(ar:n=size)(v:cc):aA 95 #[r,(Value.string v)] w λe w'=>e=.returned (I 8)/\∃ m,w'=w.drewN m:=by
 subst ar;have bt:=h.bt;have bo:=h.bo
 go_in
 go_wp2;go_quiet (fail);go_wp2;go_ret;exact⟨rfl,_,rfl⟩
def U8(h:QRingAt w r B size A first n)(ar:n<size)(k:J)(hk:(first+n)%size=k)(v:cc):aA 95 #[r,(Value.string v)] w λe w'=>e=.returned (I 0)/\QRingAt w' r B size (A.set k v) first (n+1)/\Keeps (λb=>b=r\/b=B) w w':=by
 have bt:=h.bt;have bo:=h.bo;have f2:=h.f2;have ne:=h.ne;have bO:=h.fb;have g:=h.most;have f:k<size:=hk▸e2 _ h.pos;have i:w.cell? (ad B k ab)=some (Value.string (A[k]'(by rw[h.gM];exact f))):=h.cell aK;have j:=h.free k;have l:((n:aa) == (size:aa))=false:=by rw[eu];omega
 have a:=af hk;clear hk
 go_in
 go_wp2;go_quiet (fail);go_wp2;refine iR 12 aH aH ?_;simp only[hV,iy,hU,hI]
 repeat (go_big_quiet_step ((go_at_call 157;first|exact Calls.quiet_of (p9 (h.drew _) n k _ U U a.o)|exact iK (p9 (h.drew _) n k _ U U a.o))))
 refine wpQuiet_nil ?_;intro _ c;obtain⟨nq,d⟩:=c;subst d;go_wp2;go_ret;refine⟨rfl,?_,?_⟩
 .exact(((h.setBody k v).q_ (n+1) U).drew _)
 exact(((Keeps.refl (λb=>b=r\/b=B) w).setCell (p:=ad B k ab) (.inr rfl) _).setCell (p:=ad r 2 ab) (.inl rfl) _).drewN _
def U'(h:QRingAt w r B size A first n)(x:aa)(a:x<0\/(n:aa)<=x):aA 164 #[r,I x] w λe w'=>e=aV #[(Value.string ByteArray.empty),false]/\w=w':=by
 go_in
 go_wp2_with fail;refine(Jc h x a).mono ?_;rintro e w' ⟨rfl,rfl⟩;go_wp2;go_ret2;exact⟨rfl,rfl⟩
def U_{L:ah cc}(h:QRingAt w r B size A first L.length)(q:Holds A first size L)(i:J)(x:aa)(Q:x=i)(aw:i<L.length)(v:cc)(aW:L[i]?=some v):aA 164 #[r,I x] w λe w'=>e=aV #[(Value.string v),true]/\Keeps (λb=>b=r\/b=B) w w'/\∃ cB,QRingAt w' r B size cB first (L.length-1)/\Holds cB first size (L.eraseIdx i):=by
 subst Q;have ne:=h.ne;have bO:=h.fb;have R:=h.most;have C:=h.fst;have D:A[(first+i)%size]?=some v:=(q i aw).trans aW;have F:=af D;have K:=af (q.shift i);clear D aW q
 go_in
 go_wp2_with fail;refine(Jb h i _ i rfl aw rfl v F.o).mono ?_;rintro e ao ⟨rfl,m,rfl⟩;go_wp2_with fail;go_loopw [1] (λu wr=>∃ (j:J) (cB:ah cc),i<=j/\j<=L.length-1/\u=I j/\QRingAt wr r B size cB first L.length/\Keeps (λb=>b=r\/b=B) w wr/\Hid (rN cB first size L i j)) (λu _=>L.length-(intOf u).toNat)
 case atStart=>exact⟨i,A,c9 _,U,rfl,h.drew _,(Keeps.refl _ w).drewN _,K⟩
 obtain⟨j,cB,O,T,rfl,c,E,an⟩:=hrel;have bt:=c.bt;have bo:=c.bo;have f2:=c.f2;by_cases V:j<L.length-1
 .obtain⟨a,d⟩:∃ a,(first+j)%size=a:=⟨_,rfl⟩;obtain⟨f,k⟩:∃ f,(first+(j+1))%size=f:=⟨_,rfl⟩;have s:a<size:=d▸e2 _ h.pos;have P:f<size:=k▸e2 _ h.pos;obtain⟨y,t⟩:∃ y,cB[f]?=some y:=⟨cB[f]'(by rw[c.gM];exact P),aK⟩;have S:=c.cell t;have M:wr.cell? (ad B a ab)=some (Value.string (cB[a]'(by rw[c.gM];exact s))):=c.cell aK;have N:=c.free a;have g:=af d;have z:=af k;have ar:=an.out.next C c.gM bO O U y (by rw[k];exact t);rw[d]at ar;have H:=af ar;clear d k t ar;go_wp2;refine iR 18 aH aH ?_;simp only[hV,iy,hU,hI]
  repeat (go_big_quiet_step ((first|(go_at_call 157;first|exact Calls.quiet_of (p9 (c.drew _) j a _ U U g.o)|exact iK (p9 (c.drew _) j a _ U U g.o))|(go_at_call 157;first|exact Calls.quiet_of (p9 (c.drew _) (j+1) f _ U U z.o)|exact iK (p9 (c.drew _) (j+1) f _ U U z.o)))))
  refine wpQuiet_nil ?_;intro _ l;have⟨nq,n⟩:=l;subst n;go_wp2;go_roundw
  case rel=>exact⟨j+1,cB.set a y,U,U,by go_num,(c.setBody a y).drew _,(E.setCell (p:=ad B a ab) (.inr rfl) _).drewN _,H⟩
  simp[intOf];omega
 obtain rfl:j=L.length-1:=U;obtain⟨a,d⟩:∃ a,(first+(L.length-1))%size=a:=⟨_,rfl⟩;have s:a<size:=d▸e2 _ h.pos;have M:wr.cell? (ad B a ab)=some (Value.string (cB[a]'(by rw[c.gM];exact s))):=c.cell aK;have N:=c.free a;have hd:=an.out.done C bO aw ByteArray.empty;rw[d]at hd;have g:=af d;have G:=af hd;clear d hd;go_wp2;refine iR 13 aH aH ?_;simp only[hV,iy,hU,hI]
 repeat (go_big_quiet_step ((go_at_call 157;first|exact Calls.quiet_of (p9 (c.drew _) (L.length-1) a _ U U g.o)|exact iK (p9 (c.drew _) (L.length-1) a _ U U g.o))))
 refine wpQuiet_nil ?_;intro _ l;obtain⟨nq,n⟩:=l;subst n;go_wp2;go_ret2;rw[show((L.length:aa)-1)=((L.length-1:J):aa)by omega];exact⟨rfl,((E.setCell (p:=ad B a ab) (.inr rfl) _).setCell (p:=ad r 2 ab) (.inl rfl) _).drewN _,_,((c.setBody a ByteArray.empty).q_ (L.length-1) U).drew _,G.o⟩
end
def D5{p:ak}(h:p:=by
 have⟨A,f,h1,h2⟩:=h;exact⟨h1.fb,h1.pos,h1.most,bP h1.head,bP h1.body,h1.ne⟩
 ):p:=h
def D9{p:ak}(h:p:=by
 have⟨A,f,h1,h2⟩:=h;exact⟨A,f,h1.keeps hk b a,h2⟩
 ):p:=h
def w_{p:ak}(h:p:=by
 exact⟨f.os,f.tape,f.output,f.size,f.block⟩
 ):p:=h
def Mv{p:ak}(h:p:=by simp[results,results211,asAddr,loadVar,loadCells,isAgg91,sizeOf91,g]):p:=h
def Mw{p:ak}(h:p:=by simp[results,results213,asAddr,loadVar,loadCells,isAgg91,sizeOf91,g]):p:=h
def xd{p:ak}(h:p:=by simp[results,results277,go_sem]):p:=h
def vd{p:ak}(h:p:=by rw[d];omega):p:=h
end Go.Proofs.YtalagblioepadaaGreatDoor
