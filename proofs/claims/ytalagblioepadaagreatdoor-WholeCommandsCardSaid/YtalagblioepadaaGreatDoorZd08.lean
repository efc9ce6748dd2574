/- The proof, part 8. -/
import Derived.Test.YtalagblioepadaaGreatDoorZd04
import Derived.Test.YtalagblioepadaaGreatDoorZd06
namespace Go.Proofs.YtalagblioepadaaGreatDoor
set_option linter.all false
open Proofs.Tryz List Go.RowKit
set_option maxRecDepth 100000
set_option maxHeartbeats 800000
def gi{p:al}(h:p:=by unfold bm;omega):p:=h
def EK{p:al}(h:p:=by have:=b3 h.head 2 (I m);simpa using this):p:=h
def Nr{p:al}(h:p:=by have:=b3 h.head 1 (I f);simpa using this):p:=h
def Fe{p:al}(h:p:=by
 go_wp2
 all_goals go_ret
 all_goals first|exact⟨rfl,rfl⟩|(obtain rfl:n=-2147483648:=U;exact⟨rfl,rfl⟩)
 ):p:=h
def iz(n:aa):aa:=max (-2147483648) (min n 2147483647)
def bm(n:aa):al:=-2147483648<=n/\n<=2147483647
def hz(n:aa):bm (iz n):=by unfold bm iz;omega
def Xq{n:aa}(h:bm n):iz n=n:=by unfold bm at h;unfold iz;omega
def dt(a b:aa):aa:=iz (a+b)
def fK(a b:aa):aa:=iz (a-b)
def eu(a b:aa):aa:=iz (a*b / 65536)
def um(a:aa):aa:=iz (0-a)
def lR(a b:aa):aa:=if (a.tmod b != 0&&!(decide (a<0) == decide (b<0)))=true then a.tdiv b-1 else a.tdiv b
def mx(a b:aa):aa:=if b≠0 then iz (lR (a*65536) b)else if 0<a then 2147483647 else if a<0 then -2147483648 else 0
def qd{n:aa}(h:bm n):IntKind.i64.wrap n=n:=eG _ (by unfold bm at h;omega)
def SV{n:aa}(h:bm n):IntKind.i32.wrap n=n:=by unfold bm at h;rw[IntKind.wrap_i32];omega
def RL(n:aa)(w:aj):aA 282 #[I n,I (-2147483648),I 2147483647] w λe w'=>e=.returned (I (iz n))/\w=w':=by
 by_cases h1:n<=2147483647
 .by_cases h2:-2147483648<=n
  .rw[Xq ⟨h2,h1⟩];have a:min n 2147483647=n:=U;have b:max (-2147483648) n=n:=U
   go_in
   exact Fe
  rw[show iz n=-2147483648 by unfold iz;omega];have a:min n 2147483647=n:=U;have b:max (-2147483648) n=-2147483648:=U
  go_in
  exact Fe
 rw[show iz n=2147483647 by unfold iz;omega]
 go_in
 exact Fe
def re(n:aa)(w:aj):aA 214 #[I n] w λe w'=>e=.returned (ai (iz n))/\w=w':=by
 have a:=SV (hz n)
 go_in
 go_wp2_with fail;refine bE (RL n w) ?_;go_wp2;go_ret;exact⟨rfl,rfl⟩
def yn(a b:aa)(bh:bm a)(ak:bm b)(w:aj):aA 278 #[ai a,ai b] w λe w'=>e=.returned (ai (dt a b))/\w=w':=by
 have c:=qd bh;have d:=qd ak;have f:IntKind.i64.wrap (a+b)=a+b:=by unfold bm at bh ak;exact eG _ U
 go_in
 go_wp2_with fail;refine bE (re (a+b) w) ?_;go_wp2;go_ret;exact⟨rfl,rfl⟩
def BC(a b:aa)(bh:bm a)(ak:bm b)(w:aj):aA 281 #[ai a,ai b] w λe w'=>e=.returned (ai (fK a b))/\w=w':=by
 have c:=qd bh;have d:=qd ak;have f:IntKind.i64.wrap (a-b)=a-b:=by unfold bm at bh ak;exact eG _ U
 go_in
 go_wp2_with fail;refine bE (re (a-b) w) ?_;go_wp2;go_ret;exact⟨rfl,rfl⟩
def Hz{a b:aa}(bh:bm a)(ak:bm b):-4611686018427387904<=a*b/\a*b<=4611686018427387904:=by
 unfold bm at bh ak;have h1:a.natAbs<=2147483648:=U;have h2:b.natAbs<=2147483648:=U;have c:(a*b).natAbs<=2147483648*2147483648:=by rw[Int.natAbs_mul];exact Nat.mul_le_mul h1 h2
 omega
def v7(a b:aa)(bh:bm a)(ak:bm b)(w:aj):aA 371 #[ai a,ai b] w λe w'=>e=.returned (ai (eu a b))/\w=w':=by
 have c:=qd bh;have d:=qd ak;have f:IntKind.i64.wrap (a*b)=a*b:=by have:=Hz bh ak;exact eG _ U
 go_in
 go_wp2_with fail;refine bE (re (a*b / 65536) w) ?_;go_wp2;go_ret;exact⟨rfl,rfl⟩
def HL(a:aa)(bh:bm a)(w:aj):aA 383 #[ai a] w λe w'=>e=.returned (ai (um a))/\w=w':=by
 go_in
 go_wp2_with fail;refine bE (BC 0 a gi bh w) ?_;go_wp2;go_ret;exact⟨rfl,rfl⟩
def YP{a b:aa}(bh:-140737488355328<=a/\a<=140737488355328):-140737488355328<=a.tdiv b/\a.tdiv b<=140737488355328:=by
 have h:(a.tdiv b).natAbs<=a.natAbs:=by rw[Int.natAbs_tdiv];exact Es _ _
 omega
def RK(a b:aa)(bh:-140737488355328<=a/\a<=140737488355328)(ak:b≠0)(w:aj):aA 392 #[I a,I b] w λe w'=>e=.returned (I (lR a b))/\w=w':=by
 have j:=YP (b:=b) bh;generalize h1:(a.tmod b != 0)=t;cases t with
 | false=>
  have h:lR a b=a.tdiv b:=by unfold lR;simp[h1]
  rw[h]
  go_in
  go_wp2;go_ret;exact⟨rfl,rfl⟩
 | true=>
  have d:¬ a.tmod b=0:=by simpa using h1
  by_cases h2:a<0
  .by_cases c:b<0
   .have h:lR a b=a.tdiv b:=by unfold lR;simp[h1,h2,c]
    rw[h]
    go_in
    go_wp2;go_ret;exact⟨rfl,rfl⟩
   have h:lR a b=a.tdiv b-1:=by unfold lR;simp[h1,h2,c]
   rw[h]
   go_in
   go_wp2;go_ret;exact⟨rfl,rfl⟩
  have f:a.tmod b=a%b:=oS U;have g:¬ a%b=0:=by rw[<-f];exact d
  have i:(a%b != 0)=true:=by simpa using g
  by_cases c:b<0
  .have h:lR a b=a.tdiv b-1:=by unfold lR;simp[h1,h2,c]
   rw[h]
   go_in
   go_wp2;go_ret;exact⟨rfl,rfl⟩
  have h:lR a b=a.tdiv b:=by unfold lR;simp[h1,h2,c]
  rw[h]
  go_in
  go_wp2;go_ret;exact⟨rfl,rfl⟩
def HK(a b:aa)(bh:bm a)(ak:bm b)(w:aj):aA 388 #[ai a,ai b] w λe w'=>e=.returned (ai (mx a b))/\w=w':=by
 have d:=qd ak;by_cases h:b=0
 .subst h;by_cases h1:0<a
  .rw[show mx a 0=2147483647 by unfold mx;rw[aB U,aE h1]]
   go_in
   go_wp2;go_ret;exact⟨rfl,rfl⟩
  by_cases h2:a<0
  .rw[show mx a 0=-2147483648 by unfold mx;rw[aB U,aB h1,aE h2]]
   go_in
   go_wp2;go_ret;exact⟨rfl,rfl⟩
  rw[show mx a 0=0 by unfold mx;rw[aB U,aB h1,aB h2]]
  go_in
  go_wp2;go_ret;exact⟨rfl,rfl⟩
 rw[show mx a b=iz (lR (a*65536) b)by unfold mx;rw[aE h]];have c:-140737488355328<=a*65536/\a*65536<=140737488355328:=by unfold bm at bh;omega
 go_in
 go_wp2_with fail;refine bE (RK (a*65536) b c h w) ?_;go_wp2_with fail;refine bE (re (lR (a*65536) b) w) ?_;go_wp2;go_ret;exact⟨rfl,rfl⟩
def iZ(s:aa):aa:=(s*1664525+1013904223)%4294967296
def Qv(s a b:aa)(w:aj):aA 382 #[aL #[aR a,aR b],aR s] w λe w'=>e=.returned (aR ((s*a+b)%4294967296))/\Below w w w':=by
 go_in
 go_wp2;go_ret;refine⟨?_,(b7 _ w).alloc bx _⟩;show Ending.returned (aR ((s*a%4294967296+b)%4294967296))=_;rw[Int.emod_add_emod]
def Qt(s:aa)(w:aj):aA 370 #[aR s] w λe w'=>e=.returned (aR (iZ s))/\Below w w w':=by
 go_in
 go_wp2_with fail;refine aW (Qv s 1664525 1013904223 _) λao h1=>?_;go_wp2;go_ret;exact⟨rfl,h1⟩
def Qu(s:aa)(w:aj):aA 360 #[aR s,I 4] w λe w'=>e=aY #[aR (iZ s),I (iZ s / 65536*4 / 65536),I 0]/\Below w w w':=by
 have av:0<=iZ s/\iZ s<=4294967295:=by unfold iZ;omega
 have a:=Qt s;generalize iZ s=x at *
 go_in
 go_wp2_with fail;refine aW (a w) λao h1=>?_;go_wp2;go_ret3;exact⟨rfl,h1⟩
section
structure RingAt(w:aj)(r B size:J)(A:ah aa)(first n:J):al where
 head:w.heap[r]?=some (af #[aq (some (ae B 0 ad)) size size,I first,I n] 181 (0,0))
 body:w.heap[B]?=some (af (A.map λx=>(aH x)).toArray 5 (0,0))
 gX:A.length=size
 pos:1<=size
 most:size<=4096
 fst:first<size
 fi:n<=size
 ne:r≠B
namespace RingAt
variable{w w':aj}{r B size first n:J}{A:ah aa}
def drew(h:RingAt w r B size A first n)(m:J):RingAt (w.drewN m) r B size A first n:=⟨h.head,h.body,h.gX,h.pos,h.most,h.fst,h.fi,h.ne⟩
theorem keeps{S:J->al}(h:RingAt w r B size A first n)(hk:Keeps S w w')(b:¬ S r)(a:¬ S B):RingAt w' r B size A first n:=
 ⟨hk.heap h.head b,hk.heap h.body a,h.gX,h.pos,h.most,h.fst,h.fi,h.ne⟩
def bz(h:RingAt w r B size A first n):w.cell? (ae r 0 ad)=some (aq (some (ae B 0 ad)) size size):=bf h.head rfl
def b6(h:RingAt w r B size A first n):w.cell? (ae r 1 ad)=some (I first):=bf h.head rfl
def bw(h:RingAt w r B size A first n):w.cell? (ae r 2 ad)=some (I n):=bf h.head rfl
def f1(h:RingAt w r B size A first n):w.frozen? (ae r 1 ad)=false:=fO h.head 1
def f2(h:RingAt w r B size A first n):w.frozen? (ae r 2 ad)=false:=fO h.head 2
theorem cell(h:RingAt w r B size A first n){k:J}{x:aa}(a:A[k]?=some x):w.cell? (ae B k ad)=some (aH x):=bf h.body (by simp[a])
def free(h:RingAt w r B size A first n)(k:J):w.frozen? (ae B k ad)=false:=fO h.body k
theorem setBody(h:RingAt w r B size A first n)(k:J)(x:aa):RingAt (w.setCell (ae B k ad) (aH x)) r B size (A.set k x) first n:=
 ⟨e0 h.head h.ne _,by have:=b3 h.body k (aH x);simpa[map_set]using this,by simpa using h.gX,h.pos,h.most,h.fst,h.fi,h.ne⟩
theorem sK(h:RingAt w r B size A first n)(f:J)(a:f<size):RingAt (w.setCell (ae r 1 ad) (I f)) r B size A f n:=
 ⟨Nr,e0 h.body (gE h.ne) _,h.gX,h.pos,h.most,a,h.fi,h.ne⟩
theorem rz(h:RingAt w r B size A first n)(m:J)(hm:m<=size):RingAt (w.setCell (ae r 2 ad) (I m)) r B size A first m:=
 ⟨EK,e0 h.body (gE h.ne) _,h.gX,h.pos,h.most,h.fst,hm,h.ne⟩
end RingAt
variable{w:aj}{r B size first n:J}{A:ah aa}
def za(x:aa)(w:aj):aA 127 #[I x] w λe w'=>e=.returned (.bool (decide (1<=x/\x<=4096)))/\w=w':=by
 by_cases h1:1<=x
 .by_cases h2:x<=4096
  .go_in
   go_wp2;go_ret;exact⟨lu b1,rfl⟩
  go_in
  go_wp2;go_ret;exact⟨lu b1,rfl⟩
 go_in
 go_wp2;go_ret;exact⟨lu b1,rfl⟩
def uD(h:RingAt w r B size A first n)(i k:J)(x:aa)(b:x=i)(ax:i<=100000)(hk:(first+i)%size=k):aA 283 #[r,I x] w λe w'=>e=.returned (I k)/\∃ m,w'=w.drewN m:=by
 subst b;have bz:=h.bz;have b6:=h.b6;have d:((size:aa) == 0)=false:=by have:=h.pos;rw[eA];omega
 have bR:=h.fst;have c:=h.most;have a:=ag hk
 go_in
 go_wp2;go_quiet (fail);go_wp2;go_ret;exact⟨rq (by rw[<-a.o];simp),_,rfl⟩
def CP(h:RingAt w r B size A first n):aA 55 #[r] w λe w'=>e=.returned (I n)/\w=w':=by
 have bw:=h.bw
 go_in
 go_wp2;go_ret;exact⟨rfl,rfl⟩
def Wf(h:RingAt w r B size A first n)(i k:J)(x:aa)(c:x=i)(ax:i<n)(hk:(first+i)%size=k)(v:aa)(aU:A[k]?=some v):aA 357 #[r,I x] w λe w'=>e=aY #[(aH v),true]/\∃ m,w'=w.drewN m:=by
 subst c;have bz:=h.bz;have bw:=h.bw;have f:=h.cell aU;have bR:=h.fi;have d:=h.most;have g:=hk▸e8 _ h.pos;have b:=ag (λa=>uD (h.drew a) i k i rfl U hk)
 go_in
 go_wp2;go_quiet ((go_at_call 283;exact Calls.quiet_of (b.o _)));go_wp2;go_ret2;exact⟨rfl,_,rfl⟩
def Wk(h:RingAt w r B size A first n)(av:n=size)(v:aa):aA 217 #[r,(aH v)] w λe w'=>e=.returned (I 8)/\∃ m,w'=w.drewN m:=by
 subst av;have bz:=h.bz;have bw:=h.bw
 go_in
 go_wp2;go_quiet (fail);go_wp2;go_ret;exact⟨rfl,_,rfl⟩
def Wj(h:RingAt w r B size A first n)(av:n<size)(k:J)(hk:(first+n)%size=k)(v:aa):aA 217 #[r,(aH v)] w λe w'=>e=.returned (I 0)/\RingAt w' r B size (A.set k v) first (n+1)/\Keeps (λb=>b=r\/b=B) w w':=by
 have bz:=h.bz;have bw:=h.bw;have f2:=h.f2;have ne:=h.ne;have bR:=h.fi;have g:=h.most;have f:=hk▸e8 _ h.pos;have i:w.cell? (ae B k ad)=some (aH (A[k]'(by rw[h.gX];exact f))):=h.cell aM;have j:=h.free k;have l:((n:aa) == (size:aa))=false:=by rw[eA];omega
 have a:=ag hk
 go_in
 go_wp2;go_quiet (fail);go_wp2;refine iN 12 aI aI ?_;simp only[hY,iE,hX,hF]
 repeat (go_big_quiet_step ((go_at_call 283;first|exact Calls.quiet_of (uD (h.drew _) n k _ U U a.o)|exact hv (uD (h.drew _) n k _ U U a.o))))
 refine wpQuiet_nil ?_;intro _ c;obtain⟨nq,d⟩:=c;subst d;go_wp2;go_ret;refine⟨rfl,?_,?_⟩
 .exact(((h.setBody k v).rz (n+1) U).drew _)
 exact(((Keeps.refl (λb=>b=r\/b=B) w).setCell (p:=ae B k ad) (.inr rfl) _).setCell (p:=ae r 2 ad) (.inl rfl) _).drewN _
def Wi(h:RingAt w r B size A first n)(av:0<n)(a:J)(c:(first+1)%size=a)(v:aa)(aU:A[first]?=some v):aA 333 #[r] w λe w'=>e=aY #[(aH v),true]/\RingAt w' r B size (A.set first 0) a (n-1)/\Keeps (λb=>b=r\/b=B) w w':=by
 have bz:=h.bz;have b6:=h.b6;have bw:=h.bw;have f1:=h.f1;have f2:=h.f2;have ne:=h.ne;have bR:=h.fi;have k:=h.most;have i:=h.fst;have l:=h.cell aU;have q:=h.free first
 have j:=jy i;have g:=ag j;have gK:RingAt (w.setCell (ae B first ad) (aH 0)) r B size (A.set first 0) first n:=h.setBody _ _
 go_in
 go_wp2_with fail;refine aW (Wf h 0 first 0 rfl av g.o v aU) ?_;rintro ao ⟨m,rfl⟩;go_wp2_with fail;refine iN 10 aI aI ?_;simp only[hY,iE,hX,hF]
 repeat (go_big_quiet_step ((fail)))
 refine wpQuiet_nil ?_;intro _ d;obtain⟨nq,f⟩:=d;subst f;go_wp2_with fail;refine aW (uD (gK.keeps (S:=aG) (by first|exact(Keeps.refl _ _).drewN _|exact((Keeps.refl _ _).drewN _).drewN _) id id) 1 a 1 rfl U c) ?_;rintro aD ⟨s,rfl⟩;go_wp2;go_ret2;rw[show((n:aa)-1)=((n-1:J):aa)by omega];exact⟨rfl,((((h.drew _).setBody first 0).drew _).sK a (c▸e8 _ h.pos)).rz (n-1) U,(((((Keeps.refl (λb=>b=r\/b=B) w).drewN _).setCell (p:=ae B first ad) (.inr rfl) _).drewN _).setCell (p:=ae r 1 ad) (.inl rfl) _).setCell (p:=ae r 2 ad) (.inl rfl) _⟩
end
section
structure QRingAt(w:aj)(r B size:J)(A:ah ch)(first n:J):al where
 head:w.heap[r]?=some (af #[aq (some (ae B 0 ad)) size size,I first,I n] 239 (0,0))
 body:w.heap[B]?=some (af (A.map λx=>(Value.string x)).toArray 9 (0,0))
 gX:A.length=size
 pos:1<=size
 most:size<=4096
 fst:first<size
 fi:n<=size
 ne:r≠B
namespace QRingAt
variable{w w':aj}{r B size first n:J}{A:ah ch}
def drew(h:QRingAt w r B size A first n)(m:J):QRingAt (w.drewN m) r B size A first n:=⟨h.head,h.body,h.gX,h.pos,h.most,h.fst,h.fi,h.ne⟩
theorem keeps{S:J->al}(h:QRingAt w r B size A first n)(hk:Keeps S w w')(b:¬ S r)(a:¬ S B):QRingAt w' r B size A first n:=
 ⟨hk.heap h.head b,hk.heap h.body a,h.gX,h.pos,h.most,h.fst,h.fi,h.ne⟩
def bz(h:QRingAt w r B size A first n):w.cell? (ae r 0 ad)=some (aq (some (ae B 0 ad)) size size):=bf h.head rfl
def b6(h:QRingAt w r B size A first n):w.cell? (ae r 1 ad)=some (I first):=bf h.head rfl
def bw(h:QRingAt w r B size A first n):w.cell? (ae r 2 ad)=some (I n):=bf h.head rfl
def f2(h:QRingAt w r B size A first n):w.frozen? (ae r 2 ad)=false:=fO h.head 2
theorem cell(h:QRingAt w r B size A first n){k:J}{x:ch}(a:A[k]?=some x):w.cell? (ae B k ad)=some (Value.string x):=bf h.body (by simp[a])
def free(h:QRingAt w r B size A first n)(k:J):w.frozen? (ae B k ad)=false:=fO h.body k
theorem setBody(h:QRingAt w r B size A first n)(k:J)(x:ch):QRingAt (w.setCell (ae B k ad) (Value.string x)) r B size (A.set k x) first n:=
 ⟨e0 h.head h.ne _,by have:=b3 h.body k (Value.string x);simpa[map_set]using this,by simpa using h.gX,h.pos,h.most,h.fst,h.fi,h.ne⟩
theorem rz(h:QRingAt w r B size A first n)(m:J)(hm:m<=size):QRingAt (w.setCell (ae r 2 ad) (I m)) r B size A first m:=
 ⟨EK,e0 h.body (gE h.ne) _,h.gX,h.pos,h.most,h.fst,hm,h.ne⟩
end QRingAt
variable{w:aj}{r B size first n:J}{A:ah ch}
def VO(x:aa)(w:aj):aA 127 #[I x] w λe w'=>e=.returned (.bool (decide (1<=x/\x<=4096)))/\w=w':=by
 by_cases h1:1<=x
 .by_cases h2:x<=4096
  .go_in
   go_wp2;go_ret;exact⟨lu b1,rfl⟩
  go_in
  go_wp2;go_ret;exact⟨lu b1,rfl⟩
 go_in
 go_wp2;go_ret;exact⟨lu b1,rfl⟩
def qo(h:QRingAt w r B size A first n)(i k:J)(x:aa)(b:x=i)(ax:i<=100000)(hk:(first+i)%size=k):aA 157 #[r,I x] w λe w'=>e=.returned (I k)/\∃ m,w'=w.drewN m:=by
 subst b;have bz:=h.bz;have b6:=h.b6;have d:((size:aa) == 0)=false:=by have:=h.pos;rw[eA];omega
 have bR:=h.fst;have c:=h.most;have a:=ag hk;clear hk
 go_in
 go_wp2;go_quiet (fail);go_wp2;go_ret;exact⟨rq (by rw[<-a.o];simp),_,rfl⟩
def VI(h:QRingAt w r B size A first n):aA 82 #[r] w λe w'=>e=.returned (I n)/\w=w':=by
 have bw:=h.bw
 go_in
 go_wp2;go_ret;exact⟨rfl,rfl⟩
def JS(h:QRingAt w r B size A first n)(x:aa)(a:x<0\/(n:aa)<=x):aA 165 #[r,I x] w λe w'=>e=aY #[(Value.string ByteArray.empty),false]/\w=w':=by
 have bz:=h.bz;have bw:=h.bw;by_cases b:x<0
 .clear a
  go_in
  go_wp2;go_ret2;exact⟨rfl,rfl⟩
 have h1:(n:aa)<=x:=U;clear a
 go_in
 go_wp2;go_ret2;exact⟨rfl,rfl⟩
def JR(h:QRingAt w r B size A first n)(i k:J)(x:aa)(c:x=i)(ax:i<n)(hk:(first+i)%size=k)(v:ch)(aU:A[k]?=some v):aA 165 #[r,I x] w λe w'=>e=aY #[(Value.string v),true]/\∃ m,w'=w.drewN m:=by
 subst c;have bz:=h.bz;have bw:=h.bw;have f:=h.cell aU;have bR:=h.fi;have d:=h.most;have g:k<size:=hk▸e8 _ h.pos;have au:=λa=>qo (h.drew a) i k i rfl U hk;have b:=ag au;clear au hk aU
 go_in
 go_wp2;go_quiet ((go_at_call 157;exact Calls.quiet_of (b.o _)));go_wp2;go_ret2;exact⟨rfl,_,rfl⟩
def VL(h:QRingAt w r B size A first n)(av:n=size)(v:ch):aA 95 #[r,(Value.string v)] w λe w'=>e=.returned (I 8)/\∃ m,w'=w.drewN m:=by
 subst av;have bz:=h.bz;have bw:=h.bw
 go_in
 go_wp2;go_quiet (fail);go_wp2;go_ret;exact⟨rfl,_,rfl⟩
def VK(h:QRingAt w r B size A first n)(av:n<size)(k:J)(hk:(first+n)%size=k)(v:ch):aA 95 #[r,(Value.string v)] w λe w'=>e=.returned (I 0)/\QRingAt w' r B size (A.set k v) first (n+1)/\Keeps (λb=>b=r\/b=B) w w':=by
 have bz:=h.bz;have bw:=h.bw;have f2:=h.f2;have ne:=h.ne;have bR:=h.fi;have g:=h.most;have f:k<size:=hk▸e8 _ h.pos;have i:w.cell? (ae B k ad)=some (Value.string (A[k]'(by rw[h.gX];exact f))):=h.cell aM;have j:=h.free k;have l:((n:aa) == (size:aa))=false:=by rw[eA];omega
 have a:=ag hk;clear hk
 go_in
 go_wp2;go_quiet (fail);go_wp2;refine iN 12 aI aI ?_;simp only[hY,iE,hX,hF]
 repeat (go_big_quiet_step ((go_at_call 157;first|exact Calls.quiet_of (qo (h.drew _) n k _ U U a.o)|exact hv (qo (h.drew _) n k _ U U a.o))))
 refine wpQuiet_nil ?_;intro _ c;obtain⟨nq,d⟩:=c;subst d;go_wp2;go_ret;refine⟨rfl,?_,?_⟩
 .exact(((h.setBody k v).rz (n+1) U).drew _)
 exact(((Keeps.refl (λb=>b=r\/b=B) w).setCell (p:=ae B k ad) (.inr rfl) _).setCell (p:=ae r 2 ad) (.inl rfl) _).drewN _
def VN(h:QRingAt w r B size A first n)(x:aa)(a:x<0\/(n:aa)<=x):aA 164 #[r,I x] w λe w'=>e=aY #[(Value.string ByteArray.empty),false]/\w=w':=by
 go_in
 go_wp2_with fail;refine(JS h x a).mono ?_;rintro e w' ⟨rfl,rfl⟩;go_wp2;go_ret2;exact⟨rfl,rfl⟩
def VM{L:ah ch}(h:QRingAt w r B size A first L.length)(q:Holds A first size L)(i:J)(x:aa)(Q:x=i)(ax:i<L.length)(v:ch)(aU:L[i]?=some v):aA 164 #[r,I x] w λe w'=>e=aY #[(Value.string v),true]/\Keeps (λb=>b=r\/b=B) w w'/\∃ cG,QRingAt w' r B size cG first (L.length-1)/\Holds cG first size (L.eraseIdx i):=by
 subst Q;have ne:=h.ne;have bR:=h.fi;have R:=h.most;have C:=h.fst;have D:A[(first+i)%size]?=some v:=(q i ax).trans aU;have F:=ag D;have K:=ag (q.shift i);clear D aU q
 go_in
 go_wp2_with fail;refine(JR h i _ i rfl ax rfl v F.o).mono ?_;rintro e ao ⟨rfl,m,rfl⟩;go_wp2_with fail;go_loopw [1] (λu wr=>∃ (j:J) (cG:ah ch),i<=j/\j<=L.length-1/\u=I j/\QRingAt wr r B size cG first L.length/\Keeps (λb=>b=r\/b=B) w wr/\Hid (r6 cG first size L i j)) (λu _=>L.length-(intOf u).toNat)
 case atStart=>exact⟨i,A,df _,U,rfl,h.drew _,(Keeps.refl _ w).drewN _,K⟩
 obtain⟨j,cG,O,T,rfl,c,E,ar⟩:=hrel;have bz:=c.bz;have bw:=c.bw;have f2:=c.f2;by_cases V:j<L.length-1
 .obtain⟨a,d⟩:∃ a,(first+j)%size=a:=⟨_,rfl⟩;obtain⟨f,k⟩:∃ f,(first+(j+1))%size=f:=⟨_,rfl⟩;have s:a<size:=d▸e8 _ h.pos;have P:f<size:=k▸e8 _ h.pos;obtain⟨y,t⟩:∃ y,cG[f]?=some y:=⟨cG[f]'(by rw[c.gX];exact P),aM⟩;have S:=c.cell t;have M:wr.cell? (ae B a ad)=some (Value.string (cG[a]'(by rw[c.gX];exact s))):=c.cell aM;have N:=c.free a;have g:=ag d;have z:=ag k;have av:=ar.out.next C c.gX bR O U y (by rw[k];exact t);rw[d]at av;have H:=ag av;clear d k t av;go_wp2;refine iN 18 aI aI ?_;simp only[hY,iE,hX,hF]
  repeat (go_big_quiet_step ((first|(go_at_call 157;first|exact Calls.quiet_of (qo (c.drew _) j a _ U U g.o)|exact hv (qo (c.drew _) j a _ U U g.o))|(go_at_call 157;first|exact Calls.quiet_of (qo (c.drew _) (j+1) f _ U U z.o)|exact hv (qo (c.drew _) (j+1) f _ U U z.o)))))
  refine wpQuiet_nil ?_;intro _ l;have⟨nq,n⟩:=l;subst n;go_wp2;go_roundw
  case rel=>exact⟨j+1,cG.set a y,U,U,by go_num,(c.setBody a y).drew _,(E.setCell (p:=ae B a ad) (.inr rfl) _).drewN _,H⟩
  simp[intOf];omega
 obtain rfl:j=L.length-1:=U;obtain⟨a,d⟩:∃ a,(first+(L.length-1))%size=a:=⟨_,rfl⟩;have s:a<size:=d▸e8 _ h.pos;have M:wr.cell? (ae B a ad)=some (Value.string (cG[a]'(by rw[c.gX];exact s))):=c.cell aM;have N:=c.free a;have hd:=ar.out.done C bR ax ByteArray.empty;rw[d]at hd;have g:=ag d;have G:=ag hd;clear d hd;go_wp2;refine iN 13 aI aI ?_;simp only[hY,iE,hX,hF]
 repeat (go_big_quiet_step ((go_at_call 157;first|exact Calls.quiet_of (qo (c.drew _) (L.length-1) a _ U U g.o)|exact hv (qo (c.drew _) (L.length-1) a _ U U g.o))))
 refine wpQuiet_nil ?_;intro _ l;obtain⟨nq,n⟩:=l;subst n;go_wp2;go_ret2;rw[show((L.length:aa)-1)=((L.length-1:J):aa)by omega];exact⟨rfl,((E.setCell (p:=ae B a ad) (.inr rfl) _).setCell (p:=ae r 2 ad) (.inl rfl) _).drewN _,_,((c.setBody a ByteArray.empty).rz (L.length-1) U).drew _,G.o⟩
end
def EB{p:al}(h:p:=by
 have⟨A,f,h1,h2⟩:=h;exact⟨h1.fi,h1.pos,h1.most,bT h1.head,bT h1.body,h1.ne⟩
 ):p:=h
def EF{p:al}(h:p:=by
 have⟨A,f,h1,h2⟩:=h;exact⟨A,f,h1.keeps hk b a,h2⟩
 ):p:=h
def xr{p:al}(h:p:=by
 exact⟨f.os,f.tape,f.output,f.size,f.block⟩
 ):p:=h
def Na{p:al}(h:p:=by simp[results,results211,asAddr,loadVar,loadCells,isAgg91,sizeOf91,g]):p:=h
def Nb{p:al}(h:p:=by simp[results,results213,asAddr,loadVar,loadCells,isAgg91,sizeOf91,g]):p:=h
def xw{p:al}(h:p:=by simp[results,results277,go_sem]):p:=h
def vu{p:al}(h:p:=by rw[d];omega):p:=h
end Go.Proofs.YtalagblioepadaaGreatDoor
