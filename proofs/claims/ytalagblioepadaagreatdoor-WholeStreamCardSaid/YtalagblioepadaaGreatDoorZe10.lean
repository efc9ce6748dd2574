/- The proof, part 10. -/
import Derived.Test.YtalagblioepadaaGreatDoorZe06
import Derived.Test.YtalagblioepadaaGreatDoorZe08
namespace Go.Proofs.YtalagblioepadaaGreatDoor
set_option linter.all false
open Proofs.Tryz List Go.RowKit
set_option maxRecDepth 100000
set_option maxHeartbeats 800000
variable{ww:Prop}
def eN(h:ww:=by unfold aZ;omega):=h
def HT(h:ww:=by have:=bX h.head 2 (aa m);simpa using this):=h
def QV(h:ww:=by have:=bX h.head 1 (aa f);simpa using this):=h
variable{a b:U}{k:J}{S:J->ae}
def gU(n:U):U:=max (-2147483648) (min n 2147483647)
def aZ(n:U):ae:=-2147483648<=n/\n<=2147483647
def gE(n:U):aZ (gU n):=by unfold aZ gU;omega
def Ge{n:U}(h:aZ n):gU n=n:=by unfold aZ at h;unfold gU;omega
def cY(a b:U):U:=gU (a+b)
def d_(a b:U):U:=gU (a-b)
def dE(a b:U):U:=gU (a*b / 65536)
def nO(a:U):U:=gU (0-a)
def oq(a b:U):U:=if (a.tmod b != 0&&!(decide (a<0) == decide (b<0)))=true then a.tdiv b-1 else a.tdiv b
def lK(a b:U):U:=if b≠0 then gU (oq (a*65536) b)else if 0<a then 2147483647 else if a<0 then -2147483648 else 0
def wq{n:U}(h:aZ n):IntKind.i64.wrap n=n:=e0 _ (by unfold aZ at h;omega)
def yn{n:U}(h:aZ n):IntKind.i32.wrap n=n:=by unfold aZ at h;rw[IntKind.wrap_i32];omega
def aac(n:U)(w:aj):aB 282 #[aa n,aa (-2147483648),aa 2147483647] w λe w'=>e=aa (gU n)/\w=w':=by
 by_cases h1:n<=2147483647
 .by_cases h2:-2147483648<=n
  .rw[Ge ⟨h2,h1⟩];have a:min n 2147483647=n:=I;have b:max (-2147483648) n=n:=I;exact Ia
  rw[show gU n=-2147483648 by unfold gU;omega];have a:min n 2147483647=n:=I;have b:max (-2147483648) n=-2147483648:=I;exact Ia
 rw[show gU n=2147483647 by unfold gU;omega];exact Ia
def sN(n:U)(w:aj):aB 214 #[aa n] w λe w'=>e=af (gU n)/\w=w':=by
 have a:=yn (gE n);refine cg;refine bJ (aac n w) ?_;exact iZ
def AW(a b:U)(bg:aZ a)(al:aZ b)(w:aj):aB 278 #[af a,af b] w λe w'=>e=af (cY a b)/\w=w':=by
 refine SM;refine bJ (sN (a+b) w) ?_;exact iZ
def EO(a b:U)(bg:aZ a)(al:aZ b)(w:aj):aB 281 #[af a,af b] w λe w'=>e=af (d_ a b)/\w=w':=by
 refine SO;refine bJ (sN (a-b) w) ?_;exact iZ
def EK(bg:aZ a)(al:aZ b):-4611686018427387904<=a*b/\a*b<=4611686018427387904:=by
 unfold aZ at bg al;have h1:a.natAbs<=2147483648:=I;have h2:b.natAbs<=2147483648:=I;have c:(a*b).natAbs<=2147483648*2147483648:=by rw[Int.natAbs_mul];exact zt h1 h2
 omega
def yi(a b:U)(bg:aZ a)(al:aZ b)(w:aj):aB 371 #[af a,af b] w λe w'=>e=af (dE a b)/\w=w':=by
 refine xQ;have c:IntKind.i64.wrap (a*b)=a*b:=by have:=EK bg al;exact e0 _ I
 refine cg;refine bJ (sN (a*b / 65536) w) ?_;exact iZ
def LX(a:U)(bg:aZ a)(w:aj):aB 383 #[af a] w λe w'=>e=af (nO a)/\w=w':=by
 refine cg;refine bJ (EO 0 a eN bg w) ?_;exact iZ
def ahZ(bg:-140737488355328<=a/\a<=140737488355328):-140737488355328<=a.tdiv b/\a.tdiv b<=140737488355328:=by
 have h:(a.tdiv b).natAbs<=a.natAbs:=by rw[Int.natAbs_tdiv];exact HK _ _
 omega
def aab(a b:U)(bg:-140737488355328<=a/\a<=140737488355328)(al:b≠0)(w:aj):aB 392 #[aa a,aa b] w λe w'=>e=aa (oq a b)/\w=w':=by
 have j:=ahZ (b:=b) bg;generalize h1:(a.tmod b != 0)=t;cases t with
 | false=>
  have h:oq a b=a.tdiv b:=by unfold oq;simp[h1]
  rw[h];exact er
 | true=>
  have d:¬ a.tmod b=0:=by simpa using h1
  by_cases h2:a<0
  .by_cases c:b<0
   .exact TC
   exact TA
  have f:a.tmod b=a%b:=oW I;have g:¬ a%b=0:=by rw[<-f];exact d
  have i:(a%b != 0)=true:=by simpa using g
  by_cases c:b<0
  .exact TA
  exact TC
def LW(a b:U)(bg:aZ a)(al:aZ b)(w:aj):aB 388 #[af a,af b] w λe w'=>e=af (lK a b)/\w=w':=by
 have d:=wq al;by_cases h:b=0
 .exact U5
 rw[show lK a b=gU (oq (a*65536) b)by unfold lK;rw[aD h]];have c:-140737488355328<=a*65536/\a*65536<=140737488355328:=by unfold aZ at bg;omega
 refine cg;refine bJ (aab (a*65536) b c h w) ?_;refine aK;refine bJ (sN (oq (a*65536) b) w) ?_;exact iZ
def gJ(s:U):U:=(s*1664525+1013904223)%4294967296
def YS(s a b:U)(w:aj):aB 382 #[aG #[bz a,bz b],bz s] w λe w'=>e=bz ((s*a+b)%4294967296)/\Below w w w':=by
 refine kF;refine⟨?_,(b9 _ w).alloc bu _⟩;show Ending.returned (bz ((s*a%4294967296+b)%4294967296))=_;rw[Int.emod_add_emod]
def YQ(s:U)(w:aj):aB 370 #[bz s] w λe w'=>e=bz (gJ s)/\Below w w w':=by
 refine cg;refine aS (YS s 1664525 1013904223 _) λaq al=>?_;exact xJ
def YR(s:U)(w:aj):aB 360 #[bz s,aa 4] w λe w'=>e=aV #[bz (gJ s),aa (gJ s / 65536*4 / 65536),aa 0]/\Below w w w':=by
 have aw:0<=gJ s/\gJ s<=4294967295:=by unfold gJ;omega
 have a:=YQ s;generalize gJ s=x at *;refine cg;refine aS (a w) λaq y=>?_;go_wp2;go_ret3;exact o8
section
structure gw(w:aj)(r B size:J)(A:ai U)(first n:J):ae where
 head:w.heap[r]?=some (ab #[au (some (eo B 0 db)) size size,aa first,aa n] 181 (0,0))
 body:w.heap[B]?=some (ab (A.map λx=>(bf x)).toArray 5 (0,0))
 ig:A.length=size
 pos:1<=size
 most:size<=4096
 fst:first<size
 f_:n<=size
 ne:r≠B
namespace gw
variable{w w':aj}{r B size first n:J}{A:ai U}
def drew(h:gw w r B size A first n)(m:J):gw (w.drewN m) r B size A first n:=⟨h.head,h.body,h.ig,h.pos,h.most,h.fst,h.f_,h.ne⟩
theorem keeps(h:gw w r B size A first n)(hk:ag S w w')(b:¬ S r)(a:¬ S B):gw w' r B size A first n:=
 ⟨hk.heap h.head b,hk.heap h.body a,h.ig,h.pos,h.most,h.fst,h.f_,h.ne⟩
def bw(h:gw w r B size A first n):w.cell? (ah r 0)=some (au (bT B) size size):=bb h.head rfl
def bP(h:gw w r B size A first n):w.cell? (ah r 1)=some (aa first):=bb h.head rfl
def bB(h:gw w r B size A first n):w.cell? (ah r 2)=some (aa n):=bb h.head rfl
def f1(h:gw w r B size A first n):w.frozen? (ah r 1)=false:=gY h.head 1
def f2(h:gw w r B size A first n):w.frozen? (ah r 2)=false:=gY h.head 2
theorem cell(h:gw w r B size A first n){x:U}(ak:A[k]?=some x):w.cell? (ah B k)=some (bf x):=bb h.body (by simp[ak])
def free(h:gw w r B size A first n)(k:J):w.frozen? (ah B k)=false:=gY h.body k
theorem setBody(h:gw w r B size A first n)(k:J)(x:U):gw (w.setCell (ah B k) (bf x)) r B size (A.set k x) first n:=
 ⟨eB h.head h.ne _,by have:=bX h.body k (bf x);simpa[map_set]using this,by simpa using h.ig,h.pos,h.most,h.fst,h.f_,h.ne⟩
theorem ux(h:gw w r B size A first n)(f:J)(a:f<size):gw (w.setCell (ah r 1) (aa f)) r B size A f n:=
 ⟨QV,eB h.body (h4 h.ne) _,h.ig,h.pos,h.most,a,h.f_,h.ne⟩
theorem uw(h:gw w r B size A first n)(m:J)(hm:m<=size):gw (w.setCell (ah r 2) (aa m)) r B size A first m:=
 ⟨HT,eB h.body (h4 h.ne) _,h.ig,h.pos,h.most,h.fst,hm,h.ne⟩
end gw
variable{w:aj}{r B size first n:J}{A:ai U}
def BJ(x:U)(w:aj):aB 127 #[aa x] w λe w'=>e=.returned (.bool (decide (1<=x/\x<=4096)))/\w=w':=by
 exact RA
def wS(h:gw w r B size A first n)(i k:J)(x:U)(ak:x=i)(av:i<=100000)(hk:(first+i)%size=k):aB 283 #[r,aa x] w λe w'=>e=aa k/\∃ m,w'=w.drewN m:=by
 subst ak;have bw:=h.bw;have bP:=h.bP;have c:((size:U) == 0)=false:=by have:=h.pos;rw[ep];omega
 have bS:=h.fst;have b:=h.most;have a:=ad hk
 go_in
 go_wp2;go_quiet (fail);go_wp2;go_ret;exact⟨uj (by rw[<-a.o];simp),_,rfl⟩
def F5(h:gw w r B size A first n):aB 55 #[r] w λe w'=>e=aa n/\w=w':=by
 have bB:=h.bB;exact er
def afo(h:gw w r B size A first n)(i k:J)(x:U)(ak:x=i)(av:i<n)(hk:(first+i)%size=k)(v:U)(a_:A[k]?=some v):aB 357 #[r,aa x] w λe w'=>e=aV #[(bf v),true]/\∃ m,w'=w.drewN m:=by
 subst ak;have bw:=h.bw;have bB:=h.bB;have d:=h.cell a_;have bS:=h.f_;have c:=h.most;have f:=hk▸gb _ h.pos;have b:=ad (λa=>wS (h.drew a) i k i rfl I hk)
 go_in
 go_wp2;go_quiet ((go_at_call 283;exact Calls.quiet_of (b.o _)));go_wp2;go_ret2;exact⟨rfl,_,rfl⟩
def aft(h:gw w r B size A first n)(aw:n=size)(v:U):aB 217 #[r,(bf v)] w λe w'=>e=aa 8/\∃ m,w'=w.drewN m:=by
 subst aw;have bw:=h.bw;have bB:=h.bB
 go_in
 go_wp2;go_quiet (fail);go_wp2;go_ret;exact⟨rfl,_,rfl⟩
def afs(h:gw w r B size A first n)(aw:n<size)(k:J)(hk:(first+n)%size=k)(v:U):aB 217 #[r,(bf v)] w λe w'=>e=aa 0/\gw w' r B size (A.set k v) first (n+1)/\ag (λb=>b=r\/b=B) w w':=by
 have bw:=h.bw;have bB:=h.bB;have f2:=h.f2;have ne:=h.ne;have bS:=h.f_;have g:=h.most;have f:=hk▸gb _ h.pos;have i:w.cell? (ah B k)=some (bf (A[k]'(by rw[h.ig];exact f))):=h.cell aM;have j:=h.free k;have l:((n:U) == (size:U))=false:=by rw[ep];omega
 have a:=ad hk
 go_in
 go_wp2;go_quiet (fail);go_wp2;refine jE 12 bc bc ?_;simp only[lC,mL,lz,k2]
 repeat (go_big_quiet_step ((go_at_call 283;first|exact Calls.quiet_of (wS (h.drew _) n k _ I I a.o)|exact ke (wS (h.drew _) n k _ I I a.o))))
 refine wpQuiet_nil ?_;intro _ c;obtain⟨nq,d⟩:=c;subst d;go_wp2;go_ret;refine⟨rfl,?_,?_⟩
 .exact Wh
 exact Sz
def afr(h:gw w r B size A first n)(aw:0<n)(a:J)(c:(first+1)%size=a)(v:U)(a_:A[first]?=some v):aB 333 #[r] w λe w'=>e=aV #[(bf v),true]/\gw w' r B size (A.set first 0) a (n-1)/\ag (λb=>b=r\/b=B) w w':=by
 have bw:=h.bw;have bP:=h.bP;have bB:=h.bB;have f1:=h.f1;have f2:=h.f2;have ne:=h.ne;have bS:=h.f_;have k:=h.most;have i:=h.fst;have l:=h.cell a_;have q:=h.free first
 have j:=kE i;have g:=ad j;have hE:gw (w.setCell (ah B first) (bf 0)) r B size (A.set first 0) first n:=h.setBody _ _
 go_in
 go_wp2_with fail;refine aS (afo h 0 first 0 rfl aw g.o v a_) ?_;rintro aq ⟨m,rfl⟩;go_wp2_with fail;refine jE 10 bc bc ?_;simp only[lC,mL,lz,k2]
 repeat (go_big_quiet_step ((fail)))
 refine wpQuiet_nil ?_;intro _ d;obtain⟨nq,f⟩:=d;subst f;go_wp2_with fail;refine aS (wS (hE.keeps (S:=aH) (by first|exact(ag.refl _ _).drewN _|exact((ag.refl _ _).drewN _).drewN _) id id) 1 a 1 rfl I c) ?_;rintro aF ⟨s,rfl⟩;go_wp2;go_ret2;rw[show((n:U)-1)=((n-1:J):U)by omega];exact⟨rfl,((((h.drew _).setBody first 0).drew _).ux a (c▸gb _ h.pos)).uw (n-1) I,(((((ag.refl (λb=>b=r\/b=B) w).drewN _).setCell (p:=ah B first) (.inr rfl) _).drewN _).setCell (p:=ah r 1) (.inl rfl) _).setCell (p:=ah r 2) (.inl rfl) _⟩
end
section
structure hy(w:aj)(r B size:J)(A:ai cl)(first n:J):ae where
 head:w.heap[r]?=some (ab #[au (some (eo B 0 db)) size size,aa first,aa n] 239 (0,0))
 body:w.heap[B]?=some (ab (A.map λx=>(Value.string x)).toArray 9 (0,0))
 ig:A.length=size
 pos:1<=size
 most:size<=4096
 fst:first<size
 f_:n<=size
 ne:r≠B
namespace hy
variable{w w':aj}{r B size first n:J}{A:ai cl}
def drew(h:hy w r B size A first n)(m:J):hy (w.drewN m) r B size A first n:=⟨h.head,h.body,h.ig,h.pos,h.most,h.fst,h.f_,h.ne⟩
theorem keeps(h:hy w r B size A first n)(hk:ag S w w')(b:¬ S r)(a:¬ S B):hy w' r B size A first n:=
 ⟨hk.heap h.head b,hk.heap h.body a,h.ig,h.pos,h.most,h.fst,h.f_,h.ne⟩
def bw(h:hy w r B size A first n):w.cell? (ah r 0)=some (au (bT B) size size):=bb h.head rfl
def bP(h:hy w r B size A first n):w.cell? (ah r 1)=some (aa first):=bb h.head rfl
def bB(h:hy w r B size A first n):w.cell? (ah r 2)=some (aa n):=bb h.head rfl
def f2(h:hy w r B size A first n):w.frozen? (ah r 2)=false:=gY h.head 2
theorem cell(h:hy w r B size A first n){x:cl}(ak:A[k]?=some x):w.cell? (ah B k)=some (Value.string x):=bb h.body (by simp[ak])
def free(h:hy w r B size A first n)(k:J):w.frozen? (ah B k)=false:=gY h.body k
theorem setBody(h:hy w r B size A first n)(k:J)(x:cl):hy (w.setCell (ah B k) (Value.string x)) r B size (A.set k x) first n:=
 ⟨eB h.head h.ne _,by have:=bX h.body k (Value.string x);simpa[map_set]using this,by simpa using h.ig,h.pos,h.most,h.fst,h.f_,h.ne⟩
theorem uw(h:hy w r B size A first n)(m:J)(hm:m<=size):hy (w.setCell (ah r 2) (aa m)) r B size A first m:=
 ⟨HT,eB h.body (h4 h.ne) _,h.ig,h.pos,h.most,h.fst,hm,h.ne⟩
end hy
variable{w:aj}{r B size first n:J}{A:ai cl}
def aeE(x:U)(w:aj):aB 127 #[aa x] w λe w'=>e=.returned (.bool (decide (1<=x/\x<=4096)))/\w=w':=by
 exact RA
def rF(h:hy w r B size A first n)(i k:J)(x:U)(ak:x=i)(av:i<=100000)(hk:(first+i)%size=k):aB 157 #[r,aa x] w λe w'=>e=aa k/\∃ m,w'=w.drewN m:=by
 subst ak;have bw:=h.bw;have bP:=h.bP;have c:((size:U) == 0)=false:=by have:=h.pos;rw[ep];omega
 have bS:=h.fst;have b:=h.most;have a:=ad hk;clear hk
 go_in
 go_wp2;go_quiet (fail);go_wp2;go_ret;exact⟨uj (by rw[<-a.o];simp),_,rfl⟩
def aey(h:hy w r B size A first n):aB 82 #[r] w λe w'=>e=aa n/\w=w':=by
 have bB:=h.bB;exact er
def NW(h:hy w r B size A first n)(x:U)(ak:x<0\/(n:U)<=x):aB 165 #[r,aa x] w λe w'=>e=aV #[(Value.string ByteArray.empty),false]/\w=w':=by
 have bw:=h.bw;have bB:=h.bB;by_cases a:x<0
 .clear ak;exact qV
 have h1:(n:U)<=x:=I;clear ak;exact qV
def NV(h:hy w r B size A first n)(i k:J)(x:U)(ak:x=i)(av:i<n)(hk:(first+i)%size=k)(v:cl)(a_:A[k]?=some v):aB 165 #[r,aa x] w λe w'=>e=aV #[(Value.string v),true]/\∃ m,w'=w.drewN m:=by
 subst ak;have bw:=h.bw;have bB:=h.bB;have d:=h.cell a_;have bS:=h.f_;have c:=h.most;have f:k<size:=hk▸gb _ h.pos;have ao:=λa=>rF (h.drew a) i k i rfl I hk;have b:=ad ao;clear ao hk a_
 go_in
 go_wp2;go_quiet ((go_at_call 157;exact Calls.quiet_of (b.o _)));go_wp2;go_ret2;exact⟨rfl,_,rfl⟩
def aeB(h:hy w r B size A first n)(aw:n=size)(v:cl):aB 95 #[r,(Value.string v)] w λe w'=>e=aa 8/\∃ m,w'=w.drewN m:=by
 subst aw;have bw:=h.bw;have bB:=h.bB
 go_in
 go_wp2;go_quiet (fail);go_wp2;go_ret;exact⟨rfl,_,rfl⟩
def aeA(h:hy w r B size A first n)(aw:n<size)(k:J)(hk:(first+n)%size=k)(v:cl):aB 95 #[r,(Value.string v)] w λe w'=>e=aa 0/\hy w' r B size (A.set k v) first (n+1)/\ag (λb=>b=r\/b=B) w w':=by
 have bw:=h.bw;have bB:=h.bB;have f2:=h.f2;have ne:=h.ne;have bS:=h.f_;have g:=h.most;have f:k<size:=hk▸gb _ h.pos;have i:w.cell? (ah B k)=some (Value.string (A[k]'(by rw[h.ig];exact f))):=h.cell aM;have j:=h.free k;have l:((n:U) == (size:U))=false:=by rw[ep];omega
 have a:=ad hk;clear hk
 go_in
 go_wp2;go_quiet (fail);go_wp2;refine jE 12 bc bc ?_;simp only[lC,mL,lz,k2]
 repeat (go_big_quiet_step ((go_at_call 157;first|exact Calls.quiet_of (rF (h.drew _) n k _ I I a.o)|exact ke (rF (h.drew _) n k _ I I a.o))))
 refine wpQuiet_nil ?_;intro _ c;obtain⟨nq,d⟩:=c;subst d;go_wp2;go_ret;refine⟨rfl,?_,?_⟩
 .exact Wh
 exact Sz
def aeD(h:hy w r B size A first n)(x:U)(ak:x<0\/(n:U)<=x):aB 164 #[r,aa x] w λe w'=>e=aV #[(Value.string ByteArray.empty),false]/\w=w':=by
 go_in
 go_wp2_with fail;refine(NW h x ak).mono ?_;rintro e w' ⟨rfl,rfl⟩;go_wp2;go_ret2;exact⟨rfl,rfl⟩
def aeC{L:ai cl}(h:hy w r B size A first L.length)(d:Holds A first size L)(i:J)(x:U)(ak:x=i)(av:i<L.length)(v:cl)(a_:L[i]?=some v):aB 164 #[r,aa x] w λe w'=>e=aV #[(Value.string v),true]/\ag (λb=>b=r\/b=B) w w'/\∃ cV,hy w' r B size cV first (L.length-1)/\Holds cV first size (L.eraseIdx i):=by
 subst ak;have ne:=h.ne;have bS:=h.f_;have D:=h.most;have f:=h.fst;have g:A[(first+i)%size]?=some v:=(d i av).trans a_;have n:=ad g;have s:=ad (d.shift i);clear g a_ d
 go_in
 go_wp2_with fail;refine(NV h i _ i rfl av rfl v n.o).mono ?_;rintro e aq ⟨rfl,m,rfl⟩;go_wp2_with fail;go_loopw [1] (λu wr=>∃ (j:J) (cV:ai cl),i<=j/\j<=L.length-1/\u=aa j/\hy wr r B size cV first L.length/\ag (λb=>b=r\/b=B) w wr/\Hid (tJ cV first size L i j)) (λu _=>L.length-(intOf u).toNat)
 case atStart=>exact⟨i,A,dm _,I,rfl,h.drew _,(ag.refl _ w).drewN _,s⟩
 obtain⟨j,cV,t,F,rfl,c,k,ax⟩:=hrel;have bw:=c.bw;have bB:=c.bB;have f2:=c.f2;by_cases G:j<L.length-1
 .obtain⟨a,gf⟩:∃ a,(first+j)%size=a:=⟨_,rfl⟩;obtain⟨bK,hk⟩:∃ bK,(first+(j+1))%size=bK:=⟨_,rfl⟩;have l:a<size:=gf▸gb _ h.pos;have z:bK<size:=hk▸gb _ h.pos;obtain⟨y,a8⟩:∃ y,cV[bK]?=some y:=⟨cV[bK]'(by rw[c.ig];exact z),aM⟩;have E:=c.cell a8;refine Te;refine ob;have C:=ax.out.next f c.ig bS t I y (by rw[hk];exact a8);rw[gf]at C;refine dU;clear gf hk a8 C;go_wp2;refine jE 18 bc bc ?_;refine vk
  repeat (go_big_quiet_step ((first|(go_at_call 157;first|exact Calls.quiet_of (rF (c.drew _) j a _ I I g'.o)|exact ke (rF (c.drew _) j a _ I I g'.o))|(go_at_call 157;first|exact Calls.quiet_of (rF (c.drew _) (j+1) bK _ I I lb.o)|exact ke (rF (c.drew _) (j+1) bK _ I I lb.o)))))
  refine vm;go_wp2;go_roundw
  case rel=>exact⟨j+1,cV.set a y,I,I,cT,(c.setBody a y).drew _,(k.setCell (p:=ah B a) (.inr rfl) _).drewN _,m'⟩
  simp[intOf];omega
 obtain rfl:j=L.length-1:=I;obtain⟨a,gf⟩:∃ a,(first+(L.length-1))%size=a:=⟨_,rfl⟩;have l:a<size:=gf▸gb _ h.pos;refine Te;have hd:=ax.out.done f bS av ByteArray.empty;rw[gf]at hd;have g':=ad gf;have q:=ad hd;clear gf hd;go_wp2;refine jE 13 bc bc ?_;refine vk
 repeat (go_big_quiet_step ((go_at_call 157;first|exact Calls.quiet_of (rF (c.drew _) (L.length-1) a _ I I g'.o)|exact ke (rF (c.drew _) (L.length-1) a _ I I g'.o))))
 refine vm;go_wp2;go_ret2;rw[show((L.length:U)-1)=((L.length-1:J):U)by omega];exact⟨rfl,((k.setCell (p:=ah B a) (.inr rfl) _).setCell (p:=ah r 2) (.inl rfl) _).drewN _,_,((c.setBody a ByteArray.empty).uw (L.length-1) I).drew _,q.o⟩
end
def xt(h:ww:=by rw[d];omega):=h
end Go.Proofs.YtalagblioepadaaGreatDoor
