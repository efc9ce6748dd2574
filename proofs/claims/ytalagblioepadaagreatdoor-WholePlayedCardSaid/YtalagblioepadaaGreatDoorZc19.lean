/- The proof, part 19. -/
import Derived.Test.YtalagblioepadaaGreatDoorZc12
import Derived.Test.YtalagblioepadaaGreatDoorZc14
namespace Go.Proofs.YtalagblioepadaaGreatDoor
set_option linter.all false
open Proofs.Tryz List Go.RowKit
set_option maxRecDepth 100000
def Eo{p:ak}(h:p:=by rw[b];intro c f;cases f):p:=h
def M_{p:ak}(h:p:=by
 rintro w' ⟨m,hk⟩;go_wp2_with fail;go_ret;exact⟨rfl,(H.out.drew _).BY m hk rfl rfl rfl,((Keeps.refl _ w).drewN _).trans (hk.mono λb _ h=>h.elim (λe=>.inr (.inr (.inr (.inl e)))) (λe=>.inr (.inr (.inr (.inr e)))))⟩
 ):p:=h
def Ea{p:ak}(h:p:=by
 go_wp2;go_ret;exact⟨rfl,H.o,Keeps.refl _ _⟩
 ):p:=h
section
structure b9 where
 bK:aa
 ey:aa
 state:aa
 jI:aY
 b_:aa
 heard:aa
 own:ah aR
 c4:aa
 next:aa
 out:ah a1
 eY:aa
 bad:aa
 e8:aa
structure iB where
 p:J
 h1:J
 d1:J
 h2:J
 d2:J
def iB.S(B:iB)(b:J):ak:=b=B.p\/b=B.h1\/b=B.d1\/b=B.h2\/b=B.d2
structure iB.ok(B:iB):ak where
 a:B.p≠B.h1/\B.p≠B.d1/\B.p≠B.h2/\B.p≠B.d2
 b:B.h1≠B.d1/\B.h1≠B.h2/\B.h1≠B.d2
 c:B.d1≠B.h2/\B.d1≠B.d2/\B.h2≠B.d2
def lH(B:iB)(l:b9):a6 ax:=#[aP l.bK,I l.ey,I l.state,.bool l.jI,I l.b_,I l.heard,B.h1,I l.c4,I l.next,B.h2,I l.eY,I l.bad,I l.e8]
def kc(l:ah aR):ah aa:=l.map λc=>(c.toNat:aa)
structure IsLink(w:ai)(B:iB)(l:b9):ak where
 bc:w.heap[B.p]?=some (ae (lH B l) 124 (0,0))
 own:j2 w B.h1 B.d1 64 (kc l.own)
 out:iA w B.h2 B.d2 8 l.out
 ok:B.ok
namespace IsLink
variable{w w':ai}{B:iB}{l:b9}
theorem lt(h:IsLink w B l):B.p<w.heap.size/\B.h1<w.heap.size/\B.d1<w.heap.size/\B.h2<w.heap.size/\B.d2<w.heap.size:=
 ⟨bP h.bc,h.own.le.2.2.2.1,h.own.le.2.2.2.2.1,h.out.le.2.2.2.1,h.out.le.2.2.2.2.1⟩
theorem keeps{S:J->ak}(h:IsLink w B l)(hk:Keeps S w w')(av:∀ b,B.S b->¬ S b):IsLink w' B l:=
 ⟨hk.heap h.bc (av _ (.inl rfl)),h.own.keeps hk (av _ (.inr (.inl rfl))) (av _ (.inr (.inr (.inl rfl)))),h.out.keeps hk (av _ (.inr (.inr (.inr (.inl rfl))))) (av _ (.inr (.inr (.inr (.inr rfl))))),h.ok⟩
def drew(h:IsLink w B l)(n:J):IsLink (w.drewN n) B l:=h.keeps (S:=aI) ((Keeps.refl _ w).drewN n) (λ_ _=>id)
def below(h:IsLink w B l)(aj:Below w w w'):IsLink w' B l:=h.keeps (S:=aI) (Keeps.bD aj a7) (λ_ _=>id)
def set(h:IsLink w B l)(k:J)(v:ax)(l':b9)(al:(lH B l).setIfInBounds k v=lH B l')(c:l'.own=l.own)(d:l'.out=l.out):IsLink (w.setCell (ad B.p k ab) v) B l':=by
 have hk:Keeps (λb=>b=B.p) w (w.setCell (ad B.p k ab) v):=Keeps.setCell (S:=λb=>b=B.p) (Keeps.refl _ w) (p:=ad B.p k ab) rfl _;refine⟨by rw[bV h.bc k v,al],?_,?_,h.ok⟩
 .rw[c];exact h.own.keeps hk (hW h.ok.a.1) (hW h.ok.a.2.1)
 rw[d];exact h.out.keeps hk (hW h.ok.a.2.2.1) (hW h.ok.a.2.2.2)
def B1(h:IsLink w B l){L:ah aR}{l':b9}(d:j2 w' B.h1 B.d1 64 (kc L))(hk:Keeps (λb=>b=B.h1\/b=B.d1) w w')(al:lH B l'=lH B l)(e:l'.own=L)(f:l'.out=l.out):IsLink w' B l':=by
 have a:=h.ok.a;have b:=h.ok.b;have c:=h.ok.c;refine⟨?_,by rw[e];exact d,?_,h.ok⟩
 .rw[al];exact hk.heap h.bc U
 rw[f];exact h.out.keeps hk U U
def BY(h:IsLink w B l){L:ah a1}{l':b9}(d:iA w' B.h2 B.d2 8 L)(hk:Keeps (λb=>b=B.h2\/b=B.d2) w w')(al:lH B l'=lH B l)(e:l'.own=l.own)(f:l'.out=L):IsLink w' B l':=by
 have a:=h.ok.a;have b:=h.ok.b;have c:=h.ok.c;refine⟨?_,?_,by rw[f];exact d,h.ok⟩
 .rw[al];exact hk.heap h.bc U
 rw[e];exact h.own.keeps hk U U
def bt(h:IsLink w B l):w.cell? (ad B.p 0 ab)=some (aP l.bK):=bb h.bc rfl
def bY(h:IsLink w B l):w.cell? (ad B.p 1 ab)=some (I l.ey):=bb h.bc rfl
def bo(h:IsLink w B l):w.cell? (ad B.p 2 ab)=some (I l.state):=bb h.bc rfl
def eo(h:IsLink w B l):w.cell? (ad B.p 3 ab)=some (.bool l.jI):=bb h.bc rfl
def dM(h:IsLink w B l):w.cell? (ad B.p 4 ab)=some (I l.b_):=bb h.bc rfl
def fN(h:IsLink w B l):w.cell? (ad B.p 5 ab)=some (I l.heard):=bb h.bc rfl
def eb(h:IsLink w B l):w.cell? (ad B.p 6 ab)=some (.pointer (some (ad B.h1 0 ab))):=bb h.bc rfl
def c5(h:IsLink w B l):w.cell? (ad B.p 7 ab)=some (I l.c4):=bb h.bc rfl
def fy(h:IsLink w B l):w.cell? (ad B.p 8 ab)=some (I l.next):=bb h.bc rfl
def fa(h:IsLink w B l):w.cell? (ad B.p 9 ab)=some (.pointer (some (ad B.h2 0 ab))):=bb h.bc rfl
def qH(h:IsLink w B l):w.cell? (ad B.p 10 ab)=some (I l.eY):=bb h.bc rfl
def Az(h:IsLink w B l):w.cell? (ad B.p 11 ab)=some (I l.bad):=bb h.bc rfl
def FT(h:IsLink w B l):w.cell? (ad B.p 12 ab)=some (I l.e8):=bb h.bc rfl
def free(h:IsLink w B l)(k:J):w.frozen? (ad B.p k ab)=false:=fx h.bc k
end IsLink
variable{w:ai}{B:iB}{l:b9}
def Io(h:IsLink w B l):aA 20 #[B.p] w λe w'=>e=.returned (I l.state)/\w=w':=by
 have bo:=h.bo
 go_in
 go_wp2;go_ret;exact⟨rfl,rfl⟩
def Zy(h:IsLink w B l):aA 31 #[B.p] w λe w'=>e=.returned (I l.own.length)/\w=w':=by
 have eb:=h.eb;have a:=vU h.own;rw[show(kc l.own).length=l.own.length by simp[kc]]at a
 go_in
 go_wp2_with fail;refine bA a ?_;go_wp2;go_ret;exact⟨rfl,rfl⟩
def BG(f:aa)(w:ai):aA 194 #[I f] w λe w'=>e=.returned (.bool (decide (0<=f/\f<=1073741824)))/\w=w':=by
 by_cases h1:0<=f
 .by_cases h2:f<=1073741824
  .go_in
   go_wp2;go_ret;exact⟨k_ bT,rfl⟩
  go_in
  go_wp2;go_ret;exact⟨k_ bT,rfl⟩
 go_in
 go_wp2;go_ret;exact⟨k_ bT,rfl⟩
def b9.new(bK ey first:aa):b9:=⟨bK,ey,0,false,0,0,[],first,first,[],0,0,0⟩
def Im(bK ey first:aa)(au:1<=ey/\ey<=10000)(i:0<=first/\first<=1073741824)(w:ai):aA 129 #[aP bK,I ey,I first] w λe w'=>
   e=aV #[.pointer (some (ad (w+4) 0 ab)),I 0]/\IsLink w' ⟨w+4,w.heap.size+1,w.heap.size,w.heap.size+3,w.heap.size+2⟩ (b9.new bK ey first)/\Below w w w':=by
 have c:=λW=>BG first W
 rw[ee i]at c
 go_in
 go_wp2_with fail;refine bA (c _) ?_;go_wp2_with fail;refine aU (Sw 64 U U _) ?_;rintro ao ⟨g,h,j⟩;go_wp2_with fail;refine aU (TL _) ?_;rintro aC ⟨a,d,l⟩;rw[show ao.heap.size+1=w.heap.size+3 by omega]at a⊢;rw[j]at a;have k:aC.heap.size=w.heap.size+4:=U;have f:=af (g.keeps (Keeps.bD (S:=aI) d a7) id id);have cF:=af a;go_wp2;go_ret2;have hk:=(ba aC).alloc (ae (lH ⟨w+4,w.heap.size+1,w.heap.size,w.heap.size+3,w.heap.size+2⟩ (b9.new bK ey first)) 124);have b:=aX aC (ae (lH ⟨w+4,w.heap.size+1,w.heap.size,w.heap.size+3,w.heap.size+2⟩ (b9.new bK ey first)) 124);rw[k]at b;refine⟨rfl,⟨b,f.o.keeps hk id id,cF.o.keeps hk id id,⟨?_,?_,?_⟩⟩,(h.trans (d.mono U)).alloc U _⟩<;>simp<;>omega
def wi(l:b9)(f:aa)(x:aR):aa:=if l.state=2 then 12 else if 63<(x.toNat:aa)then 1 else if f≠l.c4+l.own.length then 11 else if l.own.length=64 then 8 else 0
def j'(l:b9)(f:aa)(x:aR):b9:=if wi l f x=0 then {l with own:=l.own++[x]}else l
def Tb(h:IsLink w B l)(f:aa)(x:aR)(bd:0<=l.c4/\l.c4<=1099511627776):aA 145 #[B.p,I f,aF (x.toNat:aa)] w λe w'=>e=.returned (I (wi l f x))/\IsLink w' B (j' l f x)/\Keeps B.S w w':=by
 have bo:=h.bo;have eb:=h.eb;have c5:=h.c5;unfold j' wi;by_cases g:l.state=2
 .rw[aD g,az bq];rw[g]at bo;have H:=af h
  go_in
  exact Ea
 rw[az g];by_cases h1:63<(x.toNat:aa)
 .rw[aD h1,az bq];have H:=af h
  go_in
  exact Ea
 rw[az h1];have m:=h.own.le.1;have a:(kc l.own).length=l.own.length:=by simp[kc]
 rw[a]at m;have k:=λn=>vU (h.drew n).own;rw[a]at k;have c:=af k;by_cases h2:f≠l.c4+l.own.length
 .rw[aD h2,az bq];have r:(f != l.c4+(l.own.length:aa))=true:=by simpa using h2
  have H:=af h;generalize l.c4=ac at *
  go_in
  go_wp2_with fail;go_quiet ((go_at_call 55;exact(c.o _).mono λ_ _ h=>⟨h.1,_,h.2.symm⟩));go_wp2_with fail;go_ret;exact⟨rfl,H.o.drew _,(Keeps.refl _ _).drewN _⟩
 rw[az h2];have h2:f=l.c4+l.own.length:=by simpa using h2
 by_cases i:l.own.length=64
 .rw[aD i,az bq];have H:=af h;have d:=af (λn=>Sz (H.o.drew n).own (by rw[a,i]) (x.toNat:aa));generalize l.c4=ac at *;generalize l.own.length=q at *
  go_in
  go_wp2_with fail;go_quiet ((go_at_call 55;exact(c.o _).mono λ_ _ h=>⟨h.1,_,h.2.symm⟩));go_wp2_with fail;refine aU (d.o _) ?_;rintro w' ⟨j,hk⟩;go_wp2;go_ret;exact⟨rfl,(H.out.drew _).B1 j hk rfl rfl rfl,((Keeps.refl _ w).drewN _).trans (hk.mono λb _ h=>h.elim (λe=>.inr (.inl e)) (λe=>.inr (.inr (.inl e))))⟩
 rw[az i,aD rfl];have d:=af (λn=>Sy (h.drew n).own (by rw[a];omega) (x.toNat:aa));generalize l.own.length=q at *
 go_in
 go_wp2_with fail;go_quiet ((go_at_call 55;exact(c.out _).mono λ_ _ h=>⟨h.1,_,h.2.symm⟩));go_wp2_with fail;refine aU (d.o _) ?_;rintro w' ⟨j,hk⟩;go_wp2;go_ret;exact⟨rfl,(h.drew _).B1 (L:=l.own++[x]) (by simpa[kc]using j) hk rfl rfl rfl,((Keeps.refl _ w).drewN _).trans (hk.mono λb _ h=>h.elim (λe=>.inr (.inl e)) (λe=>.inr (.inr (.inl e))))⟩
def ui(f sum:aa):a1:=⟨4,0,f%65536,0,[],sum,0⟩
def yS(l:b9)(f:aa):aa:=if l.state=2 then 12 else if ¬ (0<=f/\f<=1073741824)then 1 else if l.out.length=8 then 8 else 0
def lT(l:b9)(f sum:aa):b9:=if yS l f=0 then {l with out:=l.out++[ui f sum]}else l
def Tc(h:IsLink w B l)(f sum:aa):aA 220 #[B.p,I f,aP sum] w λe w'=>e=.returned (I (yS l f))/\IsLink w' B (lT l f sum)/\Keeps B.S w w':=by
 have bo:=h.bo;have fa:=h.fa;have a:=λW=>BG f W;unfold lT yS;by_cases g:l.state=2
 .rw[aD g,az bq];rw[g]at bo;have H:=af h
  go_in
  exact Ea
 rw[az g];by_cases h1:0<=f/\f<=1073741824
 .rw[az (uR h1)];rw[ee h1]at a;by_cases i:l.out.length=8
  .rw[aD i,az bq];have H:=af h;have j:=af (λn=>IF (H.o.drew n).out i (ui f sum));have k:=λn=>q9 f (w.drewN n);have d:=af k
   go_in
   go_wp2_with fail;refine bA (a _) ?_;go_wp2_with fail;refine iR 8 aH aH ?_;simp only[hV,iy,hU,hI]
   repeat (go_big_quiet_step ((go_at_call 262;exact(d.o _).mono λ_ _ h=>⟨h.1,_,h.2.symm⟩)))
   refine wpQuiet_nil ?_;intro _ b;have⟨nq,c⟩:=b;subst c;go_wp2_with fail;refine aU (j.o _) ?_;exact M_
  rw[az i,aD rfl];have H:=af h;have d:=af (λn=>q9 f (w.drewN n))
  go_in
  go_wp2_with fail;refine bA (a _) ?_;go_wp2_with fail;refine iR 8 aH aH ?_;simp only[hV,iy,hU,hI]
  repeat (go_big_quiet_step ((go_at_call 262;exact(d.o _).mono λ_ _ h=>⟨h.1,_,h.2.symm⟩)))
  refine wpQuiet_nil ?_;intro _ b;have⟨nq,c⟩:=b;subst c;go_wp2_with fail;refine aU (((λn=>IE (H.o.drew n).out (by have:=H.o.out.le.1;omega) (ui f sum))) _) ?_;exact M_
 rw[aD h1,az bq];rw[dd h1]at a
 go_in
 go_wp2_with fail;refine bA (a _) ?_;go_wp2;go_ret;exact⟨rfl,h,Keeps.refl _ _⟩
def mc(l:b9):b9:=if l.state=2 then l else {l with state:=2,jI:=true}
def S_(h:IsLink w B l):aA 62 #[B.p] w λe w'=>e=aV #[]/\IsLink w' B (mc l)/\Keeps B.S w w':=by
 have bo:=h.bo;unfold mc;by_cases a:l.state=2
 .rw[aD a];rw[a]at bo
  go_in
  go_wp2;refine qk (v:=aV #[]) jj rfl ?_;exact⟨rfl,h,Keeps.refl _ _⟩
 rw[az a];have eo:=h.eo;have f2:=h.free 2;have f3:=h.free 3;have c:=af ((h.set 2 (I 2) {l with state:=2} rfl rfl rfl).set 3 (.bool true) {l with state:=2,jI:=true} rfl rfl rfl);have b:=af (Keeps.setCell (S:=B.S) (Keeps.setCell (S:=B.S) (Keeps.refl _ w) (p:=ad B.p 2 ab) (.inl rfl) (I 2)) (p:=ad B.p 3 ab) (.inl rfl) (.bool true))
 go_in
 go_wp2;refine qk (v:=aV #[]) jj rfl ?_;exact⟨rfl,c.o,b.o⟩
def Td(h:IsLink w B l):aA 215 #[B.p] w λe w'=>e=.returned (I l.b_)/\w=w':=by
 have dM:=h.dM
 go_in
 go_wp2;go_ret;exact⟨rfl,rfl⟩
end
section
variable{F:Fence}{n:J}{P:Program}{w w':ai}{ops:a6 Oper}{rest:ah Oper}{o:Oper}{a:Act}{Q:Exit->Act->ai->ak}{v p:ax}
def Da{T:TypeId}{x:Operand}(hrun:(Instr.loadAt T p).run P w=.ok v w')(aZ:o.guard=none)(b:o.op=.load T x)(d:a.eval x=p)(h:wpListIn F n P ops Q rest (a.put o.dst v) w'):wpListIn F n P ops Q (o :: rest) a w:=by
 refine DE aZ λK c=>?_;unfold Oper.wpIn;refine⟨?_,?_⟩
 .simp[Oper.about,b]
 rw[Oper.semAt_plain F _ _ Eo];simp only[execOp,b,d,hG,hrun,hq,ig];exact c _ _ h
def zj{T:TypeId}{x y:Operand}{u:ax}(hrun:(Instr.storeAt T p u).run P w=.ok () w')(aZ:o.guard=none)(b:o.op=.store T x y)(d:a.eval x=p)(e:a.eval y=u)(h:wpListIn F n P ops Q rest (a.put o.dst undef) w'):wpListIn F n P ops Q (o :: rest) a w:=by
 refine DE aZ λK c=>?_;unfold Oper.wpIn;refine⟨?_,?_⟩
 .simp[Oper.about,b]
 rw[Oper.semAt_plain F _ _ Eo];simp only[execOp,b,d,e,hG,hrun,hq,ig];exact c _ _ h
def zi{T:TypeId}(hrun:(Instr.alloc T true (aV #[])).run P w=.ok v w')(aZ:o.guard=none)(b:o.op=.alloc T)(h:wpListIn F n P ops Q rest (a.put o.dst v) w'):wpListIn F n P ops Q (o :: rest) a w:=by
 refine DE aZ λK c=>?_;unfold Oper.wpIn;refine⟨?_,?_⟩
 .simp[Oper.about,b]
 rw[Oper.semAt_plain F _ _ Eo];simp only[execOp,b,hG,hrun,hq,ig];exact c _ _ h
end
end Go.Proofs.YtalagblioepadaaGreatDoor
