/- The proof, part 19. -/
import Derived.Test.YtalagblioepadaaGreatDoorZb12
import Derived.Test.YtalagblioepadaaGreatDoorZb14
namespace Go.Proofs.YtalagblioepadaaGreatDoor
set_option linter.all false
open Proofs.Tryz List Go.RowKit
set_option maxRecDepth 100000
def D0{p:ak}(h:p:=by rw[b];intro c f;cases f):p:=h
def MB{p:ak}(h:p:=by
 rintro w' ⟨m,hk⟩;go_wp2_with fail;go_ret;exact⟨rfl,(H.out.drew _).Bz m hk rfl rfl rfl,((Keeps.refl _ w).drewN _).trans (hk.mono λb _ h=>h.elim (λe=>.inr (.inr (.inr (.inl e)))) (λe=>.inr (.inr (.inr (.inr e)))))⟩
 ):p:=h
def DL{p:ak}(h:p:=by
 go_wp2;go_ret;exact⟨rfl,H.o,Keeps.refl _ _⟩
 ):p:=h
section
structure b9 where
 bL:aa
 ev:aa
 state:aa
 jy:aY
 b_:aa
 heard:aa
 own:ah aQ
 c2:aa
 next:aa
 out:ah aZ
 eR:aa
 bad:aa
 e1:aa
structure ir where
 p:J
 h1:J
 d1:J
 h2:J
 d2:J
def ir.S(B:ir)(b:J):ak:=b=B.p\/b=B.h1\/b=B.d1\/b=B.h2\/b=B.d2
structure ir.ok(B:ir):ak where
 a:B.p≠B.h1/\B.p≠B.d1/\B.p≠B.h2/\B.p≠B.d2
 b:B.h1≠B.d1/\B.h1≠B.h2/\B.h1≠B.d2
 c:B.d1≠B.h2/\B.d1≠B.d2/\B.h2≠B.d2
def lo(B:ir)(l:b9):a6 aw:=#[aK l.bL,I l.ev,I l.state,.bool l.jy,I l.b_,I l.heard,B.h1,I l.c2,I l.next,B.h2,I l.eR,I l.bad,I l.e1]
def j5(l:ah aQ):ah aa:=l.map λc=>(c.toNat:aa)
structure IsLink(w:ai)(B:ir)(l:b9):ak where
 bc:w.heap[B.p]?=some (ae (lo B l) 124 (0,0))
 own:jV w B.h1 B.d1 64 (j5 l.own)
 out:iq w B.h2 B.d2 8 l.out
 ok:B.ok
namespace IsLink
variable{w w':ai}{B:ir}{l:b9}
theorem lt(h:IsLink w B l):B.p<w.heap.size/\B.h1<w.heap.size/\B.d1<w.heap.size/\B.h2<w.heap.size/\B.d2<w.heap.size:=
 ⟨bR h.bc,h.own.le.2.2.2.1,h.own.le.2.2.2.2.1,h.out.le.2.2.2.1,h.out.le.2.2.2.2.1⟩
theorem keeps{S:J->ak}(h:IsLink w B l)(hk:Keeps S w w')(ax:∀ b,B.S b->¬ S b):IsLink w' B l:=
 ⟨hk.heap h.bc (ax _ (.inl rfl)),h.own.keeps hk (ax _ (.inr (.inl rfl))) (ax _ (.inr (.inr (.inl rfl)))),h.out.keeps hk (ax _ (.inr (.inr (.inr (.inl rfl))))) (ax _ (.inr (.inr (.inr (.inr rfl))))),h.ok⟩
def drew(h:IsLink w B l)(n:J):IsLink (w.drewN n) B l:=h.keeps (S:=aG) ((Keeps.refl _ w).drewN n) (λ_ _=>id)
def below(h:IsLink w B l)(aj:Below w w w'):IsLink w' B l:=h.keeps (S:=aG) (Keeps.bE aj a7) (λ_ _=>id)
def set(h:IsLink w B l)(k:J)(v:aw)(l':b9)(aq:(lo B l).setIfInBounds k v=lo B l')(c:l'.own=l.own)(d:l'.out=l.out):IsLink (w.setCell (ad B.p k ab) v) B l':=by
 have hk:Keeps (λb=>b=B.p) w (w.setCell (ad B.p k ab) v):=Keeps.setCell (S:=λb=>b=B.p) (Keeps.refl _ w) (p:=ad B.p k ab) rfl _;refine⟨by rw[bW h.bc k v,aq],?_,?_,h.ok⟩
 .rw[c];exact h.own.keeps hk (hJ h.ok.a.1) (hJ h.ok.a.2.1)
 rw[d];exact h.out.keeps hk (hJ h.ok.a.2.2.1) (hJ h.ok.a.2.2.2)
def BC(h:IsLink w B l){L:ah aQ}{l':b9}(d:jV w' B.h1 B.d1 64 (j5 L))(hk:Keeps (λb=>b=B.h1\/b=B.d1) w w')(aq:lo B l'=lo B l)(e:l'.own=L)(f:l'.out=l.out):IsLink w' B l':=by
 have a:=h.ok.a;have b:=h.ok.b;have c:=h.ok.c;refine⟨?_,by rw[e];exact d,?_,h.ok⟩
 .rw[aq];exact hk.heap h.bc U
 rw[f];exact h.out.keeps hk U U
def Bz(h:IsLink w B l){L:ah aZ}{l':b9}(d:iq w' B.h2 B.d2 8 L)(hk:Keeps (λb=>b=B.h2\/b=B.d2) w w')(aq:lo B l'=lo B l)(e:l'.own=l.own)(f:l'.out=L):IsLink w' B l':=by
 have a:=h.ok.a;have b:=h.ok.b;have c:=h.ok.c;refine⟨?_,?_,by rw[f];exact d,h.ok⟩
 .rw[aq];exact hk.heap h.bc U
 rw[e];exact h.own.keeps hk U U
def bu(h:IsLink w B l):w.cell? (ad B.p 0 ab)=some (aK l.bL):=bb h.bc rfl
def b0(h:IsLink w B l):w.cell? (ad B.p 1 ab)=some (I l.ev):=bb h.bc rfl
def bs(h:IsLink w B l):w.cell? (ad B.p 2 ab)=some (I l.state):=bb h.bc rfl
def ez(h:IsLink w B l):w.cell? (ad B.p 3 ab)=some (.bool l.jy):=bb h.bc rfl
def dR(h:IsLink w B l):w.cell? (ad B.p 4 ab)=some (I l.b_):=bb h.bc rfl
def fV(h:IsLink w B l):w.cell? (ad B.p 5 ab)=some (I l.heard):=bb h.bc rfl
def dS(h:IsLink w B l):w.cell? (ad B.p 6 ab)=some (.pointer (some (ad B.h1 0 ab))):=bb h.bc rfl
def c6(h:IsLink w B l):w.cell? (ad B.p 7 ab)=some (I l.c2):=bb h.bc rfl
def fv(h:IsLink w B l):w.cell? (ad B.p 8 ab)=some (I l.next):=bb h.bc rfl
def e5(h:IsLink w B l):w.cell? (ad B.p 9 ab)=some (.pointer (some (ad B.h2 0 ab))):=bb h.bc rfl
def qq(h:IsLink w B l):w.cell? (ad B.p 10 ab)=some (I l.eR):=bb h.bc rfl
def Ac(h:IsLink w B l):w.cell? (ad B.p 11 ab)=some (I l.bad):=bb h.bc rfl
def Fq(h:IsLink w B l):w.cell? (ad B.p 12 ab)=some (I l.e1):=bb h.bc rfl
def free(h:IsLink w B l)(k:J):w.frozen? (ad B.p k ab)=false:=fJ h.bc k
end IsLink
variable{w:ai}{B:ir}{l:b9}
def HU(h:IsLink w B l):az 20 #[B.p] w λe w'=>e=.returned (I l.state)/\w=w':=by
 have bs:=h.bs
 go_in
 go_wp2;go_ret;exact⟨rfl,rfl⟩
def SC(h:IsLink w B l):az 31 #[B.p] w λe w'=>e=.returned (I l.own.length)/\w=w':=by
 have dS:=h.dS;have a:=vG h.own;rw[show(j5 l.own).length=l.own.length by simp[j5]]at a
 go_in
 go_wp2_with fail;refine br a ?_;go_wp2;go_ret;exact⟨rfl,rfl⟩
def Bi(f:aa)(w:ai):az 194 #[I f] w λe w'=>e=.returned (.bool (decide (0<=f/\f<=1073741824)))/\w=w':=by
 by_cases h1:0<=f
 .by_cases h2:f<=1073741824
  .go_in
   go_wp2;go_ret;exact⟨kY bU,rfl⟩
  go_in
  go_wp2;go_ret;exact⟨kY bU,rfl⟩
 go_in
 go_wp2;go_ret;exact⟨kY bU,rfl⟩
def b9.new(bL ev first:aa):b9:=⟨bL,ev,0,false,0,0,[],first,first,[],0,0,0⟩
def HT(bL ev first:aa)(ar:1<=ev/\ev<=10000)(i:0<=first/\first<=1073741824)(w:ai):az 129 #[aK bL,I ev,I first] w λe w'=>
   e=aV #[.pointer (some (ad (w+4) 0 ab)),I 0]/\IsLink w' ⟨w+4,w.heap.size+1,w.heap.size,w.heap.size+3,w.heap.size+2⟩ (b9.new bL ev first)/\Below w w w':=by
 have c:=λW=>Bi first W
 rw[ed i]at c
 go_in
 go_wp2_with fail;refine br (c _) ?_;go_wp2_with fail;refine aT (RT 64 U U _) ?_;rintro an ⟨g,h,j⟩;go_wp2_with fail;refine aT (S_ _) ?_;rintro aB ⟨a,d,l⟩;rw[show an.heap.size+1=w.heap.size+3 by omega]at a⊢;rw[j]at a;have k:aB.heap.size=w.heap.size+4:=U;have f:=af (g.keeps (Keeps.bE (S:=aG) d a7) id id);have cE:=af a;go_wp2;go_ret2;have hk:=(a_ aB).alloc (ae (lo ⟨w+4,w.heap.size+1,w.heap.size,w.heap.size+3,w.heap.size+2⟩ (b9.new bL ev first)) 124);have b:=aW aB (ae (lo ⟨w+4,w.heap.size+1,w.heap.size,w.heap.size+3,w.heap.size+2⟩ (b9.new bL ev first)) 124);rw[k]at b;refine⟨rfl,⟨b,f.o.keeps hk id id,cE.o.keeps hk id id,⟨?_,?_,?_⟩⟩,(h.trans (d.mono U)).alloc U _⟩<;>simp<;>omega
def vS(l:b9)(f:aa)(x:aQ):aa:=if l.state=2 then 12 else if 63<(x.toNat:aa)then 1 else if f≠l.c2+l.own.length then 11 else if l.own.length=64 then 8 else 0
def j2(l:b9)(f:aa)(x:aQ):b9:=if vS l f x=0 then {l with own:=l.own++[x]}else l
def Sz(h:IsLink w B l)(f:aa)(x:aQ)(bj:0<=l.c2/\l.c2<=1099511627776):az 145 #[B.p,I f,aF (x.toNat:aa)] w λe w'=>e=.returned (I (vS l f x))/\IsLink w' B (j2 l f x)/\Keeps B.S w w':=by
 have bs:=h.bs;have dS:=h.dS;have c6:=h.c6;unfold j2 vS;by_cases g:l.state=2
 .rw[aD g,aA bq];rw[g]at bs;have H:=af h
  go_in
  exact DL
 rw[aA g];by_cases h1:63<(x.toNat:aa)
 .rw[aD h1,aA bq];have H:=af h
  go_in
  exact DL
 rw[aA h1];have m:=h.own.le.1;have a:(j5 l.own).length=l.own.length:=by simp[j5]
 rw[a]at m;have k:=λn=>vG (h.drew n).own;rw[a]at k;have c:=af k;by_cases h2:f≠l.c2+l.own.length
 .rw[aD h2,aA bq];have r:(f != l.c2+(l.own.length:aa))=true:=by simpa using h2
  have H:=af h;generalize l.c2=ac at *
  go_in
  go_wp2_with fail;go_quiet ((go_at_call 55;exact(c.o _).mono λ_ _ h=>⟨h.1,_,h.2.symm⟩));go_wp2_with fail;go_ret;exact⟨rfl,H.o.drew _,(Keeps.refl _ _).drewN _⟩
 rw[aA h2];have h2:f=l.c2+l.own.length:=by simpa using h2
 by_cases i:l.own.length=64
 .rw[aD i,aA bq];have H:=af h;have d:=af (λn=>RW (H.o.drew n).own (by rw[a,i]) (x.toNat:aa));generalize l.c2=ac at *;generalize l.own.length=q at *
  go_in
  go_wp2_with fail;go_quiet ((go_at_call 55;exact(c.o _).mono λ_ _ h=>⟨h.1,_,h.2.symm⟩));go_wp2_with fail;refine aT (d.o _) ?_;rintro w' ⟨j,hk⟩;go_wp2;go_ret;exact⟨rfl,(H.out.drew _).BC j hk rfl rfl rfl,((Keeps.refl _ w).drewN _).trans (hk.mono λb _ h=>h.elim (λe=>.inr (.inl e)) (λe=>.inr (.inr (.inl e))))⟩
 rw[aA i,aD rfl];have d:=af (λn=>RV (h.drew n).own (by rw[a];omega) (x.toNat:aa));generalize l.own.length=q at *
 go_in
 go_wp2_with fail;go_quiet ((go_at_call 55;exact(c.out _).mono λ_ _ h=>⟨h.1,_,h.2.symm⟩));go_wp2_with fail;refine aT (d.o _) ?_;rintro w' ⟨j,hk⟩;go_wp2;go_ret;exact⟨rfl,(h.drew _).BC (L:=l.own++[x]) (by simpa[j5]using j) hk rfl rfl rfl,((Keeps.refl _ w).drewN _).trans (hk.mono λb _ h=>h.elim (λe=>.inr (.inl e)) (λe=>.inr (.inr (.inl e))))⟩
def tS(f sum:aa):aZ:=⟨4,0,f%65536,0,[],sum,0⟩
def yw(l:b9)(f:aa):aa:=if l.state=2 then 12 else if ¬ (0<=f/\f<=1073741824)then 1 else if l.out.length=8 then 8 else 0
def lE(l:b9)(f sum:aa):b9:=if yw l f=0 then {l with out:=l.out++[tS f sum]}else l
def SA(h:IsLink w B l)(f sum:aa):az 220 #[B.p,I f,aK sum] w λe w'=>e=.returned (I (yw l f))/\IsLink w' B (lE l f sum)/\Keeps B.S w w':=by
 have bs:=h.bs;have e5:=h.e5;have a:=λW=>Bi f W;unfold lE yw;by_cases g:l.state=2
 .rw[aD g,aA bq];rw[g]at bs;have H:=af h
  go_in
  exact DL
 rw[aA g];by_cases h1:0<=f/\f<=1073741824
 .rw[aA (uC h1)];rw[ed h1]at a;by_cases i:l.out.length=8
  .rw[aD i,aA bq];have H:=af h;have j:=af (λn=>Ic (H.o.drew n).out i (tS f sum));have k:=λn=>qR f (w.drewN n);have d:=af k
   go_in
   go_wp2_with fail;refine br (a _) ?_;go_wp2_with fail;refine iK 8 aH aH ?_;simp only[hI,il,hG,hA]
   repeat (go_big_quiet_step ((go_at_call 262;exact(d.o _).mono λ_ _ h=>⟨h.1,_,h.2.symm⟩)))
   refine wpQuiet_nil ?_;intro _ b;have⟨nq,c⟩:=b;subst c;go_wp2_with fail;refine aT (j.o _) ?_;exact MB
  rw[aA i,aD rfl];have H:=af h;have d:=af (λn=>qR f (w.drewN n))
  go_in
  go_wp2_with fail;refine br (a _) ?_;go_wp2_with fail;refine iK 8 aH aH ?_;simp only[hI,il,hG,hA]
  repeat (go_big_quiet_step ((go_at_call 262;exact(d.o _).mono λ_ _ h=>⟨h.1,_,h.2.symm⟩)))
  refine wpQuiet_nil ?_;intro _ b;have⟨nq,c⟩:=b;subst c;go_wp2_with fail;refine aT (((λn=>Ib (H.o.drew n).out (by have:=H.o.out.le.1;omega) (tS f sum))) _) ?_;exact MB
 rw[aD h1,aA bq];rw[cZ h1]at a
 go_in
 go_wp2_with fail;refine br (a _) ?_;go_wp2;go_ret;exact⟨rfl,h,Keeps.refl _ _⟩
def mA(l:b9):b9:=if l.state=2 then l else {l with state:=2,jy:=true}
def Sw(h:IsLink w B l):az 62 #[B.p] w λe w'=>e=aV #[]/\IsLink w' B (mA l)/\Keeps B.S w w':=by
 have bs:=h.bs;unfold mA;by_cases a:l.state=2
 .rw[aD a];rw[a]at bs
  go_in
  go_wp2;refine p7 (v:=aV #[]) jc rfl ?_;exact⟨rfl,h,Keeps.refl _ _⟩
 rw[aA a];have ez:=h.ez;have f2:=h.free 2;have f3:=h.free 3;have c:=af ((h.set 2 (I 2) {l with state:=2} rfl rfl rfl).set 3 (.bool true) {l with state:=2,jy:=true} rfl rfl rfl);have b:=af (Keeps.setCell (S:=B.S) (Keeps.setCell (S:=B.S) (Keeps.refl _ w) (p:=ad B.p 2 ab) (.inl rfl) (I 2)) (p:=ad B.p 3 ab) (.inl rfl) (.bool true))
 go_in
 go_wp2;refine p7 (v:=aV #[]) jc rfl ?_;exact⟨rfl,c.o,b.o⟩
def SB(h:IsLink w B l):az 215 #[B.p] w λe w'=>e=.returned (I l.b_)/\w=w':=by
 have dR:=h.dR
 go_in
 go_wp2;go_ret;exact⟨rfl,rfl⟩
end
section
variable{F:Fence}{n:J}{P:Program}{w w':ai}{ops:a6 Oper}{rest:ah Oper}{o:Oper}{a:Act}{Q:Exit->Act->ai->ak}{v p:aw}
def CK{T:TypeId}{x:Operand}(hrun:(Instr.loadAt T p).run P w=.ok v w')(a1:o.guard=none)(b:o.op=.load T x)(d:a.eval x=p)(h:wpListIn F n P ops Q rest (a.put o.dst v) w'):wpListIn F n P ops Q (o :: rest) a w:=by
 refine Dd a1 λK c=>?_;unfold Oper.wpIn;refine⟨?_,?_⟩
 .simp[Oper.about,b]
 rw[Oper.semAt_plain F _ _ D0];simp only[execOp,b,d,hz,hrun,hg,h5];exact c _ _ h
def yZ{T:TypeId}{x y:Operand}{u:aw}(hrun:(Instr.storeAt T p u).run P w=.ok () w')(a1:o.guard=none)(b:o.op=.store T x y)(d:a.eval x=p)(e:a.eval y=u)(h:wpListIn F n P ops Q rest (a.put o.dst undef) w'):wpListIn F n P ops Q (o :: rest) a w:=by
 refine Dd a1 λK c=>?_;unfold Oper.wpIn;refine⟨?_,?_⟩
 .simp[Oper.about,b]
 rw[Oper.semAt_plain F _ _ D0];simp only[execOp,b,d,e,hz,hrun,hg,h5];exact c _ _ h
def yY{T:TypeId}(hrun:(Instr.alloc T true (aV #[])).run P w=.ok v w')(a1:o.guard=none)(b:o.op=.alloc T)(h:wpListIn F n P ops Q rest (a.put o.dst v) w'):wpListIn F n P ops Q (o :: rest) a w:=by
 refine Dd a1 λK c=>?_;unfold Oper.wpIn;refine⟨?_,?_⟩
 .simp[Oper.about,b]
 rw[Oper.semAt_plain F _ _ D0];simp only[execOp,b,hz,hrun,hg,h5];exact c _ _ h
end
end Go.Proofs.YtalagblioepadaaGreatDoor
