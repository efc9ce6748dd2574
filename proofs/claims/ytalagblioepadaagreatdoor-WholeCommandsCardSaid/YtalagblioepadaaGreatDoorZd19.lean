/- The proof, part 19. -/
import Derived.Test.YtalagblioepadaaGreatDoorZd12
import Derived.Test.YtalagblioepadaaGreatDoorZd14
namespace Go.Proofs.YtalagblioepadaaGreatDoor
set_option linter.all false
open Proofs.Tryz List Go.RowKit
set_option maxRecDepth 100000
def EX{p:al}(h:p:=by rw[b];intro c f;cases f):p:=h
def NS{p:al}(h:p:=by
 rintro w' ⟨m,hk⟩;go_wp2_with fail;go_ret;exact⟨rfl,(H.out.drew _).Cs m hk rfl rfl rfl,((Keeps.refl _ w).drewN _).trans (hk.mono λb _ h=>h.elim (λe=>.inr (.inr (.inr (.inl e)))) (λe=>.inr (.inr (.inr (.inr e)))))⟩
 ):p:=h
def EI{p:al}(h:p:=by
 go_wp2;go_ret;exact⟨rfl,H.o,Keeps.refl _ _⟩
 ):p:=h
section
structure cd where
 bQ:aa
 eI:aa
 state:aa
 jW:a1
 cf:aa
 heard:aa
 own:ah aT
 da:aa
 next:aa
 out:ah a6
 e2:aa
 bad:aa
 fe:aa
structure iR where
 p:J
 h1:J
 d1:J
 h2:J
 d2:J
def iR.S(B:iR)(b:J):al:=b=B.p\/b=B.h1\/b=B.d1\/b=B.h2\/b=B.d2
structure iR.ok(B:iR):al where
 a:B.p≠B.h1/\B.p≠B.d1/\B.p≠B.h2/\B.p≠B.d2
 b:B.h1≠B.d1/\B.h1≠B.h2/\B.h1≠B.d2
 c:B.d1≠B.h2/\B.d1≠B.d2/\B.h2≠B.d2
def lY(B:iR)(l:cd):a7 ay:=#[aR l.bQ,I l.eI,I l.state,.bool l.jW,I l.cf,I l.heard,B.h1,I l.da,I l.next,B.h2,I l.e2,I l.bad,I l.fe]
def ku(l:ah aT):ah aa:=l.map λc=>(c.toNat:aa)
structure IsLink(w:aj)(B:iR)(l:cd):al where
 bd:w.heap[B.p]?=some (af (lY B l) 124 (0,0))
 own:kh w B.h1 B.d1 64 (ku l.own)
 out:iQ w B.h2 B.d2 8 l.out
 ok:B.ok
namespace IsLink
variable{w w':aj}{B:iR}{l:cd}
theorem lt(h:IsLink w B l):B.p<w.heap.size/\B.h1<w.heap.size/\B.d1<w.heap.size/\B.h2<w.heap.size/\B.d2<w.heap.size:=
 ⟨bT h.bd,h.own.le.2.2.2.1,h.own.le.2.2.2.2.1,h.out.le.2.2.2.1,h.out.le.2.2.2.2.1⟩
theorem keeps{S:J->al}(h:IsLink w B l)(hk:Keeps S w w')(aw:∀ b,B.S b->¬ S b):IsLink w' B l:=
 ⟨hk.heap h.bd (aw _ (.inl rfl)),h.own.keeps hk (aw _ (.inr (.inl rfl))) (aw _ (.inr (.inr (.inl rfl)))),h.out.keeps hk (aw _ (.inr (.inr (.inr (.inl rfl))))) (aw _ (.inr (.inr (.inr (.inr rfl))))),h.ok⟩
def drew(h:IsLink w B l)(n:J):IsLink (w.drewN n) B l:=h.keeps (S:=aG) ((Keeps.refl _ w).drewN n) (λ_ _=>id)
def below(h:IsLink w B l)(ak:Below w w w'):IsLink w' B l:=h.keeps (S:=aG) (Keeps.bJ ak a8) (λ_ _=>id)
def set(h:IsLink w B l)(k:J)(v:ay)(l':cd)(an:(lY B l).setIfInBounds k v=lY B l')(c:l'.own=l.own)(d:l'.out=l.out):IsLink (w.setCell (ae B.p k ad) v) B l':=by
 have hk:Keeps (λb=>b=B.p) w (w.setCell (ae B.p k ad) v):=Keeps.setCell (S:=λb=>b=B.p) (Keeps.refl _ w) (p:=ae B.p k ad) rfl _;refine⟨by rw[b3 h.bd k v,an],?_,?_,h.ok⟩
 .rw[c];exact h.own.keeps hk (gE h.ok.a.1) (gE h.ok.a.2.1)
 rw[d];exact h.out.keeps hk (gE h.ok.a.2.2.1) (gE h.ok.a.2.2.2)
def Cv(h:IsLink w B l){L:ah aT}{l':cd}(d:kh w' B.h1 B.d1 64 (ku L))(hk:Keeps (λb=>b=B.h1\/b=B.d1) w w')(an:lY B l'=lY B l)(e:l'.own=L)(f:l'.out=l.out):IsLink w' B l':=by
 have a:=h.ok.a;have b:=h.ok.b;have c:=h.ok.c;refine⟨?_,by rw[e];exact d,?_,h.ok⟩
 .rw[an];exact hk.heap h.bd U
 rw[f];exact h.out.keeps hk U U
def Cs(h:IsLink w B l){L:ah a6}{l':cd}(d:iQ w' B.h2 B.d2 8 L)(hk:Keeps (λb=>b=B.h2\/b=B.d2) w w')(an:lY B l'=lY B l)(e:l'.own=l.own)(f:l'.out=L):IsLink w' B l':=by
 have a:=h.ok.a;have b:=h.ok.b;have c:=h.ok.c;refine⟨?_,?_,by rw[f];exact d,h.ok⟩
 .rw[an];exact hk.heap h.bd U
 rw[e];exact h.own.keeps hk U U
def bz(h:IsLink w B l):w.cell? (ae B.p 0 ad)=some (aR l.bQ):=bf h.bd rfl
def b6(h:IsLink w B l):w.cell? (ae B.p 1 ad)=some (I l.eI):=bf h.bd rfl
def bw(h:IsLink w B l):w.cell? (ae B.p 2 ad)=some (I l.state):=bf h.bd rfl
def eC(h:IsLink w B l):w.cell? (ae B.p 3 ad)=some (.bool l.jW):=bf h.bd rfl
def dY(h:IsLink w B l):w.cell? (ae B.p 4 ad)=some (I l.cf):=bf h.bd rfl
def fV(h:IsLink w B l):w.cell? (ae B.p 5 ad)=some (I l.heard):=bf h.bd rfl
def ek(h:IsLink w B l):w.cell? (ae B.p 6 ad)=some (.pointer (some (ae B.h1 0 ad))):=bf h.bd rfl
def c2(h:IsLink w B l):w.cell? (ae B.p 7 ad)=some (I l.da):=bf h.bd rfl
def fI(h:IsLink w B l):w.cell? (ae B.p 8 ad)=some (I l.next):=bf h.bd rfl
def fq(h:IsLink w B l):w.cell? (ae B.p 9 ad)=some (.pointer (some (ae B.h2 0 ad))):=bf h.bd rfl
def q0(h:IsLink w B l):w.cell? (ae B.p 10 ad)=some (I l.e2):=bf h.bd rfl
def A1(h:IsLink w B l):w.cell? (ae B.p 11 ad)=some (I l.bad):=bf h.bd rfl
def Gt(h:IsLink w B l):w.cell? (ae B.p 12 ad)=some (I l.fe):=bf h.bd rfl
def free(h:IsLink w B l)(k:J):w.frozen? (ae B.p k ad)=false:=fO h.bd k
end IsLink
variable{w:aj}{B:iR}{l:cd}
def I2(h:IsLink w B l):aA 20 #[B.p] w λe w'=>e=.returned (I l.state)/\w=w':=by
 have bw:=h.bw
 go_in
 go_wp2;go_ret;exact⟨rfl,rfl⟩
def aai(h:IsLink w B l):aA 31 #[B.p] w λe w'=>e=.returned (I l.own.length)/\w=w':=by
 have ek:=h.ek;have a:=wm h.own;rw[show(ku l.own).length=l.own.length by simp[ku]]at a
 go_in
 go_wp2_with fail;refine bE a ?_;go_wp2;go_ret;exact⟨rfl,rfl⟩
def Cb(f:aa)(w:aj):aA 194 #[I f] w λe w'=>e=.returned (.bool (decide (0<=f/\f<=1073741824)))/\w=w':=by
 by_cases h1:0<=f
 .by_cases h2:f<=1073741824
  .go_in
   go_wp2;go_ret;exact⟨lu b1,rfl⟩
  go_in
  go_wp2;go_ret;exact⟨lu b1,rfl⟩
 go_in
 go_wp2;go_ret;exact⟨lu b1,rfl⟩
def cd.new(bQ eI first:aa):cd:=⟨bQ,eI,0,false,0,0,[],first,first,[],0,0,0⟩
def I1(bQ eI first:aa)(au:1<=eI/\eI<=10000)(i:0<=first/\first<=1073741824)(w:aj):aA 129 #[aR bQ,I eI,I first] w λe w'=>
   e=aY #[.pointer (some (ae (w+4) 0 ad)),I 0]/\IsLink w' ⟨w+4,w.heap.size+1,w.heap.size,w.heap.size+3,w.heap.size+2⟩ (cd.new bQ eI first)/\Below w w w':=by
 have c:=λW=>Cb first W
 rw[ei i]at c
 go_in
 go_wp2_with fail;refine bE (c _) ?_;go_wp2_with fail;refine aW (Td 64 U U _) ?_;rintro ao ⟨g,h,j⟩;go_wp2_with fail;refine aW (Uq _) ?_;rintro aD ⟨a,d,l⟩;rw[show ao.heap.size+1=w.heap.size+3 by omega]at a⊢;rw[j]at a;have k:aD.heap.size=w.heap.size+4:=U;have f:=ag (g.keeps (Keeps.bJ (S:=aG) d a8) id id);have cI:=ag a;go_wp2;go_ret2;have hk:=(bb aD).alloc (af (lY ⟨w+4,w.heap.size+1,w.heap.size,w.heap.size+3,w.heap.size+2⟩ (cd.new bQ eI first)) 124);have b:=aX aD (af (lY ⟨w+4,w.heap.size+1,w.heap.size,w.heap.size+3,w.heap.size+2⟩ (cd.new bQ eI first)) 124);rw[k]at b;refine⟨rfl,⟨b,f.o.keeps hk id id,cI.o.keeps hk id id,⟨?_,?_,?_⟩⟩,(h.trans (d.mono U)).alloc U _⟩<;>simp<;>omega
def wE(l:cd)(f:aa)(x:aT):aa:=if l.state=2 then 12 else if 63<(x.toNat:aa)then 1 else if f≠l.da+l.own.length then 11 else if l.own.length=64 then 8 else 0
def kq(l:cd)(f:aa)(x:aT):cd:=if wE l f x=0 then {l with own:=l.own++[x]}else l
def TU(h:IsLink w B l)(f:aa)(x:aT)(bh:0<=l.da/\l.da<=1099511627776):aA 145 #[B.p,I f,aH (x.toNat:aa)] w λe w'=>e=.returned (I (wE l f x))/\IsLink w' B (kq l f x)/\Keeps B.S w w':=by
 have bw:=h.bw;have ek:=h.ek;have c2:=h.c2;unfold kq wE;by_cases g:l.state=2
 .rw[aE g,aB bt];rw[g]at bw;have H:=ag h
  go_in
  exact EI
 rw[aB g];by_cases h1:63<(x.toNat:aa)
 .rw[aE h1,aB bt];have H:=ag h
  go_in
  exact EI
 rw[aB h1];have m:=h.own.le.1;have a:(ku l.own).length=l.own.length:=by simp[ku]
 rw[a]at m;have k:=λn=>wm (h.drew n).own;rw[a]at k;have c:=ag k;by_cases h2:f≠l.da+l.own.length
 .rw[aE h2,aB bt];have r:(f != l.da+(l.own.length:aa))=true:=by simpa using h2
  have H:=ag h;generalize l.da=ac at *
  go_in
  go_wp2_with fail;go_quiet ((go_at_call 55;exact(c.o _).mono λ_ _ h=>⟨h.1,_,h.2.symm⟩));go_wp2_with fail;go_ret;exact⟨rfl,H.o.drew _,(Keeps.refl _ _).drewN _⟩
 rw[aB h2];have h2:f=l.da+l.own.length:=by simpa using h2
 by_cases i:l.own.length=64
 .rw[aE i,aB bt];have H:=ag h;have d:=ag (λn=>Tg (H.o.drew n).own (by rw[a,i]) (x.toNat:aa));generalize l.da=ac at *;generalize l.own.length=q at *
  go_in
  go_wp2_with fail;go_quiet ((go_at_call 55;exact(c.o _).mono λ_ _ h=>⟨h.1,_,h.2.symm⟩));go_wp2_with fail;refine aW (d.o _) ?_;rintro w' ⟨j,hk⟩;go_wp2;go_ret;exact⟨rfl,(H.out.drew _).Cv j hk rfl rfl rfl,((Keeps.refl _ w).drewN _).trans (hk.mono λb _ h=>h.elim (λe=>.inr (.inl e)) (λe=>.inr (.inr (.inl e))))⟩
 rw[aB i,aE rfl];have d:=ag (λn=>Tf (h.drew n).own (by rw[a];omega) (x.toNat:aa));generalize l.own.length=q at *
 go_in
 go_wp2_with fail;go_quiet ((go_at_call 55;exact(c.out _).mono λ_ _ h=>⟨h.1,_,h.2.symm⟩));go_wp2_with fail;refine aW (d.o _) ?_;rintro w' ⟨j,hk⟩;go_wp2;go_ret;exact⟨rfl,(h.drew _).Cv (L:=l.own++[x]) (by simpa[ku]using j) hk rfl rfl rfl,((Keeps.refl _ w).drewN _).trans (hk.mono λb _ h=>h.elim (λe=>.inr (.inl e)) (λe=>.inr (.inr (.inl e))))⟩
def uB(f sum:aa):a6:=⟨4,0,f%65536,0,[],sum,0⟩
def y_(l:cd)(f:aa):aa:=if l.state=2 then 12 else if ¬ (0<=f/\f<=1073741824)then 1 else if l.out.length=8 then 8 else 0
def l9(l:cd)(f sum:aa):cd:=if y_ l f=0 then {l with out:=l.out++[uB f sum]}else l
def TV(h:IsLink w B l)(f sum:aa):aA 220 #[B.p,I f,aR sum] w λe w'=>e=.returned (I (y_ l f))/\IsLink w' B (l9 l f sum)/\Keeps B.S w w':=by
 have bw:=h.bw;have fq:=h.fq;have a:=λW=>Cb f W;unfold l9 y_;by_cases g:l.state=2
 .rw[aE g,aB bt];rw[g]at bw;have H:=ag h
  go_in
  exact EI
 rw[aB g];by_cases h1:0<=f/\f<=1073741824
 .rw[aB (vf h1)];rw[ei h1]at a;by_cases i:l.out.length=8
  .rw[aE i,aB bt];have H:=ag h;have j:=ag (λn=>Ji (H.o.drew n).out i (uB f sum));have k:=λn=>ry f (w.drewN n);have d:=ag k
   go_in
   go_wp2_with fail;refine bE (a _) ?_;go_wp2_with fail;refine iN 8 aI aI ?_;simp only[hY,iE,hX,hF]
   repeat (go_big_quiet_step ((go_at_call 262;exact(d.o _).mono λ_ _ h=>⟨h.1,_,h.2.symm⟩)))
   refine wpQuiet_nil ?_;intro _ b;have⟨nq,c⟩:=b;subst c;go_wp2_with fail;refine aW (j.o _) ?_;exact NS
  rw[aB i,aE rfl];have H:=ag h;have d:=ag (λn=>ry f (w.drewN n))
  go_in
  go_wp2_with fail;refine bE (a _) ?_;go_wp2_with fail;refine iN 8 aI aI ?_;simp only[hY,iE,hX,hF]
  repeat (go_big_quiet_step ((go_at_call 262;exact(d.o _).mono λ_ _ h=>⟨h.1,_,h.2.symm⟩)))
  refine wpQuiet_nil ?_;intro _ b;have⟨nq,c⟩:=b;subst c;go_wp2_with fail;refine aW (((λn=>Jh (H.o.drew n).out (by have:=H.o.out.le.1;omega) (uB f sum))) _) ?_;exact NS
 rw[aE h1,aB bt];rw[di h1]at a
 go_in
 go_wp2_with fail;refine bE (a _) ?_;go_wp2;go_ret;exact⟨rfl,h,Keeps.refl _ _⟩
def nd(l:cd):cd:=if l.state=2 then l else {l with state:=2,jW:=true}
def TQ(h:IsLink w B l):aA 62 #[B.p] w λe w'=>e=aY #[]/\IsLink w' B (nd l)/\Keeps B.S w w':=by
 have bw:=h.bw;unfold nd;by_cases a:l.state=2
 .rw[aE a];rw[a]at bw
  go_in
  go_wp2;refine qD (v:=aY #[]) jA rfl ?_;exact⟨rfl,h,Keeps.refl _ _⟩
 rw[aB a];have eC:=h.eC;have f2:=h.free 2;have f3:=h.free 3;have c:=ag ((h.set 2 (I 2) {l with state:=2} rfl rfl rfl).set 3 (.bool true) {l with state:=2,jW:=true} rfl rfl rfl);have b:=ag (Keeps.setCell (S:=B.S) (Keeps.setCell (S:=B.S) (Keeps.refl _ w) (p:=ae B.p 2 ad) (.inl rfl) (I 2)) (p:=ae B.p 3 ad) (.inl rfl) (.bool true))
 go_in
 go_wp2;refine qD (v:=aY #[]) jA rfl ?_;exact⟨rfl,c.o,b.o⟩
def TW(h:IsLink w B l):aA 215 #[B.p] w λe w'=>e=.returned (I l.cf)/\w=w':=by
 have dY:=h.dY
 go_in
 go_wp2;go_ret;exact⟨rfl,rfl⟩
end
section
variable{F:Fence}{n:J}{P:Program}{w w':aj}{ops:a7 Oper}{rest:ah Oper}{o:Oper}{a:Act}{Q:Exit->Act->aj->al}{v p:ay}
def DH{T:TypeId}{x:Operand}(hrun:(Instr.loadAt T p).run P w=.ok v w')(aZ:o.guard=none)(b:o.op=.load T x)(d:a.eval x=p)(h:wpListIn F n P ops Q rest (a.put o.dst v) w'):wpListIn F n P ops Q (o :: rest) a w:=by
 refine D9 aZ λK c=>?_;unfold Oper.wpIn;refine⟨?_,?_⟩
 .simp[Oper.about,b]
 rw[Oper.semAt_plain F _ _ EX];simp only[execOp,b,d,hW,hrun,hE,iD];exact c _ _ h
def zG{T:TypeId}{x y:Operand}{u:ay}(hrun:(Instr.storeAt T p u).run P w=.ok () w')(aZ:o.guard=none)(b:o.op=.store T x y)(d:a.eval x=p)(e:a.eval y=u)(h:wpListIn F n P ops Q rest (a.put o.dst undef) w'):wpListIn F n P ops Q (o :: rest) a w:=by
 refine D9 aZ λK c=>?_;unfold Oper.wpIn;refine⟨?_,?_⟩
 .simp[Oper.about,b]
 rw[Oper.semAt_plain F _ _ EX];simp only[execOp,b,d,e,hW,hrun,hE,iD];exact c _ _ h
def zF{T:TypeId}(hrun:(Instr.alloc T true (aY #[])).run P w=.ok v w')(aZ:o.guard=none)(b:o.op=.alloc T)(h:wpListIn F n P ops Q rest (a.put o.dst v) w'):wpListIn F n P ops Q (o :: rest) a w:=by
 refine D9 aZ λK c=>?_;unfold Oper.wpIn;refine⟨?_,?_⟩
 .simp[Oper.about,b]
 rw[Oper.semAt_plain F _ _ EX];simp only[execOp,b,hW,hrun,hE,iD];exact c _ _ h
end
end Go.Proofs.YtalagblioepadaaGreatDoor
