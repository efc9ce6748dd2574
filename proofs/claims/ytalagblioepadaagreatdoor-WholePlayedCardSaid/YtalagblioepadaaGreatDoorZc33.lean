/- The proof, part 33. -/
import Derived.Test.YtalagblioepadaaGreatDoorZc32
import Derived.DeepKeys5
import Derived.Test.YtalagblioepadaaGreatDoorZc26
namespace Go.Proofs.YtalagblioepadaaGreatDoor
set_option linter.all false
open Proofs.Tryz List Go.RowKit Go.Maps
set_option maxRecDepth 100000
set_option maxHeartbeats 1000000
def Mr{p:ak}(h:p:=by simp[results,Act.put,results259,asAddr,loadVar,loadCells,isAgg93,sizeOf93,o]):p:=h
def LN{p:ak}(h:p:=by
 have u:=af (λ(W W':ai) (y:G W) (aj:Below W W W')=>(a W').2 (((a W).1 y).keep (Keeps.bD aj a7)));have bu:=l.o.drew;go_wp2_with fail;refine cH 8 ?_;refine cI (G) (.range 8) 0 8 ?_;refine dC (b) (.range 6) 2 ?_;generalize wr.drew=z at *;refine ew 6 λK v=>?_;go_simp;refine aU (f.o z) λaC c=>?_;have d:=u.o _ _ b c;refine v _ _ (d) ?_;refine dC (d) [7] 0 ?_;refine n5 ?_;have n:=bu.trans (Keeps.bD (S:=aI) c a7);by_cases ps:h<m
 .have al:=O.o h aJ ps;go_wp2_with fail;go_roundg (q-(h+1))
  case rel=>exact⟨h+1,q,rfl,by go_num,rfl,U,P,Q,n⟩
  omega
 have al:=N.o h aJ U;go_wp2_with fail;go_roundg (h-p)
 case rel=>exact⟨p,h,rfl,rfl,rfl,au,U,U,n⟩
 omega
 ):p:=h
def Nk{p:ak}(h:p:=by
 go_wp2_with fail;refine bA (g.o _) ?_;go_wp2_with fail;refine bA (f.o _) ?_;go_wp2_with fail;refine bA (d.o _) ?_;go_wp2_with fail;refine bA (b.o _) ?_;go_wp2;go_ret;exact⟨aK,cb⟩
 ):p:=h
def EE{p:ak}(h:p:=by
 go_wp2_with fail;refine(F3 _ _).mono ?_;rintro e _ ⟨rfl,rfl⟩;go_wp2_with fail;refine(F3 _ _).mono ?_;rintro e _ ⟨rfl,rfl⟩;go_wp2;go_ret;exact⟨rfl,rfl⟩
 ):p:=h
def Ny{p:ak}(h:p:=by
 go_wp2_with fail;refine bA (g.o _) ?_;go_wp2_with fail;refine bA (f.o _) ?_;go_wp2_with fail;refine bA (d.o _) ?_;go_wp2;go_ret;exact⟨aK,cb⟩
 ):p:=h
def NC{p:ak}(h:p:=by
 refine dq (v:=aQ #[I e.k.fr,I e.k.em,I e.k.bL,I e.k.cq,I e.cG,I e.dr,I e.et,I e.dJ,I e.le,I 0,I dB,I 0]) l ?_;exact⟨rfl,m⟩
 ):p:=h
def NS{p:ak}(h:p:=by
 go_wp2_with fail;refine bA (g.o _) ?_;go_wp2_with fail;refine bA (f.o _) ?_;go_wp2;go_ret;exact⟨aK,cb⟩
 ):p:=h
def L5{p:ak}(h:p:=by
 go_wp2_with fail;refine bA (aj▸OO n w) ?_;go_wp2;go_ret2;exact⟨rfl,rfl⟩
 ):p:=h
def Mj{p:ak}(h:p:=by
 go_wp2_with fail;refine bA (g.o _) ?_;go_wp2;go_ret;exact⟨aK,cb⟩
 ):p:=h
def D_{p:ak}(h:p:=by
 go_wp2;go_ret;exact⟨rfl,(cb.trans (aj.mono cb.size))⟩
 ):p:=h
def qX:Keyed prog 43:=Keyed.of_law (deep_law_gate aH (rG aH) (rG aH) aH aH)
def tN:Keyed prog 3:=int_keyed underlying3
section
open Go.Maps
variable{w w':ai}
def Qb(f:ax)(w:ai):aA 339 #[aq none 0 0,f] w λe w'=>e=.returned (I (-1))/\w=w':=by
 go_in
 go_wp2_with fail;go_loopg [8] 0 (λg i wr=>i=I 0/\w=wr)
 case atStart=>exact⟨rfl,rfl⟩
 obtain⟨rfl,rfl⟩:=hrel;go_wp2;go_ret;exact⟨rfl,rfl⟩
def P'(f:ax)(w:ai):aA 316 #[aq none 0 0,f] w λe w'=>e=.returned (.bool false)/\w=w':=by
 go_in
 go_wp2_with fail;refine bA (Qb f _) ?_;go_wp2;go_ret;exact⟨rfl,rfl⟩
attribute [local go_sem] Oper.semAt_some
end
section
variable{w w':ai}
def lg(aG:aa)(f:J)(j:J):aa:=if j=0 then f else if j=1 then aG else if j=3 then 600-f else if j=4 then -2097152 else if j=9 then 3 else if j=14 then 2097152 else if j=18 then 32768 else if j=19 then 3 else 0
def gT(v:J->aa)(bh:J):a6 ax:=(bn v).push bh
def y7(v:J->aa)(bh:J):(gT v bh).size=61:=by simp[gT,eg]
def y6(v:J->aa)(bh:J)(j:J)(a:j<60):(gT v bh)[j]?=some (.int (dt j) (v j)):=by
 rw[gT,pz,az (by rw[eg];omega),ft _ a]
def WX(v:J->aa)(bh:J)(o:J)(x:aa)(h:o<60):(gT v bh).setIfInBounds o (.int (dt o) x)=gT (bF v o x) bh:=by
 unfold gT;rw[<-yC];apply py;intro i;by_cases e:o=i
 .subst e;rw[zq z_,pz,az z_,zq (by rw[eg];omega)]
 rw[wM e,pz,pz,wM e];simp
def Yy(v:J->aa)(o:J):bF v o (v o)=v:=by
 funext j
 unfold bF;split
 .rename_i h;rw[h]
 rfl
namespace IsStage
variable{g bh:J}{v:J->aa}{f:aa}
end IsStage
def GG(n a b:aa)(w:ai):aA 293 #[I n,I a,I b] w λe w'=>e=.returned (.bool (decide (a<=n)&&decide (n<=b)))/\w=w':=by
 by_cases h1:a<=n
 .by_cases h2:n<=b
  .go_in
   exact Eb
  go_in
  go_wp2;go_ret;exact⟨by simp[h2],rfl⟩
 go_in
 exact L3
def Qi(f:aa)(b:0<=f/\f<=1073741824)(w:ai):aA 323 #[I f] w λe w'=>e=aV #[w.heap.size,I 0]/\w.alloc (ae #[I f,aq none 0 0] 476)=w':=by
 have a:=GG f 0 1073741824;rw[ee b.1,ee b.2]at a
 go_in
 go_wp2_with fail;refine bA (a _) ?_;go_wp2;go_ret2;exact⟨rfl,rfl⟩
end
variable{w w':ai}
def eV(a b:aa):aa:=if a<b then -1 else if b<a then 1 else 0
def F3(a:aa)(w:ai):aA 123 #[I a] w λe w'=>e=.returned (.bool false)/\w=w':=by
 go_in
 go_wp2;go_ret;exact⟨aK,rfl⟩
def F1(a b:aa)(w:ai):aA 75 #[I a,I b] w λe w'=>e=.returned (I (eV a b))/\w=w':=by
 unfold eV;by_cases h1:a<b
 .rw[aD h1]
  go_in
  exact EE
 rw[az h1];by_cases h2:b<a
 .rw[aD h2]
  go_in
  exact EE
 rw[az h2]
 go_in
 exact EE
def p4:ah aa->aa
 | []=>0
 | a :: l=>if a=0 then p4 l else a
def F2{b:J}(l:ah aa)(p:l.length<=1000)(h:∀ i (aw:i<l.length),w.cell? (ad b i ab)=some (I l[i])):aA 74 #[aq (some (ad b 0 ab)) l.length l.length] w λe w'=>e=.returned (I (p4 l))/\w=w':=by
 have H:=af h;clear h
 go_in
 go_wp2_with fail;go_loopg [5,8] l.length (λg _ i wr=>∃ j:J,g=l.length-j/\j<=l.length/\i=I j/\p4 (l.drop j)=p4 l/\wr=w)
 case atStart=>exact⟨0,rfl,c' _,rfl,rfl,rfl⟩
 obtain⟨j,aZ,n,rfl,a,rfl⟩:=hrel;by_cases k:j<l.length
 .have m:=H.o j k;rw[qm k]at a;by_cases d:l[j]=0
  .rw[d]at m;have c:p4 (l.drop (j+1))=p4 l:=by rw[<-a];show _=if l[j]=0 then _ else _;rw[aD d]
   have f:=af c;clear a c;go_wp2_with fail;go_roundg (l.length-(j+1))
   case rel=>exact⟨j+1,rfl,U,by go_num,f.o,rfl⟩
   omega
  have h1:(l[j] != 0)=true:=by simpa using d
  have c:p4 l=l[j]:=by rw[<-a];show(if l[j]=0 then _ else _)=_;rw[az d]
  have f:=af c;clear a c;go_wp2_with fail;go_ret;exact⟨by rw[f.o];rfl,rfl⟩
 obtain rfl:j=l.length:=U;rw[drop_length]at a;go_wp2_with fail;go_ret;exact⟨by rw[<-a];rfl,rfl⟩
structure de where
 fr:aa
 em:aa
 bL:aa
 cq:aa
deriving DecidableEq
instance:Coe de (a6 ax):=⟨λe=>#[I e.fr,I e.em,I e.bL,I e.cq]⟩
structure aB where
 k:de
 cG:aa
 dr:aa
 et:aa
 dJ:aa
 le:aa
deriving DecidableEq
instance:Coe aB (a6 ax):=⟨λe=>#[I e.k.fr,I e.k.em,I e.k.bL,I e.k.cq,I e.cG,I e.dr,I e.et,I e.dJ,I e.le]⟩
def aB.br(e:aB):ah ax:=[I e.k.fr,I e.k.em,I e.k.bL,I e.k.cq,I e.cG,I e.dr,I e.et,I e.dJ,I e.le]
def eE(a b:de):aa:=p4 [eV a.fr b.fr,eV a.em b.em,eV a.bL b.bL,eV a.cq b.cq]
def AV(a b:de)(w:ai):aA 48 #[aQ a,aQ b] w λe w'=>e=.returned (I (eE a b))/\Below w w w':=by
 have cb:=((b3 w.heap.size w).alloc bs (ae a 43)).alloc aK (ae b 43);have f:(w.alloc (ae a 43)).heap.size=w.heap.size+1:=aK;have d:=cm (aX w (ae a 43)) (ae b 43);have c:=aX (w.alloc (ae a 43)) (ae b 43);rw[f]at c;have gX:=af cb;have k:=af d;have l:=af c;clear cb d c f
 go_in
 go_wp2_with fail;generalize World.alloc (World.alloc w _) _=ao at *;have q:=aS k.o;have r:=aS l.o;refine iR 20 aH aH ?_;simp only[hV,iy,hU,hI]
 repeat (go_big_quiet_step ((go_at_call 75;exact(F1 _ _ _).mono λ_ _ h=>⟨h.1,_,h.2.symm⟩)))
 refine wpQuiet_nil ?_;intro _ g;have⟨nq,j⟩:=g;subst j;go_wp2_with fail;have n:=aX (ao.drewN nq) (ae #[I (eV a.fr b.fr),I (eV a.em b.em),I (eV a.bL b.bL),I (eV a.cq b.cq)] 3);have p:=(gX.o.trans (((ba ao).drewN nq).below gX.o.size (λ_ _ e=>e))).alloc gX.o.size (ae #[I (eV a.fr b.fr),I (eV a.em b.em),I (eV a.bL b.bL),I (eV a.cq b.cq)] 3);refine(F2 (b:=ao.heap.size) [eV a.fr b.fr,eV a.em b.em,eV a.bL b.bL,eV a.cq b.cq] aK λi aw=>?_).mono ?_
 .have m:i=0\/i=1\/i=2\/i=3:=by simp at aw;omega
  rcases m with rfl|rfl|rfl|rfl<;>exact bb n rfl
 rintro e _ ⟨rfl,rfl⟩;go_wp2;go_ret;exact⟨rfl,p⟩
def GC(e:aB)(k:de)(w:ai):aA 390 #[aQ e,aQ k] w λr w'=>r=.returned (I (eE e.k k))/\Below w w w':=by
 have cb:=((b3 w.heap.size w).alloc bs (ae e 45)).alloc aK (ae k 43);have b:(w.alloc (ae e 45)).heap.size=w.heap.size+1:=aK;have c:=cm (aX w (ae e 45)) (ae k 43);have a:=aX (w.alloc (ae e 45)) (ae k 43);rw[b]at a
 go_in
 go_wp2_with fail;generalize World.alloc (World.alloc w _) _=ao at *;refine aU (AV e.k k ao) λaC aj=>?_;exact D_
def GF(a b:aB)(w:ai):aA 379 #[aQ a,aQ b] w λr w'=>r=.returned (I (eE a.k b.k))/\Below w w w':=by
 have cb:=((b3 w.heap.size w).alloc bs (ae a 45)).alloc aK (ae b 45);have d:(w.alloc (ae a 45)).heap.size=w.heap.size+1:=aK;have e:=cm (aX w (ae a 45)) (ae b 45);have c:=aX (w.alloc (ae a 45)) (ae b 45);rw[d]at c
 go_in
 go_wp2_with fail;generalize World.alloc (World.alloc w _) _=ao at *;refine aU (AV a.k b.k ao) λaC aj=>?_;exact D_
def fU(n bl aw:aa):aY:=decide (bl<=n)&&decide (n<=aw)
def hC(k:de):aY:=fU k.fr 0 1073741824&&fU k.em 0 2&&fU k.bL 1 9&&fU k.cq 0 15
def pP(n a b:aa)(c:aY)(al:fU n a b=c)(w:ai):aA 293 #[I n,I a,I b] w λe w'=>e=.returned (.bool c)/\w=w':=al▸GG n a b w
def GD(k:de)(w:ai):aA 292 #[aQ k] w λr w'=>r=.returned (.bool (hC k))/\Below w w w':=by
 have cb:=(b3 w.heap.size w).alloc bs (ae k 43);have h:=aX w (ae k 43);unfold hC;obtain⟨bY,h1⟩:∃ c,fU k.fr 0 1073741824=c:=⟨_,rfl⟩;obtain⟨bo,h2⟩:∃ c,fU k.em 0 2=c:=⟨_,rfl⟩;obtain⟨eo,a⟩:∃ c,fU k.bL 1 9=c:=⟨_,rfl⟩;obtain⟨dM,e⟩:∃ c,fU k.cq 0 15=c:=⟨_,rfl⟩;have g:=af (pP _ _ _ _ h1);have f:=af (pP _ _ _ _ h2);have d:=af (pP _ _ _ _ a);have b:=af (pP _ _ _ _ e);rw[h1,h2,a,e];cases bY
 .clear f d b
  go_in
  exact Mj
 cases bo
 .clear d b
  go_in
  exact NS
 cases eo
 .clear b
  go_in
  exact Ny
 go_in
 exact Nk
def fz(e:aB):aY:=hC e.k&&fU e.cG 0 31&&fU e.dr 0 32768&&fU e.et (-32768) 32768&&fU e.dJ 0 15&&fU e.le 0 600
def vE(e:aB)(w:ai):aA 229 #[aQ e] w λr w'=>r=.returned (.bool (fz e))/\Below w w w':=by
 have cb:=(b3 w.heap.size w).alloc bs (ae e 45);have j:=af (aX w (ae e 45));unfold fz;obtain⟨bt,m⟩:∃ c,hC e.k=c:=⟨_,rfl⟩;obtain⟨bY,h1⟩:∃ c,fU e.cG 0 31=c:=⟨_,rfl⟩;obtain⟨bo,h2⟩:∃ c,fU e.dr 0 32768=c:=⟨_,rfl⟩;obtain⟨eo,n⟩:∃ c,fU e.et (-32768) 32768=c:=⟨_,rfl⟩;obtain⟨dM,p⟩:∃ c,fU e.dJ 0 15=c:=⟨_,rfl⟩;obtain⟨fN,q⟩:∃ c,fU e.le 0 600=c:=⟨_,rfl⟩;have i:=af λW=>m▸GD e.k W;have g:=af (pP _ _ _ _ h1);have f:=af (pP _ _ _ _ h2);have d:=af (pP _ _ _ _ n);have b:=af (pP _ _ _ _ p);have h:=af (pP _ _ _ _ q);rw[m,h1,h2,n,p,q];cases bt
 .clear g f d b h
  go_in
  go_wp2_with fail;refine aU (i.o _) λaC aj=>?_;have cb:=cb.trans (aj.mono cb.size);have a:=(Keeps.bD (S:=aI) aj a7).heap j.o id;have l:=aS a;go_wp2;go_ret;exact⟨aK,cb⟩
 cases bY
 .clear f d b h
  go_in
  go_wp2_with fail;refine aU (i.o _) λaC aj=>?_;have cb:=cb.trans (aj.mono cb.size);have a:=(Keeps.bD (S:=aI) aj a7).heap j.o id;have l:=aS a;exact Mj
 cases bo
 .clear d b h
  go_in
  go_wp2_with fail;refine aU (i.o _) λaC aj=>?_;have cb:=cb.trans (aj.mono cb.size);have a:=(Keeps.bD (S:=aI) aj a7).heap j.o id;have l:=aS a;exact NS
 cases eo
 .clear b h
  go_in
  go_wp2_with fail;refine aU (i.o _) λaC aj=>?_;have cb:=cb.trans (aj.mono cb.size);have a:=(Keeps.bD (S:=aI) aj a7).heap j.o id;have l:=aS a;exact Ny
 cases dM
 .clear h
  go_in
  go_wp2_with fail;refine aU (i.o _) λaC aj=>?_;have cb:=cb.trans (aj.mono cb.size);have a:=(Keeps.bD (S:=aI) aj a7).heap j.o id;have l:=aS a;exact Nk
 go_in
 go_wp2_with fail;refine aU (i.o _) λaC aj=>?_;have cb:=cb.trans (aj.mono cb.size);have a:=(Keeps.bD (S:=aI) aj a7).heap j.o id;have l:=aS a;go_wp2_with fail;refine bA (g.o _) ?_;go_wp2_with fail;refine bA (f.o _) ?_;go_wp2_with fail;refine bA (d.o _) ?_;go_wp2_with fail;refine bA (b.o _) ?_;go_wp2_with fail;refine bA (h.o _) ?_;go_wp2;go_ret;exact⟨aK,cb⟩
def bX(l:ah aB):ah ax:=l.flatMap aB.br
def tx(l:ah aB):(bX l).length=l.length*9:=by
 induction l with
 | nil=>rfl
 | cons c l a=>simp only[bX,iS,mG]at a⊢;rw[pn,a,jX,qt];rfl
def tw(l:ah aB)(i:J)(h:i<l.length)(j:J)(b:j<9):(bX l)[i*9+j]?=l[i].br[j]?:=by
 induction l generalizing i with
 | nil=>exact absurd h (lp _)
 | cons c l a=>
  simp only[bX,iS]at a⊢;cases i with
  | zero=>rw[jU (by simp[aB.br];omega)];simp
  | succ i=>
   rw[l3 (by simp[aB.br,jX];omega),show(i+1)*9+j-c.br.length=i*9+j by simp[aB.br,jX];omega];exact a i ik
structure pG(xs:ah aB)(bR cN er:J)(k:de)(W:ai):ak where
 al:∀ (j:J) u,(bX xs)[j]?=some u->W.cell? (ad bR (cN+j) ab)=some u
 bM:W.heap[er]?=some (ae k 43 (0,0))
theorem pG.keep{xs:ah aB}{bR cN er:J}{k:de}{W W':ai}(h:pG xs bR cN er k W)(hk:Keeps aI W W'):pG xs bR cN er k W':=
 ⟨λj u a=>hk.cell (h.al j u a) id,hk.heap h.bM id⟩
theorem pG.cell{xs:ah aB}{bR cN er:J}{k:de}{W:ai}(h:pG xs bR cN er k W)(i:J)(aw:i<xs.length)(j:J)(a:j<9){u:ax}(b:xs[i].br[j]?=some u):W.cell? (ad bR (cN+i*9+j) ab)=some u:=by
 rw[ih];exact h.al _ _ ((tw xs i aw j a).trans b)
def Qm(xs:ah aB){A:b5 Addr}{cap:J}(s:dR w 9 A xs.length cap (bX xs))(ar:xs.length<=1000)(k:de)(m:J)(hm:m<=xs.length)(X:∀ i (aw:i<xs.length),i<m->eE xs[i].k k<0)(V:∀ i (aw:i<xs.length),m<=i->¬ eE xs[i].k k<0):aA 389 #[aq A xs.length cap,aQ k,.func (.func 390) #[] #[]] w λr w'=>
   r=aV #[I m,(decide (∃ h:m<xs.length,eE xs[m].k k=0))]/\Below w w w':=by
 have cb:=(b3 w.heap.size w).alloc bs (ae k 43);have R:=aX w (ae k 43);have M:=s.keeps (S:=aI) ((Keeps.refl _ w).alloc (ae k 43)) (λ_ _ _=>id);have H:=af M;have L:=af R;have gX:=af cb;have O:=af X;have N:=af V
 go_in
 go_wp2_with fail;generalize World.alloc w _=bk at *;go_loopg [9,10,11] xs.length (λg i j _ wr=>∃ p q:J,g=q-p/\i=I p/\j=I q/\p<=m/\m<=q/\q<=xs.length/\Keeps aI bk wr)
 case atStart=>exact⟨0,xs.length,rfl,rfl,rfl,c' _,hm,c9 _,Keeps.refl _ _⟩
 obtain⟨p,q,aZ,rfl,rfl,au,P,Q,hk⟩:=hrel;by_cases r':p<q
 .have aJ:(p+q) / 2<xs.length:=U;have s:=H.o.keeps hk (λ_ _ _=>id);obtain⟨bR,cN,rfl,al⟩:=s.at' U;have C:pG xs bR cN w.heap.size k wr:=⟨al,hk.heap L.o id⟩;have B:=af C;have l:=af hk;go_upto_region 5 with fail
  have m':p<=(p+q) / 2/\(p+q) / 2<q:=U;rw[show((p:aa)+(q:aa)) / 2=(((p+q) / 2:J):aa)by omega];generalize (p+q) / 2=h at *;obtain⟨G,a⟩:=hJ (F:=λW=>pG xs bR cN w.heap.size k W);have Z:∀ x:bp G,x.to.cell? (ad bR (cN+h*9) ab)=some (I xs[h].k.fr):=λx=>((a _).1 x.held).cell h aJ 0 U rfl;have a':∀ x:bp G,x.to.cell? (ad bR (cN+h*9+1) ab)=some (I xs[h].k.em):=λx=>((a _).1 x.held).cell h aJ 1 U rfl;have gf:∀ x:bp G,x.to.cell? (ad bR (cN+h*9+2) ab)=some (I xs[h].k.bL):=λx=>((a _).1 x.held).cell h aJ 2 U rfl;have g':∀ x:bp G,x.to.cell? (ad bR (cN+h*9+3) ab)=some (I xs[h].k.cq):=λx=>((a _).1 x.held).cell h aJ 3 U rfl;have hd:∀ x:bp G,x.to.cell? (ad bR (cN+h*9+4) ab)=some (I xs[h].cG):=λx=>((a _).1 x.held).cell h aJ 4 U rfl;have h2:∀ x:bp G,x.to.cell? (ad bR (cN+h*9+5) ab)=some (I xs[h].dr):=λx=>((a _).1 x.held).cell h aJ 5 U rfl;have lb:∀ x:bp G,x.to.cell? (ad bR (cN+h*9+6) ab)=some (I xs[h].et):=λx=>((a _).1 x.held).cell h aJ 6 U rfl;have l':∀ x:bp G,x.to.cell? (ad bR (cN+h*9+7) ab)=some (I xs[h].dJ):=λx=>((a _).1 x.held).cell h aJ 7 U rfl;have mv:∀ x:bp G,x.to.cell? (ad bR (cN+h*9+8) ab)=some (I xs[h].le):=λx=>((a _).1 x.held).cell h aJ 8 U rfl;have Y:=λx:bp G=>aS (((a _).1 x.held).bM);have b:=(a _).2 (B.o.keep (Keeps.refl _ wr).drew);have f:=af (λW=>GC xs[h] k W);exact LN
 obtain rfl:p=m:=U;obtain rfl:q=p:=U;by_cases E:q<xs.length
 .have aJ:=E;have s:=H.o.keeps hk (λ_ _ _=>id);obtain⟨bR,cN,rfl,al⟩:=s.at' U;have C:pG xs bR cN w.heap.size k wr:=⟨al,hk.heap L.o id⟩;have B:=af C;have l:=af hk;obtain⟨G,a⟩:=hJ (F:=λW=>pG xs bR cN w.heap.size k W);have Z:∀ x:bp G,x.to.cell? (ad bR (cN+q*9) ab)=some (I xs[q].k.fr):=λx=>((a _).1 x.held).cell q aJ 0 U rfl;have a':∀ x:bp G,x.to.cell? (ad bR (cN+q*9+1) ab)=some (I xs[q].k.em):=λx=>((a _).1 x.held).cell q aJ 1 U rfl;have gf:∀ x:bp G,x.to.cell? (ad bR (cN+q*9+2) ab)=some (I xs[q].k.bL):=λx=>((a _).1 x.held).cell q aJ 2 U rfl;have g':∀ x:bp G,x.to.cell? (ad bR (cN+q*9+3) ab)=some (I xs[q].k.cq):=λx=>((a _).1 x.held).cell q aJ 3 U rfl;have hd:∀ x:bp G,x.to.cell? (ad bR (cN+q*9+4) ab)=some (I xs[q].cG):=λx=>((a _).1 x.held).cell q aJ 4 U rfl;have h2:∀ x:bp G,x.to.cell? (ad bR (cN+q*9+5) ab)=some (I xs[q].dr):=λx=>((a _).1 x.held).cell q aJ 5 U rfl;have lb:∀ x:bp G,x.to.cell? (ad bR (cN+q*9+6) ab)=some (I xs[q].et):=λx=>((a _).1 x.held).cell q aJ 6 U rfl;have l':∀ x:bp G,x.to.cell? (ad bR (cN+q*9+7) ab)=some (I xs[q].dJ):=λx=>((a _).1 x.held).cell q aJ 7 U rfl;have mv:∀ x:bp G,x.to.cell? (ad bR (cN+q*9+8) ab)=some (I xs[q].le):=λx=>((a _).1 x.held).cell q aJ 8 U rfl;have Y:=λx:bp G=>aS (((a _).1 x.held).bM);have b:=(a _).2 (B.o.keep (Keeps.refl _ wr).drew);have f:=af (λW=>GC xs[q] k W);have u:=af (λ(W W':ai) (y:G W) (aj:Below W W W')=>(a W').2 (((a W).1 y).keep (Keeps.bD aj a7)));have bu:=l.o.drew;go_wp2_with fail;refine cH 16 ?_;refine cI (G) (.range 16) 0 16 ?_;refine dC (b) (.range 11) 5 ?_;generalize wr.drew=z at *;refine ew 11 λK v=>?_;go_simp;refine aU (f.o z) λaC c=>?_;have d:=u.o _ _ b c;refine v _ _ (d) ?_;refine dC (d) [12,13,14,15] 0 ?_;refine n5 ?_;have n:=bu.trans (Keeps.bD (S:=aI) c a7);have t:=gX.o.trans (n.below gX.o.size (λ_ _ e=>e));go_wp2_with fail;have D:(eE xs[q].k k == 0)=decide (∃ h:q<xs.length,eE xs[q].k k=0):=by
   by_cases e:eE xs[q].k k=0
   .simp[e,E]
   simp[e]
  go_ret2;exact⟨by rw[<-D];rfl,t⟩
 have t:=gX.o.trans (hk.below gX.o.size (λ_ _ e=>e));have D:decide (∃ h:q<xs.length,eE xs[q].k k=0)=false:=by simp[E]
 obtain rfl:q=xs.length:=U;go_wp2_with fail;go_quiet (fail);have T:=t.trans (((ba wr).drewN nq).below t.size (λ_ _ e=>e));go_wp2_with fail;go_ret2;exact⟨by rw[D];rfl,T⟩
def fR(x f:aa):a6 ax:=#[ag x,ag 0,ag 0,ag 0,I f,I 3,I 0,I 0,I 0,I 0]
def x6(x f:aa):(fR x f).toList.all (λv=>v.oneCell')=true:=aH
def Hs(w:ai):aA 259 #[I 0] w λe w'=>e=.returned (.agg (fR (-2097152) 0))/\Below w w w':=by
 have d:=cm (aX w (ae #[ag 0,ag 0,ag 0,ag 0,I 0,I 0,I 0,I 0,I 0,I 0] 93)) (ae #[ag 0,ag 0,ag 0,ag 0,I 0,I 0,I 0,I 0,I 0,I 0] 93);have a:=aX (w.alloc (ae #[ag 0,ag 0,ag 0,ag 0,I 0,I 0,I 0,I 0,I 0,I 0] 93)) (ae #[ag 0,ag 0,ag 0,ag 0,I 0,I 0,I 0,I 0,I 0,I 0] 93);rw[fK]at a;obtain⟨h,_,b⟩:=dP _ 93 10 (w.heap.size+1) (fR (-2097152) 0) _ sizeOf93 rfl rfl a (x6 _ _);have c:=fl _ (w.heap.size+1) _ (fR (-2097152) 0) 93 a;have f:=b.heap d U;have i:=(((Keeps.refl (λj=>j=w.heap.size\/j=w.heap.size+1) w).alloc (ae #[ag 0,ag 0,ag 0,ag 0,I 0,I 0,I 0,I 0,I 0,I 0] 93)).alloc (ae #[ag 0,ag 0,ag 0,ag 0,I 0,I 0,I 0,I 0,I 0,I 0] 93)).trans (b.mono λ_ _ e=>.inr e);clear d a b;generalize World.setRow _ _ _=ao at *;unfold fR at h;have k:=gz (P:=prog) 93 10 (w.heap.size+1) 0 (fR (-2097152) 0) _ _ isAgg93 sizeOf93 rfl c (λj u z=>jZ);obtain⟨l,o,g⟩:=dP _ 93 10 w.heap.size (fR (-2097152) 0) _ sizeOf93 rfl rfl f (x6 _ _);have m:=(i.trans (g.mono λ_ _ e=>.inl e)).below (B:=w.heap.size) bs a7;clear c f i g;have n:((0:aa) == 1)=false:=bq
 go_in
 go_wp2_with first|refine c8 h rfl rfl rfl rfl ?_|refine dp k rfl rfl rfl ?_|refine c8 l rfl rfl rfl rfl ?_
 refine cU (v:=.agg (fR (-2097152) 0)) Mr rfl ?_;exact⟨rfl,m⟩
def Ht(w:ai):aA 259 #[I 1] w λe w'=>e=.returned (.agg (fR 2097152 32768))/\Below w w w':=by
 have h:=cm (aX w (ae #[ag 0,ag 0,ag 0,ag 0,I 0,I 0,I 0,I 0,I 0,I 0] 93)) (ae #[ag 0,ag 0,ag 0,ag 0,I 0,I 0,I 0,I 0,I 0,I 0] 93);have b:=aX (w.alloc (ae #[ag 0,ag 0,ag 0,ag 0,I 0,I 0,I 0,I 0,I 0,I 0] 93)) (ae #[ag 0,ag 0,ag 0,ag 0,I 0,I 0,I 0,I 0,I 0,I 0] 93);rw[fK]at b;obtain⟨f,_,d⟩:=dP _ 93 10 (w.heap.size+1) (fR (-2097152) 0) _ sizeOf93 rfl rfl b (x6 _ _);have a:=fl _ (w.heap.size+1) _ (fR (-2097152) 0) 93 b;have i:=d.heap h U;have m:=(((Keeps.refl (λj=>j=w.heap.size\/j=w.heap.size+1) w).alloc (ae #[ag 0,ag 0,ag 0,ag 0,I 0,I 0,I 0,I 0,I 0,I 0] 93)).alloc (ae #[ag 0,ag 0,ag 0,ag 0,I 0,I 0,I 0,I 0,I 0,I 0] 93)).trans (d.mono λ_ _ e=>.inr e);clear h b d;generalize World.setRow _ _ _=ao at *;unfold fR at f;have g0:=bI a;have bt:=aS a;have g:=bV a 0 (ag 2097152);have c:=bV g 4 (I 32768);rw[show((fR (-2097152) 0).setIfInBounds 0 (ag 2097152)).setIfInBounds 4 (I 32768)=fR 2097152 32768 from rfl]at c;have k:=eU (eU i (p:=ad (w+1) 0 ab) aK (ag 2097152)) (p:=ad (w+1) 4 ab) aK (I 32768);have n:=(m.setCell (p:=ad (w+1) 0 ab) (.inr rfl) (ag 2097152)).setCell (p:=ad (w+1) 4 ab) (.inr rfl) (I 32768);have q:=gz (P:=prog) 93 10 (w.heap.size+1) 0 (fR 2097152 32768) _ _ isAgg93 sizeOf93 rfl c (λj u z=>jZ);obtain⟨r,o,l⟩:=dP _ 93 10 w.heap.size (fR 2097152 32768) _ sizeOf93 rfl rfl k (x6 _ _);have s:=(n.trans (l.mono λ_ _ e=>.inl e)).below (B:=w.heap.size) bs a7;clear a i m l g c k n
 go_in
 go_upto_region 2 with(first|(refine c8 f rfl rfl rfl rfl ?_)|fail)
 clear f;go_upto_region 4 with fail
 generalize (ao.setCell (ad (w+1) 0 ab) (ag 2097152)).setCell (ad (w+1) 4 ab) (I 32768)=bm at *;go_wp2_with first|refine dp q rfl rfl rfl ?_|refine c8 r rfl rfl rfl rfl ?_
 refine cU (v:=.agg (fR 2097152 32768)) Mr rfl ?_;exact⟨rfl,s⟩
def JF(w:ai):(Instr.build 94 #[(0,.agg (fR (-2097152) 0)),(1,.agg (fR 2097152 32768))]).run prog w=.ok (.agg (fR (-2097152) 0++fR 2097152 32768)) w:=aH
def VX(aG:aa)(w:ai):(Instr.build 99 #[(1,aP aG),(3,I 600),(4,.agg (fR (-2097152) 0++fR 2097152 32768))]).run prog w=.ok (.agg (bn (lg aG 0))) w:=aH
section
variable{P:Program}{o:Oper}{a:Act}{Q:Exit->Act->ai->ak}{ops:a6 Oper}{rest:ah Oper}{w':ai}{v:ax}
theorem Dd{T:TypeId}{i j k:J}{x y z:Operand}{u b c:ax}(hrun:(Instr.build T #[(i,u),(j,b),(k,c)]).run P w=.ok v w')(d:o.guard=none)(e:o.op=.build T #[(i,x),(j,y),(k,z)])(f:a.eval x=u)(g:a.eval y=b)(l:a.eval z=c)(h:wpList P ops Q rest (a.put o.dst v) w'):wpList P ops Q (o :: rest) a w:=
 zl hrun d e (by simp[f,g,l]) h
end
def Rt(aG:aa)(w:ai):aA 193 #[aP aG] w λe w'=>e=.returned (.agg (bn (lg aG 0)))/\Below w w w':=by
 have f:=lV w;have g:=(ba w).alloc (ae (bn cf) 99);have c:=aX w (ae (bn cf) 99);have j:=JF;have an:=VX aG;generalize fR (-2097152) 0++fR 2097152 32768=pl at *
 go_in
 go_wp2_with refine d_ f rfl rfl ?_
 generalize w.alloc (ae (bn cf) 99)=bk at *;refine(Hs _).mono ?_;rintro e ao ⟨rfl,a⟩;go_wp2_with fail;refine(Ht _).mono ?_;rintro e aC ⟨rfl,b⟩;have h:=(g.fI a).fI b;have d:=(((ba bk).fI a).fI b).heap c id;obtain⟨m,l,i⟩:=dP aC 99 60 w.heap.size (bn (lg aG 0)) _ sizeOf99 (eg _) (eg _) d (fg.2 (n9 _));have k:Below w w (aC.setRow w.heap.size (bn (lg aG 0))):=((h.mono λ_ _ x=>x.elim).trans i).below bs a7;generalize aC.setRow w.heap.size (bn (lg aG 0))=bm at *;clear c g a b d h i f;go_wp2_with first|refine sG (j _) rfl rfl rfl rfl ?_|refine Dd (an _) rfl rfl rfl rfl rfl ?_|refine c8 m rfl rfl rfl rfl ?_
 refine cU (v:=.agg (bn (lg aG 0))) (by simp[results,results193,Act.put,asAddr,loadVar,loadCells,isAgg99,sizeOf99,l]) rfl ?_;exact⟨rfl,k⟩
variable{g bh:J}{aG fr:aa}{f:J}
def V2(v:J->aa)(bh:J)(w:ai):(Instr.build 458 #[(0,.agg (bn v)),(1,.pointer (some (ad bh 0 ab)))]).run prog w=.ok (.agg (gT v bh)) w:=aH
variable{b:f'}{x:ck}
def pg(y:Fd)(n:J):Fd:={y with cQ:=sw y.first y.cQ n (oq y.K n y.last)}
def kd(x:ck)(n j:J):ck:={x with f:=λi=>if i<j then pg (x.f i) n else x.f i}
def YC(x:ck)(n:J):kd x n 0=x:=by simp[kd]
def KS(x:ck)(n j:J):{kd x n j with f:=eP (kd x n j).f j (pg (x.f j) n)}=kd x n (j+1):=by
 unfold kd eP;simp only[ck.mk.injEq,true_and,and_true]
 funext i
 exact L0
def IsCore.WS(h:IsCore w b x)(n:J)(ar:n<=1000000):IsCore (w.setCell (ad b.c 7 ab) (I (n:aa))) b {x with now:=n}:=by
 have ok:=h.ok;have hk:=(Keeps.refl (λj=>j=b.c) w).setCell (p:=ad b.c 7 ab) rfl (I (n:aa));have d:=ok.bt;have f:=ok.bY;refine⟨by simpa using bV h.head 7 (I (n:aa)),λi aw=>IsFeed.keeps (h.fd i aw) hk λj h1 h2 a=>?_,h.st.keeps hk (λe=>ok.Gh e.symm) (λe=>ok.AA e.symm),ok,h.aL,ar,h.dG,h.wn⟩
 have:i=0\/i=1:=U
 rcases this with rfl|rfl<;>omega
def iQ(v:J->aa):aa:=more 1 (mr v)
def Q8(v:J->aa)(aW:tk v)(d:k' v=true)(f:(mr v).length<=100000)(w:ai):aA 286 #[.agg (bn v)] w λe w'=>e=aV #[aP (iQ v),I 0]/\Below w w w':=by
 have a:=af (Q7 v aW);rw[d]at a;simp only[if_true]at a;have an:=af (CL ⟨(mr v).toArray⟩ (by show(mr v).toArray.size<=_;unfold maxLen;simp;omega));rw[show more 1 (⟨(mr v).toArray⟩:cc).data.toList=iQ v by simp[iQ]]at an;generalize (⟨(mr v).toArray⟩:cc)=X at *;generalize iQ v=m at *;have aj:=(b3 w.heap.size w).alloc bs (ae (bn v) 99);have c:=n4 (aX w (ae (bn v) 99))
 go_in
 go_wp2_with refine dp c rfl rfl rfl ?_
 generalize w.alloc (ae (bn v) 99)=bk at *;refine aU (a.o _) λao b=>?_;simp only;go_wp2_with fail;refine bA (an.o _) ?_;go_wp2;go_ret2;exact⟨rfl,aj.trans (b.mono aj.size)⟩
def Px(h:IsCore w b x)(fr:aa)(r:0<=fr/\fr<=1000000)(v:J->aa)(f:gQ x.L fr=some v)(aW:tk v)(p:k' v=true)(l:(mr v).length<=100000):aA 219 #[b.c,I fr] w λe w'=>e=aV #[aP (iQ v),true]/\Keeps aI w w':=by
 have an:=af (Ga h fr U);rw[f]at an;simp only[hX,pv]at an;have g:=af (Q8 v aW p l);generalize iQ v=m at *
 go_in
 go_wp2_with fail;refine aU an.o λao d=>?_;have a:=aX ao (ae (bn cf) 99);obtain⟨q,_,k⟩:=dP (ao.alloc (ae (bn cf) 99)) 99 60 ao.heap.size (bn v) _ sizeOf99 (eg _) (eg _) a (fg.2 (n9 v));have n:=n4 (fl _ ao.heap.size _ (bn v) 99 a);have s:=d.size;simp only;generalize (ao.alloc (ae (bn cf) 99)).setRow ao.heap.size (bn v)=aC at *;go_wp2_with first|refine d_ (lV ao) rfl rfl ?_|refine c8 q rfl rfl rfl rfl ?_|refine dp n rfl rfl rfl ?_
 refine aU (g.o _) λbm i=>?_;simp only;go_wp2;go_ret2;exact⟨rfl,(cL d (((Keeps.refl (λj=>j=ao) ao).alloc (ae (bn cf) 99)).trans k) a7).fI i⟩
section
open Go.Maps
attribute [local go_sem] Oper.semAt_some
variable{w w':ai}
def Qe(f:ax)(w:ai):aA 179 #[aq none 0 0,I 0,I 0,f] w λe w'=>e=aV #[]/\w=w':=by
 go_in
 go_wp2_with fail;go_loopg [8] 0 (λg i wr=>i=I 1/\w=wr)
 case atStart=>exact⟨rfl,rfl⟩
 obtain⟨rfl,rfl⟩:=hrel;go_wp2;go_end0;exact⟨rfl,rfl⟩
def Qk(k:aa)(f:ax)(w:ai):aA 121 #[aq none 0 0,I 0,I 0,I k,f] w λe w'=>e=aV #[]/\w=w':=by
 go_in
 go_wp2_with fail;go_loopg [1,2] 0 (λg a b wr=>a=I 0/\b=I 0/\w=wr)
 case atStart=>exact⟨rfl,rfl,rfl⟩
 obtain⟨rfl,rfl,rfl⟩:=hrel;go_wp2_with fail;refine(Qe f _).mono ?_;rintro e _ ⟨rfl,rfl⟩;go_wp2;refine cU (v:=aV #[]) jj rfl ?_;exact⟨rfl,rfl⟩
def OS(w:ai):aA 122 #[.int .u64 0] w λe w'=>e=.returned (I 0)/\w=w':=by
 have h:=af (FO 0 U)
 go_in
 go_wp2_with fail;refine(h.o _).mono ?_;rintro e _ ⟨rfl,rfl⟩;go_wp2;go_ret;exact⟨rfl,rfl⟩
def Qn(f:ax)(w:ai):aA 72 #[aq none 0 0,f] w λe w'=>e=aV #[]/\w=w':=by
 go_in
 go_wp2_with fail;refine(OS _).mono ?_;rintro e _ ⟨rfl,rfl⟩;go_wp2_with fail;refine(Qk _ f _).mono ?_;rintro e _ ⟨rfl,rfl⟩;go_wp2;go_end0;exact⟨rfl,rfl⟩
end
structure kk where
 cn:aB
 late:aa
 cut:aa
deriving DecidableEq
instance:Coe kk (a6 ax):=⟨λe=>#[I e.cn.k.fr,I e.cn.k.em,I e.cn.k.bL,I e.cn.k.cq,I e.cn.cG,I e.cn.dr,I e.cn.et,I e.cn.dJ,I e.cn.le,I 0,I e.late,I e.cut]⟩
structure kk.wf(v:kk):ak where
 cn:fz v.cn=true
 cG:1<=v.cn.cG/\v.cn.cG<=9
 late:0<=v.late/\v.late<=1000000000
 cut:v.cut=-1\/v.cut=0
def OO(n:aa)(w:ai):aA 294 #[I n] w λe w'=>e=.returned (.bool (fU n 1 9))/\w=w':=by
 unfold fU;by_cases h1:1<=n
 .by_cases h2:n<=9
  .go_in
   exact Eb
  go_in
  go_wp2;go_ret;exact⟨by simp[h2],rfl⟩
 go_in
 go_wp2;go_ret;exact⟨bT,rfl⟩
def Ax(n:aa)(h:1<=n/\n<=9)(w:ai):aA 230 #[I n] w λe w'=>e=aV #[I (48*n),I 0]/\w=w':=by
 have aj:fU n 1 9=true:=by unfold fU;simp[h]
 go_in
 exact L5
def uE(n a b:aa)(ar:a<=n/\n<=b)(w:ai):aA 331 #[I n,I a,I b] w λe w'=>e=.returned (.bool true)/\w=w':=by
 go_in
 go_wp2;go_ret;exact⟨aK,rfl⟩
def uj{e:aB}(h:fz e=true):hC e.k=true/\(0<=e.cG/\e.cG<=31)/\(0<=e.dr/\e.dr<=32768)/\(-32768<=e.et/\e.et<=32768)/\(0<=e.dJ/\e.dJ<=15)/\(0<=e.le/\e.le<=600):=by
 unfold fz fU at h;simp only[d',fZ]at h;exact⟨h.1.1.1.1.1,h.1.1.1.1.2,h.1.1.1.2,h.1.1.2,h.1.2,h.2⟩
def C3(v:kk)(h:v.wf)(w:ai):aA 300 #[aQ v] w λe w'=>e=.returned (.bool true)/\Below w w w':=by
 have⟨h1,h2,i,c⟩:=h;have⟨e,dB,b⟩:=v;dsimp only at *;have cb:=(b3 w.heap.size w).alloc bs (ae #[I e.k.fr,I e.k.em,I e.k.bL,I e.k.cq,I e.cG,I e.dr,I e.et,I e.dJ,I e.le,I 0,I dB,I b] 175);have j:=aX w (ae #[I e.k.fr,I e.k.em,I e.k.bL,I e.k.cq,I e.cG,I e.dr,I e.et,I e.dJ,I e.le,I 0,I dB,I b] 175);have⟨_,_,d,f,_,g⟩:=uj h1;have a:=af (uE 0 0 1099511627776 U)
 go_in
 go_wp2_with fail;refine bA ((Ax e.cG h2) _) ?_;go_wp2_with fail;refine bA ((uE e.dr 0 32768 d) _) ?_;go_wp2_with fail;refine bA (((uE e.et (-32768) 32768 f)) _) ?_;go_wp2_with fail;refine bA ((uE e.le 0 600 g) _) ?_;go_wp2_with fail;refine bA (a.o _) ?_;go_wp2_with fail;refine bA ((uE dB 0 1099511627776 U) _) ?_;rcases c with rfl|rfl
 .go_wp2;go_ret;exact⟨rfl,cb⟩
 go_wp2_with fail;refine bA (a.out _) ?_;go_wp2;go_ret;exact⟨rfl,cb⟩
def YJ(v:kk)(h:v.wf)(w:ai):aA 297 #[aQ v,I 0] w λe w'=>e=.returned (.bool true)/\Below w w w':=by
 have cb:=(b3 w.heap.size w).alloc bs (ae v 175);have b:=aX w (ae v 175);have a:=af (C3 v h (w.alloc (ae v 175)))
 go_in
 go_wp2_with fail;generalize w.alloc _=ao at *;refine aU a.o λaC aj=>?_;go_wp2_with fail;refine bA (uE 0 0 2199023255552 U _) ?_;exact D_
def o2(e:aB):aa:=if 0<e.le then e.le*32 else 48*e.cG
def YK(e:aB)(h:fz e=true)(bd:1<=e.cG/\e.cG<=9)(w:ai):aA 332 #[aQ e] w λr w'=>r=.returned (I (o2 e))/\Below w w w':=by
 have cb:=(b3 w.heap.size w).alloc bs (ae e 45);have a:=aX w (ae e 45);have⟨_,_,_,_,_,b⟩:=uj h;by_cases au:0<e.le
 .have aW:o2 e=e.le*32:=aD au;rw[aW]
  go_in
  go_wp2_with fail;go_ret;exact⟨rfl,cb⟩
 have aW:o2 e=48*e.cG:=az au;rw[aW]
 go_in
 go_wp2_with fail;refine bA ((Ax e.cG bd) _) ?_;go_wp2;go_ret;exact⟨rfl,cb⟩
def m_(v:kk):aY:=decide (o2 v.cn<=v.late)
def xV(v:kk):aa:=if v.cut=-1 then max (o2 v.cn-v.late) 0 else min (max (o2 v.cn-v.late) 0) 64
def P2(v:kk):(decide (xV v<=0))=m_ v:=by
 unfold m_ xV;rw[decide_eq_decide];split<;>omega
def SU{e:aB}(h:fz e=true)(bd:1<=e.cG/\e.cG<=9):0<=o2 e/\o2 e<=20000:=by
 have⟨_,_,_,_,_,a⟩:=uj h;unfold o2;split<;>omega
def YG(v:kk)(h:v.wf)(w:ai):aA 298 #[aQ v] w λr w'=>r=.returned (I (xV v))/\Keeps aI w w':=by
 have G:=SU h.cn h.cG;have l:=af (C3 v h (w.alloc (ae v 175)));have i:=af (YK v.cn h.cn h.cG);obtain⟨e,dB,d⟩:=v;obtain⟨h1,h2,F,m⟩:=h;dsimp only at *;have A:=(ba w).alloc (ae #[I e.k.fr,I e.k.em,I e.k.bL,I e.k.cq,I e.cG,I e.dr,I e.et,I e.dJ,I e.le,I 0,I dB,I d] 175);have p:=aX w (ae #[I e.k.fr,I e.k.em,I e.k.bL,I e.k.cq,I e.cG,I e.dr,I e.et,I e.dJ,I e.le,I 0,I dB,I d] 175);unfold xV;dsimp only;generalize o2 e=n at *;obtain⟨fe,hm⟩:∃ fe,max (n-dB) 0=fe:=⟨_,rfl⟩;have H:0<=fe/\fe<=20000:=U;have E:IntKind.i64.wrap (0+fe)=fe:=by rw[Int.zero_add];exact ev _ U
 have c:=b6 p A;rw[hm];rcases m with rfl|rfl
 all_goals
  go_in
  go_wp2_with fail;generalize w.alloc _=ao at *;refine aU l.out λaC aj=>?_;have g:=Keeps.bD (S:=aI) aj a7;have q:=g.heap c.out.1 id;have B:=(c.out.2.trans g).trans (ba aC).drew;have b:=(ba aC).drew.heap q id;go_wp2_with fail;have L:=iq (S:=aI) (w:=aC.drew) b id;have D:∀ W,(∃ x:g_ aI aC.drew,W=x.to)->(Instr.loadAt 45 w.heap.size).run prog W=.ok (aQ e) W:=λW ⟨x,z⟩=>by
   rw[z];refine gz (P:=prog) 45 9 w.heap.size 0 e _ _ isAgg45 sizeOf45 rfl (x.keeps.heap b id) (λj u f=>?_);rw[gC];have y:=(kf.1 f).1;rw[<-f]
   match j,y with
   | 0,_=>rfl
   | 1,_=>rfl
   | 2,_=>rfl
   | 3,_=>rfl
   | 4,_=>rfl
   | 5,_=>rfl
   | 6,_=>rfl
   | 7,_=>rfl
   | 8,_=>rfl
  refine cH 11 ?_;refine o7 (λ_=>False) [0,1,2,3,5,6] [4,7,8] 2 ?_
  repeat (first|(refine ke D rfl rfl rfl ?_;simp only[Act.put,c7])|go_big_quiet_step (fail))
  refine wpQuiet_nil ?_;refine gi λK o=>?_;go_simp;refine aU (i.out _) λbm t=>?_;have a:=Keeps.bD (S:=aI) t a7;refine o _ _ (c0 (a)) ?_;refine ir (c0 (a)) ?_;refine n3 (c0 (a)) ?_;have s:=a.heap b id;have C:=B.trans a;have M:=aS s;refine fs (λ_=>False) [9,10] [] 0 (hP ?_);refine iu ?_;go_wp2_with fail;go_ret;exact⟨by rw[<-hm];rfl,C⟩
def YH(v:kk)(h:v.wf)(w:ai):aA 234 #[aQ v,I 0] w λr w'=>r=.returned (.bool (m_ v))/\Keeps aI w w':=by
 have a:=aX w (ae v 175);have d:=af (YJ v h (w.alloc (ae v 175)));have e:=af (P2 v);have b:=b6 a ((ba w).alloc (ae v 175));have j:=aS a
 go_in
 go_wp2_with fail;generalize w.alloc _=ao at *;refine aU d.o λaC aj=>?_;have c:=Keeps.bD (S:=aI) aj a7;have a:=c.heap b.o.1 id;have g:=b.o.2.trans c;have j:=aS a;go_wp2_with fail;refine aU ((λW=>YG v h W) _) λbm f=>?_;have i:=g.trans f;go_wp2;go_ret;exact⟨by rw[<-e.o];rfl,i⟩
def YE(v:kk)(h:v.wf)(w:ai):aA 237 #[aQ v,I 0] w λr w'=>r=.returned (aQ #[I v.cn.k.fr,I v.cn.k.em,I v.cn.k.bL,I v.cn.k.cq,I v.cn.cG,I v.cn.dr,I v.cn.et,I v.cn.dJ,I v.cn.le,I 0,I v.late,I 0])/\Keeps aI w w':=by
 have q:(w.alloc (ae v 175)).heap.size=w.heap.size+1:=aK;have a:=cm (aX w (ae v 175)) (ae ox 175);have d:=aX (w.alloc (ae v 175)) (ae ox 175);rw[q]at d;have i:=af (C3 v h ((w.alloc (ae v 175)).alloc (ae ox 175)));have c:=b6 a (bB d (((ba w).alloc (ae v 175)).alloc (ae ox 175)));obtain⟨e,dB,x⟩:=v;obtain⟨h1,h2,A,n⟩:=h;rcases n with rfl|rfl
 .go_in
  go_wp2_with fail;generalize World.alloc (World.alloc w _) _=ao at *;refine aU i.out λaC aj=>?_;have b:=Keeps.bD (S:=aI) aj a7;have a:=b.heap c.out.1 id;have d:=b.heap c.out.2.1 id;have s:=c.out.2.2.trans b;have t:=aS a;have y:=bI a;go_upto_region 3 with fail
  have eN:=(Keeps.refl (λj=>j=w) aC).setCell (p:=ad w 11 ab) rfl (I 0);have o:=gz (P:=prog) 175 12 w.heap.size 0 #[I e.k.fr,I e.k.em,I e.k.bL,I e.k.cq,I e.cG,I e.dr,I e.et,I e.dJ,I e.le,I 0,I dB,I 0] _ _ isAgg175 sizeOf175 rfl ((bV a 11 (I 0))) (λj u z=>jZ);obtain⟨g,l,f⟩:=dP _ 175 12 (w.heap.size+1) #[I e.k.fr,I e.k.em,I e.k.bL,I e.k.cq,I e.cG,I e.dr,I e.et,I e.dJ,I e.le,I 0,I dB,I 0] _ sizeOf175 rfl rfl ((eN.heap d a7)) rfl;have m:=cL ((cL s eN a7)) f a7;go_wp2_with first|refine dp o rfl rfl rfl ?_|refine c8 g rfl rfl rfl rfl ?_
  exact NC
 go_in
 go_wp2_with fail;generalize World.alloc (World.alloc w _) _=ao at *;refine aU i.out λaC aj=>?_;have b:=Keeps.bD (S:=aI) aj a7;have a:=b.heap c.out.1 id;have t:=aS a;go_upto_region 3 with fail
 obtain⟨g,l,f⟩:=dP _ 175 12 (w.heap.size+1) #[I e.k.fr,I e.k.em,I e.k.bL,I e.k.cq,I e.cG,I e.dr,I e.et,I e.dJ,I e.le,I 0,I dB,I 0] _ sizeOf175 rfl rfl ((b.heap c.out.2.1 id)) rfl;have m:=cL ((c.out.2.2.trans b)) f a7;go_wp2_with first|refine dp (gz (P:=prog) 175 12 w.heap.size 0 #[I e.k.fr,I e.k.em,I e.k.bL,I e.k.cq,I e.cG,I e.dr,I e.et,I e.dJ,I e.le,I 0,I dB,I 0] _ _ isAgg175 sizeOf175 rfl (a) (λj u z=>jZ)) rfl rfl rfl ?_|refine c8 g rfl rfl rfl rfl ?_
 exact NC
end Go.Proofs.YtalagblioepadaaGreatDoor
