/- The proof, part 33. -/
import Derived.Test.YtalagblioepadaaGreatDoorZb32
import Derived.DeepKeys5
import Derived.Test.YtalagblioepadaaGreatDoorZb26
namespace Go.Proofs.YtalagblioepadaaGreatDoor
set_option linter.all false
open Proofs.Tryz List Go.RowKit Go.Maps
set_option maxRecDepth 100000
set_option maxHeartbeats 1000000
def LV{p:ak}(h:p:=by simp[results,Act.put,results259,asAddr,loadVar,loadCells,isAgg93,sizeOf93,o]):p:=h
def Lg{p:ak}(h:p:=by
 have u:=af (λ(W W':ai) (y:G W) (aj:Below W W W')=>(a W').2 (((a W).1 y).keep (Keeps.bE aj a7)));have bw:=l.o.drew;go_wp2_with fail;refine cB 8 ?_;refine cC (G) (.range 8) 0 8 ?_;refine de (b) (.range 6) 2 ?_;generalize wr.drew=z at *;refine dC 6 λK v=>?_;go_simp;refine aT (f.o z) λaB c=>?_;have d:=u.o _ _ b c;refine v _ _ (d) ?_;refine de (d) [7] 0 ?_;refine mL ?_;have n:=bw.trans (Keeps.bE (S:=aG) c a7);by_cases r':h<m
 .have aq:=O.o h aR r';go_wp2_with fail;go_roundg (q-(h+1))
  case rel=>exact⟨h+1,q,rfl,by go_num,rfl,U,P,Q,n⟩
  omega
 have aq:=N.o h aR U;go_wp2_with fail;go_roundg (h-p)
 case rel=>exact⟨p,h,rfl,rfl,rfl,ar,U,U,n⟩
 omega
 ):p:=h
def MM{p:ak}(h:p:=by
 go_wp2_with fail;refine br (g.o _) ?_;go_wp2_with fail;refine br (f.o _) ?_;go_wp2_with fail;refine br (d.o _) ?_;go_wp2_with fail;refine br (b.o _) ?_;go_wp2;go_ret;exact⟨aI,ca⟩
 ):p:=h
def Ec{p:ak}(h:p:=by
 go_wp2_with fail;refine(FB _ _).mono ?_;rintro e _ ⟨rfl,rfl⟩;go_wp2_with fail;refine(FB _ _).mono ?_;rintro e _ ⟨rfl,rfl⟩;go_wp2;go_ret;exact⟨rfl,rfl⟩
 ):p:=h
def MZ{p:ak}(h:p:=by
 go_wp2_with fail;refine br (g.o _) ?_;go_wp2_with fail;refine br (f.o _) ?_;go_wp2_with fail;refine br (d.o _) ?_;go_wp2;go_ret;exact⟨aI,ca⟩
 ):p:=h
def M4{p:ak}(h:p:=by
 refine dn (v:=aM #[I e.k.fr,I e.k.em,I e.k.bN,I e.k.cp,I e.cF,I e.dq,I e.eo,I e.dJ,I e.le,I 0,I dz,I 0]) l ?_;exact⟨rfl,m⟩
 ):p:=h
def Ni{p:ak}(h:p:=by
 go_wp2_with fail;refine br (g.o _) ?_;go_wp2_with fail;refine br (f.o _) ?_;go_wp2;go_ret;exact⟨aI,ca⟩
 ):p:=h
def Lw{p:ak}(h:p:=by
 go_wp2_with fail;refine br (aj▸Oc n w) ?_;go_wp2;go_ret2;exact⟨rfl,rfl⟩
 ):p:=h
def LM{p:ak}(h:p:=by
 go_wp2_with fail;refine br (g.o _) ?_;go_wp2;go_ret;exact⟨aI,ca⟩
 ):p:=h
def DK{p:ak}(h:p:=by
 go_wp2;go_ret;exact⟨rfl,(ca.trans (aj.mono ca.size))⟩
 ):p:=h
def qE:Keyed prog 43:=Keyed.of_law (deep_law_gate aH (ri aH) (ri aH) aH aH)
def tx:Keyed prog 3:=int_keyed underlying3
section
open Go.Maps
variable{w w':ai}
def PA(f:aw)(w:ai):az 339 #[ao none 0 0,f] w λe w'=>e=.returned (I (-1))/\w=w':=by
 go_in
 go_wp2_with fail;go_loopg [8] 0 (λg i wr=>i=I 0/\w=wr)
 case atStart=>exact⟨rfl,rfl⟩
 obtain⟨rfl,rfl⟩:=hrel;go_wp2;go_ret;exact⟨rfl,rfl⟩
def Py(f:aw)(w:ai):az 316 #[ao none 0 0,f] w λe w'=>e=.returned (.bool false)/\w=w':=by
 go_in
 go_wp2_with fail;refine br (PA f _) ?_;go_wp2;go_ret;exact⟨rfl,rfl⟩
attribute [local go_sem] Oper.semAt_some
end
section
variable{w w':ai}
def k2(aO:aa)(f:J)(j:J):aa:=if j=0 then f else if j=1 then aO else if j=3 then 600-f else if j=4 then -2097152 else if j=9 then 3 else if j=14 then 2097152 else if j=18 then 32768 else if j=19 then 3 else 0
def gP(v:J->aa)(bg:J):a6 aw:=(bo v).push bg
def yL(v:J->aa)(bg:J):(gP v bg).size=61:=by simp[gP,eh]
def yK(v:J->aa)(bg:J)(j:J)(a:j<60):(gP v bg)[j]?=some (.int (dt j) (v j)):=by
 rw[gP,pd,aA (by rw[eh];omega),fl _ a]
def Wk(v:J->aa)(bg:J)(o:J)(x:aa)(h:o<60):(gP v bg).setIfInBounds o (.int (dt o) x)=gP (bH v o x) bg:=by
 unfold gP;rw[<-yg];apply pc;intro i;by_cases e:o=i
 .subst e;rw[y4 zK,pd,aA zK,y4 (by rw[eh];omega)]
 rw[wo e,pd,pd,wo e];simp
def XW(v:J->aa)(o:J):bH v o (v o)=v:=by
 funext j
 unfold bH;split
 .rename_i h;rw[h]
 rfl
namespace IsStage
variable{g bg:J}{v:J->aa}{f:aa}
end IsStage
def F'(n a b:aa)(w:ai):az 293 #[I n,I a,I b] w λe w'=>e=.returned (.bool (decide (a<=n)&&decide (n<=b)))/\w=w':=by
 by_cases h1:a<=n
 .by_cases h2:n<=b
  .go_in
   exact DM
  go_in
  go_wp2;go_ret;exact⟨by simp[h2],rfl⟩
 go_in
 exact Lu
def PH(f:aa)(b:0<=f/\f<=1073741824)(w:ai):az 323 #[I f] w λe w'=>e=aV #[w.heap.size,I 0]/\w.alloc (ae #[I f,ao none 0 0] 476)=w':=by
 have a:=F' f 0 1073741824;rw[ed b.1,ed b.2]at a
 go_in
 go_wp2_with fail;refine br (a _) ?_;go_wp2;go_ret2;exact⟨rfl,rfl⟩
end
variable{w w':ai}
def eP(a b:aa):aa:=if a<b then -1 else if b<a then 1 else 0
def FB(a:aa)(w:ai):az 123 #[I a] w λe w'=>e=.returned (.bool false)/\w=w':=by
 go_in
 go_wp2;go_ret;exact⟨aI,rfl⟩
def Fz(a b:aa)(w:ai):az 75 #[I a,I b] w λe w'=>e=.returned (I (eP a b))/\w=w':=by
 unfold eP;by_cases h1:a<b
 .rw[aD h1]
  go_in
  exact Ec
 rw[aA h1];by_cases h2:b<a
 .rw[aD h2]
  go_in
  exact Ec
 rw[aA h2]
 go_in
 exact Ec
def pP:ah aa->aa
 | []=>0
 | a :: l=>if a=0 then pP l else a
def FA{b:J}(l:ah aa)(p:l.length<=1000)(h:∀ i (av:i<l.length),w.cell? (ad b i ab)=some (I l[i])):az 74 #[ao (some (ad b 0 ab)) l.length l.length] w λe w'=>e=.returned (I (pP l))/\w=w':=by
 have H:=af h;clear h
 go_in
 go_wp2_with fail;go_loopg [5,8] l.length (λg _ i wr=>∃ j:J,g=l.length-j/\j<=l.length/\i=I j/\pP (l.drop j)=pP l/\wr=w)
 case atStart=>exact⟨0,rfl,c' _,rfl,rfl,rfl⟩
 obtain⟨j,a1,n,rfl,a,rfl⟩:=hrel;by_cases k:j<l.length
 .have m:=H.o j k;rw[p9 k]at a;by_cases d:l[j]=0
  .rw[d]at m;have c:pP (l.drop (j+1))=pP l:=by rw[<-a];show _=if l[j]=0 then _ else _;rw[aD d]
   have f:=af c;clear a c;go_wp2_with fail;go_roundg (l.length-(j+1))
   case rel=>exact⟨j+1,rfl,U,by go_num,f.o,rfl⟩
   omega
  have h1:(l[j] != 0)=true:=by simpa using d
  have c:pP l=l[j]:=by rw[<-a];show(if l[j]=0 then _ else _)=_;rw[aA d]
  have f:=af c;clear a c;go_wp2_with fail;go_ret;exact⟨by rw[f.o];rfl,rfl⟩
 obtain rfl:j=l.length:=U;rw[drop_length]at a;go_wp2_with fail;go_ret;exact⟨by rw[<-a];rfl,rfl⟩
structure dp where
 fr:aa
 em:aa
 bN:aa
 cp:aa
deriving DecidableEq
instance:Coe dp (a6 aw):=⟨λe=>#[I e.fr,I e.em,I e.bN,I e.cp]⟩
structure aC where
 k:dp
 cF:aa
 dq:aa
 eo:aa
 dJ:aa
 le:aa
deriving DecidableEq
instance:Coe aC (a6 aw):=⟨λe=>#[I e.k.fr,I e.k.em,I e.k.bN,I e.k.cp,I e.cF,I e.dq,I e.eo,I e.dJ,I e.le]⟩
def aC.bt(e:aC):ah aw:=[I e.k.fr,I e.k.em,I e.k.bN,I e.k.cp,I e.cF,I e.dq,I e.eo,I e.dJ,I e.le]
def eC(a b:dp):aa:=pP [eP a.fr b.fr,eP a.em b.em,eP a.bN b.bN,eP a.cp b.cp]
def AA(a b:dp)(w:ai):az 48 #[aM a,aM b] w λe w'=>e=.returned (I (eC a b))/\Below w w w':=by
 have ca:=((bY w.heap.size w).alloc bA (ae a 43)).alloc aI (ae b 43);have f:(w.alloc (ae a 43)).heap.size=w.heap.size+1:=aI;have d:=cm (aW w (ae a 43)) (ae b 43);have c:=aW (w.alloc (ae a 43)) (ae b 43);rw[f]at c;have gS:=af ca;have k:=af d;have l:=af c;clear ca d c f
 go_in
 go_wp2_with fail;generalize World.alloc (World.alloc w _) _=an at *;have q:=aP k.o;have r:=aP l.o;refine iK 20 aH aH ?_;simp only[hI,il,hG,hA]
 repeat (go_big_quiet_step ((go_at_call 75;exact(Fz _ _ _).mono λ_ _ h=>⟨h.1,_,h.2.symm⟩)))
 refine wpQuiet_nil ?_;intro _ g;have⟨nq,j⟩:=g;subst j;go_wp2_with fail;have n:=aW (an.drewN nq) (ae #[I (eP a.fr b.fr),I (eP a.em b.em),I (eP a.bN b.bN),I (eP a.cp b.cp)] 3);have p:=(gS.o.trans (((a_ an).drewN nq).below gS.o.size (λ_ _ e=>e))).alloc gS.o.size (ae #[I (eP a.fr b.fr),I (eP a.em b.em),I (eP a.bN b.bN),I (eP a.cp b.cp)] 3);refine(FA (b:=an.heap.size) [eP a.fr b.fr,eP a.em b.em,eP a.bN b.bN,eP a.cp b.cp] aI λi av=>?_).mono ?_
 .have m:i=0\/i=1\/i=2\/i=3:=by simp at av;omega
  rcases m with rfl|rfl|rfl|rfl<;>exact bb n rfl
 rintro e _ ⟨rfl,rfl⟩;go_wp2;go_ret;exact⟨rfl,p⟩
def F8(e:aC)(k:dp)(w:ai):az 390 #[aM e,aM k] w λr w'=>r=.returned (I (eC e.k k))/\Below w w w':=by
 have ca:=((bY w.heap.size w).alloc bA (ae e 45)).alloc aI (ae k 43);have b:(w.alloc (ae e 45)).heap.size=w.heap.size+1:=aI;have c:=cm (aW w (ae e 45)) (ae k 43);have a:=aW (w.alloc (ae e 45)) (ae k 43);rw[b]at a
 go_in
 go_wp2_with fail;generalize World.alloc (World.alloc w _) _=an at *;refine aT (AA e.k k an) λaB aj=>?_;exact DK
def F_(a b:aC)(w:ai):az 379 #[aM a,aM b] w λr w'=>r=.returned (I (eC a.k b.k))/\Below w w w':=by
 have ca:=((bY w.heap.size w).alloc bA (ae a 45)).alloc aI (ae b 45);have d:(w.alloc (ae a 45)).heap.size=w.heap.size+1:=aI;have e:=cm (aW w (ae a 45)) (ae b 45);have c:=aW (w.alloc (ae a 45)) (ae b 45);rw[d]at c
 go_in
 go_wp2_with fail;generalize World.alloc (World.alloc w _) _=an at *;refine aT (AA a.k b.k an) λaB aj=>?_;exact DK
def fO(n bm av:aa):aY:=decide (bm<=n)&&decide (n<=av)
def ht(k:dp):aY:=fO k.fr 0 1073741824&&fO k.em 0 2&&fO k.bN 1 9&&fO k.cp 0 15
def pB(n a b:aa)(c:aY)(aq:fO n a b=c)(w:ai):az 293 #[I n,I a,I b] w λe w'=>e=.returned (.bool c)/\w=w':=aq▸F' n a b w
def F9(k:dp)(w:ai):az 292 #[aM k] w λr w'=>r=.returned (.bool (ht k))/\Below w w w':=by
 have ca:=(bY w.heap.size w).alloc bA (ae k 43);have h:=aW w (ae k 43);unfold ht;obtain⟨b0,h1⟩:∃ c,fO k.fr 0 1073741824=c:=⟨_,rfl⟩;obtain⟨bs,h2⟩:∃ c,fO k.em 0 2=c:=⟨_,rfl⟩;obtain⟨ez,a⟩:∃ c,fO k.bN 1 9=c:=⟨_,rfl⟩;obtain⟨dR,e⟩:∃ c,fO k.cp 0 15=c:=⟨_,rfl⟩;have g:=af (pB _ _ _ _ h1);have f:=af (pB _ _ _ _ h2);have d:=af (pB _ _ _ _ a);have b:=af (pB _ _ _ _ e);rw[h1,h2,a,e];cases b0
 .clear f d b
  go_in
  exact LM
 cases bs
 .clear d b
  go_in
  exact Ni
 cases ez
 .clear b
  go_in
  exact MZ
 go_in
 exact MM
def fw(e:aC):aY:=ht e.k&&fO e.cF 0 31&&fO e.dq 0 32768&&fO e.eo (-32768) 32768&&fO e.dJ 0 15&&fO e.le 0 600
def vp(e:aC)(w:ai):az 229 #[aM e] w λr w'=>r=.returned (.bool (fw e))/\Below w w w':=by
 have ca:=(bY w.heap.size w).alloc bA (ae e 45);have j:=af (aW w (ae e 45));unfold fw;obtain⟨bu,m⟩:∃ c,ht e.k=c:=⟨_,rfl⟩;obtain⟨b0,h1⟩:∃ c,fO e.cF 0 31=c:=⟨_,rfl⟩;obtain⟨bs,h2⟩:∃ c,fO e.dq 0 32768=c:=⟨_,rfl⟩;obtain⟨ez,n⟩:∃ c,fO e.eo (-32768) 32768=c:=⟨_,rfl⟩;obtain⟨dR,p⟩:∃ c,fO e.dJ 0 15=c:=⟨_,rfl⟩;obtain⟨fV,q⟩:∃ c,fO e.le 0 600=c:=⟨_,rfl⟩;have i:=af λW=>m▸F9 e.k W;have g:=af (pB _ _ _ _ h1);have f:=af (pB _ _ _ _ h2);have d:=af (pB _ _ _ _ n);have b:=af (pB _ _ _ _ p);have h:=af (pB _ _ _ _ q);rw[m,h1,h2,n,p,q];cases bu
 .clear g f d b h
  go_in
  go_wp2_with fail;refine aT (i.o _) λaB aj=>?_;have ca:=ca.trans (aj.mono ca.size);have a:=(Keeps.bE (S:=aG) aj a7).heap j.o id;have l:=aP a;go_wp2;go_ret;exact⟨aI,ca⟩
 cases b0
 .clear f d b h
  go_in
  go_wp2_with fail;refine aT (i.o _) λaB aj=>?_;have ca:=ca.trans (aj.mono ca.size);have a:=(Keeps.bE (S:=aG) aj a7).heap j.o id;have l:=aP a;exact LM
 cases bs
 .clear d b h
  go_in
  go_wp2_with fail;refine aT (i.o _) λaB aj=>?_;have ca:=ca.trans (aj.mono ca.size);have a:=(Keeps.bE (S:=aG) aj a7).heap j.o id;have l:=aP a;exact Ni
 cases ez
 .clear b h
  go_in
  go_wp2_with fail;refine aT (i.o _) λaB aj=>?_;have ca:=ca.trans (aj.mono ca.size);have a:=(Keeps.bE (S:=aG) aj a7).heap j.o id;have l:=aP a;exact MZ
 cases dR
 .clear h
  go_in
  go_wp2_with fail;refine aT (i.o _) λaB aj=>?_;have ca:=ca.trans (aj.mono ca.size);have a:=(Keeps.bE (S:=aG) aj a7).heap j.o id;have l:=aP a;exact MM
 go_in
 go_wp2_with fail;refine aT (i.o _) λaB aj=>?_;have ca:=ca.trans (aj.mono ca.size);have a:=(Keeps.bE (S:=aG) aj a7).heap j.o id;have l:=aP a;go_wp2_with fail;refine br (g.o _) ?_;go_wp2_with fail;refine br (f.o _) ?_;go_wp2_with fail;refine br (d.o _) ?_;go_wp2_with fail;refine br (b.o _) ?_;go_wp2_with fail;refine br (h.o _) ?_;go_wp2;go_ret;exact⟨aI,ca⟩
def bX(l:ah aC):ah aw:=l.flatMap aC.bt
def ti(l:ah aC):(bX l).length=l.length*9:=by
 induction l with
 | nil=>rfl
 | cons c l a=>simp only[bX,iL,pg]at a⊢;rw[sC,a,jQ,qc];rfl
def th(l:ah aC)(i:J)(h:i<l.length)(j:J)(b:j<9):(bX l)[i*9+j]?=l[i].bt[j]?:=by
 induction l generalizing i with
 | nil=>exact absurd h (k7 _)
 | cons c l a=>
  simp only[bX,iL]at a⊢;cases i with
  | zero=>rw[jL (by simp[aC.bt];omega)];simp
  | succ i=>
   rw[mu (by simp[aC.bt,jQ];omega),show(i+1)*9+j-c.bt.length=i*9+j by simp[aC.bt,jQ];omega];exact a i h8
structure pr(xs:ah aC)(bS cM en:J)(k:dp)(W:ai):ak where
 aq:∀ (j:J) u,(bX xs)[j]?=some u->W.cell? (ad bS (cM+j) ab)=some u
 bM:W.heap[en]?=some (ae k 43 (0,0))
theorem pr.keep{xs:ah aC}{bS cM en:J}{k:dp}{W W':ai}(h:pr xs bS cM en k W)(hk:Keeps aG W W'):pr xs bS cM en k W':=
 ⟨λj u a=>hk.cell (h.aq j u a) id,hk.heap h.bM id⟩
theorem pr.cell{xs:ah aC}{bS cM en:J}{k:dp}{W:ai}(h:pr xs bS cM en k W)(i:J)(av:i<xs.length)(j:J)(a:j<9){u:aw}(b:xs[i].bt[j]?=some u):W.cell? (ad bS (cM+i*9+j) ab)=some u:=by
 rw[iN];exact h.aq _ _ ((th xs i av j a).trans b)
def PL(xs:ah aC){A:b4 Addr}{cap:J}(s:dQ w 9 A xs.length cap (bX xs))(au:xs.length<=1000)(k:dp)(m:J)(hm:m<=xs.length)(X:∀ i (av:i<xs.length),i<m->eC xs[i].k k<0)(V:∀ i (av:i<xs.length),m<=i->¬ eC xs[i].k k<0):az 389 #[ao A xs.length cap,aM k,.func (.func 390) #[] #[]] w λr w'=>
   r=aV #[I m,(decide (∃ h:m<xs.length,eC xs[m].k k=0))]/\Below w w w':=by
 have ca:=(bY w.heap.size w).alloc bA (ae k 43);have R:=aW w (ae k 43);have M:=s.keeps (S:=aG) ((Keeps.refl _ w).alloc (ae k 43)) (λ_ _ _=>id);have H:=af M;have L:=af R;have gS:=af ca;have O:=af X;have N:=af V
 go_in
 go_wp2_with fail;generalize World.alloc w _=bl at *;go_loopg [9,10,11] xs.length (λg i j _ wr=>∃ p q:J,g=q-p/\i=I p/\j=I q/\p<=m/\m<=q/\q<=xs.length/\Keeps aG bl wr)
 case atStart=>exact⟨0,xs.length,rfl,rfl,rfl,c' _,hm,c9 _,Keeps.refl _ _⟩
 obtain⟨p,q,a1,rfl,rfl,ar,P,Q,hk⟩:=hrel;by_cases sd:p<q
 .have aR:(p+q) / 2<xs.length:=U;have s:=H.o.keeps hk (λ_ _ _=>id);obtain⟨bS,cM,rfl,aq⟩:=s.at' U;have C:pr xs bS cM w.heap.size k wr:=⟨aq,hk.heap L.o id⟩;have B:=af C;have l:=af hk;go_upto_region 5 with fail
  have ps:p<=(p+q) / 2/\(p+q) / 2<q:=U;rw[show((p:aa)+(q:aa)) / 2=(((p+q) / 2:J):aa)by omega];generalize (p+q) / 2=h at *;obtain⟨G,a⟩:=hj (F:=λW=>pr xs bS cM w.heap.size k W);have Z:∀ x:bp G,x.to.cell? (ad bS (cM+h*9) ab)=some (I xs[h].k.fr):=λx=>((a _).1 x.held).cell h aR 0 U rfl;have a':∀ x:bp G,x.to.cell? (ad bS (cM+h*9+1) ab)=some (I xs[h].k.em):=λx=>((a _).1 x.held).cell h aR 1 U rfl;have gf:∀ x:bp G,x.to.cell? (ad bS (cM+h*9+2) ab)=some (I xs[h].k.bN):=λx=>((a _).1 x.held).cell h aR 2 U rfl;have g':∀ x:bp G,x.to.cell? (ad bS (cM+h*9+3) ab)=some (I xs[h].k.cp):=λx=>((a _).1 x.held).cell h aR 3 U rfl;have hd:∀ x:bp G,x.to.cell? (ad bS (cM+h*9+4) ab)=some (I xs[h].cF):=λx=>((a _).1 x.held).cell h aR 4 U rfl;have h2:∀ x:bp G,x.to.cell? (ad bS (cM+h*9+5) ab)=some (I xs[h].dq):=λx=>((a _).1 x.held).cell h aR 5 U rfl;have lb:∀ x:bp G,x.to.cell? (ad bS (cM+h*9+6) ab)=some (I xs[h].eo):=λx=>((a _).1 x.held).cell h aR 6 U rfl;have l':∀ x:bp G,x.to.cell? (ad bS (cM+h*9+7) ab)=some (I xs[h].dJ):=λx=>((a _).1 x.held).cell h aR 7 U rfl;have m':∀ x:bp G,x.to.cell? (ad bS (cM+h*9+8) ab)=some (I xs[h].le):=λx=>((a _).1 x.held).cell h aR 8 U rfl;have Y:=λx:bp G=>aP (((a _).1 x.held).bM);have b:=(a _).2 (B.o.keep (Keeps.refl _ wr).drew);have f:=af (λW=>F8 xs[h] k W);exact Lg
 obtain rfl:p=m:=U;obtain rfl:q=p:=U;by_cases E:q<xs.length
 .have aR:=E;have s:=H.o.keeps hk (λ_ _ _=>id);obtain⟨bS,cM,rfl,aq⟩:=s.at' U;have C:pr xs bS cM w.heap.size k wr:=⟨aq,hk.heap L.o id⟩;have B:=af C;have l:=af hk;obtain⟨G,a⟩:=hj (F:=λW=>pr xs bS cM w.heap.size k W);have Z:∀ x:bp G,x.to.cell? (ad bS (cM+q*9) ab)=some (I xs[q].k.fr):=λx=>((a _).1 x.held).cell q aR 0 U rfl;have a':∀ x:bp G,x.to.cell? (ad bS (cM+q*9+1) ab)=some (I xs[q].k.em):=λx=>((a _).1 x.held).cell q aR 1 U rfl;have gf:∀ x:bp G,x.to.cell? (ad bS (cM+q*9+2) ab)=some (I xs[q].k.bN):=λx=>((a _).1 x.held).cell q aR 2 U rfl;have g':∀ x:bp G,x.to.cell? (ad bS (cM+q*9+3) ab)=some (I xs[q].k.cp):=λx=>((a _).1 x.held).cell q aR 3 U rfl;have hd:∀ x:bp G,x.to.cell? (ad bS (cM+q*9+4) ab)=some (I xs[q].cF):=λx=>((a _).1 x.held).cell q aR 4 U rfl;have h2:∀ x:bp G,x.to.cell? (ad bS (cM+q*9+5) ab)=some (I xs[q].dq):=λx=>((a _).1 x.held).cell q aR 5 U rfl;have lb:∀ x:bp G,x.to.cell? (ad bS (cM+q*9+6) ab)=some (I xs[q].eo):=λx=>((a _).1 x.held).cell q aR 6 U rfl;have l':∀ x:bp G,x.to.cell? (ad bS (cM+q*9+7) ab)=some (I xs[q].dJ):=λx=>((a _).1 x.held).cell q aR 7 U rfl;have m':∀ x:bp G,x.to.cell? (ad bS (cM+q*9+8) ab)=some (I xs[q].le):=λx=>((a _).1 x.held).cell q aR 8 U rfl;have Y:=λx:bp G=>aP (((a _).1 x.held).bM);have b:=(a _).2 (B.o.keep (Keeps.refl _ wr).drew);have f:=af (λW=>F8 xs[q] k W);have u:=af (λ(W W':ai) (y:G W) (aj:Below W W W')=>(a W').2 (((a W).1 y).keep (Keeps.bE aj a7)));have bw:=l.o.drew;go_wp2_with fail;refine cB 16 ?_;refine cC (G) (.range 16) 0 16 ?_;refine de (b) (.range 11) 5 ?_;generalize wr.drew=z at *;refine dC 11 λK v=>?_;go_simp;refine aT (f.o z) λaB c=>?_;have d:=u.o _ _ b c;refine v _ _ (d) ?_;refine de (d) [12,13,14,15] 0 ?_;refine mL ?_;have n:=bw.trans (Keeps.bE (S:=aG) c a7);have t:=gS.o.trans (n.below gS.o.size (λ_ _ e=>e));go_wp2_with fail;have D:(eC xs[q].k k == 0)=decide (∃ h:q<xs.length,eC xs[q].k k=0):=by
   by_cases e:eC xs[q].k k=0
   .simp[e,E]
   simp[e]
  go_ret2;exact⟨by rw[<-D];rfl,t⟩
 have t:=gS.o.trans (hk.below gS.o.size (λ_ _ e=>e));have D:decide (∃ h:q<xs.length,eC xs[q].k k=0)=false:=by simp[E]
 obtain rfl:q=xs.length:=U;go_wp2_with fail;go_quiet (fail);have T:=t.trans (((a_ wr).drewN nq).below t.size (λ_ _ e=>e));go_wp2_with fail;go_ret2;exact⟨by rw[D];rfl,T⟩
def fM(x f:aa):a6 aw:=#[ag x,ag 0,ag 0,ag 0,I f,I 3,I 0,I 0,I 0,I 0]
def xJ(x f:aa):(fM x f).toList.all (λv=>v.oneCell')=true:=aH
def G0(w:ai):az 259 #[I 0] w λe w'=>e=.returned (.agg (fM (-2097152) 0))/\Below w w w':=by
 have d:=cm (aW w (ae #[ag 0,ag 0,ag 0,ag 0,I 0,I 0,I 0,I 0,I 0,I 0] 93)) (ae #[ag 0,ag 0,ag 0,ag 0,I 0,I 0,I 0,I 0,I 0,I 0] 93);have a:=aW (w.alloc (ae #[ag 0,ag 0,ag 0,ag 0,I 0,I 0,I 0,I 0,I 0,I 0] 93)) (ae #[ag 0,ag 0,ag 0,ag 0,I 0,I 0,I 0,I 0,I 0,I 0] 93);rw[fF]at a;obtain⟨h,_,b⟩:=dO _ 93 10 (w.heap.size+1) (fM (-2097152) 0) _ sizeOf93 rfl rfl a (xJ _ _);have c:=fe _ (w.heap.size+1) _ (fM (-2097152) 0) 93 a;have f:=b.heap d U;have i:=(((Keeps.refl (λj=>j=w.heap.size\/j=w.heap.size+1) w).alloc (ae #[ag 0,ag 0,ag 0,ag 0,I 0,I 0,I 0,I 0,I 0,I 0] 93)).alloc (ae #[ag 0,ag 0,ag 0,ag 0,I 0,I 0,I 0,I 0,I 0,I 0] 93)).trans (b.mono λ_ _ e=>.inr e);clear d a b;generalize World.setRow _ _ _=an at *;unfold fM at h;have k:=gq (P:=prog) 93 10 (w.heap.size+1) 0 (fM (-2097152) 0) _ _ isAgg93 sizeOf93 rfl c (λj u z=>jS);obtain⟨l,o,g⟩:=dO _ 93 10 w.heap.size (fM (-2097152) 0) _ sizeOf93 rfl rfl f (xJ _ _);have m:=(i.trans (g.mono λ_ _ e=>.inl e)).below (B:=w.heap.size) bA a7;clear c f i g;have n:((0:aa) == 1)=false:=bq
 go_in
 go_wp2_with first|refine c8 h rfl rfl rfl rfl ?_|refine dm k rfl rfl rfl ?_|refine c8 l rfl rfl rfl rfl ?_
 refine cU (v:=.agg (fM (-2097152) 0)) LV rfl ?_;exact⟨rfl,m⟩
def G1(w:ai):az 259 #[I 1] w λe w'=>e=.returned (.agg (fM 2097152 32768))/\Below w w w':=by
 have h:=cm (aW w (ae #[ag 0,ag 0,ag 0,ag 0,I 0,I 0,I 0,I 0,I 0,I 0] 93)) (ae #[ag 0,ag 0,ag 0,ag 0,I 0,I 0,I 0,I 0,I 0,I 0] 93);have b:=aW (w.alloc (ae #[ag 0,ag 0,ag 0,ag 0,I 0,I 0,I 0,I 0,I 0,I 0] 93)) (ae #[ag 0,ag 0,ag 0,ag 0,I 0,I 0,I 0,I 0,I 0,I 0] 93);rw[fF]at b;obtain⟨f,_,d⟩:=dO _ 93 10 (w.heap.size+1) (fM (-2097152) 0) _ sizeOf93 rfl rfl b (xJ _ _);have a:=fe _ (w.heap.size+1) _ (fM (-2097152) 0) 93 b;have i:=d.heap h U;have m:=(((Keeps.refl (λj=>j=w.heap.size\/j=w.heap.size+1) w).alloc (ae #[ag 0,ag 0,ag 0,ag 0,I 0,I 0,I 0,I 0,I 0,I 0] 93)).alloc (ae #[ag 0,ag 0,ag 0,ag 0,I 0,I 0,I 0,I 0,I 0,I 0] 93)).trans (d.mono λ_ _ e=>.inr e);clear h b d;generalize World.setRow _ _ _=an at *;unfold fM at f;have g0:=bJ a;have bu:=aP a;have g:=bW a 0 (ag 2097152);have c:=bW g 4 (I 32768);rw[show((fM (-2097152) 0).setIfInBounds 0 (ag 2097152)).setIfInBounds 4 (I 32768)=fM 2097152 32768 from rfl]at c;have k:=eO (eO i (p:=ad (w+1) 0 ab) aI (ag 2097152)) (p:=ad (w+1) 4 ab) aI (I 32768);have n:=(m.setCell (p:=ad (w+1) 0 ab) (.inr rfl) (ag 2097152)).setCell (p:=ad (w+1) 4 ab) (.inr rfl) (I 32768);have q:=gq (P:=prog) 93 10 (w.heap.size+1) 0 (fM 2097152 32768) _ _ isAgg93 sizeOf93 rfl c (λj u z=>jS);obtain⟨r,o,l⟩:=dO _ 93 10 w.heap.size (fM 2097152 32768) _ sizeOf93 rfl rfl k (xJ _ _);have s:=(n.trans (l.mono λ_ _ e=>.inl e)).below (B:=w.heap.size) bA a7;clear a i m l g c k n
 go_in
 go_upto_region 2 with(first|(refine c8 f rfl rfl rfl rfl ?_)|fail)
 clear f;go_upto_region 4 with fail
 generalize (an.setCell (ad (w+1) 0 ab) (ag 2097152)).setCell (ad (w+1) 4 ab) (I 32768)=bn at *;go_wp2_with first|refine dm q rfl rfl rfl ?_|refine c8 r rfl rfl rfl rfl ?_
 refine cU (v:=.agg (fM 2097152 32768)) LV rfl ?_;exact⟨rfl,s⟩
def Jc(w:ai):(Instr.build 94 #[(0,.agg (fM (-2097152) 0)),(1,.agg (fM 2097152 32768))]).run prog w=.ok (.agg (fM (-2097152) 0++fM 2097152 32768)) w:=aH
def Vn(aO:aa)(w:ai):(Instr.build 99 #[(1,aK aO),(3,I 600),(4,.agg (fM (-2097152) 0++fM 2097152 32768))]).run prog w=.ok (.agg (bo (k2 aO 0))) w:=aH
section
variable{P:Program}{o:Oper}{a:Act}{Q:Exit->Act->ai->ak}{ops:a6 Oper}{rest:ah Oper}{w':ai}{v:aw}
theorem CN{T:TypeId}{i j k:J}{x y z:Operand}{u b c:aw}(hrun:(Instr.build T #[(i,u),(j,b),(k,c)]).run P w=.ok v w')(d:o.guard=none)(e:o.op=.build T #[(i,x),(j,y),(k,z)])(f:a.eval x=u)(g:a.eval y=b)(l:a.eval z=c)(h:wpList P ops Q rest (a.put o.dst v) w'):wpList P ops Q (o :: rest) a w:=
 y1 hrun d e (by simp[f,g,l]) h
end
def QR(aO:aa)(w:ai):az 193 #[aK aO] w λe w'=>e=.returned (.agg (bo (k2 aO 0)))/\Below w w w':=by
 have f:=lG w;have g:=(a_ w).alloc (ae (bo cf) 99);have c:=aW w (ae (bo cf) 99);have j:=Jc;have al:=Vn aO;generalize fM (-2097152) 0++fM 2097152 32768=pl at *
 go_in
 go_wp2_with refine ea f rfl rfl ?_
 generalize w.alloc (ae (bo cf) 99)=bl at *;refine(G0 _).mono ?_;rintro e an ⟨rfl,a⟩;go_wp2_with fail;refine(G1 _).mono ?_;rintro e aB ⟨rfl,b⟩;have h:=(g.fE a).fE b;have d:=(((a_ bl).fE a).fE b).heap c id;obtain⟨m,l,i⟩:=dO aB 99 60 w.heap.size (bo (k2 aO 0)) _ sizeOf99 (eh _) (eh _) d (ff.2 (nO _));have k:Below w w (aB.setRow w.heap.size (bo (k2 aO 0))):=((h.mono λ_ _ x=>x.elim).trans i).below bA a7;generalize aB.setRow w.heap.size (bo (k2 aO 0))=bn at *;clear c g a b d h i f;go_wp2_with first|refine su (j _) rfl rfl rfl rfl ?_|refine CN (al _) rfl rfl rfl rfl rfl ?_|refine c8 m rfl rfl rfl rfl ?_
 refine cU (v:=.agg (bo (k2 aO 0))) (by simp[results,results193,Act.put,asAddr,loadVar,loadCells,isAgg99,sizeOf99,l]) rfl ?_;exact⟨rfl,k⟩
variable{g bg:J}{aO fr:aa}{f:J}
def Vs(v:J->aa)(bg:J)(w:ai):(Instr.build 458 #[(0,.agg (bo v)),(1,.pointer (some (ad bg 0 ab)))]).run prog w=.ok (.agg (gP v bg)) w:=aH
variable{b:fG}{x:ck}
def o5(y:Fd)(n:J):Fd:={y with cR:=sh y.first y.cR n (n3 y.K n y.last)}
def j6(x:ck)(n j:J):ck:={x with f:=λi=>if i<j then o5 (x.f i) n else x.f i}
def X0(x:ck)(n:J):j6 x n 0=x:=by simp[j6]
def Km(x:ck)(n j:J):{j6 x n j with f:=eK (j6 x n j).f j (o5 (x.f j) n)}=j6 x n (j+1):=by
 unfold j6 eK;simp only[ck.mk.injEq,true_and,and_true]
 funext i
 exact Lr
def IsCore.Wf(h:IsCore w b x)(n:J)(au:n<=1000000):IsCore (w.setCell (ad b.c 7 ab) (I (n:aa))) b {x with now:=n}:=by
 have ok:=h.ok;have hk:=(Keeps.refl (λj=>j=b.c) w).setCell (p:=ad b.c 7 ab) rfl (I (n:aa));have d:=ok.bu;have f:=ok.b0;refine⟨by simpa using bW h.head 7 (I (n:aa)),λi av=>IsFeed.keeps (h.fd i av) hk λj h1 h2 a=>?_,h.st.keeps hk (λe=>ok.FN e.symm) (λe=>ok.Ad e.symm),ok,h.aJ,au,h.dG,h.wn⟩
 have:i=0\/i=1:=U
 rcases this with rfl|rfl<;>omega
def iJ(v:J->aa):aa:=more 1 (mc v)
def Qx(v:J->aa)(aX:s7 v)(d:kZ v=true)(f:(mc v).length<=100000)(w:ai):az 286 #[.agg (bo v)] w λe w'=>e=aV #[aK (iJ v),I 0]/\Below w w w':=by
 have a:=af (Qw v aX);rw[d]at a;simp only[if_true]at a;have al:=af (Cm ⟨(mc v).toArray⟩ (by show(mc v).toArray.size<=_;unfold maxLen;simp;omega));rw[show more 1 (⟨(mc v).toArray⟩:cc).data.toList=iJ v by simp[iJ]]at al;generalize (⟨(mc v).toArray⟩:cc)=X at *;generalize iJ v=m at *;have aj:=(bY w.heap.size w).alloc bA (ae (bo v) 99);have c:=nN (aW w (ae (bo v) 99))
 go_in
 go_wp2_with refine dm c rfl rfl rfl ?_
 generalize w.alloc (ae (bo v) 99)=bl at *;refine aT (a.o _) λan b=>?_;simp only;go_wp2_with fail;refine br (al.o _) ?_;go_wp2;go_ret2;exact⟨rfl,aj.trans (b.mono aj.size)⟩
def OV(h:IsCore w b x)(fr:aa)(r:0<=fr/\fr<=1000000)(v:J->aa)(f:gL x.L fr=some v)(aX:s7 v)(p:kZ v=true)(l:(mc v).length<=100000):az 219 #[b.c,I fr] w λe w'=>e=aV #[aK (iJ v),true]/\Keeps aG w w':=by
 have al:=af (FG h fr U);rw[f]at al;simp only[hK,pa]at al;have g:=af (Qx v aX p l);generalize iJ v=m at *
 go_in
 go_wp2_with fail;refine aT al.o λan d=>?_;have a:=aW an (ae (bo cf) 99);obtain⟨q,_,k⟩:=dO (an.alloc (ae (bo cf) 99)) 99 60 an.heap.size (bo v) _ sizeOf99 (eh _) (eh _) a (ff.2 (nO v));have n:=nN (fe _ an.heap.size _ (bo v) 99 a);have s:=d.size;simp only;generalize (an.alloc (ae (bo cf) 99)).setRow an.heap.size (bo v)=aB at *;go_wp2_with first|refine ea (lG an) rfl rfl ?_|refine c8 q rfl rfl rfl rfl ?_|refine dm n rfl rfl rfl ?_
 refine aT (g.o _) λbn i=>?_;simp only;go_wp2;go_ret2;exact⟨rfl,(cK d (((Keeps.refl (λj=>j=an) an).alloc (ae (bo cf) 99)).trans k) a7).fE i⟩
section
open Go.Maps
attribute [local go_sem] Oper.semAt_some
variable{w w':ai}
def PD(f:aw)(w:ai):az 179 #[ao none 0 0,I 0,I 0,f] w λe w'=>e=aV #[]/\w=w':=by
 go_in
 go_wp2_with fail;go_loopg [8] 0 (λg i wr=>i=I 1/\w=wr)
 case atStart=>exact⟨rfl,rfl⟩
 obtain⟨rfl,rfl⟩:=hrel;go_wp2;go_end0;exact⟨rfl,rfl⟩
def PJ(k:aa)(f:aw)(w:ai):az 121 #[ao none 0 0,I 0,I 0,I k,f] w λe w'=>e=aV #[]/\w=w':=by
 go_in
 go_wp2_with fail;go_loopg [1,2] 0 (λg a b wr=>a=I 0/\b=I 0/\w=wr)
 case atStart=>exact⟨rfl,rfl,rfl⟩
 obtain⟨rfl,rfl,rfl⟩:=hrel;go_wp2_with fail;refine(PD f _).mono ?_;rintro e _ ⟨rfl,rfl⟩;go_wp2;refine cU (v:=aV #[]) jc rfl ?_;exact⟨rfl,rfl⟩
def Oi(w:ai):az 122 #[.int .u64 0] w λe w'=>e=.returned (I 0)/\w=w':=by
 have h:=af (Fl 0 U)
 go_in
 go_wp2_with fail;refine(h.o _).mono ?_;rintro e _ ⟨rfl,rfl⟩;go_wp2;go_ret;exact⟨rfl,rfl⟩
def PM(f:aw)(w:ai):az 72 #[ao none 0 0,f] w λe w'=>e=aV #[]/\w=w':=by
 go_in
 go_wp2_with fail;refine(Oi _).mono ?_;rintro e _ ⟨rfl,rfl⟩;go_wp2_with fail;refine(PJ _ f _).mono ?_;rintro e _ ⟨rfl,rfl⟩;go_wp2;go_end0;exact⟨rfl,rfl⟩
end
structure j' where
 cn:aC
 late:aa
 cut:aa
deriving DecidableEq
instance:Coe j' (a6 aw):=⟨λe=>#[I e.cn.k.fr,I e.cn.k.em,I e.cn.k.bN,I e.cn.k.cp,I e.cn.cF,I e.cn.dq,I e.cn.eo,I e.cn.dJ,I e.cn.le,I 0,I e.late,I e.cut]⟩
structure j'.wf(v:j'):ak where
 cn:fw v.cn=true
 cF:1<=v.cn.cF/\v.cn.cF<=9
 late:0<=v.late/\v.late<=1000000000
 cut:v.cut=-1\/v.cut=0
def Oc(n:aa)(w:ai):az 294 #[I n] w λe w'=>e=.returned (.bool (fO n 1 9))/\w=w':=by
 unfold fO;by_cases h1:1<=n
 .by_cases h2:n<=9
  .go_in
   exact DM
  go_in
  go_wp2;go_ret;exact⟨by simp[h2],rfl⟩
 go_in
 go_wp2;go_ret;exact⟨bU,rfl⟩
def Aa(n:aa)(h:1<=n/\n<=9)(w:ai):az 230 #[I n] w λe w'=>e=aV #[I (48*n),I 0]/\w=w':=by
 have aj:fO n 1 9=true:=by unfold fO;simp[h]
 go_in
 exact Lw
def uk(n a b:aa)(au:a<=n/\n<=b)(w:ai):az 331 #[I n,I a,I b] w λe w'=>e=.returned (.bool true)/\w=w':=by
 go_in
 go_wp2;go_ret;exact⟨aI,rfl⟩
def tU{e:aC}(h:fw e=true):ht e.k=true/\(0<=e.cF/\e.cF<=31)/\(0<=e.dq/\e.dq<=32768)/\(-32768<=e.eo/\e.eo<=32768)/\(0<=e.dJ/\e.dJ<=15)/\(0<=e.le/\e.le<=600):=by
 unfold fw fO at h;simp only[ee,gg]at h;exact⟨h.1.1.1.1.1,h.1.1.1.1.2,h.1.1.1.2,h.1.1.2,h.1.2,h.2⟩
def CB(v:j')(h:v.wf)(w:ai):az 300 #[aM v] w λe w'=>e=.returned (.bool true)/\Below w w w':=by
 have⟨h1,h2,i,c⟩:=h;have⟨e,dz,b⟩:=v;dsimp only at *;have ca:=(bY w.heap.size w).alloc bA (ae #[I e.k.fr,I e.k.em,I e.k.bN,I e.k.cp,I e.cF,I e.dq,I e.eo,I e.dJ,I e.le,I 0,I dz,I b] 175);have j:=aW w (ae #[I e.k.fr,I e.k.em,I e.k.bN,I e.k.cp,I e.cF,I e.dq,I e.eo,I e.dJ,I e.le,I 0,I dz,I b] 175);have⟨_,_,d,f,_,g⟩:=tU h1;have a:=af (uk 0 0 1099511627776 U)
 go_in
 go_wp2_with fail;refine br ((Aa e.cF h2) _) ?_;go_wp2_with fail;refine br ((uk e.dq 0 32768 d) _) ?_;go_wp2_with fail;refine br (((uk e.eo (-32768) 32768 f)) _) ?_;go_wp2_with fail;refine br ((uk e.le 0 600 g) _) ?_;go_wp2_with fail;refine br (a.o _) ?_;go_wp2_with fail;refine br ((uk dz 0 1099511627776 U) _) ?_;rcases c with rfl|rfl
 .go_wp2;go_ret;exact⟨rfl,ca⟩
 go_wp2_with fail;refine br (a.out _) ?_;go_wp2;go_ret;exact⟨rfl,ca⟩
def X7(v:j')(h:v.wf)(w:ai):az 297 #[aM v,I 0] w λe w'=>e=.returned (.bool true)/\Below w w w':=by
 have ca:=(bY w.heap.size w).alloc bA (ae v 175);have b:=aW w (ae v 175);have a:=af (CB v h (w.alloc (ae v 175)))
 go_in
 go_wp2_with fail;generalize w.alloc _=an at *;refine aT a.o λaB aj=>?_;go_wp2_with fail;refine br (uk 0 0 2199023255552 U _) ?_;exact DK
def oM(e:aC):aa:=if 0<e.le then e.le*32 else 48*e.cF
def X8(e:aC)(h:fw e=true)(bj:1<=e.cF/\e.cF<=9)(w:ai):az 332 #[aM e] w λr w'=>r=.returned (I (oM e))/\Below w w w':=by
 have ca:=(bY w.heap.size w).alloc bA (ae e 45);have a:=aW w (ae e 45);have⟨_,_,_,_,_,b⟩:=tU h;by_cases ar:0<e.le
 .have aX:oM e=e.le*32:=aD ar;rw[aX]
  go_in
  go_wp2_with fail;go_ret;exact⟨rfl,ca⟩
 have aX:oM e=48*e.cF:=aA ar;rw[aX]
 go_in
 go_wp2_with fail;refine br ((Aa e.cF bj) _) ?_;go_wp2;go_ret;exact⟨rfl,ca⟩
def mM(v:j'):aY:=decide (oM v.cn<=v.late)
def xy(v:j'):aa:=if v.cut=-1 then max (oM v.cn-v.late) 0 else min (max (oM v.cn-v.late) 0) 64
def Pp(v:j'):(decide (xy v<=0))=mM v:=by
 unfold mM xy;rw[decide_eq_decide];split<;>omega
def Sg{e:aC}(h:fw e=true)(bj:1<=e.cF/\e.cF<=9):0<=oM e/\oM e<=20000:=by
 have⟨_,_,_,_,_,a⟩:=tU h;unfold oM;split<;>omega
def X4(v:j')(h:v.wf)(w:ai):az 298 #[aM v] w λr w'=>r=.returned (I (xy v))/\Keeps aG w w':=by
 have G:=Sg h.cn h.cF;have l:=af (CB v h (w.alloc (ae v 175)));have i:=af (X8 v.cn h.cn h.cF);obtain⟨e,dz,d⟩:=v;obtain⟨h1,h2,F,m⟩:=h;dsimp only at *;have A:=(a_ w).alloc (ae #[I e.k.fr,I e.k.em,I e.k.bN,I e.k.cp,I e.cF,I e.dq,I e.eo,I e.dJ,I e.le,I 0,I dz,I d] 175);have p:=aW w (ae #[I e.k.fr,I e.k.em,I e.k.bN,I e.k.cp,I e.cF,I e.dq,I e.eo,I e.dJ,I e.le,I 0,I dz,I d] 175);unfold xy;dsimp only;generalize oM e=n at *;obtain⟨e9,hm⟩:∃ e9,max (n-dz) 0=e9:=⟨_,rfl⟩;have H:0<=e9/\e9<=20000:=U;have E:IntKind.i64.wrap (0+e9)=e9:=by rw[Int.zero_add];exact et _ U
 have c:=b8 p A;rw[hm];rcases m with rfl|rfl
 all_goals
  go_in
  go_wp2_with fail;generalize w.alloc _=an at *;refine aT l.out λaB aj=>?_;have g:=Keeps.bE (S:=aG) aj a7;have q:=g.heap c.out.1 id;have B:=(c.out.2.trans g).trans (a_ aB).drew;have b:=(a_ aB).drew.heap q id;go_wp2_with fail;have L:=ie (S:=aG) (w:=aB.drew) b id;have D:∀ W,(∃ x:gU aG aB.drew,W=x.to)->(Instr.loadAt 45 w.heap.size).run prog W=.ok (aM e) W:=λW ⟨x,z⟩=>by
   rw[z];refine gq (P:=prog) 45 9 w.heap.size 0 e _ _ isAgg45 sizeOf45 rfl (x.keeps.heap b id) (λj u f=>?_);rw[gv];have y:=(j8.1 f).1;rw[<-f]
   match j,y with
   | 0,_=>rfl
   | 1,_=>rfl
   | 2,_=>rfl
   | 3,_=>rfl
   | 4,_=>rfl
   | 5,_=>rfl
   | 6,_=>rfl
   | 7,_=>rfl
   | 8,_=>rfl
  refine cB 11 ?_;refine oS (λ_=>False) [0,1,2,3,5,6] [4,7,8] 2 ?_
  repeat (first|(refine j7 D rfl rfl rfl ?_;simp only[Act.put,c_])|go_big_quiet_step (fail))
  refine wpQuiet_nil ?_;refine f_ λK o=>?_;go_simp;refine aT (i.out _) λbn t=>?_;have a:=Keeps.bE (S:=aG) t a7;refine o _ _ (cX (a)) ?_;refine ig (cX (a)) ?_;refine nM (cX (a)) ?_;have s:=a.heap b id;have C:=B.trans a;have M:=aP s;refine fk (λ_=>False) [9,10] [] 0 (hC ?_);refine ih ?_;go_wp2_with fail;go_ret;exact⟨by rw[<-hm];rfl,C⟩
def X5(v:j')(h:v.wf)(w:ai):az 234 #[aM v,I 0] w λr w'=>r=.returned (.bool (mM v))/\Keeps aG w w':=by
 have a:=aW w (ae v 175);have d:=af (X7 v h (w.alloc (ae v 175)));have e:=af (Pp v);have b:=b8 a ((a_ w).alloc (ae v 175));have j:=aP a
 go_in
 go_wp2_with fail;generalize w.alloc _=an at *;refine aT d.o λaB aj=>?_;have c:=Keeps.bE (S:=aG) aj a7;have a:=c.heap b.o.1 id;have g:=b.o.2.trans c;have j:=aP a;go_wp2_with fail;refine aT ((λW=>X4 v h W) _) λbn f=>?_;have i:=g.trans f;go_wp2;go_ret;exact⟨by rw[<-e.o];rfl,i⟩
def X2(v:j')(h:v.wf)(w:ai):az 237 #[aM v,I 0] w λr w'=>r=.returned (aM #[I v.cn.k.fr,I v.cn.k.em,I v.cn.k.bN,I v.cn.k.cp,I v.cn.cF,I v.cn.dq,I v.cn.eo,I v.cn.dJ,I v.cn.le,I 0,I v.late,I 0])/\Keeps aG w w':=by
 have q:(w.alloc (ae v 175)).heap.size=w.heap.size+1:=aI;have a:=cm (aW w (ae v 175)) (ae n' 175);have d:=aW (w.alloc (ae v 175)) (ae n' 175);rw[q]at d;have i:=af (CB v h ((w.alloc (ae v 175)).alloc (ae n' 175)));have c:=b8 a (bD d (((a_ w).alloc (ae v 175)).alloc (ae n' 175)));obtain⟨e,dz,x⟩:=v;obtain⟨h1,h2,A,n⟩:=h;rcases n with rfl|rfl
 .go_in
  go_wp2_with fail;generalize World.alloc (World.alloc w _) _=an at *;refine aT i.out λaB aj=>?_;have b:=Keeps.bE (S:=aG) aj a7;have a:=b.heap c.out.1 id;have d:=b.heap c.out.2.1 id;have s:=c.out.2.2.trans b;have t:=aP a;have y:=bJ a;go_upto_region 3 with fail
  have eI:=(Keeps.refl (λj=>j=w) aB).setCell (p:=ad w 11 ab) rfl (I 0);have o:=gq (P:=prog) 175 12 w.heap.size 0 #[I e.k.fr,I e.k.em,I e.k.bN,I e.k.cp,I e.cF,I e.dq,I e.eo,I e.dJ,I e.le,I 0,I dz,I 0] _ _ isAgg175 sizeOf175 rfl ((bW a 11 (I 0))) (λj u z=>jS);obtain⟨g,l,f⟩:=dO _ 175 12 (w.heap.size+1) #[I e.k.fr,I e.k.em,I e.k.bN,I e.k.cp,I e.cF,I e.dq,I e.eo,I e.dJ,I e.le,I 0,I dz,I 0] _ sizeOf175 rfl rfl ((eI.heap d a7)) rfl;have m:=cK ((cK s eI a7)) f a7;go_wp2_with first|refine dm o rfl rfl rfl ?_|refine c8 g rfl rfl rfl rfl ?_
  exact M4
 go_in
 go_wp2_with fail;generalize World.alloc (World.alloc w _) _=an at *;refine aT i.out λaB aj=>?_;have b:=Keeps.bE (S:=aG) aj a7;have a:=b.heap c.out.1 id;have t:=aP a;go_upto_region 3 with fail
 obtain⟨g,l,f⟩:=dO _ 175 12 (w.heap.size+1) #[I e.k.fr,I e.k.em,I e.k.bN,I e.k.cp,I e.cF,I e.dq,I e.eo,I e.dJ,I e.le,I 0,I dz,I 0] _ sizeOf175 rfl rfl ((b.heap c.out.2.1 id)) rfl;have m:=cK ((c.out.2.2.trans b)) f a7;go_wp2_with first|refine dm (gq (P:=prog) 175 12 w.heap.size 0 #[I e.k.fr,I e.k.em,I e.k.bN,I e.k.cp,I e.cF,I e.dq,I e.eo,I e.dJ,I e.le,I 0,I dz,I 0] _ _ isAgg175 sizeOf175 rfl (a) (λj u z=>jS)) rfl rfl rfl ?_|refine c8 g rfl rfl rfl rfl ?_
 exact M4
end Go.Proofs.YtalagblioepadaaGreatDoor
