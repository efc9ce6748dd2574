/- The proof, part 33. -/
import Derived.Test.YtalagblioepadaaGreatDoorZd32
import Derived.DeepKeys5
import Derived.Test.YtalagblioepadaaGreatDoorZd26
namespace Go.Proofs.YtalagblioepadaaGreatDoor
set_option linter.all false
open Proofs.Tryz List Go.RowKit Go.Maps
set_option maxRecDepth 100000
set_option maxHeartbeats 1000000
def M9{p:al}(h:p:=by simp[results,Act.put,results259,asAddr,loadVar,loadCells,isAgg93,sizeOf93,o]):p:=h
def Mo{p:al}(h:p:=by
 have u:=ag (λ(W W':aj) (y:G W) (ak:Below W W W')=>(a W').2 (((a W).1 y).keep (Keeps.bJ ak a8)));have bA:=l.o.drew;go_wp2_with fail;refine cJ 8 ?_;refine cK (G) (.range 8) 0 8 ?_;refine dK (b) (.range 6) 2 ?_;generalize wr.drew=z at *;refine eH 6 λK v=>?_;go_simp;refine aW (f.o z) λaD c=>?_;have d:=u.o _ _ b c;refine v _ _ (d) ?_;refine dK (d) [7] 0 ?_;refine ox ?_;have n:=bA.trans (Keeps.bJ (S:=aG) c a8);by_cases ps:h<m
 .have an:=O.o h aS ps;go_wp2_with fail;go_roundg (q-(h+1))
  case rel=>exact⟨h+1,q,rfl,by go_num,rfl,U,P,Q,n⟩
  omega
 have an:=N.o h aS U;go_wp2_with fail;go_roundg (h-p)
 case rel=>exact⟨p,h,rfl,rfl,rfl,au,U,U,n⟩
 omega
 ):p:=h
def N4{p:al}(h:p:=by
 go_wp2_with fail;refine bE (g.o _) ?_;go_wp2_with fail;refine bE (f.o _) ?_;go_wp2_with fail;refine bE (d.o _) ?_;go_wp2_with fail;refine bE (b.o _) ?_;go_wp2;go_ret;exact⟨aM,b'⟩
 ):p:=h
def Fa{p:al}(h:p:=by
 go_wp2_with fail;refine(GF _ _).mono ?_;rintro e _ ⟨rfl,rfl⟩;go_wp2_with fail;refine(GF _ _).mono ?_;rintro e _ ⟨rfl,rfl⟩;go_wp2;go_ret;exact⟨rfl,rfl⟩
 ):p:=h
def Of{p:al}(h:p:=by
 go_wp2_with fail;refine bE (g.o _) ?_;go_wp2_with fail;refine bE (f.o _) ?_;go_wp2_with fail;refine bE (d.o _) ?_;go_wp2;go_ret;exact⟨aM,b'⟩
 ):p:=h
def Oj{p:al}(h:p:=by
 refine dx (v:=aL #[I e.k.fr,I e.k.em,I e.k.bp,I e.k.cg,I e.cy,I e.dd,I e.dP,I e.dw,I e.le,I 0,I db,I 0]) l ?_;exact⟨rfl,m⟩
 ):p:=h
def OF{p:al}(h:p:=by
 go_wp2_with fail;refine bE (g.o _) ?_;go_wp2_with fail;refine bE (f.o _) ?_;go_wp2;go_ret;exact⟨aM,b'⟩
 ):p:=h
def MI{p:al}(h:p:=by
 go_wp2_with fail;refine bE (ak▸PB n w) ?_;go_wp2;go_ret2;exact⟨rfl,rfl⟩
 ):p:=h
def M0{p:al}(h:p:=by
 go_wp2_with fail;refine bE (g.o _) ?_;go_wp2;go_ret;exact⟨aM,b'⟩
 ):p:=h
def EH{p:al}(h:p:=by
 go_wp2;go_ret;exact⟨rfl,(b'.trans (ak.mono b'.size))⟩
 ):p:=h
def mC:Keyed prog 43:=Keyed.of_law (deep_law_gate aI (rZ aI) (rZ aI) aI aI)
def ua:Keyed prog 3:=int_keyed underlying3
section
open Go.Maps
variable{w w':aj}
def QU(f:ay)(w:aj):aA 339 #[aq none 0 0,f] w λe w'=>e=.returned (I (-1))/\w=w':=by
 go_in
 go_wp2_with fail;go_loopg [8] 0 (λg i wr=>i=I 0/\w=wr)
 case atStart=>exact⟨rfl,rfl⟩
 obtain⟨rfl,rfl⟩:=hrel;go_wp2;go_ret;exact⟨rfl,rfl⟩
def QS(f:ay)(w:aj):aA 316 #[aq none 0 0,f] w λe w'=>e=.returned (.bool false)/\w=w':=by
 go_in
 go_wp2_with fail;refine bE (QU f _) ?_;go_wp2;go_ret;exact⟨rfl,rfl⟩
attribute [local go_sem] Oper.semAt_some
end
section
variable{w w':aj}
def lz(aJ:aa)(f:J)(j:J):aa:=if j=0 then f else if j=1 then aJ else if j=3 then 600-f else if j=4 then -2097152 else if j=9 then 3 else if j=14 then 2097152 else if j=18 then 32768 else if j=19 then 3 else 0
def hf(v:J->aa)(bl:J):a7 ay:=(br v).push bl
def zq(v:J->aa)(bl:J):(hf v bl).size=61:=by simp[hf,et]
def zo(v:J->aa)(bl:J)(j:J)(a:j<60):(hf v bl)[j]?=some (.int (dA j) (v j)):=by
 rw[hf,pQ,aB (by rw[et];omega),fD _ a]
def XF(v:J->aa)(bl:J)(o:J)(x:aa)(h:o<60):(hf v bl).setIfInBounds o (.int (dA o) x)=hf (bK v o x) bl:=by
 unfold hf;rw[<-yT];apply pP;intro i;by_cases e:o=i
 .subst e;rw[zN AB,pQ,aB AB,zN (by rw[et];omega)]
 rw[w1 e,pQ,pQ,w1 e];simp
def Zh(v:J->aa)(o:J):bK v o (v o)=v:=by
 funext j
 unfold bK;split
 .rename_i h;rw[h]
 rfl
namespace IsStage
variable{g bl:J}{v:J->aa}{f:aa}
end IsStage
def Hj(n a b:aa)(w:aj):aA 293 #[I n,I a,I b] w λe w'=>e=.returned (.bool (decide (a<=n)&&decide (n<=b)))/\w=w':=by
 by_cases h1:a<=n
 .by_cases h2:n<=b
  .go_in
   exact EJ
  go_in
  go_wp2;go_ret;exact⟨by simp[h2],rfl⟩
 go_in
 exact MG
def Q1(f:aa)(b:0<=f/\f<=1073741824)(w:aj):aA 323 #[I f] w λe w'=>e=aY #[w.heap.size,I 0]/\w.alloc (af #[I f,aq none 0 0] 476)=w':=by
 have a:=Hj f 0 1073741824;rw[ei b.1,ei b.2]at a
 go_in
 go_wp2_with fail;refine bE (a _) ?_;go_wp2;go_ret2;exact⟨rfl,rfl⟩
end
variable{w w':aj}
def e1(a b:aa):aa:=if a<b then -1 else if b<a then 1 else 0
def GF(a:aa)(w:aj):aA 123 #[I a] w λe w'=>e=.returned (.bool false)/\w=w':=by
 go_in
 go_wp2;go_ret;exact⟨aM,rfl⟩
def GC(a b:aa)(w:aj):aA 75 #[I a,I b] w λe w'=>e=.returned (I (e1 a b))/\w=w':=by
 unfold e1;by_cases h1:a<b
 .rw[aE h1]
  go_in
  exact Fa
 rw[aB h1];by_cases h2:b<a
 .rw[aE h2]
  go_in
  exact Fa
 rw[aB h2]
 go_in
 exact Fa
def qj:ah aa->aa
 | []=>0
 | a :: l=>if a=0 then qj l else a
def GD{b:J}(l:ah aa)(p:l.length<=1000)(h:∀ i (ax:i<l.length),w.cell? (ae b i ad)=some (I l[i])):aA 74 #[aq (some (ae b 0 ad)) l.length l.length] w λe w'=>e=.returned (I (qj l))/\w=w':=by
 have H:=ag h;clear h
 go_in
 go_wp2_with fail;go_loopg [5,8] l.length (λg _ i wr=>∃ j:J,g=l.length-j/\j<=l.length/\i=I j/\qj (l.drop j)=qj l/\wr=w)
 case atStart=>exact⟨0,rfl,de _,rfl,rfl,rfl⟩
 obtain⟨j,aZ,n,rfl,a,rfl⟩:=hrel;by_cases k:j<l.length
 .have m:=H.o j k;rw[pH k]at a;by_cases d:l[j]=0
  .rw[d]at m;have c:qj (l.drop (j+1))=qj l:=by rw[<-a];show _=if l[j]=0 then _ else _;rw[aE d]
   have f:=ag c;clear a c;go_wp2_with fail;go_roundg (l.length-(j+1))
   case rel=>exact⟨j+1,rfl,U,by go_num,f.o,rfl⟩
   omega
  have h1:(l[j] != 0)=true:=by simpa using d
  have c:qj l=l[j]:=by rw[<-a];show(if l[j]=0 then _ else _)=_;rw[aB d]
  have f:=ag c;clear a c;go_wp2_with fail;go_ret;exact⟨by rw[f.o];rfl,rfl⟩
 obtain rfl:j=l.length:=U;rw[drop_length]at a;go_wp2_with fail;go_ret;exact⟨by rw[<-a];rfl,rfl⟩
structure cU where
 fr:aa
 em:aa
 bp:aa
 cg:aa
deriving DecidableEq
instance:Coe cU (a7 ay):=⟨λe=>#[I e.fr,I e.em,I e.bp,I e.cg]⟩
structure aC where
 k:cU
 cy:aa
 dd:aa
 dP:aa
 dw:aa
 le:aa
deriving DecidableEq
instance:Coe aC (a7 ay):=⟨λe=>#[I e.k.fr,I e.k.em,I e.k.bp,I e.k.cg,I e.cy,I e.dd,I e.dP,I e.dw,I e.le]⟩
def aC.bu(e:aC):ah ay:=[I e.k.fr,I e.k.em,I e.k.bp,I e.k.cg,I e.cy,I e.dd,I e.dP,I e.dw,I e.le]
def eN(a b:cU):aa:=qj [e1 a.fr b.fr,e1 a.em b.em,e1 a.bp b.bp,e1 a.cg b.cg]
def Bo(a b:cU)(w:aj):aA 48 #[aL a,aL b] w λe w'=>e=.returned (I (eN a b))/\Below w w w':=by
 have b':=((b7 w.heap.size w).alloc bx (af a 43)).alloc aM (af b 43);have f:(w.alloc (af a 43)).heap.size=w.heap.size+1:=aM;have d:=cw (aX w (af a 43)) (af b 43);have c:=aX (w.alloc (af a 43)) (af b 43);rw[f]at c;have hj:=ag b';have k:=ag d;have l:=ag c;clear b' d c f
 go_in
 go_wp2_with fail;generalize World.alloc (World.alloc w _) _=ao at *;have q:=aO k.o;have r:=aO l.o;refine iN 20 aI aI ?_;simp only[hY,iE,hX,hF]
 repeat (go_big_quiet_step ((go_at_call 75;exact(GC _ _ _).mono λ_ _ h=>⟨h.1,_,h.2.symm⟩)))
 refine wpQuiet_nil ?_;intro _ g;have⟨nq,j⟩:=g;subst j;go_wp2_with fail;have n:=aX (ao.drewN nq) (af #[I (e1 a.fr b.fr),I (e1 a.em b.em),I (e1 a.bp b.bp),I (e1 a.cg b.cg)] 3);have p:=(hj.o.trans (((bb ao).drewN nq).below hj.o.size (λ_ _ e=>e))).alloc hj.o.size (af #[I (e1 a.fr b.fr),I (e1 a.em b.em),I (e1 a.bp b.bp),I (e1 a.cg b.cg)] 3);refine(GD (b:=ao.heap.size) [e1 a.fr b.fr,e1 a.em b.em,e1 a.bp b.bp,e1 a.cg b.cg] aM λi ax=>?_).mono ?_
 .have m:i=0\/i=1\/i=2\/i=3:=by simp at ax;omega
  rcases m with rfl|rfl|rfl|rfl<;>exact bf n rfl
 rintro e _ ⟨rfl,rfl⟩;go_wp2;go_ret;exact⟨rfl,p⟩
def Hg(e:aC)(k:cU)(w:aj):aA 390 #[aL e,aL k] w λr w'=>r=.returned (I (eN e.k k))/\Below w w w':=by
 have b':=((b7 w.heap.size w).alloc bx (af e 45)).alloc aM (af k 43);have b:(w.alloc (af e 45)).heap.size=w.heap.size+1:=aM;have c:=cw (aX w (af e 45)) (af k 43);have a:=aX (w.alloc (af e 45)) (af k 43);rw[b]at a
 go_in
 go_wp2_with fail;generalize World.alloc (World.alloc w _) _=ao at *;refine aW (Bo e.k k ao) λaD ak=>?_;exact EH
def Hi(a b:aC)(w:aj):aA 379 #[aL a,aL b] w λr w'=>r=.returned (I (eN a.k b.k))/\Below w w w':=by
 have b':=((b7 w.heap.size w).alloc bx (af a 45)).alloc aM (af b 45);have d:(w.alloc (af a 45)).heap.size=w.heap.size+1:=aM;have e:=cw (aX w (af a 45)) (af b 45);have c:=aX (w.alloc (af a 45)) (af b 45);rw[d]at c
 go_in
 go_wp2_with fail;generalize World.alloc (World.alloc w _) _=ao at *;refine aW (Bo a.k b.k ao) λaD ak=>?_;exact EH
def f_(n bo ax:aa):a1:=decide (bo<=n)&&decide (n<=ax)
def gb(k:cU):a1:=f_ k.fr 0 1073741824&&f_ k.em 0 2&&f_ k.bp 1 9&&f_ k.cg 0 15
def p9(n a b:aa)(c:a1)(an:f_ n a b=c)(w:aj):aA 293 #[I n,I a,I b] w λe w'=>e=.returned (.bool c)/\w=w':=an▸Hj n a b w
def Hh(k:cU)(w:aj):aA 292 #[aL k] w λr w'=>r=.returned (.bool (gb k))/\Below w w w':=by
 have b':=(b7 w.heap.size w).alloc bx (af k 43);have h:=aX w (af k 43);unfold gb;obtain⟨b6,h1⟩:∃ c,f_ k.fr 0 1073741824=c:=⟨_,rfl⟩;obtain⟨bw,h2⟩:∃ c,f_ k.em 0 2=c:=⟨_,rfl⟩;obtain⟨eC,a⟩:∃ c,f_ k.bp 1 9=c:=⟨_,rfl⟩;obtain⟨dY,e⟩:∃ c,f_ k.cg 0 15=c:=⟨_,rfl⟩;have g:=ag (p9 _ _ _ _ h1);have f:=ag (p9 _ _ _ _ h2);have d:=ag (p9 _ _ _ _ a);have b:=ag (p9 _ _ _ _ e);rw[h1,h2,a,e];cases b6
 .clear f d b
  go_in
  exact M0
 cases bw
 .clear d b
  go_in
  exact OF
 cases eC
 .clear b
  go_in
  exact Of
 go_in
 exact N4
def fm(e:aC):a1:=gb e.k&&f_ e.cy 0 31&&f_ e.dd 0 32768&&f_ e.dP (-32768) 32768&&f_ e.dw 0 15&&f_ e.le 0 600
def vS(e:aC)(w:aj):aA 229 #[aL e] w λr w'=>r=.returned (.bool (fm e))/\Below w w w':=by
 have b':=(b7 w.heap.size w).alloc bx (af e 45);have j:=ag (aX w (af e 45));unfold fm;obtain⟨bz,m⟩:∃ c,gb e.k=c:=⟨_,rfl⟩;obtain⟨b6,h1⟩:∃ c,f_ e.cy 0 31=c:=⟨_,rfl⟩;obtain⟨bw,h2⟩:∃ c,f_ e.dd 0 32768=c:=⟨_,rfl⟩;obtain⟨eC,n⟩:∃ c,f_ e.dP (-32768) 32768=c:=⟨_,rfl⟩;obtain⟨dY,p⟩:∃ c,f_ e.dw 0 15=c:=⟨_,rfl⟩;obtain⟨fV,q⟩:∃ c,f_ e.le 0 600=c:=⟨_,rfl⟩;have i:=ag λW=>m▸Hh e.k W;have g:=ag (p9 _ _ _ _ h1);have f:=ag (p9 _ _ _ _ h2);have d:=ag (p9 _ _ _ _ n);have b:=ag (p9 _ _ _ _ p);have h:=ag (p9 _ _ _ _ q);rw[m,h1,h2,n,p,q];cases bz
 .clear g f d b h
  go_in
  go_wp2_with fail;refine aW (i.o _) λaD ak=>?_;have b':=b'.trans (ak.mono b'.size);have a:=(Keeps.bJ (S:=aG) ak a8).heap j.o id;have l:=aO a;go_wp2;go_ret;exact⟨aM,b'⟩
 cases b6
 .clear f d b h
  go_in
  go_wp2_with fail;refine aW (i.o _) λaD ak=>?_;have b':=b'.trans (ak.mono b'.size);have a:=(Keeps.bJ (S:=aG) ak a8).heap j.o id;have l:=aO a;exact M0
 cases bw
 .clear d b h
  go_in
  go_wp2_with fail;refine aW (i.o _) λaD ak=>?_;have b':=b'.trans (ak.mono b'.size);have a:=(Keeps.bJ (S:=aG) ak a8).heap j.o id;have l:=aO a;exact OF
 cases eC
 .clear b h
  go_in
  go_wp2_with fail;refine aW (i.o _) λaD ak=>?_;have b':=b'.trans (ak.mono b'.size);have a:=(Keeps.bJ (S:=aG) ak a8).heap j.o id;have l:=aO a;exact Of
 cases dY
 .clear h
  go_in
  go_wp2_with fail;refine aW (i.o _) λaD ak=>?_;have b':=b'.trans (ak.mono b'.size);have a:=(Keeps.bJ (S:=aG) ak a8).heap j.o id;have l:=aO a;exact N4
 go_in
 go_wp2_with fail;refine aW (i.o _) λaD ak=>?_;have b':=b'.trans (ak.mono b'.size);have a:=(Keeps.bJ (S:=aG) ak a8).heap j.o id;have l:=aO a;go_wp2_with fail;refine bE (g.o _) ?_;go_wp2_with fail;refine bE (f.o _) ?_;go_wp2_with fail;refine bE (d.o _) ?_;go_wp2_with fail;refine bE (b.o _) ?_;go_wp2_with fail;refine bE (h.o _) ?_;go_wp2;go_ret;exact⟨aM,b'⟩
def b4(l:ah aC):ah ay:=l.flatMap aC.bu
def tN(l:ah aC):(b4 l).length=l.length*9:=by
 induction l with
 | nil=>rfl
 | cons c l a=>simp only[b4,jc,nR]at a⊢;rw[qG,a,kc,qL];rfl
def tM(l:ah aC)(i:J)(h:i<l.length)(j:J)(b:j<9):(b4 l)[i*9+j]?=l[i].bu[j]?:=by
 induction l generalizing i with
 | nil=>exact absurd h (kZ _)
 | cons c l a=>
  simp only[b4,jc]at a⊢;cases i with
  | zero=>rw[jO (by simp[aC.bu];omega)];simp
  | succ i=>
   rw[lF (by simp[aC.bu,kc];omega),show(i+1)*9+j-c.bu.length=i*9+j by simp[aC.bu,kc];omega];exact a i ic
structure pY(xs:ah aC)(bX cR eD:J)(k:cU)(W:aj):al where
 an:∀ (j:J) u,(b4 xs)[j]?=some u->W.cell? (ae bX (cR+j) ad)=some u
 bN:W.heap[eD]?=some (af k 43 (0,0))
theorem pY.keep{xs:ah aC}{bX cR eD:J}{k:cU}{W W':aj}(h:pY xs bX cR eD k W)(hk:Keeps aG W W'):pY xs bX cR eD k W':=
 ⟨λj u a=>hk.cell (h.an j u a) id,hk.heap h.bN id⟩
theorem pY.cell{xs:ah aC}{bX cR eD:J}{k:cU}{W:aj}(h:pY xs bX cR eD k W)(i:J)(ax:i<xs.length)(j:J)(a:j<9){u:ay}(b:xs[i].bu[j]?=some u):W.cell? (ae bX (cR+i*9+j) ad)=some u:=by
 rw[hZ];exact h.an _ _ ((tM xs i ax j a).trans b)
def Q5(xs:ah aC){A:b_ Addr}{cap:J}(s:eb w 9 A xs.length cap (b4 xs))(av:xs.length<=1000)(k:cU)(m:J)(hm:m<=xs.length)(X:∀ i (ax:i<xs.length),i<m->eN xs[i].k k<0)(V:∀ i (ax:i<xs.length),m<=i->¬ eN xs[i].k k<0):aA 389 #[aq A xs.length cap,aL k,.func (.func 390) #[] #[]] w λr w'=>
   r=aY #[I m,(decide (∃ h:m<xs.length,eN xs[m].k k=0))]/\Below w w w':=by
 have b':=(b7 w.heap.size w).alloc bx (af k 43);have R:=aX w (af k 43);have M:=s.keeps (S:=aG) ((Keeps.refl _ w).alloc (af k 43)) (λ_ _ _=>id);have H:=ag M;have L:=ag R;have hj:=ag b';have O:=ag X;have N:=ag V
 go_in
 go_wp2_with fail;generalize World.alloc w _=bn at *;go_loopg [9,10,11] xs.length (λg i j _ wr=>∃ p q:J,g=q-p/\i=I p/\j=I q/\p<=m/\m<=q/\q<=xs.length/\Keeps aG bn wr)
 case atStart=>exact⟨0,xs.length,rfl,rfl,rfl,de _,hm,df _,Keeps.refl _ _⟩
 obtain⟨p,q,aZ,rfl,rfl,au,P,Q,hk⟩:=hrel;by_cases r':p<q
 .have aS:(p+q) / 2<xs.length:=U;have s:=H.o.keeps hk (λ_ _ _=>id);obtain⟨bX,cR,rfl,an⟩:=s.at' U;have C:pY xs bX cR w.heap.size k wr:=⟨an,hk.heap L.o id⟩;have B:=ag C;have l:=ag hk;go_upto_region 5 with fail
  have m':p<=(p+q) / 2/\(p+q) / 2<q:=U;rw[show((p:aa)+(q:aa)) / 2=(((p+q) / 2:J):aa)by omega];generalize (p+q) / 2=h at *;obtain⟨G,a⟩:=h0 (F:=λW=>pY xs bX cR w.heap.size k W);have Z:∀ x:bs G,x.to.cell? (ae bX (cR+h*9) ad)=some (I xs[h].k.fr):=λx=>((a _).1 x.held).cell h aS 0 U rfl;have ab:∀ x:bs G,x.to.cell? (ae bX (cR+h*9+1) ad)=some (I xs[h].k.em):=λx=>((a _).1 x.held).cell h aS 1 U rfl;have a':∀ x:bs G,x.to.cell? (ae bX (cR+h*9+2) ad)=some (I xs[h].k.bp):=λx=>((a _).1 x.held).cell h aS 2 U rfl;have gf:∀ x:bs G,x.to.cell? (ae bX (cR+h*9+3) ad)=some (I xs[h].k.cg):=λx=>((a _).1 x.held).cell h aS 3 U rfl;have g':∀ x:bs G,x.to.cell? (ae bX (cR+h*9+4) ad)=some (I xs[h].cy):=λx=>((a _).1 x.held).cell h aS 4 U rfl;have hd:∀ x:bs G,x.to.cell? (ae bX (cR+h*9+5) ad)=some (I xs[h].dd):=λx=>((a _).1 x.held).cell h aS 5 U rfl;have h2:∀ x:bs G,x.to.cell? (ae bX (cR+h*9+6) ad)=some (I xs[h].dP):=λx=>((a _).1 x.held).cell h aS 6 U rfl;have lb:∀ x:bs G,x.to.cell? (ae bX (cR+h*9+7) ad)=some (I xs[h].dw):=λx=>((a _).1 x.held).cell h aS 7 U rfl;have l':∀ x:bs G,x.to.cell? (ae bX (cR+h*9+8) ad)=some (I xs[h].le):=λx=>((a _).1 x.held).cell h aS 8 U rfl;have Y:=λx:bs G=>aO (((a _).1 x.held).bN);have b:=(a _).2 (B.o.keep (Keeps.refl _ wr).drew);have f:=ag (λW=>Hg xs[h] k W);exact Mo
 obtain rfl:p=m:=U;obtain rfl:q=p:=U;by_cases E:q<xs.length
 .have aS:=E;have s:=H.o.keeps hk (λ_ _ _=>id);obtain⟨bX,cR,rfl,an⟩:=s.at' U;have C:pY xs bX cR w.heap.size k wr:=⟨an,hk.heap L.o id⟩;have B:=ag C;have l:=ag hk;obtain⟨G,a⟩:=h0 (F:=λW=>pY xs bX cR w.heap.size k W);have Z:∀ x:bs G,x.to.cell? (ae bX (cR+q*9) ad)=some (I xs[q].k.fr):=λx=>((a _).1 x.held).cell q aS 0 U rfl;have ab:∀ x:bs G,x.to.cell? (ae bX (cR+q*9+1) ad)=some (I xs[q].k.em):=λx=>((a _).1 x.held).cell q aS 1 U rfl;have a':∀ x:bs G,x.to.cell? (ae bX (cR+q*9+2) ad)=some (I xs[q].k.bp):=λx=>((a _).1 x.held).cell q aS 2 U rfl;have gf:∀ x:bs G,x.to.cell? (ae bX (cR+q*9+3) ad)=some (I xs[q].k.cg):=λx=>((a _).1 x.held).cell q aS 3 U rfl;have g':∀ x:bs G,x.to.cell? (ae bX (cR+q*9+4) ad)=some (I xs[q].cy):=λx=>((a _).1 x.held).cell q aS 4 U rfl;have hd:∀ x:bs G,x.to.cell? (ae bX (cR+q*9+5) ad)=some (I xs[q].dd):=λx=>((a _).1 x.held).cell q aS 5 U rfl;have h2:∀ x:bs G,x.to.cell? (ae bX (cR+q*9+6) ad)=some (I xs[q].dP):=λx=>((a _).1 x.held).cell q aS 6 U rfl;have lb:∀ x:bs G,x.to.cell? (ae bX (cR+q*9+7) ad)=some (I xs[q].dw):=λx=>((a _).1 x.held).cell q aS 7 U rfl;have l':∀ x:bs G,x.to.cell? (ae bX (cR+q*9+8) ad)=some (I xs[q].le):=λx=>((a _).1 x.held).cell q aS 8 U rfl;have Y:=λx:bs G=>aO (((a _).1 x.held).bN);have b:=(a _).2 (B.o.keep (Keeps.refl _ wr).drew);have f:=ag (λW=>Hg xs[q] k W);have u:=ag (λ(W W':aj) (y:G W) (ak:Below W W W')=>(a W').2 (((a W).1 y).keep (Keeps.bJ ak a8)));have bA:=l.o.drew;go_wp2_with fail;refine cJ 16 ?_;refine cK (G) (.range 16) 0 16 ?_;refine dK (b) (.range 11) 5 ?_;generalize wr.drew=z at *;refine eH 11 λK v=>?_;go_simp;refine aW (f.o z) λaD c=>?_;have d:=u.o _ _ b c;refine v _ _ (d) ?_;refine dK (d) [12,13,14,15] 0 ?_;refine ox ?_;have n:=bA.trans (Keeps.bJ (S:=aG) c a8);have t:=hj.o.trans (n.below hj.o.size (λ_ _ e=>e));go_wp2_with fail;have D:(eN xs[q].k k == 0)=decide (∃ h:q<xs.length,eN xs[q].k k=0):=by
   by_cases e:eN xs[q].k k=0
   .simp[e,E]
   simp[e]
  go_ret2;exact⟨by rw[<-D];rfl,t⟩
 have t:=hj.o.trans (hk.below hj.o.size (λ_ _ e=>e));have D:decide (∃ h:q<xs.length,eN xs[q].k k=0)=false:=by simp[E]
 obtain rfl:q=xs.length:=U;go_wp2_with fail;go_quiet (fail);have T:=t.trans (((bb wr).drewN nq).below t.size (λ_ _ e=>e));go_wp2_with fail;go_ret2;exact⟨by rw[D];rfl,T⟩
def fY(x f:aa):a7 ay:=#[ai x,ai 0,ai 0,ai 0,I f,I 3,I 0,I 0,I 0,I 0]
def ym(x f:aa):(fY x f).toList.all (λv=>v.oneCell')=true:=aI
def H7(w:aj):aA 259 #[I 0] w λe w'=>e=.returned (.agg (fY (-2097152) 0))/\Below w w w':=by
 have d:=cw (aX w (af #[ai 0,ai 0,ai 0,ai 0,I 0,I 0,I 0,I 0,I 0,I 0] 93)) (af #[ai 0,ai 0,ai 0,ai 0,I 0,I 0,I 0,I 0,I 0,I 0] 93);have a:=aX (w.alloc (af #[ai 0,ai 0,ai 0,ai 0,I 0,I 0,I 0,I 0,I 0,I 0] 93)) (af #[ai 0,ai 0,ai 0,ai 0,I 0,I 0,I 0,I 0,I 0,I 0] 93);rw[fH]at a;obtain⟨h,_,b⟩:=dQ _ 93 10 (w.heap.size+1) (fY (-2097152) 0) _ sizeOf93 rfl rfl a (ym _ _);have c:=fb _ (w.heap.size+1) _ (fY (-2097152) 0) 93 a;have f:=b.heap d U;have i:=(((Keeps.refl (λj=>j=w.heap.size\/j=w.heap.size+1) w).alloc (af #[ai 0,ai 0,ai 0,ai 0,I 0,I 0,I 0,I 0,I 0,I 0] 93)).alloc (af #[ai 0,ai 0,ai 0,ai 0,I 0,I 0,I 0,I 0,I 0,I 0] 93)).trans (b.mono λ_ _ e=>.inr e);clear d a b;generalize World.setRow _ _ _=ao at *;unfold fY at h;have k:=gd (P:=prog) 93 10 (w.heap.size+1) 0 (fY (-2097152) 0) _ _ isAgg93 sizeOf93 rfl c (λj u z=>ke);obtain⟨l,o,g⟩:=dQ _ 93 10 w.heap.size (fY (-2097152) 0) _ sizeOf93 rfl rfl f (ym _ _);have m:=(i.trans (g.mono λ_ _ e=>.inl e)).below (B:=w.heap.size) bx a8;clear c f i g;have n:((0:aa) == 1)=false:=bt
 go_in
 go_wp2_with first|refine c7 h rfl rfl rfl rfl ?_|refine dn k rfl rfl rfl ?_|refine c7 l rfl rfl rfl rfl ?_
 refine c1 (v:=.agg (fY (-2097152) 0)) M9 rfl ?_;exact⟨rfl,m⟩
def H8(w:aj):aA 259 #[I 1] w λe w'=>e=.returned (.agg (fY 2097152 32768))/\Below w w w':=by
 have h:=cw (aX w (af #[ai 0,ai 0,ai 0,ai 0,I 0,I 0,I 0,I 0,I 0,I 0] 93)) (af #[ai 0,ai 0,ai 0,ai 0,I 0,I 0,I 0,I 0,I 0,I 0] 93);have b:=aX (w.alloc (af #[ai 0,ai 0,ai 0,ai 0,I 0,I 0,I 0,I 0,I 0,I 0] 93)) (af #[ai 0,ai 0,ai 0,ai 0,I 0,I 0,I 0,I 0,I 0,I 0] 93);rw[fH]at b;obtain⟨f,_,d⟩:=dQ _ 93 10 (w.heap.size+1) (fY (-2097152) 0) _ sizeOf93 rfl rfl b (ym _ _);have a:=fb _ (w.heap.size+1) _ (fY (-2097152) 0) 93 b;have i:=d.heap h U;have m:=(((Keeps.refl (λj=>j=w.heap.size\/j=w.heap.size+1) w).alloc (af #[ai 0,ai 0,ai 0,ai 0,I 0,I 0,I 0,I 0,I 0,I 0] 93)).alloc (af #[ai 0,ai 0,ai 0,ai 0,I 0,I 0,I 0,I 0,I 0,I 0] 93)).trans (d.mono λ_ _ e=>.inr e);clear h b d;generalize World.setRow _ _ _=ao at *;unfold fY at f;have g0:=bP a;have bz:=aO a;have g:=b3 a 0 (ai 2097152);have c:=b3 g 4 (I 32768);rw[show((fY (-2097152) 0).setIfInBounds 0 (ai 2097152)).setIfInBounds 4 (I 32768)=fY 2097152 32768 from rfl]at c;have k:=e0 (e0 i (p:=ae (w+1) 0 ad) aM (ai 2097152)) (p:=ae (w+1) 4 ad) aM (I 32768);have n:=(m.setCell (p:=ae (w+1) 0 ad) (.inr rfl) (ai 2097152)).setCell (p:=ae (w+1) 4 ad) (.inr rfl) (I 32768);have q:=gd (P:=prog) 93 10 (w.heap.size+1) 0 (fY 2097152 32768) _ _ isAgg93 sizeOf93 rfl c (λj u z=>ke);obtain⟨r,o,l⟩:=dQ _ 93 10 w.heap.size (fY 2097152 32768) _ sizeOf93 rfl rfl k (ym _ _);have s:=(n.trans (l.mono λ_ _ e=>.inl e)).below (B:=w.heap.size) bx a8;clear a i m l g c k n
 go_in
 go_upto_region 2 with(first|(refine c7 f rfl rfl rfl rfl ?_)|fail)
 clear f;go_upto_region 4 with fail
 generalize (ao.setCell (ae (w+1) 0 ad) (ai 2097152)).setCell (ae (w+1) 4 ad) (I 32768)=bq at *;go_wp2_with first|refine dn q rfl rfl rfl ?_|refine c7 r rfl rfl rfl rfl ?_
 refine c1 (v:=.agg (fY 2097152 32768)) M9 rfl ?_;exact⟨rfl,s⟩
def Kh(w:aj):(Instr.build 94 #[(0,.agg (fY (-2097152) 0)),(1,.agg (fY 2097152 32768))]).run prog w=.ok (.agg (fY (-2097152) 0++fY 2097152 32768)) w:=aI
def WE(aJ:aa)(w:aj):(Instr.build 99 #[(1,aR aJ),(3,I 600),(4,.agg (fY (-2097152) 0++fY 2097152 32768))]).run prog w=.ok (.agg (br (lz aJ 0))) w:=aI
section
variable{P:Program}{o:Oper}{a:Act}{Q:Exit->Act->aj->al}{ops:a7 Oper}{rest:ah Oper}{w':aj}{v:ay}
theorem DK{T:TypeId}{i j k:J}{x y z:Operand}{u b c:ay}(hrun:(Instr.build T #[(i,u),(j,b),(k,c)]).run P w=.ok v w')(d:o.guard=none)(e:o.op=.build T #[(i,x),(j,y),(k,z)])(f:a.eval x=u)(g:a.eval y=b)(l:a.eval z=c)(h:wpList P ops Q rest (a.put o.dst v) w'):wpList P ops Q (o :: rest) a w:=
 zI hrun d e (by simp[f,g,l]) h
end
def Sb(aJ:aa)(w:aj):aA 193 #[aR aJ] w λe w'=>e=.returned (.agg (br (lz aJ 0)))/\Below w w w':=by
 have f:=ma w;have g:=(bb w).alloc (af (br ck) 99);have c:=aX w (af (br ck) 99);have j:=Kh;have ar:=WE aJ;generalize fY (-2097152) 0++fY 2097152 32768=pl at *
 go_in
 go_wp2_with refine dU f rfl rfl ?_
 generalize w.alloc (af (br ck) 99)=bn at *;refine(H7 _).mono ?_;rintro e ao ⟨rfl,a⟩;go_wp2_with fail;refine(H8 _).mono ?_;rintro e aD ⟨rfl,b⟩;have h:=(g.fT a).fT b;have d:=(((bb bn).fT a).fT b).heap c id;obtain⟨m,l,i⟩:=dQ aD 99 60 w.heap.size (br (lz aJ 0)) _ sizeOf99 (et _) (et _) d (fw.2 (oy _));have k:Below w w (aD.setRow w.heap.size (br (lz aJ 0))):=((h.mono λ_ _ x=>x.elim).trans i).below bx a8;generalize aD.setRow w.heap.size (br (lz aJ 0))=bq at *;clear c g a b d h i f;go_wp2_with first|refine s0 (j _) rfl rfl rfl rfl ?_|refine DK (ar _) rfl rfl rfl rfl rfl ?_|refine c7 m rfl rfl rfl rfl ?_
 refine c1 (v:=.agg (br (lz aJ 0))) (by simp[results,results193,Act.put,asAddr,loadVar,loadCells,isAgg99,sizeOf99,l]) rfl ?_;exact⟨rfl,k⟩
variable{g bl:J}{aJ fr:aa}{f:J}
def WK(v:J->aa)(bl:J)(w:aj):(Instr.build 458 #[(0,.agg (br v)),(1,.pointer (some (ae bl 0 ad)))]).run prog w=.ok (.agg (hf v bl)) w:=aI
variable{b:gj}{x:ct}
def pB(y:Fd)(n:J):Fd:={y with cX:=sQ y.first y.cX n (oL y.K n y.last)}
def kv(x:ct)(n j:J):ct:={x with f:=λi=>if i<j then pB (x.f i) n else x.f i}
def Zl(x:ct)(n:J):kv x n 0=x:=by simp[kv]
def Lt(x:ct)(n j:J):{kv x n j with f:=eW (kv x n j).f j (pB (x.f j) n)}=kv x n (j+1):=by
 unfold kv eW;simp only[ct.mk.injEq,true_and,and_true]
 funext i
 exact MD
def IsCore.XB(h:IsCore w b x)(n:J)(av:n<=1000000):IsCore (w.setCell (ae b.c 7 ad) (I (n:aa))) b {x with now:=n}:=by
 have ok:=h.ok;have hk:=(Keeps.refl (λj=>j=b.c) w).setCell (p:=ae b.c 7 ad) rfl (I (n:aa));have d:=ok.bz;have f:=ok.b6;refine⟨by simpa using b3 h.head 7 (I (n:aa)),λi ax=>IsFeed.keeps (h.fd i ax) hk λj h1 h2 a=>?_,h.st.keeps hk (λe=>ok.GW e.symm) (λe=>ok.A2 e.symm),ok,h.aN,av,h.dO,h.wn⟩
 have:i=0\/i=1:=U
 rcases this with rfl|rfl<;>omega
def jb(v:J->aa):aa:=more 1 (mJ v)
def RS(v:J->aa)(aU:tA v)(d:lv v=true)(f:(mJ v).length<=100000)(w:aj):aA 286 #[.agg (br v)] w λe w'=>e=aY #[aR (jb v),I 0]/\Below w w w':=by
 have a:=ag (RR v aU);rw[d]at a;simp only[if_true]at a;have ar:=ag (Dg ⟨(mJ v).toArray⟩ (by show(mJ v).toArray.size<=_;unfold maxLen;simp;omega));rw[show more 1 (⟨(mJ v).toArray⟩:ch).data.toList=jb v by simp[jb]]at ar;generalize (⟨(mJ v).toArray⟩:ch)=X at *;generalize jb v=m at *;have ak:=(b7 w.heap.size w).alloc bx (af (br v) 99);have c:=ov (aX w (af (br v) 99))
 go_in
 go_wp2_with refine dn c rfl rfl rfl ?_
 generalize w.alloc (af (br v) 99)=bn at *;refine aW (a.o _) λao b=>?_;simp only;go_wp2_with fail;refine bE (ar.o _) ?_;go_wp2;go_ret2;exact⟨rfl,ak.trans (b.mono ak.size)⟩
def Qh(h:IsCore w b x)(fr:aa)(r:0<=fr/\fr<=1000000)(v:J->aa)(f:hb x.L fr=some v)(aU:tA v)(p:lv v=true)(l:(mJ v).length<=100000):aA 219 #[b.c,I fr] w λe w'=>e=aY #[aR (jb v),true]/\Keeps aG w w':=by
 have ar:=ag (GO h fr U);rw[f]at ar;simp only[ib,pM]at ar;have g:=ag (RS v aU p l);generalize jb v=m at *
 go_in
 go_wp2_with fail;refine aW ar.o λao d=>?_;have a:=aX ao (af (br ck) 99);obtain⟨q,_,k⟩:=dQ (ao.alloc (af (br ck) 99)) 99 60 ao.heap.size (br v) _ sizeOf99 (et _) (et _) a (fw.2 (oy v));have n:=ov (fb _ ao.heap.size _ (br v) 99 a);have s:=d.size;simp only;generalize (ao.alloc (af (br ck) 99)).setRow ao.heap.size (br v)=aD at *;go_wp2_with first|refine dU (ma ao) rfl rfl ?_|refine c7 q rfl rfl rfl rfl ?_|refine dn n rfl rfl rfl ?_
 refine aW (g.o _) λbq i=>?_;simp only;go_wp2;go_ret2;exact⟨rfl,(cN d (((Keeps.refl (λj=>j=ao) ao).alloc (af (br ck) 99)).trans k) a8).fT i⟩
section
open Go.Maps
attribute [local go_sem] Oper.semAt_some
variable{w w':aj}
def QX(f:ay)(w:aj):aA 179 #[aq none 0 0,I 0,I 0,f] w λe w'=>e=aY #[]/\w=w':=by
 go_in
 go_wp2_with fail;go_loopg [8] 0 (λg i wr=>i=I 1/\w=wr)
 case atStart=>exact⟨rfl,rfl⟩
 obtain⟨rfl,rfl⟩:=hrel;go_wp2;go_end0;exact⟨rfl,rfl⟩
def Q3(k:aa)(f:ay)(w:aj):aA 121 #[aq none 0 0,I 0,I 0,I k,f] w λe w'=>e=aY #[]/\w=w':=by
 go_in
 go_wp2_with fail;go_loopg [1,2] 0 (λg a b wr=>a=I 0/\b=I 0/\w=wr)
 case atStart=>exact⟨rfl,rfl,rfl⟩
 obtain⟨rfl,rfl,rfl⟩:=hrel;go_wp2_with fail;refine(QX f _).mono ?_;rintro e _ ⟨rfl,rfl⟩;go_wp2;refine c1 (v:=aY #[]) jA rfl ?_;exact⟨rfl,rfl⟩
def PG(w:aj):aA 122 #[.int .u64 0] w λe w'=>e=.returned (I 0)/\w=w':=by
 have h:=ag (Gp 0 U)
 go_in
 go_wp2_with fail;refine(h.o _).mono ?_;rintro e _ ⟨rfl,rfl⟩;go_wp2;go_ret;exact⟨rfl,rfl⟩
def Q6(f:ay)(w:aj):aA 72 #[aq none 0 0,f] w λe w'=>e=aY #[]/\w=w':=by
 go_in
 go_wp2_with fail;refine(PG _).mono ?_;rintro e _ ⟨rfl,rfl⟩;go_wp2_with fail;refine(Q3 _ f _).mono ?_;rintro e _ ⟨rfl,rfl⟩;go_wp2;go_end0;exact⟨rfl,rfl⟩
end
structure kA where
 bg:aC
 late:aa
 cut:aa
deriving DecidableEq
instance:Coe kA (a7 ay):=⟨λe=>#[I e.bg.k.fr,I e.bg.k.em,I e.bg.k.bp,I e.bg.k.cg,I e.bg.cy,I e.bg.dd,I e.bg.dP,I e.bg.dw,I e.bg.le,I 0,I e.late,I e.cut]⟩
structure kA.wf(v:kA):al where
 bg:fm v.bg=true
 cy:1<=v.bg.cy/\v.bg.cy<=9
 late:0<=v.late/\v.late<=1000000000
 cut:v.cut=-1\/v.cut=0
def PB(n:aa)(w:aj):aA 294 #[I n] w λe w'=>e=.returned (.bool (f_ n 1 9))/\w=w':=by
 unfold f_;by_cases h1:1<=n
 .by_cases h2:n<=9
  .go_in
   exact EJ
  go_in
  go_wp2;go_ret;exact⟨by simp[h2],rfl⟩
 go_in
 go_wp2;go_ret;exact⟨b1,rfl⟩
def AZ(n:aa)(h:1<=n/\n<=9)(w:aj):aA 230 #[I n] w λe w'=>e=aY #[I (48*n),I 0]/\w=w':=by
 have ak:f_ n 1 9=true:=by unfold f_;simp[h]
 go_in
 exact MI
def uT(n a b:aa)(av:a<=n/\n<=b)(w:aj):aA 331 #[I n,I a,I b] w λe w'=>e=.returned (.bool true)/\w=w':=by
 go_in
 go_wp2;go_ret;exact⟨aM,rfl⟩
def uC{e:aC}(h:fm e=true):gb e.k=true/\(0<=e.cy/\e.cy<=31)/\(0<=e.dd/\e.dd<=32768)/\(-32768<=e.dP/\e.dP<=32768)/\(0<=e.dw/\e.dw<=15)/\(0<=e.le/\e.le<=600):=by
 unfold fm f_ at h;simp only[ep,gh]at h;exact⟨h.1.1.1.1.1,h.1.1.1.1.2,h.1.1.1.2,h.1.1.2,h.1.2,h.2⟩
def Dy(v:kA)(h:v.wf)(w:aj):aA 300 #[aL v] w λe w'=>e=.returned (.bool true)/\Below w w w':=by
 have⟨h1,h2,i,c⟩:=h;have⟨e,db,b⟩:=v;dsimp only at *;have b':=(b7 w.heap.size w).alloc bx (af #[I e.k.fr,I e.k.em,I e.k.bp,I e.k.cg,I e.cy,I e.dd,I e.dP,I e.dw,I e.le,I 0,I db,I b] 175);have j:=aX w (af #[I e.k.fr,I e.k.em,I e.k.bp,I e.k.cg,I e.cy,I e.dd,I e.dP,I e.dw,I e.le,I 0,I db,I b] 175);have⟨_,_,d,f,_,g⟩:=uC h1;have a:=ag (uT 0 0 1099511627776 U)
 go_in
 go_wp2_with fail;refine bE ((AZ e.cy h2) _) ?_;go_wp2_with fail;refine bE ((uT e.dd 0 32768 d) _) ?_;go_wp2_with fail;refine bE (((uT e.dP (-32768) 32768 f)) _) ?_;go_wp2_with fail;refine bE ((uT e.le 0 600 g) _) ?_;go_wp2_with fail;refine bE (a.o _) ?_;go_wp2_with fail;refine bE ((uT db 0 1099511627776 U) _) ?_;rcases c with rfl|rfl
 .go_wp2;go_ret;exact⟨rfl,b'⟩
 go_wp2_with fail;refine bE (a.out _) ?_;go_wp2;go_ret;exact⟨rfl,b'⟩
def Zs(v:kA)(h:v.wf)(w:aj):aA 297 #[aL v,I 0] w λe w'=>e=.returned (.bool true)/\Below w w w':=by
 have b':=(b7 w.heap.size w).alloc bx (af v 175);have b:=aX w (af v 175);have a:=ag (Dy v h (w.alloc (af v 175)))
 go_in
 go_wp2_with fail;generalize w.alloc _=ao at *;refine aW a.o λaD ak=>?_;go_wp2_with fail;refine bE (uT 0 0 2199023255552 U _) ?_;exact EH
def pg(e:aC):aa:=if 0<e.le then e.le*32 else 48*e.cy
def Zt(e:aC)(h:fm e=true)(bh:1<=e.cy/\e.cy<=9)(w:aj):aA 332 #[aL e] w λr w'=>r=.returned (I (pg e))/\Below w w w':=by
 have b':=(b7 w.heap.size w).alloc bx (af e 45);have a:=aX w (af e 45);have⟨_,_,_,_,_,b⟩:=uC h;by_cases au:0<e.le
 .have aU:pg e=e.le*32:=aE au;rw[aU]
  go_in
  go_wp2_with fail;go_ret;exact⟨rfl,b'⟩
 have aU:pg e=48*e.cy:=aB au;rw[aU]
 go_in
 go_wp2_with fail;refine bE ((AZ e.cy bh) _) ?_;go_wp2;go_ret;exact⟨rfl,b'⟩
def nv(v:kA):a1:=decide (pg v.bg<=v.late)
def yb(v:kA):aa:=if v.cut=-1 then max (pg v.bg-v.late) 0 else min (max (pg v.bg-v.late) 0) 64
def QJ(v:kA):(decide (yb v<=0))=nv v:=by
 unfold nv yb;rw[decide_eq_decide];split<;>omega
def TC{e:aC}(h:fm e=true)(bh:1<=e.cy/\e.cy<=9):0<=pg e/\pg e<=20000:=by
 have⟨_,_,_,_,_,a⟩:=uC h;unfold pg;split<;>omega
def Zp(v:kA)(h:v.wf)(w:aj):aA 298 #[aL v] w λr w'=>r=.returned (I (yb v))/\Keeps aG w w':=by
 have G:=TC h.bg h.cy;have l:=ag (Dy v h (w.alloc (af v 175)));have i:=ag (Zt v.bg h.bg h.cy);obtain⟨e,db,d⟩:=v;obtain⟨h1,h2,F,m⟩:=h;dsimp only at *;have A:=(bb w).alloc (af #[I e.k.fr,I e.k.em,I e.k.bp,I e.k.cg,I e.cy,I e.dd,I e.dP,I e.dw,I e.le,I 0,I db,I d] 175);have p:=aX w (af #[I e.k.fr,I e.k.em,I e.k.bp,I e.k.cg,I e.cy,I e.dd,I e.dP,I e.dw,I e.le,I 0,I db,I d] 175);unfold yb;dsimp only;generalize pg e=n at *;obtain⟨fl,hm⟩:∃ fl,max (n-db) 0=fl:=⟨_,rfl⟩;have H:0<=fl/\fl<=20000:=U;have E:IntKind.i64.wrap (0+fl)=fl:=by rw[Int.zero_add];exact eG _ U
 have c:=bW p A;rw[hm];rcases m with rfl|rfl
 all_goals
  go_in
  go_wp2_with fail;generalize w.alloc _=ao at *;refine aW l.out λaD ak=>?_;have g:=Keeps.bJ (S:=aG) ak a8;have q:=g.heap c.out.1 id;have B:=(c.out.2.trans g).trans (bb aD).drew;have b:=(bb aD).drew.heap q id;go_wp2_with fail;have L:=iG (S:=aG) (w:=aD.drew) b id;have D:∀ W,(∃ x:gQ aG aD.drew,W=x.to)->(Instr.loadAt 45 w.heap.size).run prog W=.ok (aL e) W:=λW ⟨x,z⟩=>by
   rw[z];refine gd (P:=prog) 45 9 w.heap.size 0 e _ _ isAgg45 sizeOf45 rfl (x.keeps.heap b id) (λj u f=>?_);rw[gP];have y:=(jv.1 f).1;rw[<-f]
   match j,y with
   | 0,_=>rfl
   | 1,_=>rfl
   | 2,_=>rfl
   | 3,_=>rfl
   | 4,_=>rfl
   | 5,_=>rfl
   | 6,_=>rfl
   | 7,_=>rfl
   | 8,_=>rfl
  refine cJ 11 ?_;refine ow (λ_=>False) [0,1,2,3,5,6] [4,7,8] 2 ?_
  repeat (first|(refine jL D rfl rfl rfl ?_;simp only[Act.put,c8])|go_big_quiet_step (fail))
  refine wpQuiet_nil ?_;refine gu λK o=>?_;go_simp;refine aW (i.out _) λbq t=>?_;have a:=Keeps.bJ (S:=aG) t a8;refine o _ _ (c6 (a)) ?_;refine iH (c6 (a)) ?_;refine ou (c6 (a)) ?_;have s:=a.heap b id;have C:=B.trans a;have M:=aO s;refine fu (λ_=>False) [9,10] [] 0 (hQ ?_);refine iI ?_;go_wp2_with fail;go_ret;exact⟨by rw[<-hm];rfl,C⟩
def Zq(v:kA)(h:v.wf)(w:aj):aA 234 #[aL v,I 0] w λr w'=>r=.returned (.bool (nv v))/\Keeps aG w w':=by
 have a:=aX w (af v 175);have d:=ag (Zs v h (w.alloc (af v 175)));have e:=ag (QJ v);have b:=bW a ((bb w).alloc (af v 175));have j:=aO a
 go_in
 go_wp2_with fail;generalize w.alloc _=ao at *;refine aW d.o λaD ak=>?_;have c:=Keeps.bJ (S:=aG) ak a8;have a:=c.heap b.o.1 id;have g:=b.o.2.trans c;have j:=aO a;go_wp2_with fail;refine aW ((λW=>Zp v h W) _) λbq f=>?_;have i:=g.trans f;go_wp2;go_ret;exact⟨by rw[<-e.o];rfl,i⟩
def Zn(v:kA)(h:v.wf)(w:aj):aA 237 #[aL v,I 0] w λr w'=>r=.returned (aL #[I v.bg.k.fr,I v.bg.k.em,I v.bg.k.bp,I v.bg.k.cg,I v.bg.cy,I v.bg.dd,I v.bg.dP,I v.bg.dw,I v.bg.le,I 0,I v.late,I 0])/\Keeps aG w w':=by
 have q:(w.alloc (af v 175)).heap.size=w.heap.size+1:=aM;have a:=cw (aX w (af v 175)) (af oP 175);have d:=aX (w.alloc (af v 175)) (af oP 175);rw[q]at d;have i:=ag (Dy v h ((w.alloc (af v 175)).alloc (af oP 175)));have c:=bW a (bD d (((bb w).alloc (af v 175)).alloc (af oP 175)));obtain⟨e,db,x⟩:=v;obtain⟨h1,h2,A,n⟩:=h;rcases n with rfl|rfl
 .go_in
  go_wp2_with fail;generalize World.alloc (World.alloc w _) _=ao at *;refine aW i.out λaD ak=>?_;have b:=Keeps.bJ (S:=aG) ak a8;have a:=b.heap c.out.1 id;have d:=b.heap c.out.2.1 id;have s:=c.out.2.2.trans b;have t:=aO a;have y:=bP a;go_upto_region 3 with fail
  have eU:=(Keeps.refl (λj=>j=w) aD).setCell (p:=ae w 11 ad) rfl (I 0);have o:=gd (P:=prog) 175 12 w.heap.size 0 #[I e.k.fr,I e.k.em,I e.k.bp,I e.k.cg,I e.cy,I e.dd,I e.dP,I e.dw,I e.le,I 0,I db,I 0] _ _ isAgg175 sizeOf175 rfl ((b3 a 11 (I 0))) (λj u z=>ke);obtain⟨g,l,f⟩:=dQ _ 175 12 (w.heap.size+1) #[I e.k.fr,I e.k.em,I e.k.bp,I e.k.cg,I e.cy,I e.dd,I e.dP,I e.dw,I e.le,I 0,I db,I 0] _ sizeOf175 rfl rfl ((eU.heap d a8)) rfl;have m:=cN ((cN s eU a8)) f a8;go_wp2_with first|refine dn o rfl rfl rfl ?_|refine c7 g rfl rfl rfl rfl ?_
  exact Oj
 go_in
 go_wp2_with fail;generalize World.alloc (World.alloc w _) _=ao at *;refine aW i.out λaD ak=>?_;have b:=Keeps.bJ (S:=aG) ak a8;have a:=b.heap c.out.1 id;have t:=aO a;go_upto_region 3 with fail
 obtain⟨g,l,f⟩:=dQ _ 175 12 (w.heap.size+1) #[I e.k.fr,I e.k.em,I e.k.bp,I e.k.cg,I e.cy,I e.dd,I e.dP,I e.dw,I e.le,I 0,I db,I 0] _ sizeOf175 rfl rfl ((b.heap c.out.2.1 id)) rfl;have m:=cN ((c.out.2.2.trans b)) f a8;go_wp2_with first|refine dn (gd (P:=prog) 175 12 w.heap.size 0 #[I e.k.fr,I e.k.em,I e.k.bp,I e.k.cg,I e.cy,I e.dd,I e.dP,I e.dw,I e.le,I 0,I db,I 0] _ _ isAgg175 sizeOf175 rfl (a) (λj u z=>ke)) rfl rfl rfl ?_|refine c7 g rfl rfl rfl rfl ?_
 exact Oj
end Go.Proofs.YtalagblioepadaaGreatDoor
