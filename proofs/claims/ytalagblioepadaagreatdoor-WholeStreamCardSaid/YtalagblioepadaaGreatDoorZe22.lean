/- The proof, part 22. -/
import Derived.Test.YtalagblioepadaaGreatDoorZe21
import Derived.Test.YtalagblioepadaaGreatDoorZe16
namespace Go.Proofs.YtalagblioepadaaGreatDoor
set_option linter.all false
open Proofs.Tryz List Go.RowKit
set_option maxRecDepth 100000
set_option maxHeartbeats 1000000
variable{ww:Prop}
def CP(h:ww:=by show w.heap.size<=w.heap.size+1+1+1;omega):=h
def CO(h:ww:=by show w.heap.size<=w.heap.size+1+1+1+1;omega):=h
def QT(h:ww:=by intro u l;simp at l;rcases l with rfl|rfl|rfl<;>rfl):=h
def QP(h:ww:=by intro u l;simp at l;rcases l with rfl|rfl|rfl|rfl<;>rfl):=h
def Q0(h:ww:=by simp[results,Act.put,results259,asAddr,loadVar,loadCells,isAgg93,sizeOf93,o]):=h
variable{c:a6 ay}{u:aY}{d y:U}{b6 fO di:J}{W:aj}
variable{w w':aj}
def ag7(a b s:U)(bg:aZ a)(al:aZ b)(aA:aZ s)(w:aj):aB 374 #[aG #[af a,af b],af s] w λe w'=>e=aG #[af (rP a b s),af (rQ a b s)]/\Below w w w':=by
 have c:=ad (ah6 a b s bg al aA);generalize rP a b s=x at *;generalize rQ a b s=y at *;refine Sd;refine cg;generalize (w.alloc (ab #[af a,af b] 91)).alloc (ab cH 91)=bo at *;refine bJ (c.o _) ?_;refine Uj;exact⟨rfl,(j.setCell tq _).setCell tq _⟩
def qG(a b k m:U):U×U:=
 if m<mw (dE a k) (dE b k)then(rP (dE a k) (dE b k) m,rQ (dE a k) (dE b k) m)else(dE a k,dE b k)
def agZ(a b k m:U)(bg:aZ a)(q:aZ b)(B:aZ k)(hm:aZ m)(w:aj):aB 363 #[aG #[af a,af b],af k,af m] w λe w'=>e=aG #[af (qG a b k m).1,af (qG a b k m).2]/\Below w w w':=by
 have u:=ad (Gp a b k bg q B);have ak:aZ (dE a k):=gE _;have a8:aZ (dE b k):=gE _;have r:=ad (GF (dE a k) (dE b k) ak a8);have c:=ad (ag7 (dE a k) (dE b k) m ak a8 hm);refine RK;have ax:=b2 (aP w (ab #[af a,af b] 91)) (ab cH 91);refine Sd;by_cases an:m<l
 focus
  rw[aD an]
 rotate_left
 focus
  rw[az an]
 rotate_left
 all_goals
  go_in
  go_wp2_with fail;generalize (w.alloc (ab #[af a,af b] 91)).alloc (ab cH 91)=bo at *;refine aS (u.o _) λbr h1=>?_;have n:=(bd bo).ga h1;have f:=n.heap ax id;have z:=n.heap t id;have s:=jq f (af x) (af y);have d:=eB (eB z (p:=ah w 0) aM (af x)) (p:=ah w 1) aM (af y);have g:=((j.trans (h1.mono j.size)).setCell (p:=ah w 0) bu (af x)).setCell (p:=ah w 1) bu (af y);have bR:=aX f;have C:=bV f;have bw:=aX s;have g0:=bV d;have dq:=aX d;go_wp2_with fail;generalize (br.setCell (ah w 0) (af x)).setCell (ah w 1) (af y)=aF at *;refine bJ (r.o _) ?_
 .refine Dv;have L:=((bd aF).ga al).heap d id;have A:=g.trans (al.mono g.size);have g0:=bV L;refine j1;go_wp2;have h:=kJ (jq L (af i) (af ty));refine dj (v:=aG #[af i,af ty]) h ?_;exact⟨rfl,(A.setCell tq _).setCell tq _⟩
 go_wp2;have h:=kJ (jq d (af x) (af y));refine dj (v:=aG #[af x,af y]) h ?_;exact⟨rfl,(g.setCell tq _).setCell tq _⟩
def Gr(a b r c d s:U)(bg:aZ a)(al:aZ b)(m:aZ r)(an:aZ c)(hd:aZ d)(aA:aZ s)(w:aj):aB 351 #[aG #[af a,af b],af r,aG #[af c,af d],af s] w λe w'=>e=.returned (.bool (jj (d_ c a) (d_ d b) (cY r s)))/\Below w w w':=by
 have l:=ad (Gq c d a b an hd bg al);have j:=ad (AW r s m aA);have k:=ad (ah4 (d_ c a) (d_ d b) (cY r s) (gE _) (gE _) (gE _));generalize jj (d_ c a) (d_ d b) (cY r s)=b6 at *;generalize d_ c a=x at *;generalize d_ d b=y at *;generalize cY r s=z at *;have i:=(((b9 w w).alloc bu (ab #[af a,af b] 91)).alloc aM (ab #[af c,af d] 91))
 go_in
 go_wp2_with fail;generalize (w.alloc (ab #[af a,af b] 91)).alloc (ab #[af c,af d] 91)=bo at *;refine aS (l.o _) λaq h1=>?_;have g:=i.trans (h1.mono i.size);have f:=g.alloc g.size (ab #[af x,af y] 91);go_wp2_with fail;go_quiet (first|(with_reducible exact(j.o _).mono λ_ _ h=>⟨h.1,_,h.2.symm⟩)|(with_reducible exact(k.o _).mono λ_ _ h=>⟨h.1,_,h.2.symm⟩));go_wp2;go_ret;exact⟨rfl,⟨f.os,f.tape,f.output,f.size,f.block⟩⟩
section
variable{w w':aj}
def ki(aN:U)(f:J)(j:J):U:=if j=0 then f else if j=1 then aN else if j=3 then 600-f else if j=4 then -2097152 else if j=9 then 3 else if j=14 then 2097152 else if j=18 then 32768 else if j=19 then 3 else 0
def h'(v:J->U)(bj:J):a6 ay:=(aQ v).push bj
def BW(v:J->U)(bj:J):(h' v bj).size=61:=by simp[h',dX]
def BV(v:J->U)(bj:J)(j:J)(a:j<60):(h' v bj)[j]?=some (.int (dw j) (v j)):=by
 rw[h',qM,az xo,dO _ a]
def agO(v:J->U)(bj:J)(o:J)(x:U)(h:o<60):(h' v bj).setIfInBounds o (.int (dw o) x)=h' (bn v o x) bj:=by
 unfold h';rw[<-yB];apply y_;intro i;by_cases e:o=i
 .subst e;rw[Ce CZ,qM,az CZ,Ce xo]
 rw[y' e,qM,qM,y' e];simp
def GN(v:J->U)(o:J):bn v o (v o)=v:=by
 funext j
 unfold bn;split
 .rename_i h;rw[h]
 rfl
namespace IsStage
variable{g bj:J}{v:J->U}{f:U}
end IsStage
def Ls(n a b:U)(w:aj):aB 293 #[aa n,aa a,aa b] w λe w'=>e=.returned (.bool (decide (a<=n)&&decide (n<=b)))/\w=w':=by
 exact WG
def Zq(f:U)(a:0<=f/\f<=1073741824)(w:aj):aB 323 #[aa f] w λe w'=>e=aV #[w.heap.size,aa 0]/\w.alloc (ab #[aa f,au none 0 0] 476)=w':=by
 have b:=Ls f 0 1073741824;rw[dh a.1,dh a.2]at b
 go_in
 refine DQ;go_wp2;exact qX
end
def dK(a b:U):U:=if a<b then -1 else if b<a then 1 else 0
def KU(a:U)(w:aj):aB 123 #[aa a] w λe w'=>e=.returned (.bool false)/\w=w':=by
 refine kF;exact⟨aM,rfl⟩
def Yi(a b:U)(w:aj):aB 75 #[aa a,aa b] w λe w'=>e=aa (dK a b)/\w=w':=by
 unfold dK;by_cases h1:a<b
 .rw[aD h1];exact Jq
 rw[az h1];by_cases h2:b<a
 .rw[aD h2];exact Jq
 rw[az h2];exact Jq
def lW:ai U->U
 | []=>0
 | a :: l=>if a=0 then lW l else a
def KT{b:J}(l:ai U)(d:l.length<=1000)(h:∀ i (av:i<l.length),w.cell? (ah b i)=some (aa l[i])):aB 74 #[au (bT b) l.length l.length] w λe w'=>e=aa (lW l)/\w=w':=by
 have H:=ad h;clear h;refine cg;go_loopg [5,8] l.length (λg _ i wr=>∃ j:J,g=l.length-j/\j<=l.length/\i=aa j/\lW (l.drop j)=lW l/\wr=w)
 case atStart=>exact⟨0,rfl,c3 _,rfl,rfl,rfl⟩
 obtain⟨j,a7,c,rfl,y,rfl⟩:=hrel;by_cases a:j<l.length
 .have N:=H.o j a;rw[qO a]at y;by_cases D:l[j]=0
  .refine ed;have F:lW (l.drop (j+1))=lW l:=by rw[<-y];show _=if l[j]=0 then _ else _;rw[aD D]
   refine zU;go_roundg (l.length-(j+1))
   case rel=>exact⟨j+1,rfl,I,cT,G.o,rfl⟩
   omega
  have h1:(l[j] != 0)=true:=by simpa using D
  have F:lW l=l[j]:=by rw[<-y];show(if l[j]=0 then _ else _)=_;rw[az D]
  refine zU;go_ret;exact⟨by rw[G.o];rfl,rfl⟩
 obtain rfl:j=l.length:=I;rw[drop_length]at y;refine aK;go_ret;exact⟨by rw[<-y];rfl,rfl⟩
structure dD where
 fr:U
 em:U
 bq:U
 cv:U
deriving DecidableEq
instance:Coe dD (a6 ay):=⟨λe=>#[aa e.fr,aa e.em,aa e.bq,aa e.cv]⟩
structure aE where
 k:dD
 df:U
 eb:U
 hq:U
 eP:U
 le:U
deriving DecidableEq
instance:Coe aE (a6 ay):=⟨λe=>#[aa e.k.fr,aa e.k.em,aa e.k.bq,aa e.k.cv,aa e.df,aa e.eb,aa e.hq,aa e.eP,aa e.le]⟩
def aE.bC(e:aE):ai ay:=[aa e.k.fr,aa e.k.em,aa e.k.bq,aa e.k.cv,aa e.df,aa e.eb,aa e.hq,aa e.eP,aa e.le]
inductive JN(e:aE)|mk
def uK(e:aE):JN e:=.mk
instance {e:aE}:CoeOut (JN e) (a6 ay):=⟨λ_=>#[aa e.k.fr,aa e.k.em,aa e.k.bq,aa e.k.cv,aa e.df,aa e.eb,aa e.hq,aa e.eP,aa e.le]⟩
inductive JO(e:aE)(a b c:U)|mk
def kZ(e:aE)(a b c:U):JO e a b c:=.mk
instance {e:aE}{a b c:U}:CoeOut (JO e a b c) (a6 ay):=⟨λ_=>#[aa e.k.fr,aa e.k.em,aa e.k.bq,aa e.k.cv,aa e.df,aa e.eb,aa e.hq,aa e.eP,aa e.le,aa a,aa b,aa c]⟩
def ez(a b:dD):U:=lW [dK a.fr b.fr,dK a.em b.em,dK a.bq b.bq,dK a.cv b.cv]
def EA(a b:dD)(w:aj):aB 48 #[aG a,aG b] w λe w'=>e=aa (ez a b)/\Below w w w':=by
 have cp:=((b9 w w).alloc bu (ab a 43)).alloc aM (ab b 43);have d:(w.alloc (ab a 43)).heap.size=w.heap.size+1:=aM;have c:=b2 (aP w (ab a 43)) (ab b 43);have C:=aP (w.alloc (ab a 43)) (ab b 43);rw[d]at C;have iQ:=ad cp;have f:=ad c;refine dU;clear cp c C d;refine UN;have j:=aX m'.o;refine Ws;have k:=aP (aq.drewN nq) (ab #[aa (dK a.fr b.fr),aa (dK a.em b.em),aa (dK a.bq b.bq),aa (dK a.cv b.cv)] 3);have al:=(iQ.o.trans (((bd aq).drewN nq).below iQ.o.size (λ_ _ e=>e))).alloc iQ.o.size (ab #[aa (dK a.fr b.fr),aa (dK a.em b.em),aa (dK a.bq b.bq),aa (dK a.cv b.cv)] 3);refine(KT (b:=aq.heap.size) [dK a.fr b.fr,dK a.em b.em,dK a.bq b.bq,dK a.cv b.cv] aM λi av=>?_).mono ?_
 .have g:i=0\/i=1\/i=2\/i=3:=by simp at av;omega
  rcases g with rfl|rfl|rfl|rfl<;>exact bb k rfl
 refine mN;exact xJ
def Lp(e:aE)(k:dD)(w:aj):aB 390 #[aG e,aG k] w λr w'=>r=aa (ez e.k k)/\Below w w w':=by
 have cp:=((b9 w w).alloc bu (ab e 45)).alloc aM (ab k 43);refine Dt;have a:=b2 (aP w (ab e 45)) (ab k 43);have c:=aP (w.alloc (ab e 45)) (ab k 43);refine U1;refine aS (EA e.k k aq) λaF al=>?_;exact zQ
def Lr(a b:aE)(w:aj):aB 379 #[aG a,aG b] w λr w'=>r=aa (ez a.k b.k)/\Below w w w':=by
 have cp:=((b9 w w).alloc bu (ab a 45)).alloc aM (ab b 45);refine W1;refine aS (EA a.k b.k aq) λaF al=>?_;exact zQ
def gA(n bt av:U):aY:=decide (bt<=n)&&decide (n<=av)
def hW(k:dD):aY:=gA k.fr 0 1073741824&&gA k.em 0 2&&gA k.bq 1 9&&gA k.cv 0 15
def ye(n a b:U)(c:aY)(an:gA n a b=c)(w:aj):aB 293 #[aa n,aa a,aa b] w λe w'=>e=.returned (.bool c)/\w=w':=an▸Ls n a b w
def Lq(k:dD)(w:aj):aB 292 #[aG k] w λr w'=>r=.returned (.bool (hW k))/\Below w w w':=by
 have cp:=(b9 w w).alloc bu (ab k 43);have e:=aP w (ab k 43);unfold hW;obtain⟨bP,h1⟩:∃ c,gA k.fr 0 1073741824=c:=⟨_,rfl⟩;obtain⟨bB,h2⟩:∃ c,gA k.em 0 2=c:=⟨_,rfl⟩;obtain⟨e3,i⟩:∃ c,gA k.bq 1 9=c:=⟨_,rfl⟩;obtain⟨e4,j⟩:∃ c,gA k.cv 0 15=c:=⟨_,rfl⟩;refine Tb;rw[h1,h2,i,j];cases bP
 .clear d b a
  go_in
  refine zT;exact sk
 cases bB
 .clear b a
  go_in
  refine UO;go_ret;exact⟨aM,cp⟩
 cases e3
 .clear a
  go_in
  refine RU;exact sk
 go_in
 refine RU;refine aK;refine bJ (a.o _) ?_;exact sk
def fx(e:aE):aY:=hW e.k&&gA e.df 0 31&&gA e.eb 0 32768&&gA e.hq (-32768) 32768&&gA e.eP 0 15&&gA e.le 0 600
def yd(e:aE)(w:aj):aB 229 #[aG e] w λr w'=>r=.returned (.bool (fx e))/\Below w w w':=by
 have cp:=(b9 w w).alloc bu (ab e 45);have q:=ad (aP w (ab e 45));unfold fx;obtain⟨bw,h⟩:∃ c,hW e.k=c:=⟨_,rfl⟩;obtain⟨bP,h1⟩:∃ c,gA e.df 0 31=c:=⟨_,rfl⟩;obtain⟨bB,h2⟩:∃ c,gA e.eb 0 32768=c:=⟨_,rfl⟩;obtain⟨e3,i⟩:∃ c,gA e.hq (-32768) 32768=c:=⟨_,rfl⟩;obtain⟨e4,j⟩:∃ c,gA e.eP 0 15=c:=⟨_,rfl⟩;obtain⟨hA,n⟩:∃ c,gA e.le 0 600=c:=⟨_,rfl⟩;have l:=ad λW=>h▸Lq e.k W;refine Tb;have g:=ad (ye _ _ _ _ n);rw[h,h1,h2,i,j,n];cases bw
 .clear f d b a g
  go_in
  go_wp2_with refine aS (l.o _) λaF al=>?_
  refine Ub;exact sk
 cases bP
 .clear d b a g;refine Sc;go_wp2_with refine bJ (f.o _) ?_
  exact sk
 cases bB
 .clear b a g;refine WQ;exact sk
 cases e3
 .clear a g;refine WQ;refine aK;refine bJ (b.o _) ?_;exact sk
 cases e4
 focus
  clear g
 rotate_left;rotate_left
 all_goals
  go_in
  go_wp2_with fail;refine aS (l.o _) λaF al=>?_;have cp:=cp.trans (al.mono cp.size);have m:=(ag.bU (S:=aH) al a1).heap q.o id;have hZ:=aX m;go_wp2_with fail;refine bJ (f.o _) ?_;go_wp2_with fail;refine bJ (d.o _) ?_;go_wp2_with fail;refine bJ (b.o _) ?_;go_wp2_with fail;refine bJ (a.o _) ?_
 .exact sk
 refine aK;refine bJ (g.o _) ?_;exact sk
def b0(l:ai aE):ai ay:=l.flatMap aE.bC
def vX(l:ai aE):(b0 l).length=l.length*9:=by
 induction l with
 | nil=>rfl
 | cons c l a=>simp only[b0,jY,qP]at a⊢;rw[uY,a,k5,r4];rfl
def AM(l:ai aE)(i:J)(h:i<l.length)(j:J)(b:j<9):(b0 l)[i*9+j]?=l[i].bC[j]?:=by
 induction l generalizing i with
 | nil=>exact absurd h (lD _)
 | cons c l a=>
  simp only[b0,jY]at a⊢;cases i with
  | zero=>rw[jF (by simp[aE.bC];omega)];simp
  | succ i=>
   rw[l6 (by simp[aE.bC,k5];omega),show(i+1)*9+j-c.bC.length=i*9+j by simp[aE.bC,k5];omega];exact DS
structure sw(xs:ai aE)(b6 di fO:J)(k:dD)(W:aj):ae where
 an:∀ (j:J) u,(b0 xs)[j]?=some u->W.cell? (ah b6 (di+j))=some u
 bD:W.heap[fO]?=ab k 43 (0,0)
theorem sw.keep{xs:ai aE}{k:dD}{W':aj}(h:sw xs b6 di fO k W)(hk:ag aH W W'):sw xs b6 di fO k W':=
 ⟨λj u a=>hk.cell (h.an j u a) id,hk.heap h.bD id⟩
theorem sw.cell{xs:ai aE}{k:dD}(h:sw xs b6 di fO k W)(i:J)(av:i<xs.length)(j:J)(a:j<9){u:ay}(b:xs[i].bC[j]?=some u):W.cell? (ah b6 (di+i*9+j))=some u:=by
 exact VA
def Zu(xs:ai aE){A:cr Addr}{cap:J}(n:ey w 9 A xs.length cap (b0 xs))(aw:xs.length<=1000)(k:dD)(m:J)(hm:m<=xs.length)(l':∀ i (av:i<xs.length),i<m->ez xs[i].k k<0)(H:∀ i (av:i<xs.length),m<=i->¬ ez xs[i].k k<0):aB 389 #[au A xs.length cap,aG k,.func (.func 390) #[] #[]] w λr w'=>
   r=aV #[aa m,(decide (∃ h:m<xs.length,ez xs[m].k k=0))]/\Below w w w':=by
 have cp:=(b9 w w).alloc bu (ab k 43);have D:=aP w (ab k 43);have t:=n.keeps (S:=aH) ((ag.refl _ w).alloc (ab k 43)) (λ_ _ _=>id);have Z:=ad t;have fo:=ad D;have iQ:=ad cp;have y:=ad l';have v:=ad H
 go_in
 go_wp2_with fail;generalize World.alloc w _=bo at *;go_loopg [9,10,11] xs.length (λg i j _ wr=>∃ p q:J,g=q-p/\i=aa p/\j=aa q/\p<=m/\m<=q/\q<=xs.length/\ag aH bo wr)
 case atStart=>exact⟨0,xs.length,rfl,rfl,rfl,c3 _,hm,dm _,ag.refl _ _⟩
 obtain⟨p,q,a7,rfl,rfl,ao,z,C,hk⟩:=hrel;by_cases hd:p<q
 .have aT:(p+q) / 2<xs.length:=I;refine SJ;refine RJ;obtain⟨G,s⟩:=gg (F:=λW=>sw xs b6 di w k W);have bR:∀ x:bA G,x.to.cell? (ah b6 (di+h*9))=aa xs[h].k.fr:=λx=>((s _).1 x.held).cell h aT 0 I rfl;have bI:∀ x:bA G,x.to.cell? (ah b6 (di+h*9+1))=aa xs[h].k.em:=λx=>((s _).1 x.held).cell h aT 1 I rfl;have L:∀ x:bA G,x.to.cell? (ah b6 (di+h*9+2))=aa xs[h].k.bq:=λx=>((s _).1 x.held).cell h aT 2 I rfl;have N:∀ x:bA G,x.to.cell? (ah b6 (di+h*9+3))=aa xs[h].k.cv:=λx=>((s _).1 x.held).cell h aT 3 I rfl;have Q:∀ x:bA G,x.to.cell? (ah b6 (di+h*9+4))=aa xs[h].df:=λx=>((s _).1 x.held).cell h aT 4 I rfl;have R:∀ x:bA G,x.to.cell? (ah b6 (di+h*9+5))=aa xs[h].eb:=λx=>((s _).1 x.held).cell h aT 5 I rfl;have T:∀ x:bA G,x.to.cell? (ah b6 (di+h*9+6))=aa xs[h].hq:=λx=>((s _).1 x.held).cell h aT 6 I rfl;have V:∀ x:bA G,x.to.cell? (ah b6 (di+h*9+7))=aa xs[h].eP:=λx=>((s _).1 x.held).cell h aT 7 I rfl;have X:∀ x:bA G,x.to.cell? (ah b6 (di+h*9+8))=aa xs[h].le:=λx=>((s _).1 x.held).cell h aT 8 I rfl;refine De;have f:=ad (λW=>Lp xs[h] k W);exact RS
 obtain rfl:p=m:=I;obtain rfl:q=p:=I;by_cases l:q<xs.length
 .have aT:=l;refine SJ;refine ob;obtain⟨G,s⟩:=gg (F:=λW=>sw xs b6 di w k W);have bR:∀ x:bA G,x.to.cell? (ah b6 (di+q*9))=aa xs[q].k.fr:=λx=>((s _).1 x.held).cell q aT 0 I rfl;have bI:∀ x:bA G,x.to.cell? (ah b6 (di+q*9+1))=aa xs[q].k.em:=λx=>((s _).1 x.held).cell q aT 1 I rfl;have L:∀ x:bA G,x.to.cell? (ah b6 (di+q*9+2))=aa xs[q].k.bq:=λx=>((s _).1 x.held).cell q aT 2 I rfl;have N:∀ x:bA G,x.to.cell? (ah b6 (di+q*9+3))=aa xs[q].k.cv:=λx=>((s _).1 x.held).cell q aT 3 I rfl;have Q:∀ x:bA G,x.to.cell? (ah b6 (di+q*9+4))=aa xs[q].df:=λx=>((s _).1 x.held).cell q aT 4 I rfl;have R:∀ x:bA G,x.to.cell? (ah b6 (di+q*9+5))=aa xs[q].eb:=λx=>((s _).1 x.held).cell q aT 5 I rfl;have T:∀ x:bA G,x.to.cell? (ah b6 (di+q*9+6))=aa xs[q].hq:=λx=>((s _).1 x.held).cell q aT 6 I rfl;have V:∀ x:bA G,x.to.cell? (ah b6 (di+q*9+7))=aa xs[q].eP:=λx=>((s _).1 x.held).cell q aT 7 I rfl;have X:∀ x:bA G,x.to.cell? (ah b6 (di+q*9+8))=aa xs[q].le:=λx=>((s _).1 x.held).cell q aT 8 I rfl;refine De;have f:=ad (λW=>Lp xs[q] k W);refine S0;have c:(ez xs[q].k k == 0)=decide (∃ h:q<xs.length,ez xs[q].k k=0):=by
   by_cases e:ez xs[q].k k=0
   .simp[e,l]
   simp[e]
  go_ret2;exact⟨by rw[<-c];rfl,a⟩
 have a:=iQ.o.trans (hk.below iQ.o.size (λ_ _ e=>e));have c:decide (∃ h:q<xs.length,ez xs[q].k k=0)=false:=by simp[l]
 exact W6
def agX(fa a b c eD eE ak a8:U)(h1:aZ fa)(h2:aZ a)(m:aZ b)(t:aZ c)(u:eD<=ak)(x:eE<=a8)(w:aj):aB 364 #[aG #[af fa,af a],aG #[af b,af c],aG (d' eD eE ak a8)] w λe w'=>
   e=aV #[aG #[af (fI fa b eD ak 1 2).1,af (fI a c eE a8 4 8).1],aG #[af (fI fa b eD ak 1 2).2.1,af (fI a c eE a8 4 8).2.1],aa (bits .or .i64 (fI fa b eD ak 1 2).2.2 (fI a c eE a8 4 8).2.2),aa 0]/\Below w w w':=by
 have y:=ad (O' fa b eD ak 1 2 h1 m);have z:=ad (O' a c eE a8 4 8 h2 t);generalize (fI fa b eD ak 1 2).1=cm at *;generalize (fI fa b eD ak 1 2).2.1=cB at *;generalize (fI fa b eD ak 1 2).2.2=eS at *;generalize (fI a c eE a8 4 8).1=d at *;generalize (fI a c eE a8 4 8).2.1=f at *;generalize (fI a c eE a8 4 8).2.2=G at *;have A:ag aH w (((((w.alloc (ab #[af fa,af a] 91)).alloc (ab #[af b,af c] 91)).alloc (ab (d' eD eE ak a8) 214)).alloc (ab cH 91)).alloc (ab cH 91)):=(((((ag.refl _ w).alloc _).alloc _).alloc _).alloc _).alloc _;have cp:((((((w.alloc (ab #[af fa,af a] 91)).alloc (ab #[af b,af c] 91)).alloc (ab (d' eD eE ak a8) 214)).alloc (ab cH 91)).alloc (ab cH 91))).heap[w.heap.size]?=some (ab #[af fa,af a] 91 (0,0)):=b2 (b2 (b2 (b2 (aP w _) _) _) _) _;have bS:((((((w.alloc (ab #[af fa,af a] 91)).alloc (ab #[af b,af c] 91)).alloc (ab (d' eD eE ak a8) 214)).alloc (ab cH 91)).alloc (ab cH 91))).heap[w.heap.size+1]?=some (ab #[af b,af c] 91 (0,0)):=by
  have:=b2 (b2 (b2 (aP (w.alloc (ab #[af fa,af a] 91)) (ab #[af b,af c] 91)) (ab (d' eD eE ak a8) 214)) (ab cH 91)) (ab cH 91)
  exact DR
 have l:((((((w.alloc (ab #[af fa,af a] 91)).alloc (ab #[af b,af c] 91)).alloc (ab (d' eD eE ak a8) 214)).alloc (ab cH 91)).alloc (ab cH 91))).heap[w.heap.size+1+1]?=some (ab (d' eD eE ak a8) 214 (0,0)):=by
  have:=b2 (b2 (aP ((w.alloc (ab #[af fa,af a] 91)).alloc (ab #[af b,af c] 91)) (ab (d' eD eE ak a8) 214)) (ab cH 91)) (ab cH 91)
  exact DR
 have g:((((((w.alloc (ab #[af fa,af a] 91)).alloc (ab #[af b,af c] 91)).alloc (ab (d' eD eE ak a8) 214)).alloc (ab cH 91)).alloc (ab cH 91))).heap[w.heap.size+1+1+1]?=some (ab cH 91 (0,0)):=by
  have:=b2 (aP (((w.alloc (ab #[af fa,af a] 91)).alloc (ab #[af b,af c] 91)).alloc (ab (d' eD eE ak a8) 214)) (ab cH 91)) (ab cH 91)
  exact DR
 have h:((((((w.alloc (ab #[af fa,af a] 91)).alloc (ab #[af b,af c] 91)).alloc (ab (d' eD eE ak a8) 214)).alloc (ab cH 91)).alloc (ab cH 91))).heap[w.heap.size+1+1+1+1]?=some (ab cH 91 (0,0)):=by
  have:=aP ((((w.alloc (ab #[af fa,af a] 91)).alloc (ab #[af b,af c] 91)).alloc (ab (d' eD eE ak a8) 214)).alloc (ab cH 91)) (ab cH 91)
  exact DR
 go_in
 go_wp2_with fail;generalize (((((w.alloc (ab #[af fa,af a] 91)).alloc (ab #[af b,af c] 91)).alloc (ab (d' eD eE ak a8) 214)).alloc (ab cH 91)).alloc (ab cH 91))=bo at *;refine aS ((O_ eD eE ak a8 u x) _) λaq al=>?_;have i:=(bd bo).ga al;have B:=A.trans i;have cp:=i.heap cp id;have bS:=i.heap bS id;have l:=i.heap l id;have g:=i.heap g id;have h:=i.heap h id;have q:=aX cp;have sC:=aX bS;have H:=aX l;have M:=bV cp;have N:=bV bS;go_wp2_with fail;refine bJ (y.o _) ?_;simp only;go_wp2_with fail;refine bJ (z.o _) ?_;simp only;have d0:(((((aq.setCell (ah w 0) (af cm)).setCell (ah (w+1) 0) (af cB)).setCell (ah w 1) (af d)).setCell (ah (w+1) 1) (af f))).heap[w.heap.size]?=some (ab #[af cm,af d] 91 (0,0)):=by
  have h1:=bX cp 0 (af cm);have h2:=bX (eB h1 (p:=ah (w+1) 0) aM (af cB)) 1 (af d);have m:=eB h2 (p:=ah (w+1) 1) aM (af f);simpa using m
 have d1:(((((aq.setCell (ah w 0) (af cm)).setCell (ah (w+1) 0) (af cB)).setCell (ah w 1) (af d)).setCell (ah (w+1) 1) (af f))).heap[w.heap.size+1]?=some (ab #[af cB,af f] 91 (0,0)):=by
  have h1:=bX (eB bS (p:=ah w 0) aM (af cm)) 0 (af cB);have h2:=bX (eB h1 (p:=ah w 1) aM (af d)) 1 (af f);simpa using h2
 have bK:ag (λj=>j=w.heap.size\/j=w.heap.size+1) aq ((((aq.setCell (ah w 0) (af cm)).setCell (ah (w+1) 0) (af cB)).setCell (ah w 1) (af d)).setCell (ah (w+1) 1) (af f)):=((((ag.refl _ aq).setCell (p:=ah w 0) (.inl rfl) _).setCell (p:=ah (w+1) 0) (.inr rfl) _).setCell (p:=ah w 1) (.inl rfl) _).setCell (p:=ah (w+1) 1) (.inr rfl) _;have g:=bK.heap g I;have h:=bK.heap h I;have C:=c1 B bK a1;go_wp2_with fail;generalize ((((aq.setCell (ah w 0) (af cm)).setCell (ah (w+1) 0) (af cB)).setCell (ah w 1) (af d)).setCell (ah (w+1) 1) (af f))=aF at *;have q:=aX d0;have sC:=aX d1;have K:=aX g;have L:=aX h;have O:=bV g;have P:=bV h
 go_region
 go_wp2
 have r:((((aF.setCell (ah (w.heap.size+1+1+1) 0) (af cm)).setCell (ah (w.heap.size+1+1+1) 1) (af d)).setCell (ah (w.heap.size+1+1+1+1) 0) (af cB)).setCell (ah (w.heap.size+1+1+1+1) 1) (af f)).heap[w.heap.size+1+1+1]?=some (ab #[af cm,af d] 91 (0,0)):=
  eB (eB (jq g _ _) (p:=ah (w.heap.size+1+1+1+1) 0) aM _) (p:=ah (w.heap.size+1+1+1+1) 1) aM _
 have s:((((aF.setCell (ah (w.heap.size+1+1+1) 0) (af cm)).setCell (ah (w.heap.size+1+1+1) 1) (af d)).setCell (ah (w.heap.size+1+1+1+1) 0) (af cB)).setCell (ah (w.heap.size+1+1+1+1) 1) (af f)).heap[w.heap.size+1+1+1+1]?=some (ab #[af cB,af f] 91 (0,0)):=
  jq (eB (eB h (p:=ah (w.heap.size+1+1+1) 0) aM _) (p:=ah (w.heap.size+1+1+1) 1) aM _) _ _
 have D:=c1 C (((((ag.refl (λj=>w.heap.size<=j) aF).setCell (p:=ah (w.heap.size+1+1+1) 0) CP (af cm)).setCell (p:=ah (w.heap.size+1+1+1) 1) CP (af d)).setCell (p:=ah (w.heap.size+1+1+1+1) 0) CO (af cB)).setCell (p:=ah (w.heap.size+1+1+1+1) 1) CO (af f)) a1;generalize (((aF.setCell (ah (w.heap.size+1+1+1) 0) (af cm)).setCell (ah (w.heap.size+1+1+1) 1) (af d)).setCell (ah (w.heap.size+1+1+1+1) 0) (af cB)).setCell (ah (w.heap.size+1+1+1+1) 1) (af f)=n at *;have E:=kJ (w:=n.drew) r;have F:=kJ (w:=n.drew) s;refine dH (v:=aV #[aG #[af cm,af d],aG #[af cB,af f],aa (bits .or .i64 eS G),aa 0]) (by simp[results,results364,asAddr,loadVar,loadCells,isAgg91,sizeOf91,E,F]) rfl ?_;exact⟨rfl,D.drew.below bu (λk h1 h2=>h2)⟩
def fm(x f:U):a6 ay:=#[af x,af 0,af 0,af 0,aa f,aa 3,aa 0,aa 0,aa 0,aa 0]
def yg(x f:U):(fm x f).toList.all (λv=>v.oneCell')=true:=bc
def Me(w:aj):aB 259 #[aa 0] w λe w'=>e=.returned (.agg (fm (-2097152) 0))/\Below w w w':=by
 refine R8;have k:=fS (P:=prog) 93 10 (w.heap.size+1) 0 (fm (-2097152) 0) _ _ isAgg93 sizeOf93 rfl b (λj u a=>km);obtain⟨l,o,h⟩:=dT _ 93 10 w (fm (-2097152) 0) _ sizeOf93 rfl rfl d (yg _ _);have y:=(g.trans (h.mono λ_ _ e=>.inl e)).below (B:=w.heap.size) bu a1;clear b d g h;have m:((0:U) == 1)=false:=bs
 go_in
 go_wp2_with first|refine c' f rfl rfl rfl rfl ?_|refine dg k rfl rfl rfl ?_|refine c' l rfl rfl rfl rfl ?_
 refine dH (v:=.agg (fm (-2097152) 0)) Q0 rfl ?_;exact o8
def Mf(w:aj):aB 259 #[aa 1] w λe w'=>e=.returned (.agg (fm 2097152 32768))/\Below w w w':=by
 refine R8;have g0:=bV b;have bw:=aX b;have k:=bX b 0 (af 2097152);have h:=bX k 4 (aa 32768);rw[show((fm (-2097152) 0).setIfInBounds 0 (af 2097152)).setIfInBounds 4 (aa 32768)=fm 2097152 32768 from rfl]at h;have l:=eB (eB d (p:=ah (w+1) 0) aM (af 2097152)) (p:=ah (w+1) 4) aM (aa 32768);have n:=(g.setCell (p:=ah (w+1) 0) (.inr rfl) (af 2097152)).setCell (p:=ah (w+1) 4) (.inr rfl) (aa 32768);have r:=fS (P:=prog) 93 10 (w.heap.size+1) 0 (fm 2097152 32768) _ _ isAgg93 sizeOf93 rfl h (λj u a=>km);obtain⟨s,o,m⟩:=dT _ 93 10 w (fm 2097152 32768) _ sizeOf93 rfl rfl l (yg _ _);have y:=(n.trans (m.mono λ_ _ e=>.inl e)).below (B:=w.heap.size) bu a1;clear b d g m k h l n
 go_in
 go_upto_region 2 with(first|(refine c' f rfl rfl rfl rfl ?_)|fail)
 clear f;go_upto_region 4 with fail
 generalize (aq.setCell (ah (w+1) 0) (af 2097152)).setCell (ah (w+1) 4) (aa 32768)=br at *;go_wp2_with first|refine dg r rfl rfl rfl ?_|refine c' s rfl rfl rfl rfl ?_
 refine dH (v:=.agg (fm 2097152 32768)) Q0 rfl ?_;exact o8
def F'(w:aj):(Instr.build 94 #[(0,.agg (fm (-2097152) 0)),(1,.agg (fm 2097152 32768))]).run prog w=.ok (.agg (fm (-2097152) 0++fm 2097152 32768)) w:=bc
def afO(aN:U)(w:aj):(Instr.build 99 #[(1,bz aN),(3,aa 600),(4,.agg (fm (-2097152) 0++fm 2097152 32768))]).run prog w=.ok (.agg (aQ (ki aN 0))) w:=bc
section
variable{P:Program}{o:Oper}{a:Act}{Q:Exit->Act->aj->ae}{ops:a6 Oper}{rest:ai Oper}{w':aj}{v:ay}
theorem G3{T:TypeId}{i j k:J}{x y z:Operand}{u b c:ay}(hrun:(Instr.build T #[(i,u),(j,b),(k,c)]).run P w=.ok v w')(d:o.guard=none)(ar:o.op=.build T #[(i,x),(j,y),(k,z)])(ak:a.eval x=u)(a8:a.eval y=b)(e:a.eval z=c)(h:wpList P ops Q rest (a.put o.dst v) w'):wpList P ops Q (o :: rest) a w:=
 Ca hrun d ar (by simp[ak,a8,e]) h
end
def aaJ(aN:U)(w:aj):aB 193 #[bz aN] w λe w'=>e=.returned (.agg (aQ (ki aN 0)))/\Below w w w':=by
 have h:=kh w;refine Se;go_wp2_with refine eL h rfl rfl ?_
 generalize w.alloc (ab (aQ bW) 99)=bo at *;refine aS (Me _) λaq a=>?_;refine aK;refine aS (Mf _) λaF b=>?_;refine W0;have y:Below w w (aF.setRow w (aQ (ki aN 0))):=((c.mono λ_ _ x=>x.elim).trans i).below bu a1;generalize aF.setRow w (aQ (ki aN 0))=br at *;clear d f a b g c i h;refine SP;refine dH (v:=.agg (aQ (ki aN 0))) (by simp[results,results193,Act.put,asAddr,loadVar,loadCells,isAgg99,sizeOf99,j]) rfl ?_;exact o8
variable{g bj:J}{aN fr:U}{f:J}
def afU(v:J->U)(bj:J)(w:aj):(Instr.build 458 #[(0,.agg (aQ v)),(1,bM bj)]).run prog w=.ok (.agg (h' v bj)) w:=bc
variable{b:hs}{x:cO}
def qH(y:Fd)(n:J):Fd:={y with de:=uD y.first y.de n (pR y.K n y.last)}
def ly(x:cO)(n j:J):cO:={x with f:=λi=>if i<j then qH (x.f i) n else x.f i}
def aiz(x:cO)(n:J):ly x n 0=x:=by simp[ly]
def aiy(x:cO)(n j:J):{ly x n j with f:=fy (ly x n j).f j (qH (x.f j) n)}=ly x n (j+1):=by
 unfold ly fy;exact R'
def c5.agK(h:c5 w b x)(n:J)(aw:n<=1000000):c5 (w.setCell (ah b.c 7) (aa (n:U))) b {x with now:=n}:=by
 have ok:=h.ok;have hk:=(ag.refl (λj=>j=b.c) w).setCell (p:=ah b.c 7) rfl (aa (n:U));have d:=ok.bw;have f:=ok.bP;refine⟨by simpa using bX h.head 7 (aa (n:U)),λi av=>e1.keeps (h.fd i av) hk λj h1 h2 a=>?_,h.st.keeps hk (λe=>ok.K6 e.symm) (λe=>ok.Ee e.symm),ok,h.aL,aw,h.eZ,h.wn⟩;exact We
def jX(v:J->U):U:=more 1 (nS v)
def aaj(v:J->U)(a_:vM v)(b:mE v=true)(c:(nS v).length<=100000)(w:aj):aB 286 #[.agg (aQ v)] w λe w'=>e=aV #[bz (jX v),aa 0]/\Below w w w':=by
 have d:=ad (aai v a_);rw[b]at d;simp only[if_true]at d;have ax:=ad (GA ⟨(nS v).toArray⟩ (by show(nS v).toArray.size<=_;unfold maxLen;simp;omega));rw[show more 1 (⟨(nS v).toArray⟩:cl).data.toList=jX v by simp[jX]]at ax;generalize (⟨(nS v).toArray⟩:cl)=X at *;generalize jX v=m at *;have al:=(b9 w w).alloc bu (ab (aQ v) 99);have a:=ks (aP w (ab (aQ v) 99))
 go_in
 go_wp2_with refine dg a rfl rfl rfl ?_
 generalize w.alloc (ab (aQ v) 99)=bo at *;refine DN;simp only;refine aK;refine bJ (ax.o _) ?_;go_wp2;go_ret2;exact⟨rfl,al.trans (r.mono al.size)⟩
def YC(h:c5 w b x)(fr:U)(q:0<=fr/\fr<=1000000)(v:J->U)(g:h_ x.L fr=some v)(a_:vM v)(n:mE v=true)(k:(nS v).length<=100000):aB 219 #[b.c,aa fr] w λe w'=>e=aV #[bz (jX v),true]/\ag aH w w':=by
 have ax:=ad (K0 h fr I);rw[g]at ax;simp only[jH,vd]at ax;have d:=ad (aaj v a_ n k);generalize jX v=m at *;refine cg;refine aS ax.o λbr f=>?_;have a:=aP br (ab (aQ bW) 99);obtain⟨p,_,i⟩:=dT (br.alloc (ab (aQ bW) 99)) 99 60 br (aQ v) _ sizeOf99 (dX _) (dX _) a (fJ.2 (oD v));have l:=ks (fb _ br _ (aQ v) 99 a);have s:=f.size;simp only;generalize (br.alloc (ab (aQ bW) 99)).setRow br (aQ v)=aF at *;go_wp2_with first|refine eL (kh br) rfl rfl ?_|refine c' p rfl rfl rfl rfl ?_|refine dg l rfl rfl rfl ?_
 refine DN;simp only;go_wp2;go_ret2;exact⟨rfl,(c1 f (((ag.refl (λj=>j=br) br).alloc (ab (aQ bW) 99)).trans i) a1).ga r⟩
structure lI where
 cL:aE
 late:U
 cut:U
deriving DecidableEq
instance:Coe lI (a6 ay):=⟨λe=>#[aa e.cL.k.fr,aa e.cL.k.em,aa e.cL.k.bq,aa e.cL.k.cv,aa e.cL.df,aa e.cL.eb,aa e.cL.hq,aa e.cL.eP,aa e.cL.le,aa 0,aa e.late,aa e.cut]⟩
structure lI.wf(v:lI):ae where
 cL:fx v.cL=true
 df:1<=v.cL.df/\v.cL.df<=9
 late:0<=v.late/\v.late<=1000000000
 cut:v.cut=-1\/v.cut=0
def XV(n:U)(w:aj):aB 294 #[aa n] w λe w'=>e=.returned (.bool (gA n 1 9))/\w=w':=by
 unfold gA;by_cases h1:1<=n
 .by_cases h2:n<=9
  .exact Wg
  refine kF;exact⟨by simp[h2],rfl⟩
 refine kF;exact⟨b_,rfl⟩
def Ea(n:U)(h:1<=n/\n<=9)(w:aj):aB 230 #[aa n] w λe w'=>e=aV #[aa (48*n),aa 0]/\w=w':=by
 have al:gA n 1 9=true:=by unfold gA;simp[h]
 exact TZ
def w5(n a b:U)(aw:a<=n/\n<=b)(w:aj):aB 331 #[aa n,aa a,aa b] w λe w'=>e=.returned (.bool true)/\w=w':=by
 refine kF;exact⟨aM,rfl⟩
def wR{e:aE}(h:fx e=true):hW e.k=true/\(0<=e.df/\e.df<=31)/\(0<=e.eb/\e.eb<=32768)/\(-32768<=e.hq/\e.hq<=32768)/\(0<=e.eP/\e.eP<=15)/\(0<=e.le/\e.le<=600):=by
 unfold fx gA at h;simp only[e9,hf]at h;exact⟨h.1.1.1.1.1,h.1.1.1.1.2,h.1.1.1.2,h.1.1.2,h.1.2,h.2⟩
def GS(v:lI)(h:v.wf)(w:aj):aB 300 #[aG v] w λe w'=>e=.returned (.bool true)/\Below w w w':=by
 refine xP;obtain⟨e,eC,a⟩:=v;dsimp only at *;have cp:=(b9 w w).alloc bu (ab (kZ e 0 eC a) 175);have g:=aP w (ab (kZ e 0 eC a) 175);obtain⟨_,_,b,c,_,d⟩:=wR h1;have f:=ad (w5 0 0 1099511627776 I);refine cg;refine bJ ((Ea e.df h2) _) ?_;refine aK;refine bJ ((w5 e.eb 0 32768 b) _) ?_;refine aK;refine bJ (((w5 e.hq (-32768) 32768 c)) _) ?_;refine aK;refine bJ ((w5 e.le 0 600 d) _) ?_;refine Di;refine bJ ((w5 eC 0 1099511627776 I) _) ?_;rcases k with rfl|rfl
 .go_wp2;exact DX
 refine zT;go_wp2;exact DX
def aiG(v:lI)(h:v.wf)(w:aj):aB 297 #[aG v,aa 0] w λe w'=>e=.returned (.bool true)/\Below w w w':=by
 have cp:=(b9 w w).alloc bu (ab v 175);have a:=aP w (ab v 175);have c:=ad (GS v h (w.alloc (ab v 175)));refine DG;refine xG;refine aK;refine bJ (w5 0 0 2199023255552 I _) ?_;exact zQ
def qt(e:aE):U:=if 0<e.le then e.le*32 else 48*e.df
def aiH(e:aE)(h:fx e=true)(bg:1<=e.df/\e.df<=9)(w:aj):aB 332 #[aG e] w λr w'=>r=aa (qt e)/\Below w w w':=by
 refine Dk;have⟨_,_,_,_,_,a⟩:=wR h;by_cases ao:0<e.le
 .have a_:qt e=e.le*32:=aD ao;rw[a_];refine cg;exact DX
 have a_:qt e=48*e.df:=az ao;rw[a_];refine cg;refine bJ ((Ea e.df bg) _) ?_;go_wp2;exact DX
def oG(v:lI):aY:=decide (qt v.cL<=v.late)
def AK(v:lI):U:=if v.cut=-1 then max (qt v.cL-v.late) 0 else min (max (qt v.cL-v.late) 0) 64
def Y9(v:lI):(decide (AK v<=0))=oG v:=by
 unfold oG AK;rw[decide_eq_decide];split<;>omega
def aca{e:aE}(h:fx e=true)(bg:1<=e.df/\e.df<=9):0<=qt e/\qt e<=20000:=by
 have⟨_,_,_,_,_,a⟩:=wR h;unfold qt;split<;>omega
def aiD(v:lI)(h:v.wf)(w:aj):aB 298 #[aG v] w λr w'=>r=aa (AK v)/\ag aH w w':=by
 have B:=aca h.cL h.df;have l:=ad (GS v h (w.alloc (ab v 175)));have i:=ad (aiH v.cL h.cL h.df);obtain⟨e,eC,c⟩:=v;refine xP;dsimp only at *;have mv:=(bd w).alloc (ab (kZ e 0 eC c) 175);have fo:=aP w (ab (kZ e 0 eC c) 175);unfold AK;dsimp only;generalize qt e=n at *;obtain⟨gT,hm⟩:∃ gT,max (n-eC) 0=gT:=⟨_,rfl⟩;have C:0<=gT/\gT<=20000:=I;have A:IntKind.i64.wrap (0+gT)=gT:=by rw[Int.zero_add];exact e0 _ I
 refine p9;rw[hm];rcases k with rfl|rfl
 all_goals
  go_in
  go_wp2_with fail;generalize w.alloc _=aq at *;refine aS l.o λaF al=>?_;have g:=ag.bU (S:=aH) al a1;have p:=g.heap Q.o.1 id;have y:=(Q.o.2.trans g).trans (bd aF).drew;have b:=(bd aF).drew.heap p id;go_wp2_with fail;have bR:=jP (S:=aH) (w:=aF.drew) b id;have ds:∀ W,(∃ x:ie aH aF.drew,W=x.to)->(Instr.loadAt 45 w).run prog W=.ok (aG e) W:=λW ⟨x,ak⟩=>by
   rw[ak];refine fS (P:=prog) 45 9 w 0 e _ _ isAgg45 sizeOf45 rfl (x.keeps.heap b id) (λj u f=>?_);rw[gM];refine zY;rw[<-f]
   match j,d with
   | 0,_=>rfl
   | 1,_=>rfl
   | 2,_=>rfl
   | 3,_=>rfl
   | 4,_=>rfl
   | 5,_=>rfl
   | 6,_=>rfl
   | 7,_=>rfl
   | 8,_=>rfl
  refine cS 11 ?_;refine rq (λ_=>False) [0,1,2,3,5,6] [4,7,8] 2 ?_
  repeat (first|(refine rV ds rfl rfl rfl ?_;simp only[Act.put,dV])|go_big_quiet_step (fail))
  refine wpQuiet_nil ?_;refine iU λK m=>?_;go_simp;refine aS (i.o _) λbr t=>?_;have a:=ag.bU (S:=aH) t a1;refine m _ _ (dB (a)) ?_;refine kr (dB (a)) ?_;refine qq (dB (a)) ?_;have q:=a.heap b id;have z:=y.trans a;have D:=aX q;refine hU (λ_=>False) [9,10] [] 0 (mx ?_);refine kt ?_;go_wp2_with fail;go_ret;exact⟨by rw[<-hm];rfl,z⟩
def aiE(v:lI)(h:v.wf)(w:aj):aB 234 #[aG v,aa 0] w λr w'=>r=.returned (.bool (oG v))/\ag aH w w':=by
 have L:=aP w (ab v 175);have c:=ad (aiG v h (w.alloc (ab v 175)));have a:=ad (Y9 v);have b:=bN L ((bd w).alloc (ab v 175));refine j1;refine DG;refine UA;have e:=b.o.2.trans R;refine j1;refine aK;refine aS ((λW=>aiD v h W) _) λbr d=>?_;have f:=e.trans d;refine fB;exact⟨by rw[<-a.o];rfl,f⟩
def aiB(v:lI)(h:v.wf)(w:aj):aB 237 #[aG v,aa 0] w λr w'=>r=aG (kZ v.cL 0 v.late 0)/\ag aH w w':=by
 have D:(w.alloc (ab v 175)).heap.size=w.heap.size+1:=aM;have L:=b2 (aP w (ab v 175)) (ab pX 175);have N:=aP (w.alloc (ab v 175)) (ab pX 175);refine ed;have c:=ad (GS v h ((w.alloc (ab v 175)).alloc (ab pX 175)));have b:=bN L (bx N (((bd w).alloc (ab v 175)).alloc (ab pX 175)));obtain⟨e,eC,n⟩:=v;refine xP;rcases k with rfl|rfl
 .refine Sb;have N:=R.heap b.o.2.1 id;have m:=b.o.2.2.trans R;refine j1;have q:=bV L;refine vv;have fP:=(ag.refl (λj=>j=w) aF).setCell (p:=ah w 11) rfl (aa 0);have l:=fS (P:=prog) 175 12 w 0 (kZ e 0 eC 0) _ _ isAgg175 sizeOf175 rfl ((bX L 11 (aa 0))) (λj u a=>km);obtain⟨g,f,d⟩:=dT _ 175 12 (w.heap.size+1) (kZ e 0 eC 0) _ sizeOf175 rfl rfl ((fP.heap N a1)) rfl;have i:=c1 ((c1 m fP a1)) d a1;refine Iw;exact VM
 refine Sb;refine j1;refine vv;obtain⟨g,f,d⟩:=dT _ 175 12 (w.heap.size+1) (kZ e 0 eC 0) _ sizeOf175 rfl rfl ((R.heap b.o.2.1 id)) rfl;have i:=c1 ((b.o.2.2.trans R)) d a1;go_wp2_with first|refine dg (fS (P:=prog) 175 12 w 0 (kZ e 0 eC 0) _ _ isAgg175 sizeOf175 rfl (L) (λj u a=>km)) rfl rfl rfl ?_|refine c' g rfl rfl rfl rfl ?_
 exact VM
def lH(c:a6 ay):ae:=∃ x y f u eM a b d r,(aZ x/\aZ y/\aZ eM/\aZ a)/\c.toList=[af x,af y,aa f,.bool u,af eM,af a,aa b,.bool d]++r
def lH.cp(h:lH c){x f:U}(ak:aZ x)(a8:aZ y):lH (fz c 0 #[af x,af y,aa f,.bool u]):=by
 obtain⟨_,_,_,_,eM,d,a,b,r,⟨_,_,g,i⟩,e⟩:=h;refine⟨x,y,f,u,eM,d,a,b,r,⟨ak,a8,g,i⟩,?_⟩;unfold fz;rw[e];rfl
def lH.bS(h:lH c){x f:U}(ak:aZ x)(a8:aZ y):lH (fz c 4 #[af x,af y,aa f,.bool u]):=by
 obtain⟨eM,d,a,b,_,_,_,_,r,⟨g,i,_,_⟩,e⟩:=h;refine⟨eM,d,a,b,x,y,f,u,r,⟨g,i,ak,a8⟩,?_⟩;unfold fz;rw[e];rfl
def lH.sp(h:lH c)(k:J)(p:a6 ay):lH (fz c (8+k) p):=by
 have⟨x,y,f,u,eM,d,a,b,r,g,e⟩:=h;refine⟨x,y,f,u,eM,d,a,b,r.take k++p.toList++r.drop (k+p.size),g,?_⟩;unfold fz;rw[e,r4 8 k,show k+8+p.size=(k+p.size)+8 by omega];simp[lC,lz]
def PE(v:J->U)(a_:∀ k,k<2->aZ (v (4+10*k))/\aZ (v (4+10*k+1)))(w:aj):aB 136 #[.agg (aQ v)] w λe w'=>(∃ c,e=.returned (.agg c)/\c.size=26/\(∀ u∈c.toList,u.oneCell'=true)/\lH c)/\Below w w w':=by
 have t:=F_ (w.alloc (ab (aQ v) 99));rw[ft]at t;have y:=F_ ((w.alloc (ab (aQ v) 99)).alloc (ab kG 264));simp only[ft]at y;have s:q0 w v kG (((w.alloc (ab (aQ v) 99)).alloc (ab kG 264)).alloc (ab kG 264)):=by
  refine⟨b2 (b2 (aP w _) _) _,?_,?_,rfl,bs,(((ag.refl _ w).alloc _).alloc _).alloc _⟩
  .have:=b2 (aP (w.alloc (ab (aQ v) 99)) (ab kG 264)) (ab kG 264)
   rwa [ft]at this
  have:=aP ((w.alloc (ab (aQ v) 99)).alloc (ab kG 264)) (ab kG 264)
  rwa [ft,ft]at this
 have r:=af8 v w _ _ s.box;have p:lH kG:=⟨0,0,0,false,0,0,0,false,_,eN,rfl⟩;have p:=ad p;generalize L:kG=H at *
 go_in
 go_wp2_with first|refine eL t rfl rfl ?_|refine eL y rfl rfl ?_|refine dg r rfl rfl rfl ?_
 go_loopg [10] 2 (λg i wr=>∃ k:J,∃ c,g=2-k/\k<=2/\i=aa k/\q0 w v c wr/\lH c)
 case atStart=>exact⟨0,H,rfl,I,rfl,s,p.o⟩
 obtain⟨k,c,a7,hk,rfl,aU,b⟩:=hrel;by_cases n:k<2
 .have q:=af1 v k n;unfold wN at q;have B:=ad (λW=>ail (v (4+10*k)) (v (4+10*k+1)) (v (4+10*k+2)) (v (4+10*k+3)) (v (4+10*k+4)) (v (4+10*k+5)) (v (4+10*k+6)) (v (4+10*k+7)) (v (4+10*k+8)) (v (4+10*k+9)) W);refine jI;refine aS (B.o _) λaq A=>?_;refine Rw
  obtain⟨f⟩:Nonempty ((Instr.storeAt 258 (.pointer (dk (w.heap.size+1+1) (k*4))) (aG #[af (v (4+10*k)),af (v (4+10*k+1)),aa (v (4+10*k+4)),.bool (decide (v (4+10*k+8)=0))])).run prog aq=.ok () (aq.setRow (w.heap.size+2) (fz c (k*4) #[af (v (4+10*k)),af (v (4+10*k+1)),aa (v (4+10*k+4)),.bool (decide (v (4+10*k+8)=0))]))):=
   ⟨rK 258 4 (w.heap.size+1+1) (k*4) _ c 264 sizeOf258 rfl d.st (by rw[d.cK];omega) QP⟩
  have D:=d.put (k*4) #[af (v (4+10*k)),af (v (4+10*k+1)),aa (v (4+10*k+4)),.bool (decide (v (4+10*k+8)=0))] b_ QP;have b:lH (fz c (k*4) #[af (v (4+10*k)),af (v (4+10*k+1)),aa (v (4+10*k+4)),.bool (decide (v (4+10*k+8)=0))]):=by
   have m:=a_ k n;rcases (show k=0\/k=1 by omega)with rfl|rfl
   .exact b.cp m.1 m.2
   exact b.bS m.1 m.2
  have b:=ad b;go_wp2_with refine c' f rfl rfl rfl rfl ?_
  go_roundg (2-(k+1))
  case rel=>exact⟨k+1,_,rfl,I,cT,D,b.o⟩
  omega
 obtain rfl:k=2:=I;have F:=(λW (h:W.heap[w.heap.size]?=some (ab (aQ v) 99 (0,0)))=>Gb v w W _ h) _ aU.box;go_wp2_with refine dg F rfl rfl rfl ?_
 go_loopg [22] 6 (λg i wr=>∃ k:J,∃ c,g=6-k/\k<=6/\i=aa k/\q0 w v c wr/\lH c)
 case atStart=>exact⟨0,c,rfl,I,rfl,aU,b⟩
 obtain⟨k,c,a7,hk,rfl,aU,b⟩:=hrel;by_cases n:k<6
 .have q:=Ga v k n;unfold qE at q;refine jI;refine aS (((λW=>aim (v (24+6*k)) (v (25+6*k)) (v (26+6*k)) (v (27+6*k)) (v (28+6*k)) (v (29+6*k)) W)) _) λaq A=>?_;refine Rw
  have f:(Instr.storeAt 261 (.pointer (dk (w.heap.size+1+1) (8+k*3))) (aG #[af (v (24+6*k)),af (v (25+6*k)),aa (v (28+6*k))])).run prog aq=.ok () (aq.setRow (w.heap.size+2) (fz c (8+k*3) #[af (v (24+6*k)),af (v (25+6*k)),aa (v (28+6*k))])):=
   rK 261 3 (w.heap.size+1+1) (8+k*3) _ c 264 sizeOf261 rfl d.st (by rw[d.cK];omega) QT
  have b:=ad (b.sp (k*3) #[af (v (24+6*k)),af (v (25+6*k)),aa (v (28+6*k))]);go_wp2_with refine c' f rfl rfl rfl rfl ?_
  go_roundg (6-(k+1))
  case rel=>exact⟨k+1,_,rfl,I,cT,(d.put (8+k*3) #[af (v (24+6*k)),af (v (25+6*k)),aa (v (28+6*k))] b_ QT),b.o⟩
  omega
 obtain rfl:k=6:=I;obtain⟨f,r,E⟩:=dT wr 264 26 (w.heap.size+1) c kG sizeOf264 aU.cK rfl aU.res (fJ.2 aU.one);have G:=aU.cK;have z:=bN aU.one b;go_wp2_with first|refine dg (fS (P:=prog) 264 26 (w.heap.size+1+1) 0 c c _ isAgg264 sizeOf264 aU.cK aU.st (λj u a=>km)) rfl rfl rfl ?_|refine c' f rfl rfl rfl rfl ?_
 refine dj (v:=.agg c) r ?_;exact⟨⟨_,rfl,G,z.o.1,z.o.2⟩,((aU.bF.mono λ_ _ x=>x.elim).trans E).below bu a1⟩
def yS{a b c:U}(bg:aZ a)(al:aZ b)(an:aZ c)(hd:aZ d)(w:aj):aB 108 #[aG #[af a,af b],aG #[af c,af d]] w λe w'=>e=aG #[af (cY a c),af (cY b d)]/\Below w w w':=by
 have h1:=F1 a c bg an;have h2:=F1 b d al hd;generalize cY a c=x at *;generalize cY b d=y at *;refine cg;refine jE 11 bc bc ?_;refine Iv;refine dH (v:=aG #[af x,af y]) (by simp[results,results108,go_sem]) rfl ?_;exact V2
def ae7{a b c:U}(bg:aZ a)(al:aZ b)(an:aZ c)(hd:aZ d)(w:aj):aB 113 #[aG #[af a,af b],aG #[af c,af d]] w λe w'=>e=aG #[af (d_ a c),af (d_ b d)]/\Below w w w':=by
 have h1:=Oi a c bg an;have h2:=Oi b d al hd;generalize d_ a c=x at *;generalize d_ b d=y at *;refine cg;refine jE 11 bc bc ?_;refine Iv;refine dH (v:=aG #[af x,af y]) (by simp[results,results113,go_sem]) rfl ?_;exact V2
def F3{a b k:U}(bg:aZ a)(al:aZ b)(hk:aZ k)(w:aj):aB 107 #[aG #[af a,af b],af k] w λe w'=>e=aG #[af (dE a k),af (dE b k)]/\Below w w w':=by
 have h1:=yR a k bg hk;have h2:=yR b k al hk;generalize dE a k=x at *;generalize dE b k=y at *;refine cg;refine jE 9 bc bc ?_;refine Iv;refine dH (v:=aG #[af x,af y]) (by simp[results,results107,go_sem]) rfl ?_;have f:=((b9 w w).alloc bu (ab #[af a,af b] 91)).alloc aM (ab cH 91);refine⟨rfl,k1 (k1 ?_ ?_ _) ?_ _⟩
 .exact vo
 all_goals show w.heap.size<=w.heap.size+1
 all_goals omega
def F4(x y:U)(bg:aZ x)(al:aZ y)(w:aj):aB 115 #[af x,af y] w λe w'=>e=.returned (.int .u64 (x*x+y*y))/\w=w':=by
 have h1:=rb bg;have h2:=rb al;refine xQ;exact er
def Oe(a b:U)(bg:aZ a)(al:aZ b)(d:0<=b)(w:aj):aB 250 #[af a,af b] w λe w'=>e=af (lK a b)/\w=w':=by
 refine xQ;by_cases h:b=0
 .exact U5
 have g:((b:U) == 0)=false:=by rw[ep];exact h
 have hd:oq (a*65536) b=a*65536 / b:=by
  unfold oq;rw[Int.tmod_eq_emod,Int.tdiv_eq_ediv,Int.sign_eq_one_of_pos (show 0<b by omega)];have f:=zi (a*65536) (show 0<b by omega);generalize a*65536=n at *;by_cases an:0<=n\/b ∣ n
  .rw[aD an,aD an];rcases an with an|an
   .rw[az (by simp;intro _;omega)];omega
   rw[az (by simp[Int.emod_eq_zero_of_dvd an])];omega
  rw[az an,az an,aD (by
   have:¬ n%b=0:=λe=>an (.inr (Qx e))
   have h1:n<0:=by omega
   have h2:¬ b<0:=by omega
   simp[h1,h2];omega)]
  omega
 rw[show lK a b=gU (a*65536 / b)by unfold lK;rw[aD h,hd]];have c:IntKind.i64.wrap (a*65536)=a*65536:=by unfold aZ at bg;exact e0 _ I
 refine cg;refine bJ ((F2 (a*65536) b (by unfold aZ at bg;omega) (by unfold aZ at al;omega) w)) ?_;refine aK;refine bJ ((wQ (a*65536 / b) w)) ?_;exact iZ
def afb(n:J)(aw:n<=9223372036854775808)(w:aj):aB 249 #[.int .u64 n] w λe w'=>e=.returned (.int .u64 (kx n))/\w=w':=by
 have aA:=On n I;have C:∀ r:J,r*r<=n->n<(r+1)*(r+1)->r=kx n:=λr h1 h2=>by
  generalize kx n=q at *;rcases QD r q with h|h|h
  .have:=zt (show r+1<=q by omega) (show r+1<=q by omega)
   omega
  .exact h
  have:=zt (show q+1<=r by omega) (show q+1<=r by omega)
  omega
 refine dU;clear aA C;refine cg;go_loopg [3,4,5] 32 (λg bt av _ wr=>∃ l k:J,g=k/\bt=.int .u64 l/\av=.int .u64 (l+2 ^ k:J)/\k<=32/\l+2 ^ k<=4294967296/\l*l<=n/\n<(l+2 ^ k)*(l+2 ^ k)/\w=wr)
 case atStart=>exact⟨0,32,rfl,rfl,rfl,I,I,I,I,rfl⟩
 obtain⟨l,k,rfl,rfl,rfl,hk,c,h1,h2,rfl⟩:=hrel;cases gk with
 | zero=>
  obtain rfl:=m'.out l h1 h2;have d:IntKind.u64.wrap (((kx n+2 ^ 0:J):U)-(kx n:U))=1:=by rw[qN];omega
  generalize kx n+2 ^ 0=h at *;exact tA
 | succ k=>
  obtain⟨P,a⟩:∃ P,2 ^ k=P:=⟨_,rfl⟩;have u:=a▸Nat.one_le_two_pow;have b:2 ^ (k+1)=2*P:=by rw[n',a,o4]
  rw[b]at c h2⊢;have⟨h,aT⟩:=c8 (l+2*P);have⟨m,hm⟩:=c8 (l+P);rw[<-aT]at c h2⊢;have f:m*m<=4294967295*4294967295:=zt I I;have d:IntKind.u64.wrap ((h:U)-(l:U))=2*(P:U):=by rw[qN];omega
  have i:IntKind.u64.wrap ((l:U)+(h:U))=2*(m:U):=by rw[qN];omega
  have j:2*(m:U) / 2=(m:U):=by omega
  have p:IntKind.u64.wrap ((m:U)*(m:U))=((m*m:J):U):=by rw[qN,HA];have:((m:U)*m)=((m*m:J):U):=(HA _ _).symm;omega
  have s:IntKind.u64.wrap (m:U)=(m:U):=by rw[qN];omega
  have H:=bN a (bx aT (bx hm (bx h1 h2)));clear a b aT hm h1 h2 f;by_cases an:m*m<=n
  .have d2:=dh I;refine aK;go_roundg k
   case rel=>
    obtain⟨a,aT,hm,h1,h2⟩:=H.o;exact⟨m,k,rfl,rfl,by rw[a,show h=m+P by omega],I,b4,an,by rw[a,show m+P=h by omega];exact h2,rfl⟩
   omega
  have d2:=cN I;refine aK;go_roundg k
  case rel=>
   obtain⟨a,aT,hm,h1,h2⟩:=H.o;exact⟨l,k,rfl,rfl,by rw[a,hm],I,b4,h1,by rw[a,<-hm];omega,rfl⟩
  omega
def Of(x y:U)(ak:aZ x)(a8:aZ y)(w:aj):aB 172 #[af x,af y] w λe w'=>e=af (mw x y)/\w=w':=by
 have h1:=rb ak;have h2:=rb a8;have ax:=ad (F4 x y ak a8 w);have⟨n,aw⟩:=mJ (show 0<=x*x+y*y by omega);have b:=Oo n I;have a:=ad (afb n I w);unfold mw;rw[aw]at ax⊢;rw[rY];generalize kx n=r at *;refine Ds;refine bJ a.o ?_;refine aK;refine bJ (wQ r w) ?_;exact iZ
def afg(x y s:U)(ak:aZ x)(a8:aZ y)(aA:aZ s)(w:aj):aB 173 #[af x,af y,af s] w λe w'=>e=aV #[af (rP x y s),af (rQ x y s)]/\w=w':=by
 have u:=ad (Of x y ak a8 w);have a:=MW x y;have b:0<=mw x y:=by unfold mw gU;omega
 unfold rP rQ;generalize mw x y=l at *;by_cases h:l=0
 .rw[aD h,aD h];subst h;refine IN;exact qX
 rw[az h,az h];refine IN;refine bJ (yR x s ak aA w) ?_;refine aK;refine bJ ((Oe (dE x s) l (gE _) a b w)) ?_;refine aK;refine bJ (yR y s a8 aA w) ?_;refine aK;refine bJ ((Oe (dE y s) l (gE _) a b w)) ?_;refine aK;exact qX
def ae5(a b c d x y:U)(w:aj):aB 119 #[aG (d' a b c d),aG #[af x,af y]] w λe w'=>e=.returned (.bool (gm a b c d x y))/\Below w w w':=by
 have al:=((b9 w w).alloc bu (ab (d' a b c d) 214)).alloc aM (ab #[af x,af y] 91);by_cases h1:a<=x
 .by_cases h2:x<=c
  .by_cases f:b<=y
   .by_cases g:y<=d
    .rw[show gm a b c d x y=true by simp[gm,h1,h2,f,g]];refine T_;have h:decide (d<y)=false:=cN I;exact zX
    rw[show gm a b c d x y=false by simp[gm,h1,h2,f,g]];refine T_;exact zX
   rw[show gm a b c d x y=false by simp[gm,h1,h2,f]];have d1:decide (x<a)=false:=cN I;have d2:decide (c<x)=false:=cN I;exact zX
  rw[show gm a b c d x y=false by simp[gm,h1,h2]];have d1:decide (x<a)=false:=cN I;exact zX
 rw[show gm a b c d x y=false by simp[gm,h1]];have d1:decide (x<a)=true:=dh I;exact zX
end Go.Proofs.YtalagblioepadaaGreatDoor
