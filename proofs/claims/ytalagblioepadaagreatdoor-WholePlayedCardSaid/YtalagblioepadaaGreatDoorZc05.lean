/- The proof, part 5. -/
import Derived.Test.YtalagblioepadaaGreatDoorZc01
import Derived.OrdersIn
namespace Go.Proofs.YtalagblioepadaaGreatDoor
set_option linter.all false
open List Go.RowKit
set_option maxRecDepth 100000
def ND{p:ak}(h:p:=by
 rw[zE,zE];by_cases h1:(!(aM.setIfInBounds i true).getD k true)=true
 .rw[aD h1,aD (hk h1)];omega
 rw[az h1];omega
 ):p:=h
def ho(br:J->ax)(i:J)(v:ax):J->ax:=λj=>if j=i then v else br j
def YB(br:J->ax)(i:J)(v:ax):ho br i v i=v:=aD rfl
def YA(br:J->ax){i j:J}(v:ax)(h:j≠i):ho br i v j=br j:=az h
def vP(l:a6 aY)(i j:J)(d:aY):(l.setIfInBounds i true).getD j d=if i=j/\i<l.size then true else l.getD j d:=by
 by_cases h:i=j
 .subst h;by_cases h2:i<l.size
  .simp[h2]
  simp[h2]
 simp[h,wM h]
section
variable{l:ah Oper}{n:J}{tail:Oper}{W:Oper->(Act->ai->ak)->Act->ai->ak}{Q:Act->ai->ak}{Any:J->a6 aY->Act->ai->ak}
def On(an:∀ b aM a w,(Region.ready .any l.toArray aM=[]->Q a w)->(∀ i∈Region.ready .any l.toArray aM,∀ o,l[i]?=some o->W o (Any b (aM.setIfInBounds i true)) a w)->Any (b+1) aM a w)(e:∀ aM a w,Region.ready .any l.toArray aM=[]->Q a w->Any 0 aM a w)(aM:a6 aY)(g:∀ i,aM.getD i true=true)(a:Act)(w:ai)(c:Q a w)(b:J):Any b aM a w:=by
 have d:Region.ready .any l.toArray aM=[]:=by
  rw[eq_nil_iff_forall_not_mem];intro i aw
  have:=(ln.1 aw).1
  rw[g i]at this;cases this
 cases b with
 | zero=>exact e _ _ _ d c
 | succ f=>exact an _ _ _ _ (λ_=>c) (λi aw=>by rw[d]at aw;cases aw)
def Fy(ar:l[n]?=some tail)(vl:l.length=n+1)(A:∀ i o,l[i]?=some o->∀ e∈o.after,Region.binds .any e=true->e.on<i)(O:∀ i,i<n->∃ e∈tail.after,e.on=i/\Region.binds .any e=true)(M:∀ o K D a w,(∀ a w,K a w->D a w)->W o K a w->W o D a w)(X:∀ aM a w,Region.ready .any l.toArray aM=[]->Q a w->Any 0 aM a w)(an:∀ d aM a w,(Region.ready .any l.toArray aM=[]->Q a w)->(∀ i∈Region.ready .any l.toArray aM,∀ o,l[i]?=some o->W o (Any d (aM.setIfInBounds i true)) a w)->Any (d+1) aM a w)(F:(J->ax)->Act)(C:ai->ak)(R:J->ax->ai->ak)(hrun:∀ i o br w,i<n->l[i]?=some o->C w->(∀ e∈o.after,Region.binds .any e=true->R e.on (br e.on) w)-> W o (λa' w'=>∃ v,a'=F (ho br i v)/\R i v w'/\C w'/\∀ j u,R j u w->R j u w') (F br) w)(hfin:∀ br w,C w->(∀ i,i<n->R i (br i) w)->W tail Q (F br) w):∀ (d:J) (aM:a6 aY) (br:J->ax) (w:ai),aM.size=n+1->aM.getD n true=false->C w->(∀ i,i<n->aM.getD i false=true->R i (br i) w)->
   ((range (n+1)).countP λi=>!aM.getD i true)<=d->Any d aM (F br) w:=by
 intro d
 induction d with
 | zero=>
  intro aM br w N y aT t al;exfalso
  have:0<(range (n+1)).countP λi=>!aM.getD i true:=by
   rw[countP_pos_iff];exact⟨n,aK,by rw[y];rfl⟩
  omega
 | succ f l'=>
  intro aM br w N y aT t al
  -- some operation may come up
  have g':Region.ready .any l.toArray aM≠[]:=by
   have key:∀ m i,i<=m->i<n+1->aM.getD i true=false->Region.ready .any l.toArray aM≠[]:=by
    intro m
    induction m with
    | zero=>
     intro i aw B s x;obtain rfl:i=0:=U;have c:0<l.length:=U
     have:0∈Region.ready .any l.toArray aM:=ln.2 ⟨s,l[0],by simp[c],λe b aj=>by
      have:=A 0 l[0] (by simp[c]) e b aj
      omega⟩
     rw[x]at this;cases this
    | succ m m'=>
     intro i aw B s x;have c:i<l.length:=U;have r:∀ e∈l[i].after,Region.binds .any e=true->aM.getD e.on false=true:=by
      intro e b aj;have sd:=A i l[i] (by simp[c]) e b aj;cases aW:aM.getD e.on false with
      | true=>rfl
      | false=>
       have lb:aM.getD e.on true=false:=by
        have:e.on<aM.size:=U
        simp[this]at aW⊢;exact aW
       exact absurd x (m' e.on U U lb)
     have:i∈Region.ready .any l.toArray aM:=ln.2 ⟨s,l[i],by simp[c],r⟩
     rw[x]at this;cases this
   exact key n n bs U y
  refine an f aM (F br) w (λh=>absurd h g') λi aw o p=>?_;have⟨s,q,z,r⟩:=ln.1 aw;have fr:q=o:=by
   rw[jW]at z;rw[p]at z;exact(ij z).symm
  subst fr;have s':=(hp.1 p).1;by_cases B:i<n
  ·-- one of those ahead of the last
   have Z:∀ e∈q.after,Region.binds .any e=true->R e.on (br e.on) w:=by
    intro e b aj
    have:=A i q p e b aj
    exact t e.on U (r e b aj)
   refine M _ _ _ _ _ ?_ (hrun i q br w B p aT Z);rintro a' w' ⟨v,rfl,Y,P,h2⟩;refine l' _ _ _ (by simpa using N) ?_ P ?_ ?_
   .rw[vP,az U];exact y
   .intro j g G;by_cases E:j=i
    .subst E;rw[YB];exact Y
    rw[YA _ _ E];rw[vP,az U]at G;exact h2 j _ (t j g G)
   have c:((range (n+1)).countP λk=>!(aM.setIfInBounds i true).getD k true)<(range (n+1)).countP λk=>!aM.getD k true:=by
    have hd:∀ (L:ah J),(∀ k∈L,(!(aM.setIfInBounds i true).getD k true)=true->(!aM.getD k true)=true)/\(i∈L->((L.countP λk=>!(aM.setIfInBounds i true).getD k true)+1<=L.countP λk=>!aM.getD k true))/\((L.countP λk=>!(aM.setIfInBounds i true).getD k true)<=L.countP λk=>!aM.getD k true):=by
     intro L
     induction L with
     | nil=>simp
     | cons k L mv=>
      have hk:(!(aM.setIfInBounds i true).getD k true)=true->(!aM.getD k true)=true:=by
       rw[vP];split
       .intro h;cases h
       exact id
      have⟨ps,r',v'⟩:=mv;refine⟨λm hm=>by
       rcases e6.1 hm with rfl|hm
       .exact hk
       .exact ps m hm,λhm=>?_,?_⟩
      .by_cases H:k=i
       .subst H;have T:(!(aM.setIfInBounds k true).getD k true)=false:=by rw[vP,aD ⟨rfl,U⟩];rfl
        have V:(!aM.getD k true)=true:=by rw[s];rfl
        rw[zE,zE,T,V];simp only[if_true,wN,if_false];omega
       have:=r' (by rcases e6.1 hm with h|h;exact absurd h.symm H;exact h)
       exact ND
      exact ND
    have:=(hd (range (n+1))).2.1 bT
    omega
   omega
  -- the last
  obtain rfl:i=n:=U;rw[ar]at p;obtain rfl:tail=q:=ij p;have S:∀ j,j<i->R j (br j) w:=by
   intro j g;obtain⟨e,b,rfl,aj⟩:=O j g;exact t e.on g (r e b aj)
  refine M _ _ _ _ _ (λa' w' gf=>?_) (hfin br w aT S);refine On an X _ (λj=>?_) a' w' gf f;rw[vP];split
  .rfl
  rename_i hne;by_cases g:j<i
  .obtain⟨e,b,rfl,aj⟩:=O j g
   have:=r e b aj
   have c:e.on<aM.size:=U;simp[c]at this⊢;exact this
  have:¬ j<aM.size:=U
  simp[this]
end
def yR(l:ah Oper)(n:J):aY:=
 decide (l.length=n+1)&&l.all (λo=>o.guard.isNone)&&(range l.length).all (λi=>match l[i]? with|some o=>o.after.all (λe=>!Region.binds .any e || decide (e.on<i))|none=>true) &&
 (range n).all (λi=>match l[n]? with|some o=>o.after.any (λe=>decide (e.on=i)&&Region.binds .any e)|none=>false)
def Jo{l:ah Oper}{n:J}(h:yR l n=true):∃ tail,l[n]?=some tail/\l.length=n+1/\(∀ o∈l,o.guard=none)/\(∀ i o,l[i]?=some o->∀ e∈o.after,Region.binds .any e=true->e.on<i)/\∀ i,i<n->∃ e∈tail.after,e.on=i/\Region.binds .any e=true:=by
 simp only[yR,d',fZ]at h;have⟨⟨⟨h1,h2⟩,f⟩,g⟩:=h;have d:n<l.length:=U;refine⟨l[n],by simp[d],h1,λo a=>?_,λi o a e c aj=>?_,λi aw=>?_⟩
 .have:=fg.1 h2 o a
  simpa using this
 .have j:=(hp.1 a).1
  have:=fg.1 f i (po.2 j)
  rw[a]at this
  have:=Array.all_eq_true_iff_forall_mem.1 this e c
  simpa[aj]using this
 have:=fg.1 g i (po.2 aw)
 rw[gl d]at this;have⟨e,c,b⟩:=Lq.1 this;simp only[d',fZ]at b;exact⟨e,c,b.1,b.2⟩
def K1{o:Oper}(h:o.guard=none)(f:J->b5 aY):Region.wanted o f=true:=by simp[Region.wanted,h]
def Js(n i:J)(h:i<n):(Array.replicate n false).getD i true=false:=by simp[h]
def ZB{P:Program}{id:J}{l:ah Oper}(n:J){Q:Exit->Act->ai->ak}{a:Act}{w:ai}(hm:P.follows .mixedOrders=true)(f:yR l n=true)(F:(J->ax)->Act)(C:ai->ak)(R:J->ax->ai->ak)(br:J->ax)(bd:a=F br)(aT:C {w with drawn:=w.drawn+1})(hrun:∀ i o br w,i<n->l[i]?=some o->C w->(∀ e∈o.after,Region.binds .any e=true->R e.on (br e.on) w)-> o.wp P (F br) w (λa' w'=>∃ v,a'=F (ho br i v)/\R i v w'/\C w'/\∀ j u,R j u w->R j u w') Q)(hfin:∀ tail,l[n]?=some tail->∀ br w,C w->(∀ i,i<n->R i (br i) w)->tail.wp P (F br) w (λa' w'=>Q .normal a' w') Q):(Code.region id l.toArray true).wp P Q a w:=by
 subst bd;have⟨tail,ar,b,k,g,r⟩:=Jo f;refine DF hm ?_
 refine Fy (W:=λo K a w=>o.wp P a w K Q) (Q:=λa w=>Q .normal a w) (Any:=wpAny P .any l.toArray Q) ar b g r (λ_ _ _ _ _ h aJ=>Oper.wp_mono h aJ) (λ_ _ _ q p=>⟨q,p⟩)
  (λs aM a w h1 h2=>⟨h1,λi aw=>?_⟩) F C R hrun (hfin tail ar) _ _ br _ (by simp[b]) (Js _ _ (by simp[b])) aT (λi aw h=>?_) ?_
 .unfold wpOp;cases d:l.toArray[i]? with
  | none=>exact absurd (ln.1 aw).2 (by rw[d];rintro⟨_,h,_⟩;cases h)
  | some o=>
   have c:l[i]?=some o:=by simpa using d
   simp only[];rw[aD (K1 (k o (kH c)) _)];exact .inl (h2 i aw o c)
 .have m:i<l.length:=U;simp[m]at h
 refine b7 (countP_le_length) ?_;simp[b]
def VJ{P:Program}{id:J}{l:ah Oper}(r:J)(n:J){Q:Exit->Act->ai->ak}{a:Act}{w:ai}(hm:P.follows .mixedOrders=true)(f:yR l n=true)(F:(J->ax)->Act)(C:ai->ak)(R:J->ax->ai->ak)(br:J->ax)(bd:a=F br)(aT:C {w with drawn:=w.drawn+1})(hrun:∀ i o br w,i<n->l[i]?=some o->C w->(∀ e∈o.after,Region.binds .any e=true->R e.on (br e.on) w)-> o.wpIn (Fence.wide.inRound r) 0 P (F br) w (λa' w'=>∃ v,a'=F (ho br i v)/\R i v w'/\C w'/\∀ j u,R j u w->R j u w') Q)(hfin:∀ tail,l[n]?=some tail->∀ br w,C w->(∀ i,i<n->R i (br i) w)->tail.wpIn (Fence.wide.inRound r) 0 P (F br) w (λa' w'=>Q .normal a' w') Q):(Code.region id l.toArray true).wpIn (Fence.wide.inRound r) 0 P Q a w:=by
 subst bd;have⟨tail,ar,b,k,g,s⟩:=Jo f;refine wpIn_region_any hm ?_
 refine Fy (W:=λo K a w=>o.wpIn (Fence.wide.inRound r) 0 P a w K Q) (Q:=λa w=>Q .normal a w) (Any:=wpAnyIn (Fence.wide.inRound r) 0 P .any l.toArray Q) ar b g s (λ_ _ _ _ _ h aJ=>Oper.wpIn_mono h aJ) (λ_ _ _ q p=>⟨q,p⟩)
  (λt aM a w h1 h2=>⟨h1,λi aw=>?_⟩) F C R hrun (hfin tail ar) _ _ br _ (by simp[b]) (Js _ _ (by simp[b])) aT (λi aw h=>?_) ?_
 .unfold wpOpIn;cases d:l.toArray[i]? with
  | none=>exact absurd (ln.1 aw).2 (by rw[d];rintro⟨_,h,_⟩;cases h)
  | some o=>
   have c:l[i]?=some o:=by simpa using d
   simp only[];rw[aD (K1 (k o (kH c)) _)];exact h2 i aw o c
 .have m:i<l.length:=U;simp[m]at h
 refine b7 (countP_le_length) ?_;simp[b]
end Go.Proofs.YtalagblioepadaaGreatDoor
