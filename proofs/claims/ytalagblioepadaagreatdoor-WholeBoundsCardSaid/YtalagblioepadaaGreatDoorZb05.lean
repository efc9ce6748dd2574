/- The proof, part 5. -/
import Derived.Test.YtalagblioepadaaGreatDoorZb01
import Derived.OrdersIn
namespace Go.Proofs.YtalagblioepadaaGreatDoor
set_option linter.all false
open List Go.RowKit
set_option maxRecDepth 100000
def M5{p:ak}(h:p:=by
 rw[zi,zi];by_cases h1:(!(aL.setIfInBounds i true).getD k true)=true
 .rw[aD h1,aD (hk h1)];omega
 rw[aA h1];omega
 ):p:=h
def hc(bt:J->aw)(i:J)(v:aw):J->aw:=λj=>if j=i then v else bt j
def XZ(bt:J->aw)(i:J)(v:aw):hc bt i v i=v:=aD rfl
def XY(bt:J->aw){i j:J}(v:aw)(h:j≠i):hc bt i v j=bt j:=aA h
def vz(l:a6 aY)(i j:J)(d:aY):(l.setIfInBounds i true).getD j d=if i=j/\i<l.size then true else l.getD j d:=by
 by_cases h:i=j
 .subst h;by_cases h2:i<l.size
  .simp[h2]
  simp[h2]
 simp[h,wo h]
section
variable{l:ah Oper}{n:J}{tail:Oper}{W:Oper->(Act->ai->ak)->Act->ai->ak}{Q:Act->ai->ak}{Any:J->a6 aY->Act->ai->ak}
def NR(al:∀ b aL a w,(Region.ready .any l.toArray aL=[]->Q a w)->(∀ i∈Region.ready .any l.toArray aL,∀ o,l[i]?=some o->W o (Any b (aL.setIfInBounds i true)) a w)->Any (b+1) aL a w)(e:∀ aL a w,Region.ready .any l.toArray aL=[]->Q a w->Any 0 aL a w)(aL:a6 aY)(g:∀ i,aL.getD i true=true)(a:Act)(w:ai)(c:Q a w)(b:J):Any b aL a w:=by
 have d:Region.ready .any l.toArray aL=[]:=by
  rw[eq_nil_iff_forall_not_mem];intro i av
  have:=(k5.1 av).1
  rw[g i]at this;cases this
 cases b with
 | zero=>exact e _ _ _ d c
 | succ f=>exact al _ _ _ _ (λ_=>c) (λi av=>by rw[d]at av;cases av)
def E6(au:l[n]?=some tail)(v':l.length=n+1)(A:∀ i o,l[i]?=some o->∀ e∈o.after,Region.binds .any e=true->e.on<i)(O:∀ i,i<n->∃ e∈tail.after,e.on=i/\Region.binds .any e=true)(M:∀ o K D a w,(∀ a w,K a w->D a w)->W o K a w->W o D a w)(X:∀ aL a w,Region.ready .any l.toArray aL=[]->Q a w->Any 0 aL a w)(al:∀ d aL a w,(Region.ready .any l.toArray aL=[]->Q a w)->(∀ i∈Region.ready .any l.toArray aL,∀ o,l[i]?=some o->W o (Any d (aL.setIfInBounds i true)) a w)->Any (d+1) aL a w)(F:(J->aw)->Act)(C:ai->ak)(R:J->aw->ai->ak)(hrun:∀ i o bt w,i<n->l[i]?=some o->C w->(∀ e∈o.after,Region.binds .any e=true->R e.on (bt e.on) w)-> W o (λa' w'=>∃ v,a'=F (hc bt i v)/\R i v w'/\C w'/\∀ j u,R j u w->R j u w') (F bt) w)(hfin:∀ bt w,C w->(∀ i,i<n->R i (bt i) w)->W tail Q (F bt) w):∀ (d:J) (aL:a6 aY) (bt:J->aw) (w:ai),aL.size=n+1->aL.getD n true=false->C w->(∀ i,i<n->aL.getD i false=true->R i (bt i) w)->
   ((range (n+1)).countP λi=>!aL.getD i true)<=d->Any d aL (F bt) w:=by
 intro d
 induction d with
 | zero=>
  intro aL bt w N y aU t aq;exfalso
  have:0<(range (n+1)).countP λi=>!aL.getD i true:=by
   rw[countP_pos_iff];exact⟨n,aI,by rw[y];rfl⟩
  omega
 | succ f l'=>
  intro aL bt w N y aU t aq
  -- some operation may come up
  have g':Region.ready .any l.toArray aL≠[]:=by
   have key:∀ m i,i<=m->i<n+1->aL.getD i true=false->Region.ready .any l.toArray aL≠[]:=by
    intro m
    induction m with
    | zero=>
     intro i av B s x;obtain rfl:i=0:=U;have c:0<l.length:=U
     have:0∈Region.ready .any l.toArray aL:=k5.2 ⟨s,l[0],by simp[c],λe b aj=>by
      have:=A 0 l[0] (by simp[c]) e b aj
      omega⟩
     rw[x]at this;cases this
    | succ m ps=>
     intro i av B s x;have c:i<l.length:=U;have r:∀ e∈l[i].after,Region.binds .any e=true->aL.getD e.on false=true:=by
      intro e b aj;have s':=A i l[i] (by simp[c]) e b aj;cases aX:aL.getD e.on false with
      | true=>rfl
      | false=>
       have lb:aL.getD e.on true=false:=by
        have:e.on<aL.size:=U
        simp[this]at aX⊢;exact aX
       exact absurd x (ps e.on U U lb)
     have:i∈Region.ready .any l.toArray aL:=k5.2 ⟨s,l[i],by simp[c],r⟩
     rw[x]at this;cases this
   exact key n n bA U y
  refine al f aL (F bt) w (λh=>absurd h g') λi av o p=>?_;have⟨s,q,z,r⟩:=k5.1 av;have fr:q=o:=by
   rw[jN]at z;rw[p]at z;exact(h7 z).symm
  subst fr;have vl:=(hf.1 p).1;by_cases B:i<n
  ·-- one of those ahead of the last
   have Z:∀ e∈q.after,Region.binds .any e=true->R e.on (bt e.on) w:=by
    intro e b aj
    have:=A i q p e b aj
    exact t e.on U (r e b aj)
   refine M _ _ _ _ _ ?_ (hrun i q bt w B p aU Z);rintro a' w' ⟨v,rfl,Y,P,h2⟩;refine l' _ _ _ (by simpa using N) ?_ P ?_ ?_
   .rw[vz,aA U];exact y
   .intro j g G;by_cases E:j=i
    .subst E;rw[XZ];exact Y
    rw[XY _ _ E];rw[vz,aA U]at G;exact h2 j _ (t j g G)
   have c:((range (n+1)).countP λk=>!(aL.setIfInBounds i true).getD k true)<(range (n+1)).countP λk=>!aL.getD k true:=by
    have hd:∀ (L:ah J),(∀ k∈L,(!(aL.setIfInBounds i true).getD k true)=true->(!aL.getD k true)=true)/\(i∈L->((L.countP λk=>!(aL.setIfInBounds i true).getD k true)+1<=L.countP λk=>!aL.getD k true))/\((L.countP λk=>!(aL.setIfInBounds i true).getD k true)<=L.countP λk=>!aL.getD k true):=by
     intro L
     induction L with
     | nil=>simp
     | cons k L m'=>
      have hk:(!(aL.setIfInBounds i true).getD k true)=true->(!aL.getD k true)=true:=by
       rw[vz];split
       .intro h;cases h
       exact id
      have⟨r',sd,ys⟩:=m';refine⟨λm hm=>by
       rcases e3.1 hm with rfl|hm
       .exact hk
       .exact r' m hm,λhm=>?_,?_⟩
      .by_cases H:k=i
       .subst H;have T:(!(aL.setIfInBounds k true).getD k true)=false:=by rw[vz,aD ⟨rfl,U⟩];rfl
        have V:(!aL.getD k true)=true:=by rw[s];rfl
        rw[zi,zi,T,V];simp only[if_true,wq,if_false];omega
       have:=sd (by rcases e3.1 hm with h|h;exact absurd h.symm H;exact h)
       exact M5
      exact M5
    have:=(hd (range (n+1))).2.1 bU
    omega
   omega
  -- the last
  obtain rfl:i=n:=U;rw[au]at p;obtain rfl:tail=q:=h7 p;have S:∀ j,j<i->R j (bt j) w:=by
   intro j g;obtain⟨e,b,rfl,aj⟩:=O j g;exact t e.on g (r e b aj)
  refine M _ _ _ _ _ (λa' w' gf=>?_) (hfin bt w aU S);refine NR al X _ (λj=>?_) a' w' gf f;rw[vz];split
  .rfl
  rename_i hne;by_cases g:j<i
  .obtain⟨e,b,rfl,aj⟩:=O j g
   have:=r e b aj
   have c:e.on<aL.size:=U;simp[c]at this⊢;exact this
  have:¬ j<aL.size:=U
  simp[this]
end
def yv(l:ah Oper)(n:J):aY:=
 decide (l.length=n+1)&&l.all (λo=>o.guard.isNone)&&(range l.length).all (λi=>match l[i]? with|some o=>o.after.all (λe=>!Region.binds .any e || decide (e.on<i))|none=>true) &&
 (range n).all (λi=>match l[n]? with|some o=>o.after.any (λe=>decide (e.on=i)&&Region.binds .any e)|none=>false)
def I0{l:ah Oper}{n:J}(h:yv l n=true):∃ tail,l[n]?=some tail/\l.length=n+1/\(∀ o∈l,o.guard=none)/\(∀ i o,l[i]?=some o->∀ e∈o.after,Region.binds .any e=true->e.on<i)/\∀ i,i<n->∃ e∈tail.after,e.on=i/\Region.binds .any e=true:=by
 simp only[yv,ee,gg]at h;have⟨⟨⟨h1,h2⟩,f⟩,g⟩:=h;have d:n<l.length:=U;refine⟨l[n],by simp[d],h1,λo a=>?_,λi o a e c aj=>?_,λi av=>?_⟩
 .have:=ff.1 h2 o a
  simpa using this
 .have j:=(hf.1 a).1
  have:=ff.1 f i (ph.2 j)
  rw[a]at this
  have:=Array.all_eq_true_iff_forall_mem.1 this e c
  simpa[aj]using this
 have:=ff.1 g i (ph.2 av)
 rw[gb d]at this;have⟨e,c,b⟩:=KW.1 this;simp only[ee,gg]at b;exact⟨e,c,b.1,b.2⟩
def Kv{o:Oper}(h:o.guard=none)(f:J->b4 aY):Region.wanted o f=true:=by simp[Region.wanted,h]
def I3(n i:J)(h:i<n):(Array.replicate n false).getD i true=false:=by simp[h]
def YX{P:Program}{id:J}{l:ah Oper}(n:J){Q:Exit->Act->ai->ak}{a:Act}{w:ai}(hm:P.follows .mixedOrders=true)(f:yv l n=true)(F:(J->aw)->Act)(C:ai->ak)(R:J->aw->ai->ak)(bt:J->aw)(bj:a=F bt)(aU:C {w with drawn:=w.drawn+1})(hrun:∀ i o bt w,i<n->l[i]?=some o->C w->(∀ e∈o.after,Region.binds .any e=true->R e.on (bt e.on) w)-> o.wp P (F bt) w (λa' w'=>∃ v,a'=F (hc bt i v)/\R i v w'/\C w'/\∀ j u,R j u w->R j u w') Q)(hfin:∀ tail,l[n]?=some tail->∀ bt w,C w->(∀ i,i<n->R i (bt i) w)->tail.wp P (F bt) w (λa' w'=>Q .normal a' w') Q):(Code.region id l.toArray true).wp P Q a w:=by
 subst bj;have⟨tail,au,b,k,g,r⟩:=I0 f;refine De hm ?_
 refine E6 (W:=λo K a w=>o.wp P a w K Q) (Q:=λa w=>Q .normal a w) (Any:=wpAny P .any l.toArray Q) au b g r (λ_ _ _ _ _ h aR=>Oper.wp_mono h aR) (λ_ _ _ q p=>⟨q,p⟩)
  (λs aL a w h1 h2=>⟨h1,λi av=>?_⟩) F C R hrun (hfin tail au) _ _ bt _ (by simp[b]) (I3 _ _ (by simp[b])) aU (λi av h=>?_) ?_
 .unfold wpOp;cases d:l.toArray[i]? with
  | none=>exact absurd (k5.1 av).2 (by rw[d];rintro⟨_,h,_⟩;cases h)
  | some o=>
   have c:l[i]?=some o:=by simpa using d
   simp only[];rw[aD (Kv (k o (ky c)) _)];exact .inl (h2 i av o c)
 .have m:i<l.length:=U;simp[m]at h
 refine b7 (countP_le_length) ?_;simp[b]
def U_{P:Program}{id:J}{l:ah Oper}(r:J)(n:J){Q:Exit->Act->ai->ak}{a:Act}{w:ai}(hm:P.follows .mixedOrders=true)(f:yv l n=true)(F:(J->aw)->Act)(C:ai->ak)(R:J->aw->ai->ak)(bt:J->aw)(bj:a=F bt)(aU:C {w with drawn:=w.drawn+1})(hrun:∀ i o bt w,i<n->l[i]?=some o->C w->(∀ e∈o.after,Region.binds .any e=true->R e.on (bt e.on) w)-> o.wpIn (Fence.wide.inRound r) 0 P (F bt) w (λa' w'=>∃ v,a'=F (hc bt i v)/\R i v w'/\C w'/\∀ j u,R j u w->R j u w') Q)(hfin:∀ tail,l[n]?=some tail->∀ bt w,C w->(∀ i,i<n->R i (bt i) w)->tail.wpIn (Fence.wide.inRound r) 0 P (F bt) w (λa' w'=>Q .normal a' w') Q):(Code.region id l.toArray true).wpIn (Fence.wide.inRound r) 0 P Q a w:=by
 subst bj;have⟨tail,au,b,k,g,s⟩:=I0 f;refine wpIn_region_any hm ?_
 refine E6 (W:=λo K a w=>o.wpIn (Fence.wide.inRound r) 0 P a w K Q) (Q:=λa w=>Q .normal a w) (Any:=wpAnyIn (Fence.wide.inRound r) 0 P .any l.toArray Q) au b g s (λ_ _ _ _ _ h aR=>Oper.wpIn_mono h aR) (λ_ _ _ q p=>⟨q,p⟩)
  (λt aL a w h1 h2=>⟨h1,λi av=>?_⟩) F C R hrun (hfin tail au) _ _ bt _ (by simp[b]) (I3 _ _ (by simp[b])) aU (λi av h=>?_) ?_
 .unfold wpOpIn;cases d:l.toArray[i]? with
  | none=>exact absurd (k5.1 av).2 (by rw[d];rintro⟨_,h,_⟩;cases h)
  | some o=>
   have c:l[i]?=some o:=by simpa using d
   simp only[];rw[aD (Kv (k o (ky c)) _)];exact h2 i av o c
 .have m:i<l.length:=U;simp[m]at h
 refine b7 (countP_le_length) ?_;simp[b]
end Go.Proofs.YtalagblioepadaaGreatDoor
