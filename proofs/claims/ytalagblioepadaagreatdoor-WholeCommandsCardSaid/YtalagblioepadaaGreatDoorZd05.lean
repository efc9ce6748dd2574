/- The proof, part 5. -/
import Derived.Test.YtalagblioepadaaGreatDoorZd01
import Derived.OrdersIn
namespace Go.Proofs.YtalagblioepadaaGreatDoor
set_option linter.all false
open List Go.RowKit
set_option maxRecDepth 100000
def Ol{p:al}(h:p:=by
 rw[z7,z7];by_cases h1:(!(aQ.setIfInBounds i true).getD k true)=true
 .rw[aE h1,aE (hk h1)];omega
 rw[aB h1];omega
 ):p:=h
def hC(bu:J->ay)(i:J)(v:ay):J->ay:=λj=>if j=i then v else bu j
def Zk(bu:J->ay)(i:J)(v:ay):hC bu i v i=v:=aE rfl
def Zj(bu:J->ay){i j:J}(v:ay)(h:j≠i):hC bu i v j=bu j:=aB h
def wb(l:a7 a1)(i j:J)(d:a1):(l.setIfInBounds i true).getD j d=if i=j/\i<l.size then true else l.getD j d:=by
 by_cases h:i=j
 .subst h;by_cases h2:i<l.size
  .simp[h2]
  simp[h2]
 simp[h,w1 h]
section
variable{l:ah Oper}{n:J}{tail:Oper}{W:Oper->(Act->aj->al)->Act->aj->al}{Q:Act->aj->al}{Any:J->a7 a1->Act->aj->al}
def O'(ar:∀ b aQ a w,(Region.ready .any l.toArray aQ=[]->Q a w)->(∀ i∈Region.ready .any l.toArray aQ,∀ o,l[i]?=some o->W o (Any b (aQ.setIfInBounds i true)) a w)->Any (b+1) aQ a w)(e:∀ aQ a w,Region.ready .any l.toArray aQ=[]->Q a w->Any 0 aQ a w)(aQ:a7 a1)(g:∀ i,aQ.getD i true=true)(a:Act)(w:aj)(c:Q a w)(b:J):Any b aQ a w:=by
 have d:Region.ready .any l.toArray aQ=[]:=by
  rw[eq_nil_iff_forall_not_mem];intro i ax
  have:=(lE.1 ax).1
  rw[g i]at this;cases this
 cases b with
 | zero=>exact e _ _ _ d c
 | succ f=>exact ar _ _ _ _ (λ_=>c) (λi ax=>by rw[d]at ax;cases ax)
def F8(av:l[n]?=some tail)(vl:l.length=n+1)(A:∀ i o,l[i]?=some o->∀ e∈o.after,Region.binds .any e=true->e.on<i)(O:∀ i,i<n->∃ e∈tail.after,e.on=i/\Region.binds .any e=true)(M:∀ o K D a w,(∀ a w,K a w->D a w)->W o K a w->W o D a w)(X:∀ aQ a w,Region.ready .any l.toArray aQ=[]->Q a w->Any 0 aQ a w)(ar:∀ d aQ a w,(Region.ready .any l.toArray aQ=[]->Q a w)->(∀ i∈Region.ready .any l.toArray aQ,∀ o,l[i]?=some o->W o (Any d (aQ.setIfInBounds i true)) a w)->Any (d+1) aQ a w)(F:(J->ay)->Act)(C:aj->al)(R:J->ay->aj->al)(hrun:∀ i o bu w,i<n->l[i]?=some o->C w->(∀ e∈o.after,Region.binds .any e=true->R e.on (bu e.on) w)-> W o (λa' w'=>∃ v,a'=F (hC bu i v)/\R i v w'/\C w'/\∀ j u,R j u w->R j u w') (F bu) w)(hfin:∀ bu w,C w->(∀ i,i<n->R i (bu i) w)->W tail Q (F bu) w):∀ (d:J) (aQ:a7 a1) (bu:J->ay) (w:aj),aQ.size=n+1->aQ.getD n true=false->C w->(∀ i,i<n->aQ.getD i false=true->R i (bu i) w)->
   ((range (n+1)).countP λi=>!aQ.getD i true)<=d->Any d aQ (F bu) w:=by
 intro d
 induction d with
 | zero=>
  intro aQ bu w N y aV t an;exfalso
  have:0<(range (n+1)).countP λi=>!aQ.getD i true:=by
   rw[countP_pos_iff];exact⟨n,aM,by rw[y];rfl⟩
  omega
 | succ f lb=>
  intro aQ bu w N y aV t an
  -- some operation may come up
  have gf:Region.ready .any l.toArray aQ≠[]:=by
   have key:∀ m i,i<=m->i<n+1->aQ.getD i true=false->Region.ready .any l.toArray aQ≠[]:=by
    intro m
    induction m with
    | zero=>
     intro i ax B s x;obtain rfl:i=0:=U;have c:0<l.length:=U
     have:0∈Region.ready .any l.toArray aQ:=lE.2 ⟨s,l[0],by simp[c],λe b ak=>by
      have:=A 0 l[0] (by simp[c]) e b ak
      omega⟩
     rw[x]at this;cases this
    | succ m m'=>
     intro i ax B s x;have c:i<l.length:=U;have r:∀ e∈l[i].after,Region.binds .any e=true->aQ.getD e.on false=true:=by
      intro e b ak;have sd:=A i l[i] (by simp[c]) e b ak;cases aU:aQ.getD e.on false with
      | true=>rfl
      | false=>
       have h2:aQ.getD e.on true=false:=by
        have:e.on<aQ.size:=U
        simp[this]at aU⊢;exact aU
       exact absurd x (m' e.on U U h2)
     have:i∈Region.ready .any l.toArray aQ:=lE.2 ⟨s,l[i],by simp[c],r⟩
     rw[x]at this;cases this
   exact key n n bx U y
  refine ar f aQ (F bu) w (λh=>absurd h gf) λi ax o p=>?_;have⟨s,q,z,r⟩:=lE.1 ax;have ab:q=o:=by
   rw[ka]at z;rw[p]at z;exact(hi z).symm
  subst ab;have s':=(hD.1 p).1;by_cases B:i<n
  ·-- one of those ahead of the last
   have Z:∀ e∈q.after,Region.binds .any e=true->R e.on (bu e.on) w:=by
    intro e b ak
    have:=A i q p e b ak
    exact t e.on U (r e b ak)
   refine M _ _ _ _ _ ?_ (hrun i q bu w B p aV Z);rintro a' w' ⟨v,rfl,Y,P,hd⟩;refine lb _ _ _ (by simpa using N) ?_ P ?_ ?_
   .rw[wb,aB U];exact y
   .intro j g G;by_cases E:j=i
    .subst E;rw[Zk];exact Y
    rw[Zj _ _ E];rw[wb,aB U]at G;exact hd j _ (t j g G)
   have c:((range (n+1)).countP λk=>!(aQ.setIfInBounds i true).getD k true)<(range (n+1)).countP λk=>!aQ.getD k true:=by
    have g':∀ (L:ah J),(∀ k∈L,(!(aQ.setIfInBounds i true).getD k true)=true->(!aQ.getD k true)=true)/\(i∈L->((L.countP λk=>!(aQ.setIfInBounds i true).getD k true)+1<=L.countP λk=>!aQ.getD k true))/\((L.countP λk=>!(aQ.setIfInBounds i true).getD k true)<=L.countP λk=>!aQ.getD k true):=by
     intro L
     induction L with
     | nil=>simp
     | cons k L l'=>
      have hk:(!(aQ.setIfInBounds i true).getD k true)=true->(!aQ.getD k true)=true:=by
       rw[wb];split
       .intro h;cases h
       exact id
      have⟨ps,r',v'⟩:=l';refine⟨λm hm=>by
       rcases ff.1 hm with rfl|hm
       .exact hk
       .exact ps m hm,λhm=>?_,?_⟩
      .by_cases H:k=i
       .subst H;have T:(!(aQ.setIfInBounds k true).getD k true)=false:=by rw[wb,aE ⟨rfl,U⟩];rfl
        have V:(!aQ.getD k true)=true:=by rw[s];rfl
        rw[z7,z7,T,V];simp only[if_true,w3,if_false];omega
       have:=r' (by rcases ff.1 hm with h|h;exact absurd h.symm H;exact h)
       exact Ol
      exact Ol
    have:=(g' (range (n+1))).2.1 b1
    omega
   omega
  -- the last
  obtain rfl:i=n:=U;rw[av]at p;obtain rfl:tail=q:=hi p;have S:∀ j,j<i->R j (bu j) w:=by
   intro j g;obtain⟨e,b,rfl,ak⟩:=O j g;exact t e.on g (r e b ak)
  refine M _ _ _ _ _ (λa' w' fr=>?_) (hfin bu w aV S);refine O' ar X _ (λj=>?_) a' w' fr f;rw[wb];split
  .rfl
  rename_i hne;by_cases g:j<i
  .obtain⟨e,b,rfl,ak⟩:=O j g
   have:=r e b ak
   have c:e.on<aQ.size:=U;simp[c]at this⊢;exact this
  have:¬ j<aQ.size:=U
  simp[this]
end
def y9(l:ah Oper)(n:J):a1:=
 decide (l.length=n+1)&&l.all (λo=>o.guard.isNone)&&(range l.length).all (λi=>match l[i]? with|some o=>o.after.all (λe=>!Region.binds .any e || decide (e.on<i))|none=>true) &&
 (range n).all (λi=>match l[n]? with|some o=>o.after.any (λe=>decide (e.on=i)&&Region.binds .any e)|none=>false)
def J4{l:ah Oper}{n:J}(h:y9 l n=true):∃ tail,l[n]?=some tail/\l.length=n+1/\(∀ o∈l,o.guard=none)/\(∀ i o,l[i]?=some o->∀ e∈o.after,Region.binds .any e=true->e.on<i)/\∀ i,i<n->∃ e∈tail.after,e.on=i/\Region.binds .any e=true:=by
 simp only[y9,ep,gh]at h;have⟨⟨⟨h1,h2⟩,f⟩,g⟩:=h;have d:n<l.length:=U;refine⟨l[n],by simp[d],h1,λo a=>?_,λi o a e c ak=>?_,λi ax=>?_⟩
 .have:=fw.1 h2 o a
  simpa using this
 .have j:=(hD.1 a).1
  have:=fw.1 f i (pI.2 j)
  rw[a]at this
  have:=Array.all_eq_true_iff_forall_mem.1 this e c
  simpa[ak]using this
 have:=fw.1 g i (pI.2 ax)
 rw[gA d]at this;have⟨e,c,b⟩:=L5.1 this;simp only[ep,gh]at b;exact⟨e,c,b.1,b.2⟩
def LD{o:Oper}(h:o.guard=none)(f:J->b_ a1):Region.wanted o f=true:=by simp[Region.wanted,h]
def J7(n i:J)(h:i<n):(Array.replicate n false).getD i true=false:=by simp[h]
def aal{P:Program}{id:J}{l:ah Oper}(n:J){Q:Exit->Act->aj->al}{a:Act}{w:aj}(hm:P.follows .mixedOrders=true)(f:y9 l n=true)(F:(J->ay)->Act)(C:aj->al)(R:J->ay->aj->al)(bu:J->ay)(bh:a=F bu)(aV:C {w with drawn:=w.drawn+1})(hrun:∀ i o bu w,i<n->l[i]?=some o->C w->(∀ e∈o.after,Region.binds .any e=true->R e.on (bu e.on) w)-> o.wp P (F bu) w (λa' w'=>∃ v,a'=F (hC bu i v)/\R i v w'/\C w'/\∀ j u,R j u w->R j u w') Q)(hfin:∀ tail,l[n]?=some tail->∀ bu w,C w->(∀ i,i<n->R i (bu i) w)->tail.wp P (F bu) w (λa' w'=>Q .normal a' w') Q):(Code.region id l.toArray true).wp P Q a w:=by
 subst bh;have⟨tail,av,b,k,g,r⟩:=J4 f;refine D_ hm ?_
 refine F8 (W:=λo K a w=>o.wp P a w K Q) (Q:=λa w=>Q .normal a w) (Any:=wpAny P .any l.toArray Q) av b g r (λ_ _ _ _ _ h aS=>Oper.wp_mono h aS) (λ_ _ _ q p=>⟨q,p⟩)
  (λs aQ a w h1 h2=>⟨h1,λi ax=>?_⟩) F C R hrun (hfin tail av) _ _ bu _ (by simp[b]) (J7 _ _ (by simp[b])) aV (λi ax h=>?_) ?_
 .unfold wpOp;cases d:l.toArray[i]? with
  | none=>exact absurd (lE.1 ax).2 (by rw[d];rintro⟨_,h,_⟩;cases h)
  | some o=>
   have c:l[i]?=some o:=by simpa using d
   simp only[];rw[aE (LD (k o (kX c)) _)];exact .inl (h2 i ax o c)
 .have m:i<l.length:=U;simp[m]at h
 refine ca (countP_le_length) ?_;simp[b]
def Wq{P:Program}{id:J}{l:ah Oper}(r:J)(n:J){Q:Exit->Act->aj->al}{a:Act}{w:aj}(hm:P.follows .mixedOrders=true)(f:y9 l n=true)(F:(J->ay)->Act)(C:aj->al)(R:J->ay->aj->al)(bu:J->ay)(bh:a=F bu)(aV:C {w with drawn:=w.drawn+1})(hrun:∀ i o bu w,i<n->l[i]?=some o->C w->(∀ e∈o.after,Region.binds .any e=true->R e.on (bu e.on) w)-> o.wpIn (Fence.wide.inRound r) 0 P (F bu) w (λa' w'=>∃ v,a'=F (hC bu i v)/\R i v w'/\C w'/\∀ j u,R j u w->R j u w') Q)(hfin:∀ tail,l[n]?=some tail->∀ bu w,C w->(∀ i,i<n->R i (bu i) w)->tail.wpIn (Fence.wide.inRound r) 0 P (F bu) w (λa' w'=>Q .normal a' w') Q):(Code.region id l.toArray true).wpIn (Fence.wide.inRound r) 0 P Q a w:=by
 subst bh;have⟨tail,av,b,k,g,s⟩:=J4 f;refine wpIn_region_any hm ?_
 refine F8 (W:=λo K a w=>o.wpIn (Fence.wide.inRound r) 0 P a w K Q) (Q:=λa w=>Q .normal a w) (Any:=wpAnyIn (Fence.wide.inRound r) 0 P .any l.toArray Q) av b g s (λ_ _ _ _ _ h aS=>Oper.wpIn_mono h aS) (λ_ _ _ q p=>⟨q,p⟩)
  (λt aQ a w h1 h2=>⟨h1,λi ax=>?_⟩) F C R hrun (hfin tail av) _ _ bu _ (by simp[b]) (J7 _ _ (by simp[b])) aV (λi ax h=>?_) ?_
 .unfold wpOpIn;cases d:l.toArray[i]? with
  | none=>exact absurd (lE.1 ax).2 (by rw[d];rintro⟨_,h,_⟩;cases h)
  | some o=>
   have c:l[i]?=some o:=by simpa using d
   simp only[];rw[aE (LD (k o (kX c)) _)];exact h2 i ax o c
 .have m:i<l.length:=U;simp[m]at h
 refine ca (countP_le_length) ?_;simp[b]
end Go.Proofs.YtalagblioepadaaGreatDoor
