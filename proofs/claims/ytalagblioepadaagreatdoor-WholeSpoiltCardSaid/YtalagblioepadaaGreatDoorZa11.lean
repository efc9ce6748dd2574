/- The proof, part 11. -/
import Derived.Test.YtalagblioepadaaGreatDoorZa05
import Derived.OrdersIn
import Derived.Orders
import Derived.TacticsIn
namespace Go.Proofs.YtalagblioepadaaGreatDoor
section
open Go.RowKit
def upd (vals:Nat→Value) (i:Nat) (v:Value):Nat→Value:=fun j=>if j=i then v else vals j
theorem upd_same (vals:Nat→Value) (i:Nat) (v:Value):upd vals i v i=v:=if_pos rfl
theorem upd_other (vals:Nat→Value) {i j:Nat} (v:Value) (h:j≠i):upd vals i v j=vals j:=if_neg h
theorem getD_set (l:Array Bool) (i j:Nat) (d:Bool):(l.setIfInBounds i true).getD j d=if i=j∧i<l.size then true else l.getD j d:=by
 by_cases h:i=j
 ·subst h
  by_cases h2:i<l.size
  ·simp[h2]
  ·simp[h2]
 ·simp[h,Array.getElem?_setIfInBounds_ne h]
section
variable {l:List Oper} {n:Nat} {tail:Oper} {W:Oper→(Act→World→Prop)→Act→World→Prop} {Q:Act→World→Prop} {Any:Nat→Array Bool→Act→World→Prop}
theorem any_done (hS:∀ fuel listed a w,(Region.ready .any l.toArray listed=[]→Q a w)→(∀ i∈Region.ready .any l.toArray listed,∀ o,l[i]?=some o→W o (Any fuel (listed.setIfInBounds i true)) a w)→Any (fuel+1) listed a w)
  (h0:∀ listed a w,Region.ready .any l.toArray listed=[]→Q a w→Any 0 listed a w) (listed:Array Bool) (hl:∀ i,listed.getD i true=true) (a:Act) (w:World) (hq:Q a w) (fuel:Nat):Any fuel listed a w:=by
 have hr:Region.ready .any l.toArray listed=[]:=by
  rw[List.eq_nil_iff_forall_not_mem]
  intro i hi
  have:=(mem_ready.1 hi).1
  rw[hl i] at this
  cases this
 cases fuel with
 | zero=>exact h0 _ _ _ hr hq
 | succ f=>exact hS _ _ _ _ (fun _=>hq) (fun i hi=>by rw[hr] at hi;cases hi)
theorem any_rel (hn:l[n]?=some tail) (hlen:l.length=n+1)
  (hback:∀ i o,l[i]?=some o→∀ e∈o.after,Region.binds .any e=true→e.on<i)
  (hwait:∀ i,i<n→∃ e∈tail.after,e.on=i∧Region.binds .any e=true)
  (hmono:∀ o K K' a w,(∀ a w,K a w→K' a w)→W o K a w→W o K' a w)
  (h0:∀ listed a w,Region.ready .any l.toArray listed=[]→Q a w→Any 0 listed a w)
  (hS:∀ fuel listed a w,(Region.ready .any l.toArray listed=[]→Q a w)→(∀ i∈Region.ready .any l.toArray listed,∀ o,l[i]?=some o→W o (Any fuel (listed.setIfInBounds i true)) a w)→Any (fuel+1) listed a w)
  (F:(Nat→Value)→Act) (C:World→Prop) (R:Nat→Value→World→Prop)
  (hrun:∀ i o vals w,i<n→l[i]?=some o→C w→(∀ e∈o.after,Region.binds .any e=true→R e.on (vals e.on) w)→
   W o (fun a' w'=>∃ v,a'=F (upd vals i v)∧R i v w'∧C w'∧∀ j u,R j u w→R j u w') (F vals) w)
  (hfin:∀ vals w,C w→(∀ i,i<n→R i (vals i) w)→W tail Q (F vals) w) :
  ∀ (fuel:Nat) (listed:Array Bool) (vals:Nat→Value) (w:World),listed.size=n+1→listed.getD n true=false→C w→(∀ i,i<n→listed.getD i false=true→R i (vals i) w)→
   ((List.range (n+1)).countP fun i=>!listed.getD i true)≤fuel→Any fuel listed (F vals) w:=by
 intro fuel
 induction fuel with
 | zero=>
  intro listed vals w hsz hun hC hR hc
  exfalso
  have:0<(List.range (n+1)).countP fun i=>!listed.getD i true:=by
   rw[List.countP_pos_iff]
   exact ⟨n,by simp,by rw[hun];rfl⟩
  omega
 | succ f ih=>
  intro listed vals w hsz hun hC hR hc
  -- some operation may come up
  have hready:Region.ready .any l.toArray listed≠[]:=by
   have key:∀ m i,i≤m→i<n+1→listed.getD i true=false→Region.ready .any l.toArray listed≠[]:=by
    intro m
    induction m with
    | zero=>
     intro i hi hin hu hnil
     obtain rfl:i=0:=by omega
     have hlt:0<l.length:=by omega
     have:0∈Region.ready .any l.toArray listed:=mem_ready.2 ⟨hu,l[0],by simp[hlt],fun e he hb=>by
      have:=hback 0 l[0] (by simp[hlt]) e he hb
      omega⟩
     rw[hnil] at this
     cases this
    | succ m ihm=>
     intro i hi hin hu hnil
     have hlt:i<l.length:=by omega
     have hall:∀ e∈l[i].after,Region.binds .any e=true→listed.getD e.on false=true:=by
      intro e he hb
      have hei:=hback i l[i] (by simp[hlt]) e he hb
      cases hv:listed.getD e.on false with
      | true=>rfl
      | false=>
       have hv2:listed.getD e.on true=false:=by
        have:e.on<listed.size:=by omega
        simp[this] at hv ⊢
        exact hv
       exact absurd hnil (ihm e.on (by omega) (by omega) hv2)
     have:i∈Region.ready .any l.toArray listed:=mem_ready.2 ⟨hu,l[i],by simp[hlt],hall⟩
     rw[hnil] at this
     cases this
   exact key n n (Nat.le_refl _) (by omega) hun
  refine hS f listed (F vals) w (fun h=>absurd h hready) fun i hi o ho=>?_
  obtain ⟨hu,o',ho',hall⟩:=mem_ready.1 hi
  have hoo:o'=o:=by
   rw[List.getElem?_toArray] at ho'
   rw[ho] at ho'
   exact (Option.some.inj ho').symm
  subst hoo
  have hil:i<l.length:=(List.getElem?_eq_some_iff.1 ho).1
  by_cases hin:i<n
  ·-- one of those ahead of the last
   have hdeps:∀ e∈o'.after,Region.binds .any e=true→R e.on (vals e.on) w:=by
    intro e he hb
    have:=hback i o' ho e he hb
    exact hR e.on (by omega) (hall e he hb)
   refine hmono _ _ _ _ _ ?_ (hrun i o' vals w hin ho hC hdeps)
   rintro a' w' ⟨v,rfl,hRi,hC',hstay⟩
   refine ih _ _ _ (by simpa using hsz) ?_ hC' ?_ ?_
   ·rw[getD_set,if_neg (by omega)];exact hun
   ·intro j hj hjl
    by_cases hji:j=i
    ·subst hji;rw[upd_same];exact hRi
    ·rw[upd_other _ _ hji]
     rw[getD_set,if_neg (by omega)] at hjl
     exact hstay j _ (hR j hj hjl)
   ·have hlt:((List.range (n+1)).countP fun k=>!(listed.setIfInBounds i true).getD k true)<(List.range (n+1)).countP fun k=>!listed.getD k true:=by
     have hsplit:∀ (L:List Nat),(∀ k∈L,(!(listed.setIfInBounds i true).getD k true)=true→(!listed.getD k true)=true)∧(i∈L→((L.countP fun k=>!(listed.setIfInBounds i true).getD k true)+1≤L.countP fun k=>!listed.getD k true))∧((L.countP fun k=>!(listed.setIfInBounds i true).getD k true)≤L.countP fun k=>!listed.getD k true):=by
      intro L
      induction L with
      | nil=>simp
      | cons k L ihL=>
       have hk:(!(listed.setIfInBounds i true).getD k true)=true→(!listed.getD k true)=true:=by
        rw[getD_set]
        split
        ·intro h;cases h
        ·exact id
       obtain ⟨q1,q2,q3⟩:=ihL
       refine ⟨fun m hm=>by
        rcases List.mem_cons.1 hm with rfl|hm
        ·exact hk
        ·exact q1 m hm,fun hm=>?_,?_⟩
       ·by_cases hki:k=i
        ·subst hki
         have e1:(!(listed.setIfInBounds k true).getD k true)=false:=by rw[getD_set,if_pos ⟨rfl,by omega⟩];rfl
         have e2:(!listed.getD k true)=true:=by rw[hu];rfl
         rw[List.countP_cons,List.countP_cons,e1,e2]
         simp only[if_true,Bool.false_eq_true,if_false]
         omega
        ·have:=q2 (by rcases List.mem_cons.1 hm with h|h;exact absurd h.symm hki;exact h)
         rw[List.countP_cons,List.countP_cons]
         by_cases h1:(!(listed.setIfInBounds i true).getD k true)=true
         ·rw[if_pos h1,if_pos (hk h1)];omega
         ·rw[if_neg h1];omega
       ·rw[List.countP_cons,List.countP_cons]
        by_cases h1:(!(listed.setIfInBounds i true).getD k true)=true
        ·rw[if_pos h1,if_pos (hk h1)];omega
        ·rw[if_neg h1];omega
     have:=(hsplit (List.range (n+1))).2.1 (by simp;omega)
     omega
    omega
  ·-- the last
   obtain rfl:i=n:=by omega
   rw[hn] at ho
   obtain rfl:tail=o':=Option.some.inj ho
   have hR':∀ j,j<i→R j (vals j) w:=by
    intro j hj
    obtain ⟨e,he,rfl,hb⟩:=hwait j hj
    exact hR e.on hj (hall e he hb)
   refine hmono _ _ _ _ _ (fun a' w' hq=>?_) (hfin vals w hC hR')
   refine any_done hS h0 _ (fun j=>?_) a' w' hq f
   rw[getD_set]
   split
   ·rfl
   ·rename_i hne
    by_cases hj:j<i
    ·obtain ⟨e,he,rfl,hb⟩:=hwait j hj
     have:=hall e he hb
     have hlt:e.on<listed.size:=by omega
     simp[hlt] at this ⊢
     exact this
    ·have:¬ j<listed.size:=by omega
     simp[this]
end
def relB (l:List Oper) (n:Nat):Bool:=
 decide (l.length=n+1)&&l.all (fun o=>o.guard.isNone)&&(List.range l.length).all (fun i=>match l[i]? with|some o=>o.after.all (fun e=>!Region.binds .any e || decide (e.on<i))|none=>true) &&
 (List.range n).all (fun i=>match l[n]? with|some o=>o.after.any (fun e=>decide (e.on=i)&&Region.binds .any e)|none=>false)
theorem relB_spec {l:List Oper} {n:Nat} (h:relB l n=true):∃ tail,l[n]?=some tail∧l.length=n+1∧(∀ o∈l,o.guard=none)∧(∀ i o,l[i]?=some o→∀ e∈o.after,Region.binds .any e=true→e.on<i)∧∀ i,i<n→∃ e∈tail.after,e.on=i∧Region.binds .any e=true:=by
 simp only[relB,Bool.and_eq_true,decide_eq_true_eq] at h
 obtain ⟨⟨⟨h1,h2⟩,h3⟩,h4⟩:=h
 have hlt:n<l.length:=by omega
 refine ⟨l[n],by simp[hlt],h1,fun o ho=>?_,fun i o ho e he hb=>?_,fun i hi=>?_⟩
 ·have:=List.all_eq_true.1 h2 o ho
  simpa using this
 ·have hil:=(List.getElem?_eq_some_iff.1 ho).1
  have:=List.all_eq_true.1 h3 i (List.mem_range.2 hil)
  rw[ho] at this
  have:=Array.all_eq_true_iff_forall_mem.1 this e he
  simpa[hb] using this
 ·have:=List.all_eq_true.1 h4 i (List.mem_range.2 hi)
  rw[List.getElem?_eq_getElem hlt] at this
  obtain ⟨e,he,h5⟩:=Array.any_eq_true'.1 this
  simp only[Bool.and_eq_true,decide_eq_true_eq] at h5
  exact ⟨e,he,h5.1,h5.2⟩
theorem wanted_none {o:Oper} (h:o.guard=none) (f:Nat→Option Bool):Region.wanted o f=true:=by simp[Region.wanted,h]
theorem replicate_true (n i:Nat) (h:i<n):(Array.replicate n false).getD i true=false:=by simp[h]
theorem region_rel {P:Program} {id:Nat} {l:List Oper} (n:Nat) {Q:Exit→Act→World→Prop} {a:Act} {w:World} (hm:P.follows .mixedOrders=true)
  (hB:relB l n=true) (F:(Nat→Value)→Act) (C:World→Prop) (R:Nat→Value→World→Prop) (vals:Nat→Value) (ha:a=F vals) (hC:C { w with drawn:=w.drawn+1 })
  (hrun:∀ i o vals w,i<n→l[i]?=some o→C w→(∀ e∈o.after,Region.binds .any e=true→R e.on (vals e.on) w)→
   o.wp P (F vals) w (fun a' w'=>∃ v,a'=F (upd vals i v)∧R i v w'∧C w'∧∀ j u,R j u w→R j u w') Q)
  (hfin:∀ tail,l[n]?=some tail→∀ vals w,C w→(∀ i,i<n→R i (vals i) w)→tail.wp P (F vals) w (fun a' w'=>Q .normal a' w') Q) :
  (Code.region id l.toArray true).wp P Q a w:=by
 subst ha
 obtain ⟨tail,hn,hlen,hguard,hback,hwait⟩:=relB_spec hB
 refine wp_region_any hm ?_
 refine any_rel (W:=fun o K a w=>o.wp P a w K Q) (Q:=fun a w=>Q .normal a w) (Any:=wpAny P .any l.toArray Q) hn hlen hback hwait (fun _ _ _ _ _ h hh=>Oper.wp_mono h hh) (fun _ _ _ hr hq=>⟨hr,hq⟩)
  (fun fuel listed a w h1 h2=>⟨h1,fun i hi=>?_⟩) F C R hrun (hfin tail hn) _ _ vals _ (by simp[hlen]) (replicate_true _ _ (by simp[hlen])) hC (fun i hi h=>?_) ?_
 ·unfold wpOp
  cases ho:l.toArray[i]? with
  | none=>exact absurd (mem_ready.1 hi).2 (by rw[ho];rintro ⟨_,h,_⟩;cases h)
  | some o=>
   have ho':l[i]?=some o:=by simpa using ho
   simp only[]
   rw[if_pos (wanted_none (hguard o (List.mem_of_getElem? ho')) _)]
   exact .inl (h2 i hi o ho')
 ·have hil:i<l.length:=by omega
  simp[hil] at h
 ·refine Nat.le_trans (List.countP_le_length) ?_
  simp[hlen]
theorem round_rel {P:Program} {id:Nat} {l:List Oper} (r:Nat) (n:Nat) {Q:Exit→Act→World→Prop} {a:Act} {w:World} (hm:P.follows .mixedOrders=true)
  (hB:relB l n=true) (F:(Nat→Value)→Act) (C:World→Prop) (R:Nat→Value→World→Prop) (vals:Nat→Value) (ha:a=F vals) (hC:C { w with drawn:=w.drawn+1 })
  (hrun:∀ i o vals w,i<n→l[i]?=some o→C w→(∀ e∈o.after,Region.binds .any e=true→R e.on (vals e.on) w)→
   o.wpIn (Fence.wide.inRound r) 0 P (F vals) w (fun a' w'=>∃ v,a'=F (upd vals i v)∧R i v w'∧C w'∧∀ j u,R j u w→R j u w') Q)
  (hfin:∀ tail,l[n]?=some tail→∀ vals w,C w→(∀ i,i<n→R i (vals i) w)→tail.wpIn (Fence.wide.inRound r) 0 P (F vals) w (fun a' w'=>Q .normal a' w') Q) :
  (Code.region id l.toArray true).wpIn (Fence.wide.inRound r) 0 P Q a w:=by
 subst ha
 obtain ⟨tail,hn,hlen,hguard,hback,hwait⟩:=relB_spec hB
 refine wpIn_region_any hm ?_
 refine any_rel (W:=fun o K a w=>o.wpIn (Fence.wide.inRound r) 0 P a w K Q) (Q:=fun a w=>Q .normal a w) (Any:=wpAnyIn (Fence.wide.inRound r) 0 P .any l.toArray Q) hn hlen hback hwait (fun _ _ _ _ _ h hh=>Oper.wpIn_mono h hh) (fun _ _ _ hr hq=>⟨hr,hq⟩)
  (fun fuel listed a w h1 h2=>⟨h1,fun i hi=>?_⟩) F C R hrun (hfin tail hn) _ _ vals _ (by simp[hlen]) (replicate_true _ _ (by simp[hlen])) hC (fun i hi h=>?_) ?_
 ·unfold wpOpIn
  cases ho:l.toArray[i]? with
  | none=>exact absurd (mem_ready.1 hi).2 (by rw[ho];rintro ⟨_,h,_⟩;cases h)
  | some o=>
   have ho':l[i]?=some o:=by simpa using ho
   simp only[]
   rw[if_pos (wanted_none (hguard o (List.mem_of_getElem? ho')) _)]
   exact h2 i hi o ho'
 ·have hil:i<l.length:=by omega
  simp[hil] at h
 ·refine Nat.le_trans (List.countP_le_length) ?_
  simp[hlen]
end
end Go.Proofs.YtalagblioepadaaGreatDoor
