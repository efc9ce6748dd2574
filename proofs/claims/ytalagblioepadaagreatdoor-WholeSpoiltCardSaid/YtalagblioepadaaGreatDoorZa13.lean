/- The proof, part 13. -/
import Derived.Test.YtalagblioepadaaGreatDoorZa02
import Derived.Test.YtalagblioepadaaGreatDoorZa05
import Derived.Deep.QuietTactic
import Derived.BigQuiet
import Derived.StillTail
import Derived.OrdersIn
import Derived.TacticsIn
import Derived.RangeFuncCalls
namespace Go.Proofs.YtalagblioepadaaGreatDoor
section
open Go.RowKit
section
variable {P:Program} {ops:Array Oper} {md:Region.Mode} {C:World→Prop}
def wpAnyH (P:Program) (md:Region.Mode) (ops:Array Oper) (C:World→Prop) (n:Nat) (L:Array Bool→Act→Prop):Nat→Array Bool→Act→Prop
 | 0,listed,a=>L listed a
 | f+1,listed,a=>Region.ready md ops listed≠[]∧∀ i∈Region.ready md ops listed,i<n∧qOp P ops C i (wpAnyH P md ops C n L f (listed.setIfInBounds i true)) a
theorem wpAnyH_first {n i:Nat} {oi:Oper} {v:Value} {L:Array Bool→Act→Prop} (hi:ops[i]?=some oi) (hsel:∀ (j:Nat) (o:Oper) cs b,ops[j]?=some o→o.op≠.select cs b)
  (hs:Region.sinkB md ops n=true) (hc:Region.chainB md ops n=true) (hn:n<ops.size) (hin:i<n)
  (hdone:∀ listed a,L listed a→∀ j∈Region.ready md ops listed,n≤j) :
  ∀ (f:Nat) (listed:Array Bool) (a:Act),HeadInv md ops n listed→
   (∀ j oj,ops[j]?=some oj→j≠i→listed.getD j true=false→(∀ e∈oj.after,Region.binds md e=true→e.on≠i)→oi.apart ops oj=true)→
   i∈Region.ready md ops listed→YieldsIn P ops C oi v a→
   wpAnyH P md ops C n L f (listed.setIfInBounds i true) (a.put oi.dst v)→wpAnyH P md ops C n L (f+1) listed a:=by
 intro f
 induction f with
 | zero=>
  intro listed a inv _ hr hy H
  have hun:=(mem_ready.1 hr).1
  refine ⟨fun h=>(by rw[h] at hr;cases hr),fun j hj=>?_⟩
  have hjn:j<n:=by
   rcases Nat.lt_or_ge j n with h|h
   ·exact h
   ·exact absurd hj (tail_waits hs hc hn inv _ i rfl hin hun j h)
  refine ⟨hjn,?_⟩
  by_cases hji:j=i
  ·subst hji;exact hy.qOp hi H
  ·have:=hdone _ _ H j (ready_mono hj hji)
   omega
 | succ f ih=>
  intro listed a inv hfree hr hy H
  have hun:=(mem_ready.1 hr).1
  refine ⟨fun h=>(by rw[h] at hr;cases hr),fun j hj=>?_⟩
  have hjn:j<n:=by
   rcases Nat.lt_or_ge j n with h|h
   ·exact h
   ·exact absurd hj (tail_waits hs hc hn inv _ i rfl hin hun j h)
  refine ⟨hjn,?_⟩
  by_cases hji:j=i
  ·subst hji;exact hy.qOp hi H
  ·have h1:=(H.2 j (ready_mono hj hji)).2
   obtain ⟨hjun,oj,hoj,hall⟩:=mem_ready.1 hj
   have hnot:∀ e∈oj.after,Region.binds md e=true→e.on≠i:=fun e he hb heq=>by
    have h1:=hall e he hb
    rw[heq,getD_both hun] at h1
    cases h1
   have h2:=qOp_put hoj (hfree j oj hoj hji hjun hnot) (fun cs b=>hsel i oi cs b hi) (fun cs b=>hsel j oj cs b hoj) hy h1
   have hfree':∀ k ok,ops[k]?=some ok→k≠i→(listed.setIfInBounds j true).getD k true=false→
     (∀ e∈ok.after,Region.binds md e=true→e.on≠i)→oi.apart ops ok=true:=fun k ok hk hki hun hno=>by
    refine hfree k ok hk hki ?_ hno
    by_cases hjk:j=k
    ·subst hjk;exact hjun
    ·rw[getD_set_ne true hjk] at hun;exact hun
   refine qOp_mono (fun a' h3=>ih (listed.setIfInBounds j true) a' (inv.set hj hjn) hfree' (ready_mono hr (Ne.symm hji)) h3.1 ?_) h2
   rw[Array.setIfInBounds_comm _ _ hji]
   exact h3.2
theorem wpAnyH_lex {n g:Nat} {Lq:Act→Prop} (hsel:Region.noSelect ops=true) (hs:Region.sinkB md ops n=true) (hc:Region.chainB md ops n=true) (hn:n<ops.size) :
  ∀ (l:List Oper) (k:Nat) (listed:Array Bool) (a:Act),(∀ j,j<l.length→l[j]?=ops[k+j]?)→k+l.length=n→HeadInv md ops n listed→
  Region.lexHead md ops g l.length k listed=true→wpQuiet P ops C Lq l a→
  wpAnyH P md ops C n (fun listed' a'=>Region.seqB md ops g n listed'=true∧Lq a') l.length listed a
 | [],k,listed,a,_,hk,_,hB,h=>by
  have:k=n:=by simpa using hk
  subst this
  exact ⟨by simpa[Region.lexHead] using hB,h⟩
 | o :: l,k,listed,a,hl,hk,inv,hB,h=>by
  have h0:ops[k]?=some o:=by simpa using (hl 0 (by simp)).symm
  simp only[List.length_cons,Region.lexHead,Bool.and_eq_true] at hB
  obtain ⟨⟨hr,hf⟩,hB'⟩:=hB
  have hkn:k<n:=by simp only[List.length_cons] at hk;omega
  have hr':k∈Region.ready md ops listed:=by simpa using hr
  have hst:qOp P ops C k (wpQuiet P ops C Lq l) a:=by unfold qOp;simp only[h0];exact h
  obtain ⟨v,hy,hK⟩:=yieldsIn_of_qOp h0 hst
  exact wpAnyH_first h0 (Region.noSelect_spec hsel) hs hc hn hkn (fun listed' a' hL=>seqB_ready hL.1) l.length listed a inv (Region.free_spec h0 hf) hr' hy
   (wpAnyH_lex hsel hs hc hn l (k+1) _ _ (fun j hj=>by have:=hl (j+1) (by simp;omega);simpa[Nat.add_assoc,Nat.add_comm 1 j] using this) (by simp only[List.length_cons] at hk;omega) (inv.set hr' hkn) hB' hK)
theorem head_lex {l:List Oper} {n:Nat} {a:Act} {Lq:Act→Prop} (hB:Region.lexTailB .any l.toArray n=true) (h:wpQuiet P l.toArray C Lq (l.take n) a) :
  n<l.length∧wpAnyH P .any l.toArray C n (fun listed' a'=>Region.seqB .any l.toArray (l.drop n).length n listed'=true∧Lq a') n (Array.replicate l.toArray.size false) a:=by
 simp only[Region.lexTailB,Bool.and_eq_true,decide_eq_true_eq] at hB
 obtain ⟨⟨⟨⟨hsel,hn⟩,hs⟩,hc⟩,hlex⟩:=hB
 have hn':n<l.length:=by simpa using hn
 have htl:(l.take n).length=n:=by simp;omega
 have hdl:(l.drop n).length=l.toArray.size-n:=by simp
 have inv0:HeadInv .any l.toArray n (Array.replicate l.toArray.size false):=
  ⟨by simp,fun j oj _ hl=>(by rw[getD_replicate_false] at hl;cases hl),fun t _ ht=>getD_in (by simpa using ht) (getD_replicate_false _ _)⟩
 have H:=wpAnyH_lex (md:=.any) (g:=l.toArray.size-n) hsel hs hc hn (l.take n) 0 _ a (fun j hj=>by
  have hj':j<n:=by rw[htl] at hj;exact hj
  simp[hj']) (by simpa using htl) inv0 (by rw[htl];exact hlex) h
 rw[htl] at H
 rw[hdl]
 exact ⟨hn',H⟩
theorem wpAny_of_headH {n g:Nat} {L:Array Bool→Act→Prop} {Q':Exit→Act→World→Prop} (hL:∀ listed a w,C w→L listed a→wpAny P md ops Q' g listed a w) :
  ∀ (f:Nat) (listed:Array Bool) (a:Act) (w:World),C w→wpAnyH P md ops C n L f listed a→wpAny P md ops Q' (f+g) listed a w
 | 0,listed,a,w,hw,h=>by rw[Nat.zero_add];exact hL _ _ _ hw h
 | f+1,listed,a,w,hw,h=>by
  rw[show f+1+g=(f+g)+1 by omega]
  exact ⟨fun h0=>absurd h0 h.1,fun i hi=>wpOp_of_qOp hw (fun a' w' hw' h'=>wpAny_of_headH hL f _ a' w' hw' h') (h.2 i hi).2⟩
theorem wp_region_tail {id:Nat} {Q:Exit→Act→World→Prop} {a:Act} {w:World} {l:List Oper} (n:Nat) (hm:P.follows .mixedOrders=true) (hB:Region.lexTailB .any l.toArray n=true) (hC:C { w with drawn:=w.drawn+1 })
  (h:wpQuiet P l.toArray C (fun a'=>∀ w',C w'→wpList P l.toArray Q (l.drop n) a' w') (l.take n) a):(Code.region id l.toArray true).wp P Q a w:=by
 obtain ⟨hn,H⟩:=head_lex hB h
 refine wp_region_any hm ?_
 have:=wpAny_of_headH (Q':=Q) (g:=(l.drop n).length) (fun listed a' w' hw' hL=>wpAny_of_seq (md:=.any) (Q':=Q) (l.drop n) n listed a' w' (fun j=>by simp[List.getElem?_drop]) hL.1 (hL.2 w' hw')) _ _ _ _ hC H
 rw[show n+(l.drop n).length=l.toArray.size by simp;omega] at this
 exact this
structure Open (F:Fence) (m:Nat) (P:Program):Prop where
 fn:∀ f,F.fn f
 depth:F.depth=none
 call:∀ {f args w R},Calls P f args w R→CallsIn F (m-1) P f args w R
theorem open_wide (m:Nat) (P:Program):Open Fence.wide m P:=⟨fun _=>trivial,rfl,fun h=>callsIn_wide.2 h⟩
def noDeferB (l:List Oper):Bool:=l.all fun o=>match o.op with|.defer _=>false|_=>true
theorem noDefer_spec {l:List Oper} (h:noDeferB l=true) {i:Nat} {o:Oper} (hi:l.toArray[i]?=some o) (c:Call):o.op≠.defer c:=by
 intro e
 have hm:o∈l:=by
  have:l[i]?=some o:=by simpa using hi
  exact List.mem_of_getElem? this
 have:=List.all_eq_true.1 h o hm
 rw[e] at this
 cases this
theorem wpIn_of_quietF {F:Fence} {m:Nat} (hF:Open F m P) {o:Oper} {a:Act} {K:Act→Prop} {K':Act→World→Prop} {Q':Exit→Act→World→Prop} {w:World} (hsem:o.semAt F.round a.eval=execOp a.eval o) (hw:C w)
  (h:∀ a w',C w'→K a→K' a w') (hh:o.quiet P a C K):o.wpIn F m P a w K' Q':=by
 obtain ⟨v,h1,h2⟩:=hh
 have h3:=h1 w hw
 unfold Oper.quietAt at h3
 unfold Oper.wpIn
 refine ⟨fun f _=>hF.fn f,?_⟩
 rw[hsem]
 generalize (execOp a.eval o).run P w=r at *
 cases r with
 | ok x w'=>
  cases x<;>simp only[Oper.quietUpon] at h3<;>simp only[Oper.uponIn]
  case value u=>
   obtain ⟨e1,e2⟩:=h3
   rw[e1,e2]
   exact h _ _ hw h2
  case skip=>
   obtain ⟨e1,e2⟩:=h3
   rw[e1,←e2]
   exact h _ _ hw h2
  case enter f args=>
   obtain ⟨e1,hc⟩:=h3
   rw[e1]
   refine ⟨(fun hd=>by rw[hF.depth] at hd;cases hd),CallsIn.mono (hF.call hc) fun e w'' he=>?_⟩
   obtain ⟨rfl,hw''⟩:=he
   exact h _ _ hw'' h2
 | halt x w'=>simp only[Oper.quietUpon] at h3
theorem wpOpIn_of_qOpF {F:Fence} {m:Nat} (hF:Open F m P) {i:Nat} {a:Act} {K:Act→Prop} {K':Act→World→Prop} {Q':Exit→Act→World→Prop} {w:World} (hnd:∀ (o:Oper) (c:Call),ops[i]?=some o→o.op≠Op.defer c) (hC:C w)
  (h:∀ a w',C w'→K a→K' a w') (hh:qOp P ops C i K a):wpOpIn F m P ops Q' i K' a w:=by
 unfold qOp at hh
 unfold wpOpIn
 split
 ·rename_i ho;simp only[ho] at hh;exact h _ _ hC hh
 ·rename_i o ho
  simp only[ho] at hh
  split
  ·rename_i hw;simp only[hw,if_true] at hh;exact wpIn_of_quietF hF (Oper.semAt_eq _ _ _ fun c=>hnd o c ho) hC h hh
  ·rename_i hw;simp only[hw] at hh;exact ⟨fun f _=>hF.fn f,h _ _ hC hh⟩
theorem wpAnyIn_of_headH {F:Fence} {m:Nat} (hF:Open F m P) (hnd:∀ (i:Nat) (o:Oper) (c:Call),ops[i]?=some o→o.op≠Op.defer c) {n g:Nat} {L:Array Bool→Act→Prop} {Q':Exit→Act→World→Prop}
  (hL:∀ listed a w,C w→L listed a→wpAnyIn F m P md ops Q' g listed a w) :
  ∀ (f:Nat) (listed:Array Bool) (a:Act) (w:World),C w→wpAnyH P md ops C n L f listed a→wpAnyIn F m P md ops Q' (f+g) listed a w
 | 0,listed,a,w,hw,h=>by rw[Nat.zero_add];exact hL _ _ _ hw h
 | f+1,listed,a,w,hw,h=>by
  rw[show f+1+g=(f+g)+1 by omega]
  exact ⟨fun h0=>absurd h0 h.1,fun i hi=>wpOpIn_of_qOpF hF (hnd i) hw (fun a' w' hw' h'=>wpAnyIn_of_headH hF hnd hL f _ a' w' hw' h') (h.2 i hi).2⟩
theorem wpAnyIn_of_seq {F:Fence} {m:Nat} {Q':Exit→Act→World→Prop}:∀ (l:List Oper) (k:Nat) (listed:Array Bool) (a:Act) (w:World),(∀ j,l[j]?=ops[k+j]?)→
  Region.seqB md ops l.length k listed=true→wpListIn F m P ops Q' l a w→wpAnyIn F m P md ops Q' l.length listed a w
 | [],_,_,_,_,_,hB,h=>⟨by simpa[Region.seqB] using hB,h⟩
 | o :: l,k,listed,a,w,hl,hB,h=>by
  have h0:ops[k]?=some o:=by simpa using (hl 0).symm
  simp only[List.length_cons,Region.seqB,Bool.and_eq_true,decide_eq_true_eq] at hB
  refine ⟨fun h1=>(by rw[hB.1] at h1;cases h1),fun i hi=>?_⟩
  rw[hB.1] at hi
  have hik:i=k:=by simpa using hi
  subst hik
  have hw:wpOpIn F m P ops Q' i (wpListIn F m P ops Q' l) a w:=by unfold wpOpIn;simp only[h0];exact h
  exact wpOpIn_mono (fun a' w' h'=>wpAnyIn_of_seq l (i+1) _ a' w' (fun j=>by have:=hl (j+1);simpa[Nat.add_assoc,Nat.add_comm 1 j] using this) hB.2 h') hw
theorem wpIn_region_tail {F:Fence} {m:Nat} (hF:Open F m P) {id:Nat} {Q:Exit→Act→World→Prop} {a:Act} {w:World} {l:List Oper} (n:Nat) (hm:P.follows .mixedOrders=true) (hB:Region.lexTailB .any l.toArray n=true) (hD:noDeferB l=true)
  (hC:C { w with drawn:=w.drawn+1 }) (h:wpQuiet P l.toArray C (fun a'=>∀ w',C w'→wpListIn F m P l.toArray Q (l.drop n) a' w') (l.take n) a):(Code.region id l.toArray true).wpIn F m P Q a w:=by
 obtain ⟨hn,H⟩:=head_lex hB h
 refine wpIn_region_any hm ?_
 have:=wpAnyIn_of_headH (Q':=Q) (g:=(l.drop n).length) hF (fun i o c hi=>noDefer_spec hD hi c) (fun listed a' w' hw' hL=>wpAnyIn_of_seq (md:=.any) (Q':=Q) (l.drop n) n listed a' w' (fun j=>by simp[List.getElem?_drop]) hL.1 (hL.2 w' hw')) _ _ _ _ hC H
 rw[show n+(l.drop n).length=l.toArray.size by simp;omega] at this
 exact this
theorem wp_region_taild {id:Nat} {Q:Exit→Act→World→Prop} {a:Act} {w:World} {l:List Oper} (n:Nat) (hm:P.follows .mixedOrders=true) (hB:Region.lexTailB .any l.toArray n=true)
  (h:wpQuiet P l.toArray (fun w'=>∃ n,w'=w.drewN n) (fun a'=>∀ w',(∃ n,w'=w.drewN n)→wpList P l.toArray Q (l.drop n) a' w') (l.take n) a):(Code.region id l.toArray true).wp P Q a w:=
 wp_region_tail (C:=fun w'=>∃ n,w'=w.drewN n) n hm hB ⟨1,rfl⟩ h
theorem wpIn_region_taild {F:Fence} {m:Nat} (hF:Open F m P) {id:Nat} {Q:Exit→Act→World→Prop} {a:Act} {w:World} {l:List Oper} (n:Nat) (hm:P.follows .mixedOrders=true) (hB:Region.lexTailB .any l.toArray n=true) (hD:noDeferB l=true)
  (h:wpQuiet P l.toArray (fun w'=>∃ n,w'=w.drewN n) (fun a'=>∀ w',(∃ n,w'=w.drewN n)→wpListIn F m P l.toArray Q (l.drop n) a' w') (l.take n) a):(Code.region id l.toArray true).wpIn F m P Q a w:=
 wpIn_region_tail (C:=fun w'=>∃ n,w'=w.drewN n) hF n hm hB hD ⟨1,rfl⟩ h
theorem quiet_d {f:FuncId} {args:Array Value} {w:World} {a k:Nat} {v:Value} (h:Calls P f args (w.drewN (a+k)) fun e w'=>e=.returned v∧∃ m,w'=(w.drewN (a+k)).drewN m) :
  Calls P f args (w.drewN (a+k)) fun e w''=>e=.returned v∧∃ m,w''=w.drewN (a+m):=
 h.mono fun _ _ ⟨he,m,hm⟩=>⟨he,k+m,by rw[hm,World.drewN_drewN,Nat.add_assoc]⟩
theorem quiet_s {f:FuncId} {args:Array Value} {w:World} {v:Value} (h:Calls P f args w fun e w'=>e=.returned v∧w=w'):Calls P f args w fun e w'=>e=.returned v∧∃ m,w'=w.drewN m:=
 h.mono fun _ _ ⟨he,hm⟩=>⟨he,0,hm▸rfl⟩
end
end
section
open Go.RowKit
section
variable {P:Program} {ops:Array Oper} {md:Region.Mode} {C:World→Prop} {Q:Exit→Act→World→Prop}
def plainB (o:Oper):Bool:=match o.op with|.move _|.assign _|.load ..|.fieldAddr ..|.indexAddr ..|.slice ..|.binOp ..|.unOp ..|.convert ..|.extract ..|.index ..|.field ..|.nilCheck _=>true|_=>false
def YieldsP (P:Program) (ops:Array Oper) (C:World→Prop) (o:Oper) (v:Value) (a:Act):Prop:=
 (Region.wanted o (yielded ops a.tmps)=true∧∀ w,C w→(execOp a.eval o).run P w=.ok (.value v) w∨((execOp a.eval o).run P w=.ok .skip w∧v=undef))∨
 (Region.wanted o (yielded ops a.tmps)=false∧v=undef)
theorem YieldsP.wpOp {i:Nat} {o:Oper} {v:Value} {a:Act} (hi:ops[i]?=some o) (hy:YieldsP P ops C o v a) {K:Act→World→Prop} {w:World} (hw:C w) (h:K (a.put o.dst v) w):wpOp P ops Q i K a w:=by
 unfold Go.wpOp
 simp only[hi]
 rcases hy with ⟨h1,h2⟩|⟨h1,rfl⟩
 ·simp only[h1,if_true]
  rcases h2 w hw with e|⟨e,rfl⟩
  ·exact .inl (by unfold Oper.wp;rw[e];exact h)
  ·exact .inl (by unfold Oper.wp;rw[e];exact h)
 ·simp only[h1,Bool.false_eq_true,if_false];exact h
theorem YieldsP.of_same {o:Oper} {v:Value} {a a':Act} (hy:YieldsP P ops C o v a) (he:execOp a'.eval o=execOp a.eval o)
  (hw:Region.wanted o (yielded ops a'.tmps)=Region.wanted o (yielded ops a.tmps)):YieldsP P ops C o v a':=by
 unfold YieldsP at *
 rw[he,hw]
 exact hy
theorem wpOp_putP {j:Nat} {oi oj:Oper} {v:Value} (hj:ops[j]?=some oj) (hap:oi.apart ops oj=true) (hsi:∀ cs b,oi.op≠.select cs b) (hsj:∀ cs b,oj.op≠.select cs b)
  (hQ:∀ c a w d u,Q (.panic c) (Act.put a d u) w→Q (.panic c) a w) {K:Act→World→Prop} {a:Act} {w:World} (hy:YieldsP P ops C oi v a) (h:wpOp P ops Q j K (a.put oi.dst v) w) :
  wpOp P ops Q j (fun a' w'=>YieldsP P ops C oi v a'∧K (a'.put oi.dst v) w') a w:=by
 obtain ⟨h1,h2,h3⟩:=Oper.apart_spec hap
 have keep:∀ u,YieldsP P ops C oi v (a.put oj.dst u):=fun u=>hy.of_same (execOp_put oi hsi a oj.dst u h3) (wanted_put oi a oj.dst u h3)
 unfold Go.wpOp at *
 simp only[hj] at *
 rw[wanted_put oj a oi.dst v h1] at h
 by_cases hw:Region.wanted oj (yielded ops a.tmps)=true
 ·rw[if_pos hw] at h ⊢
  rcases h with h|⟨ha,hl⟩
  ·left
   unfold Oper.wp at *
   rw[execOp_put oj hsj a oi.dst v h1] at h
   cases hr:(execOp a.eval oj).run P w with
   | ok n w'=>
    rw[hr] at h
    cases n<;>simp only[Oper.upon] at h ⊢
    case value u=>exact ⟨keep u,by rw[←Act.put_comm a v u h2];exact h⟩
    case skip=>exact ⟨keep _,by rw[←Act.put_comm a v undef h2];exact h⟩
    case defer d=>
     refine ⟨(hy.of_same (a':={ a with defers:=d :: a.defers }) rfl rfl).of_same (execOp_put oi hsi _ oj.dst undef h3) (wanted_put oi _ oj.dst undef h3),?_⟩
     rw[←Act.put_comm _ v undef h2,←Act.put_defers]
     exact h
    case enter f args=>
     refine h.mono fun e w2 he=>?_
     cases e with
     | returned u=>exact ⟨keep u,by rw[←Act.put_comm a v u h2];exact he⟩
     | panicked c=>exact hQ _ _ _ _ _ he
     | outgrown=>exact he
    case row row args=>exact Rows.mono h fun u w2 he=>⟨keep u,by rw[←Act.put_comm a v u h2];exact he⟩
   | halt x w'=>
    rw[hr] at h
    cases x<;>simp only[Oper.upon] at h ⊢
    case panic u=>exact hQ _ _ _ _ _ h
  ·right
   exact ⟨by unfold Oper.asks at *;rw[execOp_put oj hsj a oi.dst v h1] at ha;exact ha,hl⟩
 ·rw[if_neg hw] at h ⊢
  exact ⟨keep _,by rw[←Act.put_comm a v undef h2];exact h⟩
def opNone:Oper:={ dst:=none,op:=.move (.tmp 0),type:=0,pos:="",after:=#[],guard:=none }
def opsAt (ops:Array Oper) (L:List Nat):List Oper:=L.map fun k=>ops[k]?.getD opNone
theorem opsAt_cons {k:Nat} {L:List Nat} {o:Oper} (h:ops[k]?=some o):opsAt ops (k :: L)=o :: opsAt ops L:=by simp[opsAt,h]
def NE (P:Program) (m:Sem Next):Prop:=∀ w f args w',m.run P w≠.ok (.enter f args) w'
theorem NE.value (v:Value):NE P (pure (.value v)):=fun _ _ _ _ e=>by simp only[Sem.run_pure] at e;cases e
theorem NE.bind {α:Type} {s:Sem α} {g:α→Sem Next} (h:∀ x,NE P (g x)):NE P (s >>= g):=fun w f args w' e=>by
 simp only[Sem.run_bind] at e
 cases hs:s.run P w with
 | ok x w2=>rw[hs] at e;exact h x w2 f args w' e
 | halt k w2=>rw[hs] at e;cases e
theorem NE.panic (v:Value):NE P (goPanic v:Sem Next):=fun w f args w' e=>by cases e
theorem NE.nilDeref:NE P (runtimePanic .nilDeref:Sem Next):=by
 unfold runtimePanic
 exact NE.bind fun p=>NE.panic _
theorem plain_enter {o:Oper} (h:plainB o=true) (ρ:Operand→Value) (w w':World) (f:FuncId) (args:Array Value):(execOp ρ o).run P w≠.ok (.enter f args) w':=by
 suffices H:NE P (execOp ρ o) from H w f args w'
 unfold plainB at h
 unfold execOp
 cases ho:o.op<;>rw[ho] at h<;>first
  | (cases h;done)
  | exact NE.value _
  | exact NE.bind fun _=>NE.value _
  | skip
 simp only[]
 split
 ·exact NE.nilDeref
 ·exact NE.nilDeref
 ·exact NE.nilDeref
 ·split
  ·exact NE.nilDeref
  ·refine NE.bind fun a=>NE.bind fun y=>?_
   split
   ·exact NE.bind fun _=>NE.value _
   ·exact NE.value _
  ·exact NE.value _
 ·exact NE.value _
structure Kept (w:World) where
 to:World
 keeps:Keeps (fun _=>False) w to
instance (w:World):Nonempty (Kept w):=⟨⟨w,Keeps.refl _ w⟩⟩
theorem kept {w w':World} (h:Keeps (fun _=>False) w w'):∃ x:Kept w,w'=x.to:=⟨⟨w',h⟩,rfl⟩
end
end
section
open Go.RowKit
section
variable {P:Program} {ops:Array Oper} {md:Region.Mode} {C:World→Prop} {Q:Exit→Act→World→Prop}
def plainC (o:Oper):Bool:=plainB o || (match o.op with|.call c=>(match c.callee with|.builtin .len=>true|.builtin .min=>true|.builtin .max=>true|_=>false)|.pick ..=>true|.build ..=>true|_=>false)
theorem plainC_enter {o:Oper} (h:plainC o=true) (ρ:Operand→Value):NE P (execOp ρ o):=by
 unfold plainC at h
 rw[Bool.or_eq_true] at h
 rcases h with h|h
 ·exact fun w f args w'=>plain_enter h ρ w w' f args
 ·unfold execOp
  cases ho:o.op<;>rw[ho] at h<;>first
   | (cases h;done)
   | exact NE.bind fun _=>NE.value _
   | skip
  rename_i c
  obtain ⟨callee,args,ts⟩:=c
  cases callee<;>first|(cases h;done)|skip
  rename_i b
  cases b<;>first|(cases h;done)|skip
  all_goals
   simp only[resolve]
   intro w f args2 w' e
   simp only[Sem.run_bind,Sem.run_pure,Result.andThen_ok,invoke,builtin] at e
   first
    | (rcases hs:(Builtin.len_ ts o.type (args.map ρ)).run P w with _|_<;>(rw[hs] at e;cases e))
    | (rcases hs:(Builtin.min_ ts o.type (args.map ρ)).run P w with _|_<;>(rw[hs] at e;cases e))
    | (rcases hs:(Builtin.max_ ts o.type (args.map ρ)).run P w with _|_<;>(rw[hs] at e;cases e))
theorem yieldsC_of_quiet {i:Nat} {o:Oper} {a:Act} {K:Act→Prop} (hp:plainC o=true) (hi:ops[i]?=some o) (h:qOp P ops C i K a):∃ v,YieldsP P ops C o v a∧K (a.put o.dst v):=by
 obtain ⟨v,hy,hk⟩:=yieldsIn_of_qOp hi h
 refine ⟨v,?_,hk⟩
 rcases hy with ⟨hw,hv⟩|hn
 ·refine .inl ⟨hw,fun w hw2=>?_⟩
  have h1:=hv w hw2
  have h2:=plainC_enter (P:=P) hp a.eval w
  unfold Oper.quietAt at h1
  cases hr:(execOp a.eval o).run P w with
  | ok x w'=>
   rw[hr] at h1
   cases x<;>simp only[Oper.quietUpon] at h1
   case value u=>obtain ⟨rfl,rfl⟩:=h1;exact .inl rfl
   case skip=>obtain ⟨rfl,rfl⟩:=h1;exact .inr ⟨rfl,rfl⟩
   case enter f args=>exact absurd hr (h2 f args w')
  | halt x w'=>rw[hr] at h1;simp only[Oper.quietUpon] at h1
 ·exact .inr hn
def wpAnyS' (P:Program) (md:Region.Mode) (ops:Array Oper) (C:World→Prop) (Q:Exit→Act→World→Prop) (late:Nat→Bool) (R:Array Bool→Act→World→Prop):Nat→Array Bool→Act→World→Prop
 | 0,listed,a,w=>R listed a w
 | f+1,listed,a,w=>Region.ready md ops listed≠[]∧∀ i∈Region.ready md ops listed,late i=false∧wpOp P ops Q i (fun a' w'=>C w'∧wpAnyS' P md ops C Q late R f (listed.setIfInBounds i true) a' w') a w
theorem wpAny_of_S' {late:Nat→Bool} {R:Array Bool→Act→World→Prop} {g:Nat} (hR:∀ listed a w,R listed a w→wpAny P md ops Q g listed a w):∀ (f:Nat) (listed:Array Bool) (a:Act) (w:World),wpAnyS' P md ops C Q late R f listed a w→wpAny P md ops Q (f+g) listed a w
 | 0,listed,a,w,h=>by rw[Nat.zero_add];exact hR _ _ _ h
 | f+1,listed,a,w,h=>by
  rw[show f+1+g=(f+g)+1 by omega]
  exact ⟨fun h0=>absurd h0 h.1,fun i hi=>wpOp_mono (fun a' w' hh=>wpAny_of_S' hR f _ a' w' hh.2) (h.2 i hi).2⟩
structure Reach (md:Region.Mode) (ops:Array Oper) (late:Nat→Bool) (i:Nat) (reach:Nat→Bool):Prop where
 next:∀ j o,ops[j]?=some o→j≠i→(∀ e∈o.after,Region.binds md e=true→reach e.on=true)→reach j=true
 early:∀ j,reach j=true→late j=false
theorem wpAnyS'_first {late:Nat→Bool} {R:Array Bool→Act→World→Prop} {i:Nat} {oi:Oper} {v:Value} {reach:Nat→Bool} (hi:ops[i]?=some oi) (hsel:∀ (j:Nat) (o:Oper) cs b,ops[j]?=some o→o.op≠.select cs b)
  (hQ:∀ c a w d u,Q (.panic c) (Act.put a d u) w→Q (.panic c) a w) (hre:Reach md ops late i reach) (hli:late i=false)
  (hend:∀ listed a w,R listed a w→∀ j∈Region.ready md ops listed,late j=true) :
  ∀ (f:Nat) (listed:Array Bool) (a:Act) (w:World),(∀ j,listed.getD j false=true→reach j=true)→
   (∀ j oj,ops[j]?=some oj→j≠i→listed.getD j true=false→(∀ e∈oj.after,Region.binds md e=true→e.on≠i)→oi.apart ops oj=true)→
   i∈Region.ready md ops listed→YieldsP P ops C oi v a→C w→
   wpAnyS' P md ops C Q late R f (listed.setIfInBounds i true) (a.put oi.dst v) w→wpAnyS' P md ops C Q late R (f+1) listed a w:=by
 have hearly:∀ (listed:Array Bool),(∀ j,listed.getD j false=true→reach j=true)→∀ j∈Region.ready md ops listed,j≠i→reach j=true∧late j=false:=by
  intro listed hs j hj hne
  obtain ⟨_,oj,hoj,hall⟩:=mem_ready.1 hj
  have h1:=hre.next j oj hoj hne (fun e he hb=>hs _ (hall e he hb))
  exact ⟨h1,hre.early j h1⟩
 intro f
 induction f with
 | zero=>
  intro listed a w hs _ hr hy hw H
  refine ⟨fun h=>(by rw[h] at hr;cases hr),fun j hj=>?_⟩
  by_cases hji:j=i
  ·subst hji;exact ⟨hli,hy.wpOp hi hw ⟨hw,H⟩⟩
  ·have h1:=hend _ _ _ H j (ready_mono hj hji)
   rw[(hearly listed hs j hj hji).2] at h1
   cases h1
 | succ f ih=>
  intro listed a w hs hfree hr hy hw H
  have hun:=(mem_ready.1 hr).1
  refine ⟨fun h=>(by rw[h] at hr;cases hr),fun j hj=>?_⟩
  by_cases hji:j=i
  ·subst hji;exact ⟨hli,hy.wpOp hi hw ⟨hw,H⟩⟩
  ·obtain ⟨hjun,oj,hoj,hall⟩:=mem_ready.1 hj
   have hnot:∀ e∈oj.after,Region.binds md e=true→e.on≠i:=fun e he hb heq=>by
    have h1:=hall e he hb
    rw[heq,getD_both hun] at h1
    cases h1
   obtain ⟨hrj,hnl⟩:=hearly listed hs j hj hji
   have h1:=(H.2 j (ready_mono hj hji)).2
   have h2:=wpOp_putP hoj (hfree j oj hoj hji hjun hnot) (fun cs b=>hsel i oi cs b hi) (fun cs b=>hsel j oj cs b hoj) hQ hy h1
   refine ⟨hnl,wpOp_mono (fun a' w' h3=>⟨h3.2.1,ih (listed.setIfInBounds j true) a' w' (fun k hk=>?_) (fun k ok hk hki hunk hno=>?_) (ready_mono hr (Ne.symm hji)) h3.1 h3.2.1 ?_⟩) h2⟩
   ·by_cases hjk:j=k
    ·subst hjk;exact hrj
    ·rw[getD_set_ne false hjk] at hk;exact hs k hk
   ·refine hfree k ok hk hki ?_ hno
    by_cases hjk:j=k
    ·subst hjk;exact hjun
    ·rw[getD_set_ne true hjk] at hunk;exact hunk
   ·rw[Array.setIfInBounds_comm _ _ hji]
    exact h3.2.2
def reachOf (md:Region.Mode) (ops:Array Oper) (listed:Array Bool) (i:Nat):Array Bool:=
 (List.range ops.size).foldl (fun acc j=>acc.push (listed.getD j false || (j != i&&(match ops[j]? with|some o=>o.after.all (fun e=>!Region.binds md e || acc.getD e.on false)|none=>false)))) #[]
def reachB (md:Region.Mode) (ops:Array Oper) (late:Nat→Bool) (listed:Array Bool) (i:Nat) (reach:Array Bool):Bool:=
 (List.range ops.size).all (fun j=>(j == i || reach.getD j false || (match ops[j]? with|some o=>o.after.any (fun e=>Region.binds md e&&!reach.getD e.on false)|none=>true))&&(!reach.getD j false || !late j)&&(!listed.getD j false || reach.getD j false))&&decide (reach.size=ops.size)&&decide (listed.size=ops.size)
theorem reach_of {late:Nat→Bool} {listed:Array Bool} {i:Nat} {reach:Array Bool} (h:reachB md ops late listed i reach=true) :
  Reach md ops late i (fun j=>reach.getD j false)∧∀ j,listed.getD j false=true→reach.getD j false=true:=by
 simp only[reachB,Bool.and_eq_true,decide_eq_true_eq] at h
 obtain ⟨⟨h,hsz⟩,hlz⟩:=h
 rw[List.all_eq_true] at h
 have hin:∀ j,reach.getD j false=true→j<ops.size:=fun j hj=>by
  rcases Nat.lt_or_ge j reach.size with h'|h'
  ·omega
  ·simp[Array.getElem?_eq_none h'] at hj
 refine ⟨⟨fun j o ho hne hall=>?_,fun j hj=>?_⟩,fun j hj=>?_⟩
 ·have hj:=(Array.getElem?_eq_some_iff.1 ho).1
  have h1:=h j (List.mem_range.2 hj)
  simp only[Bool.and_eq_true,Bool.or_eq_true,beq_iff_eq,ho] at h1
  rcases h1.1.1 with (h2|h2)|h2
  ·exact absurd h2 hne
  ·exact h2
  ·obtain ⟨e,he,h3⟩:=Array.any_eq_true'.1 h2
   simp only[Bool.and_eq_true,Bool.not_eq_true'] at h3
   have:=hall e he h3.1
   simp only[h3.2] at this
   cases this
 ·have h1:=h j (List.mem_range.2 (hin j hj))
  simp only[Bool.and_eq_true,Bool.or_eq_true,Bool.not_eq_true'] at h1
  rcases h1.1.2 with h2|h2
  ·rw[hj] at h2;cases h2
  ·exact h2
 ·have hjl:j<ops.size:=by
   rcases Nat.lt_or_ge j listed.size with h'|h'
   ·omega
   ·simp[Array.getElem?_eq_none h'] at hj
  have h1:=h j (List.mem_range.2 hjl)
  simp only[Bool.and_eq_true,Bool.or_eq_true,Bool.not_eq_true'] at h1
  rcases h1.2 with h2|h2
  ·rw[hj] at h2;cases h2
  ·exact h2
def wpLinksS (P:Program) (ops:Array Oper) (C:World→Prop) (Q:Exit→Act→World→Prop) (R:Act→World→Prop):List Oper→Act→World→Prop
 | [],a,w=>R a w
 | o :: rest,a,w=>if Region.wanted o (yielded ops a.tmps) then o.wp P a w (fun a' w'=>C w'∧wpLinksS P ops C Q R rest a' w') Q else wpLinksS P ops C Q R rest (a.put o.dst undef) w
def chainS (md:Region.Mode) (ops:Array Oper) (late:Nat→Bool):List Nat→Array Bool→Bool
 | [],listed=>(Region.ready md ops listed).all late
 | k :: T,listed=>decide (Region.ready md ops listed=[k])&&!late k&&chainS md ops late T (listed.setIfInBounds k true)
def stageL (md:Region.Mode) (ops:Array Oper) (late:Nat→Bool) (M:List Nat):List Nat→Array Bool→Bool
 | [],listed=>chainS md ops late M listed
 | k :: H,listed=>(Region.ready md ops listed).contains k&&Region.free md ops listed k&&(match ops[k]? with|some o=>plainC o|none=>false)&&!late k&&reachB md ops late listed k (reachOf md ops listed k)&&stageL md ops late M H (listed.setIfInBounds k true)
def listAll (listed:Array Bool) (L:List Nat):Array Bool:=L.foldl (fun l k=>l.setIfInBounds k true) listed
def lateOf (listed:Array Bool) (L:List Nat) (j:Nat):Bool:=!(listed.getD j false || L.contains j)
def stageB (md:Region.Mode) (ops:Array Oper) (H M:List Nat) (listed:Array Bool):Bool:=Region.noSelect ops&&stageL md ops (lateOf listed (H++M)) M H listed
theorem wpAnyS'_links {late:Nat→Bool} {R:Act→World→Prop} (full:Array Bool):∀ (M:List Nat) (listed:Array Bool) (a:Act) (w:World),C w→chainS md ops late M listed=true→listAll listed M=full→
  wpLinksS P ops C Q R (opsAt ops M) a w→wpAnyS' P md ops C Q late (fun l a w=>l=full∧R a w) M.length listed a w
 | [],listed,a,w,_,_,hf,h=>⟨hf,h⟩
 | k :: M,listed,a,w,hw,hB,hf,h=>by
  simp only[chainS,Bool.and_eq_true,decide_eq_true_eq,Bool.not_eq_true'] at hB
  obtain ⟨⟨hr,hl⟩,hB'⟩:=hB
  obtain ⟨_,o,ho,_⟩:=mem_ready.1 (show k∈Region.ready md ops listed by rw[hr];simp)
  rw[opsAt_cons ho] at h
  refine ⟨fun h1=>(by rw[hr] at h1;cases h1),fun i hi=>?_⟩
  rw[hr] at hi
  obtain rfl:i=k:=by simpa using hi
  refine ⟨hl,?_⟩
  have key:wpOp P ops Q i (fun a' w'=>C w'∧wpLinksS P ops C Q R (opsAt ops M) a' w') a w:=by
   unfold Go.wpOp
   unfold wpLinksS at h
   simp only[ho]
   split
   ·rename_i hw2;rw[if_pos hw2] at h;exact .inl h
   ·rename_i hw2;rw[if_neg hw2] at h;exact ⟨hw,h⟩
  exact wpOp_mono (fun a' w' h'=>⟨h'.1,wpAnyS'_links full M _ a' w' h'.1 hB' hf h'.2⟩) key
theorem chainS_end {late:Nat→Bool}:∀ (M:List Nat) (listed:Array Bool),chainS md ops late M listed=true→∀ j∈Region.ready md ops (listAll listed M),late j=true
 | [],_,h,j,hj=>List.all_eq_true.1 h j hj
 | k :: M,listed,h,j,hj=>by
  simp only[chainS,Bool.and_eq_true] at h
  exact chainS_end M _ h.2 j hj
theorem stageL_end {late:Nat→Bool} {M:List Nat}:∀ (H:List Nat) (listed:Array Bool),stageL md ops late M H listed=true→∀ j∈Region.ready md ops (listAll listed (H++M)),late j=true
 | [],_,h,j,hj=>chainS_end M _ h j hj
 | k :: H,listed,h,j,hj=>by
  simp only[stageL,Bool.and_eq_true] at h
  exact stageL_end H _ h.2 j hj
theorem wpAnyS'_heads {late:Nat→Bool} {M:List Nat} {R:Act→World→Prop} (full:Array Bool) (hsel:Region.noSelect ops=true) (hQ:∀ c a w d u,Q (.panic c) (Act.put a d u) w→Q (.panic c) a w)
  {w:World} (hw:C w) (hfull:∀ j∈Region.ready md ops full,late j=true) :
  ∀ (H:List Nat) (listed:Array Bool) (a:Act),stageL md ops late M H listed=true→listAll listed (H++M)=full→
   wpQuiet P ops C (fun a'=>wpLinksS P ops C Q R (opsAt ops M) a' w) (opsAt ops H) a→wpAnyS' P md ops C Q late (fun l a w=>l=full∧R a w) (H.length+M.length) listed a w
 | [],listed,a,hB,hf,h=>by
  rw[List.length_nil,Nat.zero_add]
  exact wpAnyS'_links full M listed a w hw hB hf (by simpa[opsAt,wpQuiet] using h)
 | k :: H,listed,a,hB,hf,h=>by
  simp only[stageL,Bool.and_eq_true,Bool.not_eq_true'] at hB
  obtain ⟨⟨⟨⟨⟨hr,hfr⟩,hp⟩,hlk⟩,hre⟩,hB'⟩:=hB
  have hr':k∈Region.ready md ops listed:=by simpa using hr
  obtain ⟨_,o,ho,_⟩:=mem_ready.1 hr'
  rw[opsAt_cons ho] at h
  rw[ho] at hp
  have hq:qOp P ops C k (wpQuiet P ops C (fun a'=>wpLinksS P ops C Q R (opsAt ops M) a' w) (opsAt ops H)) a:=by unfold qOp;simp only[ho];exact h
  obtain ⟨v,hy,hK⟩:=yieldsC_of_quiet hp ho hq
  obtain ⟨h1,h2⟩:=reach_of hre
  rw[show (k :: H).length+M.length=(H.length+M.length)+1 by simp;omega]
  exact wpAnyS'_first ho (Region.noSelect_spec hsel) hQ h1 hlk (fun l a w hl j hj=>hfull j (by rw[←hl.1];exact hj)) _ listed a w h2 (Region.free_spec ho hfr) hr' hy hw (wpAnyS'_heads full hsel hQ hw hfull H _ _ hB' hf hK)
theorem stage {listed:Array Bool} {a:Act} {w:World} {g:Nat} (H M:List Nat) (hB:stageB md ops H M listed=true) (hw:C w) (hQ:∀ c a w d u,Q (.panic c) (Act.put a d u) w→Q (.panic c) a w)
  (h:wpQuiet P ops C (fun a'=>wpLinksS P ops C Q (fun a w=>wpAny P md ops Q g (listAll listed (H++M)) a w) (opsAt ops M) a' w) (opsAt ops H) a):wpAny P md ops Q (H.length+M.length+g) listed a w:=by
 simp only[stageB,Bool.and_eq_true] at hB
 refine wpAny_of_S' (C:=C) (late:=lateOf listed (H++M)) (R:=fun l a w=>l=listAll listed (H++M)∧wpAny P md ops Q g (listAll listed (H++M)) a w) (fun l a w hl=>by rw[hl.1];exact hl.2) _ _ _ _ ?_
 exact wpAnyS'_heads (listAll listed (H++M)) hB.1 hQ hw (stageL_end H listed hB.2) H listed a hB.2 rfl h
theorem stages_start {id:Nat} {a:Act} {w:World} {l:List Oper} (hm:P.follows .mixedOrders=true) (n:Nat) (hn:l.length=n) (h:wpAny P .any l.toArray Q n (Array.replicate n false) a w.drew):(Code.region id l.toArray true).wp P Q a w:=by
 subst hn
 exact wp_region_any hm (by rw[List.size_toArray];exact h)
theorem stages_end {listed:Array Bool} {a:Act} {w:World} (hr:(Region.ready md ops listed).isEmpty=true) (h:Q .normal a w):wpAny P md ops Q 0 listed a w:=⟨by simpa using hr,h⟩
structure KeptS (S:Nat→Prop) (w:World) where
 to:World
 keeps:Keeps S w to
instance (S:Nat→Prop) (w:World):Nonempty (KeptS S w):=⟨⟨w,Keeps.refl _ w⟩⟩
theorem keptS {S:Nat→Prop} {w w':World} (h:Keeps S w w'):∃ x:KeptS S w,w'=x.to:=⟨⟨w',h⟩,rfl⟩
theorem keptS_cell {S:Nat→Prop} {w:World} {p:Addr} {v:Value} (h:w.cell? p=some v) (hs:¬ S p.block):∀ x:KeptS S w,x.to.cell? p=some v:=fun x=>x.keeps.cell h hs
theorem stagek (S:Nat→Prop) {listed:Array Bool} {a:Act} {w:World} {n:Nat} (H M:List Nat) (g:Nat) (hn:n=H.length+M.length+g) (listed':Array Bool) (hl:listAll listed (H++M)=listed') (hB:stageB md ops H M listed=true) (hQ:∀ c a w d u,Q (.panic c) (Act.put a d u) w→Q (.panic c) a w)
  (h:wpQuiet P ops (fun w'=>∃ x:KeptS S w,w'=x.to) (fun a'=>wpLinksS P ops (fun w'=>∃ x:KeptS S w,w'=x.to) Q (fun a w=>wpAny P md ops Q g listed' a w) (opsAt ops M) a' w) (opsAt ops H) a):wpAny P md ops Q n listed a w:=by
 subst hn hl
 exact stage H M hB (keptS (Keeps.refl _ w)) hQ h
theorem links_nil {R:Act→World→Prop} {a:Act} {w:World} (h:R a w):wpLinksS P ops C Q R [] a w:=h
theorem links_cons {R:Act→World→Prop} {o:Oper} {rest:List Oper} {a:Act} {w:World} (hw:Region.wanted o (yielded ops a.tmps)=true)
  (h:∀ K:Act→World→Prop,(∀ a' w',C w'→wpLinksS P ops C Q R rest a' w'→K a' w')→o.wp P a w K Q):wpLinksS P ops C Q R (o :: rest) a w:=by
 unfold wpLinksS
 rw[if_pos hw]
 exact h _ fun _ _ h1 h2=>⟨h1,h2⟩
end
end
section
open Go.RowKit
section
variable {P:Program} {ops:Array Oper} {md:Region.Mode} {C:World→Prop} {Q:Exit→Act→World→Prop}
def stageH (md:Region.Mode) (ops:Array Oper) (late:Nat→Bool):List Nat→Array Bool→Bool
 | [],_=>true
 | k :: H,listed=>(Region.ready md ops listed).contains k&&Region.free md ops listed k&&(match ops[k]? with|some o=>plainC o|none=>false)&&!late k&&reachB md ops late listed k (reachOf md ops listed k)&&stageH md ops late H (listed.setIfInBounds k true)
theorem wpAnyS'_headsT {late:Nat→Bool} {m:Nat} {R:Act→World→Prop} (full:Array Bool) (hsel:Region.noSelect ops=true) (hQ:∀ c a w d u,Q (.panic c) (Act.put a d u) w→Q (.panic c) a w)
  {w:World} (hw:C w) (hfull:∀ j∈Region.ready md ops full,late j=true) :
  ∀ (H:List Nat) (listed:Array Bool) (a:Act),stageH md ops late H listed=true→
   wpQuiet P ops C (fun a'=>wpAnyS' P md ops C Q late (fun l a w=>l=full∧R a w) m (listAll listed H) a' w) (opsAt ops H) a→wpAnyS' P md ops C Q late (fun l a w=>l=full∧R a w) (H.length+m) listed a w
 | [],listed,a,_,h=>by
  rw[List.length_nil,Nat.zero_add]
  simpa[opsAt,wpQuiet,listAll] using h
 | k :: H,listed,a,hB,h=>by
  simp only[stageH,Bool.and_eq_true,Bool.not_eq_true'] at hB
  obtain ⟨⟨⟨⟨⟨hr,hfr⟩,hp⟩,hlk⟩,hre⟩,hB'⟩:=hB
  have hr':k∈Region.ready md ops listed:=by simpa using hr
  obtain ⟨_,o,ho,_⟩:=mem_ready.1 hr'
  rw[opsAt_cons ho] at h
  rw[ho] at hp
  have hq:qOp P ops C k (wpQuiet P ops C (fun a'=>wpAnyS' P md ops C Q late (fun l a w=>l=full∧R a w) m (listAll (listed.setIfInBounds k true) H) a' w) (opsAt ops H)) a:=by unfold qOp;simp only[ho];exact h
  obtain ⟨v,hy,hK⟩:=yieldsC_of_quiet hp ho hq
  obtain ⟨h1,h2⟩:=reach_of hre
  rw[show (k :: H).length+m=(H.length+m)+1 by simp;omega]
  exact wpAnyS'_first ho (Region.noSelect_spec hsel) hQ h1 hlk (fun l a w hl j hj=>hfull j (by rw[←hl.1];exact hj)) _ listed a w h2 (Region.free_spec ho hfr) hr' hy hw (wpAnyS'_headsT full hsel hQ hw hfull H _ _ hB' hK)
def stageTB (md:Region.Mode) (ops:Array Oper) (H M:List Nat) (listed full:Array Bool):Bool:=
 Region.noSelect ops&&stageH md ops (lateOf listed (H++M)) H listed&&(Region.ready md ops full).all (lateOf listed (H++M))&&(listAll listed (H++M) == full)
def Tree (P:Program) (md:Region.Mode) (ops:Array Oper) (S:Nat→Prop) (w0:World) (Q:Exit→Act→World→Prop) (listed0:Array Bool) (HM:List Nat) (full:Array Bool) (g m:Nat) (listed:Array Bool) (a:Act) (w:World):Prop:=
 wpAnyS' P md ops (fun w'=>∃ x:KeptS S w0,w'=x.to) Q (lateOf listed0 HM) (fun l a w=>l=full∧wpAny P md ops Q g full a w) m listed a w
theorem staget (S:Nat→Prop) {listed:Array Bool} {a:Act} {w:World} {n:Nat} (H M:List Nat) (g:Nat) (hn:n=H.length+M.length+g) (full mid:Array Bool) (hm:listAll listed H=mid) (hB:stageTB md ops H M listed full=true) (hQ:∀ c a w d u,Q (.panic c) (Act.put a d u) w→Q (.panic c) a w)
  (h:wpQuiet P ops (fun w'=>∃ x:KeptS S w,w'=x.to) (fun a'=>Tree P md ops S w Q listed (H++M) full g M.length mid a' w) (opsAt ops H) a):wpAny P md ops Q n listed a w:=by
 subst hn hm
 simp only[stageTB,Bool.and_eq_true] at hB
 obtain ⟨⟨⟨hsel,hH⟩,hfull⟩,hls⟩:=hB
 refine wpAny_of_S' (C:=fun w'=>∃ x:KeptS S w,w'=x.to) (late:=lateOf listed (H++M)) (R:=fun l a w=>l=full∧wpAny P md ops Q g full a w) (fun l a w hl=>by rw[hl.1];exact hl.2) _ _ _ _ ?_
 exact wpAnyS'_headsT full hsel hQ (keptS (Keeps.refl _ w)) (fun j hj=>List.all_eq_true.1 hfull j hj) H listed a hH h
section
variable {S:Nat→Prop} {w0:World} {listed0 full listed:Array Bool} {HM:List Nat} {g m:Nat} {a:Act} {w:World}
theorem tree_nil (hl:(listed == full)=true) (h:wpAny P md ops Q g full a w):Tree P md ops S w0 Q listed0 HM full g 0 listed a w:=⟨by simpa using hl,h⟩
def opAt (ops:Array Oper) (k:Nat):Oper:=ops[k]?.getD opNone
theorem opAt_some {k:Nat} (h:(ops[k]?).isSome=true):ops[k]?=some (opAt ops k):=by
 unfold opAt
 cases hk:ops[k]? with
 | none=>rw[hk] at h;cases h
 | some o=>rfl
theorem tree_op {k:Nat} (listed':Array Bool) (ho:(ops[k]?).isSome=true) (hs:listed.setIfInBounds k true=listed') (hw:Region.wanted (opAt ops k) (yielded ops a.tmps)=true)
  (h:∀ K:Act→World→Prop,(∀ a' w',Keeps S w0 w'→Tree P md ops S w0 Q listed0 HM full g m listed' a' w'→K a' w')→(opAt ops k).wp P a w K Q) :
  wpOp P ops Q k (fun a' w'=>(∃ x:KeptS S w0,w'=x.to)∧Tree P md ops S w0 Q listed0 HM full g m (listed.setIfInBounds k true) a' w') a w:=by
 unfold Go.wpOp
 simp only[opAt_some ho]
 rw[if_pos hw,hs]
 exact .inl (h _ fun _ _ h1 h2=>⟨keptS h1,h2⟩)
theorem tree_one (k:Nat) (listed':Array Bool) (hr:(Region.ready md ops listed == [k])=true) (hl:lateOf listed0 HM k=false) (ho:(ops[k]?).isSome=true) (hs:listed.setIfInBounds k true=listed') (hw:Region.wanted (opAt ops k) (yielded ops a.tmps)=true)
  (h:∀ K:Act→World→Prop,(∀ a' w',Keeps S w0 w'→Tree P md ops S w0 Q listed0 HM full g m listed' a' w'→K a' w')→(opAt ops k).wp P a w K Q):Tree P md ops S w0 Q listed0 HM full g (m+1) listed a w:=by
 have hr':Region.ready md ops listed=[k]:=by simpa using hr
 refine ⟨by rw[hr'];simp,fun i hi=>?_⟩
 rw[hr'] at hi
 obtain rfl:i=k:=by simpa using hi
 exact ⟨hl,tree_op listed' ho hs hw h⟩
theorem tree_two (k j:Nat) (listed1 listed2:Array Bool) (hr:(Region.ready md ops listed == [k,j])=true) (hl:lateOf listed0 HM k=false) (hl2:lateOf listed0 HM j=false) (ho:(ops[k]?).isSome=true) (hp:(ops[j]?).isSome=true)
  (hs:listed.setIfInBounds k true=listed1) (hs2:listed.setIfInBounds j true=listed2) (hw:Region.wanted (opAt ops k) (yielded ops a.tmps)=true) (hw2:Region.wanted (opAt ops j) (yielded ops a.tmps)=true)
  (h:∀ K:Act→World→Prop,(∀ a' w',Keeps S w0 w'→Tree P md ops S w0 Q listed0 HM full g m listed1 a' w'→K a' w')→(opAt ops k).wp P a w K Q)
  (h2:∀ K:Act→World→Prop,(∀ a' w',Keeps S w0 w'→Tree P md ops S w0 Q listed0 HM full g m listed2 a' w'→K a' w')→(opAt ops j).wp P a w K Q):Tree P md ops S w0 Q listed0 HM full g (m+1) listed a w:=by
 have hr':Region.ready md ops listed=[k,j]:=by simpa using hr
 refine ⟨by rw[hr'];simp,fun i hi=>?_⟩
 rw[hr'] at hi
 rcases List.mem_cons.1 hi with rfl|hi
 ·exact ⟨hl,tree_op listed1 ho hs hw h⟩
 ·obtain rfl:i=j:=by simpa using hi
  exact ⟨hl2,tree_op listed2 hp hs2 hw2 h2⟩
end
end
end
section
open Go.RowKit
section
variable {P:Program} {ops:Array Oper} {md:Region.Mode} {Q:Exit→Act→World→Prop}
structure HeldC (F:World→Prop) where
 to:World
 held:F to
theorem heldC {F:World→Prop} {w:World} (h:F w):∃ x:HeldC F,w=x.to:=⟨⟨w,h⟩,rfl⟩
theorem heldC_blk {F:World→Prop} {b k:Nat} {cs:Array Value} {t:TypeId} {v:Value} (hF:∀ w,F w→w.heap[b]?=some (.cells cs t (0,0))) (hk:cs[k]?=some v):∀ x:HeldC F,x.to.cell? ⟨b,k,none⟩=some v:=fun x=>blk_cell (hF _ x.held) hk
theorem stageh (F:World→Prop) {listed:Array Bool} {a:Act} {w:World} {n:Nat} (hw:F w) (H M:List Nat) (g:Nat) (hn:n=H.length+M.length+g) (listed':Array Bool) (hl:listAll listed (H++M)=listed') (hB:stageB md ops H M listed=true) (hQ:∀ c a w d u,Q (.panic c) (Act.put a d u) w→Q (.panic c) a w)
  [Nonempty (HeldC F)] (h:wpQuiet P ops (fun w'=>∃ x:HeldC F,w'=x.to) (fun a'=>wpLinksS P ops (fun w'=>∃ x:HeldC F,w'=x.to) Q (fun a w=>wpAny P md ops Q g listed' a w) (opsAt ops M) a' w) (opsAt ops H) a):wpAny P md ops Q n listed a w:=by
 subst hn hl
 exact stage H M hB (heldC hw) hQ h
def HT (P:Program) (md:Region.Mode) (ops:Array Oper) (F:World→Prop) (Q:Exit→Act→World→Prop) (late:Nat→Bool) (full:Array Bool) (g m:Nat) (listed:Array Bool) (a:Act) (w:World):Prop:=
 wpAnyS' P md ops (fun w'=>∃ x:HeldC F,w'=x.to) Q late (fun l a w=>l=full∧wpAny P md ops Q g full a w) m listed a w
variable {F:World→Prop} {late:Nat→Bool} {listed full:Array Bool} {g m:Nat} {a:Act} {w:World}
theorem ht_start (F:World→Prop) (L:List Nat) (g:Nat) {n:Nat} (m:Nat) (hn:n=m+g) (full:Array Bool) (h:HT P md ops F Q (lateOf listed L) full g m listed a w):wpAny P md ops Q n listed a w:=by
 subst hn
 exact wpAny_of_S' (C:=fun w'=>∃ x:HeldC F,w'=x.to) (late:=lateOf listed L) (R:=fun l a w=>l=full∧wpAny P md ops Q g full a w) (fun l a w hl=>by rw[hl.1];exact hl.2) _ _ _ _ h
theorem ht_heads (hw:F w) (H:List Nat) (k:Nat) (hk:H.length=k) (mid:Array Bool) (hm:listAll listed H=mid) (hB:(Region.noSelect ops&&stageH md ops late H listed&&(Region.ready md ops full).all late)=true) (hQ:∀ c a w d u,Q (.panic c) (Act.put a d u) w→Q (.panic c) a w)
  (h:wpQuiet P ops (fun w'=>∃ x:HeldC F,w'=x.to) (fun a'=>HT P md ops F Q late full g m mid a' w) (opsAt ops H) a):HT P md ops F Q late full g (k+m) listed a w:=by
 subst hm hk
 simp only[Bool.and_eq_true] at hB
 obtain ⟨⟨hsel,hH⟩,hfull⟩:=hB
 exact wpAnyS'_headsT full hsel hQ (heldC hw) (fun j hj=>List.all_eq_true.1 hfull j hj) H listed a hH h
theorem ht_one (k:Nat) (listed':Array Bool) (hr:(Region.ready md ops listed == [k])=true) (hl:late k=false) (ho:(ops[k]?).isSome=true) (hs:listed.setIfInBounds k true=listed') (hw:Region.wanted (opAt ops k) (yielded ops a.tmps)=true)
  (h:∀ K:Act→World→Prop,(∀ a' w',F w'→HT P md ops F Q late full g m listed' a' w'→K a' w')→(opAt ops k).wp P a w K Q):HT P md ops F Q late full g (m+1) listed a w:=by
 have hr':Region.ready md ops listed=[k]:=by simpa using hr
 refine ⟨by rw[hr'];simp,fun i hi=>?_⟩
 rw[hr'] at hi
 obtain rfl:i=k:=by simpa using hi
 refine ⟨hl,?_⟩
 unfold Go.wpOp
 simp only[opAt_some ho]
 rw[if_pos hw,hs]
 exact .inl (h _ fun _ _ h1 h2=>⟨heldC h1,h2⟩)
theorem ht_op {k:Nat} (listed':Array Bool) (hl:late k=false) (ho:(ops[k]?).isSome=true) (hs:listed.setIfInBounds k true=listed') (hw:Region.wanted (opAt ops k) (yielded ops a.tmps)=true)
  (h:∀ K:Act→World→Prop,(∀ a' w',F w'→HT P md ops F Q late full g m listed' a' w'→K a' w')→(opAt ops k).wp P a w K Q) :
  late k=false∧wpOp P ops Q k (fun a' w'=>(∃ x:HeldC F,w'=x.to)∧wpAnyS' P md ops (fun w'=>∃ x:HeldC F,w'=x.to) Q late (fun l a w=>l=full∧wpAny P md ops Q g full a w) m (listed.setIfInBounds k true) a' w') a w:=by
 refine ⟨hl,?_⟩
 unfold Go.wpOp
 simp only[opAt_some ho]
 rw[if_pos hw,hs]
 exact .inl (h _ fun _ _ h1 h2=>⟨heldC h1,h2⟩)
theorem ht_two (k j:Nat) (listed1 listed2:Array Bool) (hr:(Region.ready md ops listed == [k,j])=true) (hl:late k=false) (hl2:late j=false) (ho:(ops[k]?).isSome=true) (hp:(ops[j]?).isSome=true)
  (hs:listed.setIfInBounds k true=listed1) (hs2:listed.setIfInBounds j true=listed2) (hw:Region.wanted (opAt ops k) (yielded ops a.tmps)=true) (hw2:Region.wanted (opAt ops j) (yielded ops a.tmps)=true)
  (h:∀ K:Act→World→Prop,(∀ a' w',F w'→HT P md ops F Q late full g m listed1 a' w'→K a' w')→(opAt ops k).wp P a w K Q)
  (h2:∀ K:Act→World→Prop,(∀ a' w',F w'→HT P md ops F Q late full g m listed2 a' w'→K a' w')→(opAt ops j).wp P a w K Q):HT P md ops F Q late full g (m+1) listed a w:=by
 have hr':Region.ready md ops listed=[k,j]:=by simpa using hr
 refine ⟨by rw[hr'];simp,fun i hi=>?_⟩
 rw[hr'] at hi
 rcases List.mem_cons.1 hi with rfl|hi
 ·exact ht_op listed1 hl ho hs hw h
 ·obtain rfl:i=j:=by simpa using hi
  exact ht_op listed2 hl2 hp hs2 hw2 h2
theorem ht_nil (hl:(listed == full)=true) (h:wpAny P md ops Q g full a w):HT P md ops F Q late full g 0 listed a w:=⟨by simpa using hl,h⟩
theorem wp_run_alloc {o:Oper} {a:Act} {K:Act→World→Prop} {w w':World} {v:Value} {T:TypeId} (ho:o.op=.alloc T) (hrun:(Instr.alloc T true (.tuple #[])).run P w=.ok v w') (h:K (a.put o.dst v) w'):o.wp P a w K Q:=by
 unfold Oper.wp execOp
 simp only[ho,Sem.run_bind,hrun,Result.andThen_ok,Sem.run_pure]
 exact h
end
end
end Go.Proofs.YtalagblioepadaaGreatDoor
