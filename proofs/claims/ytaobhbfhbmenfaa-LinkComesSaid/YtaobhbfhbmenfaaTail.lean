/- A region that draws its order: operations that only read and callees that are quiet come first, in whatever order; then a chain of operations that may do anything. -/
import Derived.Test.YtaobhbfhbmenfaaBase
import Derived.Test.YtaobhbfhbmenfaaKeeps
import Derived.Deep.QuietTactic
import Derived.BigQuiet
import Derived.StillTail
import Derived.OrdersIn
import Derived.TacticsIn
import Derived.RangeFuncCalls
namespace Go.Proofs.Ytaobhbfhbmenfaa
open Go.RowKit
section
variable {P : Program} {ops : Array Oper} {md : Region.Mode} {C : World → Prop}
def wpAnyH (P : Program) (md : Region.Mode) (ops : Array Oper) (C : World → Prop) (n : Nat) (L : Array Bool → Act → Prop) : Nat → Array Bool → Act → Prop
  | 0, listed, a => L listed a
  | f + 1, listed, a => Region.ready md ops listed ≠ [] ∧ ∀ i ∈ Region.ready md ops listed, i < n ∧ qOp P ops C i (wpAnyH P md ops C n L f (listed.setIfInBounds i true)) a
theorem wpAnyH_first {n i : Nat} {oi : Oper} {v : Value} {L : Array Bool → Act → Prop} (hi : ops[i]? = some oi) (hsel : ∀ (j : Nat) (o : Oper) cs b, ops[j]? = some o → o.op ≠ .select cs b)
    (hs : Region.sinkB md ops n = true) (hc : Region.chainB md ops n = true) (hn : n < ops.size) (hin : i < n)
    (hdone : ∀ listed a, L listed a → ∀ j ∈ Region.ready md ops listed, n ≤ j) :
    ∀ (f : Nat) (listed : Array Bool) (a : Act), HeadInv md ops n listed →
      (∀ j oj, ops[j]? = some oj → j ≠ i → listed.getD j true = false → (∀ e ∈ oj.after, Region.binds md e = true → e.on ≠ i) → oi.apart ops oj = true) →
      i ∈ Region.ready md ops listed → YieldsIn P ops C oi v a →
      wpAnyH P md ops C n L f (listed.setIfInBounds i true) (a.put oi.dst v) → wpAnyH P md ops C n L (f + 1) listed a := by
  intro f
  induction f with
  | zero =>
    intro listed a inv _ hr hy H
    have hun := (mem_ready.1 hr).1
    refine ⟨fun h => (by rw [h] at hr; cases hr), fun j hj => ?_⟩
    have hjn : j < n := by
      rcases Nat.lt_or_ge j n with h | h
      · exact h
      · exact absurd hj (tail_waits hs hc hn inv _ i rfl hin hun j h)
    refine ⟨hjn, ?_⟩
    by_cases hji : j = i
    · subst hji; exact hy.qOp hi H
    · have := hdone _ _ H j (ready_mono hj hji)
      omega
  | succ f ih =>
    intro listed a inv hfree hr hy H
    have hun := (mem_ready.1 hr).1
    refine ⟨fun h => (by rw [h] at hr; cases hr), fun j hj => ?_⟩
    have hjn : j < n := by
      rcases Nat.lt_or_ge j n with h | h
      · exact h
      · exact absurd hj (tail_waits hs hc hn inv _ i rfl hin hun j h)
    refine ⟨hjn, ?_⟩
    by_cases hji : j = i
    · subst hji; exact hy.qOp hi H
    · have h1 := (H.2 j (ready_mono hj hji)).2
      obtain ⟨hjun, oj, hoj, hall⟩ := mem_ready.1 hj
      have hnot : ∀ e ∈ oj.after, Region.binds md e = true → e.on ≠ i := fun e he hb heq => by
        have h1 := hall e he hb
        rw [heq, getD_both hun] at h1
        cases h1
      have h2 := qOp_put hoj (hfree j oj hoj hji hjun hnot) (fun cs b => hsel i oi cs b hi) (fun cs b => hsel j oj cs b hoj) hy h1
      have hfree' : ∀ k ok, ops[k]? = some ok → k ≠ i → (listed.setIfInBounds j true).getD k true = false →
          (∀ e ∈ ok.after, Region.binds md e = true → e.on ≠ i) → oi.apart ops ok = true := fun k ok hk hki hun hno => by
        refine hfree k ok hk hki ?_ hno
        by_cases hjk : j = k
        · subst hjk; exact hjun
        · rw [getD_set_ne true hjk] at hun; exact hun
      refine qOp_mono (fun a' h3 => ih (listed.setIfInBounds j true) a' (inv.set hj hjn) hfree' (ready_mono hr (Ne.symm hji)) h3.1 ?_) h2
      rw [Array.setIfInBounds_comm _ _ hji]
      exact h3.2
theorem wpAnyH_lex {n g : Nat} {Lq : Act → Prop} (hsel : Region.noSelect ops = true) (hs : Region.sinkB md ops n = true) (hc : Region.chainB md ops n = true) (hn : n < ops.size) :
    ∀ (l : List Oper) (k : Nat) (listed : Array Bool) (a : Act), (∀ j, j < l.length → l[j]? = ops[k + j]?) → k + l.length = n → HeadInv md ops n listed →
    Region.lexHead md ops g l.length k listed = true → wpQuiet P ops C Lq l a →
    wpAnyH P md ops C n (fun listed' a' => Region.seqB md ops g n listed' = true ∧ Lq a') l.length listed a
  | [], k, listed, a, _, hk, _, hB, h => by
    have : k = n := by simpa using hk
    subst this
    exact ⟨by simpa [Region.lexHead] using hB, h⟩
  | o :: l, k, listed, a, hl, hk, inv, hB, h => by
    have h0 : ops[k]? = some o := by simpa using (hl 0 (by simp)).symm
    simp only [List.length_cons, Region.lexHead, Bool.and_eq_true] at hB
    obtain ⟨⟨hr, hf⟩, hB'⟩ := hB
    have hkn : k < n := by simp only [List.length_cons] at hk; omega
    have hr' : k ∈ Region.ready md ops listed := by simpa using hr
    have hst : qOp P ops C k (wpQuiet P ops C Lq l) a := by unfold qOp; simp only [h0]; exact h
    obtain ⟨v, hy, hK⟩ := yieldsIn_of_qOp h0 hst
    exact wpAnyH_first h0 (Region.noSelect_spec hsel) hs hc hn hkn (fun listed' a' hL => seqB_ready hL.1) l.length listed a inv (Region.free_spec h0 hf) hr' hy
      (wpAnyH_lex hsel hs hc hn l (k + 1) _ _ (fun j hj => by have := hl (j + 1) (by simp; omega); simpa [Nat.add_assoc, Nat.add_comm 1 j] using this) (by simp only [List.length_cons] at hk; omega) (inv.set hr' hkn) hB' hK)
/-- the head of a region, laid ready for either calculus -/
theorem head_lex {l : List Oper} {n : Nat} {a : Act} {Lq : Act → Prop} (hB : Region.lexTailB .any l.toArray n = true) (h : wpQuiet P l.toArray C Lq (l.take n) a) :
    n < l.length ∧ wpAnyH P .any l.toArray C n (fun listed' a' => Region.seqB .any l.toArray (l.drop n).length n listed' = true ∧ Lq a') n (Array.replicate l.toArray.size false) a := by
  simp only [Region.lexTailB, Bool.and_eq_true, decide_eq_true_eq] at hB
  obtain ⟨⟨⟨⟨hsel, hn⟩, hs⟩, hc⟩, hlex⟩ := hB
  have hn' : n < l.length := by simpa using hn
  have htl : (l.take n).length = n := by simp; omega
  have hdl : (l.drop n).length = l.toArray.size - n := by simp
  have inv0 : HeadInv .any l.toArray n (Array.replicate l.toArray.size false) :=
    ⟨by simp, fun j oj _ hl => (by rw [getD_replicate_false] at hl; cases hl), fun t _ ht => getD_in (by simpa using ht) (getD_replicate_false _ _)⟩
  have H := wpAnyH_lex (md := .any) (g := l.toArray.size - n) hsel hs hc hn (l.take n) 0 _ a (fun j hj => by
    have hj' : j < n := by rw [htl] at hj; exact hj
    simp [hj']) (by simpa using htl) inv0 (by rw [htl]; exact hlex) h
  rw [htl] at H
  rw [hdl]
  exact ⟨hn', H⟩
theorem wpAny_of_headH {n g : Nat} {L : Array Bool → Act → Prop} {Q' : Exit → Act → World → Prop} (hL : ∀ listed a w, C w → L listed a → wpAny P md ops Q' g listed a w) :
    ∀ (f : Nat) (listed : Array Bool) (a : Act) (w : World), C w → wpAnyH P md ops C n L f listed a → wpAny P md ops Q' (f + g) listed a w
  | 0, listed, a, w, hw, h => by rw [Nat.zero_add]; exact hL _ _ _ hw h
  | f + 1, listed, a, w, hw, h => by
    rw [show f + 1 + g = (f + g) + 1 by omega]
    exact ⟨fun h0 => absurd h0 h.1, fun i hi => wpOp_of_qOp hw (fun a' w' hw' h' => wpAny_of_headH hL f _ a' w' hw' h') (h.2 i hi).2⟩
/-- THE LAW: the first n operations read, or call quietly; what comes behind them is a chain. -/
theorem wp_region_tail {id : Nat} {Q : Exit → Act → World → Prop} {a : Act} {w : World} {l : List Oper} (n : Nat) (hm : P.follows .mixedOrders = true) (hB : Region.lexTailB .any l.toArray n = true) (hC : C { w with drawn := w.drawn + 1 })
    (h : wpQuiet P l.toArray C (fun a' => ∀ w', C w' → wpList P l.toArray Q (l.drop n) a' w') (l.take n) a) : (Code.region id l.toArray true).wp P Q a w := by
  obtain ⟨hn, H⟩ := head_lex hB h
  refine wp_region_any hm ?_
  have := wpAny_of_headH (Q' := Q) (g := (l.drop n).length) (fun listed a' w' hw' hL => wpAny_of_seq (md := .any) (Q' := Q) (l.drop n) n listed a' w' (fun j => by simp [List.getElem?_drop]) hL.1 (hL.2 w' hw')) _ _ _ _ hC H
  rw [show n + (l.drop n).length = l.toArray.size by simp; omega] at this
  exact this
/-- The same within a fence that lets all functions by. -/
structure Open (F : Fence) (m : Nat) (P : Program) : Prop where
  fn : ∀ f, F.fn f
  depth : F.depth = none
  call : ∀ {f args w R}, Calls P f args w R → CallsIn F (m - 1) P f args w R
theorem open_wide (m : Nat) (P : Program) : Open Fence.wide m P := ⟨fun _ => trivial, rfl, fun h => callsIn_wide.2 h⟩
theorem open_round (l m : Nat) (P : Program) : Open (Fence.wide.inRound l) m P := ⟨fun _ => trivial, rfl, fun h => CallsIn.inRound l (callsIn_wide.2 h)⟩
def noDeferB (l : List Oper) : Bool := l.all fun o => match o.op with | .defer _ => false | _ => true
theorem noDefer_spec {l : List Oper} (h : noDeferB l = true) {i : Nat} {o : Oper} (hi : l.toArray[i]? = some o) (c : Call) : o.op ≠ .defer c := by
  intro e
  have hm : o ∈ l := by
    have : l[i]? = some o := by simpa using hi
    exact List.mem_of_getElem? this
  have := List.all_eq_true.1 h o hm
  rw [e] at this
  cases this
theorem wpIn_of_quietF {F : Fence} {m : Nat} (hF : Open F m P) {o : Oper} {a : Act} {K : Act → Prop} {K' : Act → World → Prop} {Q' : Exit → Act → World → Prop} {w : World} (hsem : o.semAt F.round a.eval = execOp a.eval o) (hw : C w)
    (h : ∀ a w', C w' → K a → K' a w') (hh : o.quiet P a C K) : o.wpIn F m P a w K' Q' := by
  obtain ⟨v, h1, h2⟩ := hh
  have h3 := h1 w hw
  unfold Oper.quietAt at h3
  unfold Oper.wpIn
  refine ⟨fun f _ => hF.fn f, ?_⟩
  rw [hsem]
  generalize (execOp a.eval o).run P w = r at *
  cases r with
  | ok x w' =>
    cases x <;> simp only [Oper.quietUpon] at h3 <;> simp only [Oper.uponIn]
    case value u =>
      obtain ⟨e1, e2⟩ := h3
      rw [e1, e2]
      exact h _ _ hw h2
    case skip =>
      obtain ⟨e1, e2⟩ := h3
      rw [e1, ← e2]
      exact h _ _ hw h2
    case enter f args =>
      obtain ⟨e1, hc⟩ := h3
      rw [e1]
      refine ⟨(fun hd => by rw [hF.depth] at hd; cases hd), CallsIn.mono (hF.call hc) fun e w'' he => ?_⟩
      obtain ⟨rfl, hw''⟩ := he
      exact h _ _ hw'' h2
  | halt x w' => simp only [Oper.quietUpon] at h3
theorem wpOpIn_of_qOpF {F : Fence} {m : Nat} (hF : Open F m P) {i : Nat} {a : Act} {K : Act → Prop} {K' : Act → World → Prop} {Q' : Exit → Act → World → Prop} {w : World} (hnd : ∀ (o : Oper) (c : Call), ops[i]? = some o → o.op ≠ Op.defer c) (hC : C w)
    (h : ∀ a w', C w' → K a → K' a w') (hh : qOp P ops C i K a) : wpOpIn F m P ops Q' i K' a w := by
  unfold qOp at hh
  unfold wpOpIn
  split
  · rename_i ho; simp only [ho] at hh; exact h _ _ hC hh
  · rename_i o ho
    simp only [ho] at hh
    split
    · rename_i hw; simp only [hw, if_true] at hh; exact wpIn_of_quietF hF (Oper.semAt_eq _ _ _ fun c => hnd o c ho) hC h hh
    · rename_i hw; simp only [hw] at hh; exact ⟨fun f _ => hF.fn f, h _ _ hC hh⟩
theorem wpAnyIn_of_headH {F : Fence} {m : Nat} (hF : Open F m P) (hnd : ∀ (i : Nat) (o : Oper) (c : Call), ops[i]? = some o → o.op ≠ Op.defer c) {n g : Nat} {L : Array Bool → Act → Prop} {Q' : Exit → Act → World → Prop}
    (hL : ∀ listed a w, C w → L listed a → wpAnyIn F m P md ops Q' g listed a w) :
    ∀ (f : Nat) (listed : Array Bool) (a : Act) (w : World), C w → wpAnyH P md ops C n L f listed a → wpAnyIn F m P md ops Q' (f + g) listed a w
  | 0, listed, a, w, hw, h => by rw [Nat.zero_add]; exact hL _ _ _ hw h
  | f + 1, listed, a, w, hw, h => by
    rw [show f + 1 + g = (f + g) + 1 by omega]
    exact ⟨fun h0 => absurd h0 h.1, fun i hi => wpOpIn_of_qOpF hF (hnd i) hw (fun a' w' hw' h' => wpAnyIn_of_headH hF hnd hL f _ a' w' hw' h') (h.2 i hi).2⟩
theorem wpAnyIn_of_seq {F : Fence} {m : Nat} {Q' : Exit → Act → World → Prop} : ∀ (l : List Oper) (k : Nat) (listed : Array Bool) (a : Act) (w : World), (∀ j, l[j]? = ops[k + j]?) →
    Region.seqB md ops l.length k listed = true → wpListIn F m P ops Q' l a w → wpAnyIn F m P md ops Q' l.length listed a w
  | [], _, _, _, _, _, hB, h => ⟨by simpa [Region.seqB] using hB, h⟩
  | o :: l, k, listed, a, w, hl, hB, h => by
    have h0 : ops[k]? = some o := by simpa using (hl 0).symm
    simp only [List.length_cons, Region.seqB, Bool.and_eq_true, decide_eq_true_eq] at hB
    refine ⟨fun h1 => (by rw [hB.1] at h1; cases h1), fun i hi => ?_⟩
    rw [hB.1] at hi
    have hik : i = k := by simpa using hi
    subst hik
    have hw : wpOpIn F m P ops Q' i (wpListIn F m P ops Q' l) a w := by unfold wpOpIn; simp only [h0]; exact h
    exact wpOpIn_mono (fun a' w' h' => wpAnyIn_of_seq l (i + 1) _ a' w' (fun j => by have := hl (j + 1); simpa [Nat.add_assoc, Nat.add_comm 1 j] using this) hB.2 h') hw
theorem wpIn_region_tail {F : Fence} {m : Nat} (hF : Open F m P) {id : Nat} {Q : Exit → Act → World → Prop} {a : Act} {w : World} {l : List Oper} (n : Nat) (hm : P.follows .mixedOrders = true) (hB : Region.lexTailB .any l.toArray n = true) (hD : noDeferB l = true)
    (hC : C { w with drawn := w.drawn + 1 }) (h : wpQuiet P l.toArray C (fun a' => ∀ w', C w' → wpListIn F m P l.toArray Q (l.drop n) a' w') (l.take n) a) : (Code.region id l.toArray true).wpIn F m P Q a w := by
  obtain ⟨hn, H⟩ := head_lex hB h
  refine wpIn_region_any hm ?_
  have := wpAnyIn_of_headH (Q' := Q) (g := (l.drop n).length) hF (fun i o c hi => noDefer_spec hD hi c) (fun listed a' w' hw' hL => wpAnyIn_of_seq (md := .any) (Q' := Q) (l.drop n) n listed a' w' (fun j => by simp [List.getElem?_drop]) hL.1 (hL.2 w' hw')) _ _ _ _ hC H
  rw [show n + (l.drop n).length = l.toArray.size by simp; omega] at this
  exact this
/-- at the class 'w behind some draws' -/
theorem wp_region_taild {id : Nat} {Q : Exit → Act → World → Prop} {a : Act} {w : World} {l : List Oper} (n : Nat) (hm : P.follows .mixedOrders = true) (hB : Region.lexTailB .any l.toArray n = true)
    (h : wpQuiet P l.toArray (fun w' => ∃ n, w' = w.drewN n) (fun a' => ∀ w', (∃ n, w' = w.drewN n) → wpList P l.toArray Q (l.drop n) a' w') (l.take n) a) : (Code.region id l.toArray true).wp P Q a w :=
  wp_region_tail (C := fun w' => ∃ n, w' = w.drewN n) n hm hB ⟨1, rfl⟩ h
theorem wpIn_region_taild {F : Fence} {m : Nat} (hF : Open F m P) {id : Nat} {Q : Exit → Act → World → Prop} {a : Act} {w : World} {l : List Oper} (n : Nat) (hm : P.follows .mixedOrders = true) (hB : Region.lexTailB .any l.toArray n = true) (hD : noDeferB l = true)
    (h : wpQuiet P l.toArray (fun w' => ∃ n, w' = w.drewN n) (fun a' => ∀ w', (∃ n, w' = w.drewN n) → wpListIn F m P l.toArray Q (l.drop n) a' w') (l.take n) a) : (Code.region id l.toArray true).wpIn F m P Q a w :=
  wpIn_region_tail (C := fun w' => ∃ n, w' = w.drewN n) hF n hm hB hD ⟨1, rfl⟩ h
/-- a quiet callee, met behind draws that the walk has added up -/
theorem quiet_d {f : FuncId} {args : Array Value} {w : World} {a k : Nat} {v : Value} (h : Calls P f args (w.drewN (a + k)) fun e w' => e = .returned v ∧ ∃ m, w' = (w.drewN (a + k)).drewN m) :
    Calls P f args (w.drewN (a + k)) fun e w'' => e = .returned v ∧ ∃ m, w'' = w.drewN (a + m) :=
  h.mono fun _ _ ⟨he, m, hm⟩ => ⟨he, k + m, by rw [hm, World.drewN_drewN, Nat.add_assoc]⟩
/-- .. that leaves the world as it is -/
theorem quiet_s {f : FuncId} {args : Array Value} {w : World} {v : Value} (h : Calls P f args w fun e w' => e = .returned v ∧ w = w') : Calls P f args w fun e w' => e = .returned v ∧ ∃ m, w' = w.drewN m :=
  h.mono fun _ _ ⟨he, hm⟩ => ⟨he, 0, hm ▸ rfl⟩
/-- a quiet region, within such a fence -/
theorem wpIn_region_quietF {F : Fence} {m : Nat} (hF : Open F m P) {id : Nat} {Q : Exit → Act → World → Prop} {a : Act} {w : World} {l : List Oper} (hm : P.follows .mixedOrders = true) (hB : Region.lexB .any l.toArray = true) (hD : noDeferB l = true)
    (h : wpQuiet P l.toArray (fun w' => ∃ n, w' = w.drewN n) (fun a' => ∀ w', (∃ n, w' = w.drewN n) → Q .normal a' w') l a) : (Code.region id l.toArray true).wpIn F m P Q a w := by
  simp only [Region.lexB, Bool.and_eq_true] at hB
  have H := wpAnyQ_lex (C := fun w' => ∃ n, w' = w.drewN n) (md := .any) (P := P) (Q := fun a' => ∀ w', (∃ n, w' = w.drewN n) → Q .normal a' w') hB.1 l 0 (Array.replicate l.toArray.size false) a (by simp) (by simpa using hB.2) h
  refine wpIn_region_any hm ?_
  have hgo : ∀ (fuel : Nat) (listed : Array Bool) (a : Act) (w1 : World), (∃ n, w1 = w.drewN n) → wpAnyQ P .any l.toArray (fun w' => ∃ n, w' = w.drewN n) (fun a' => ∀ w', (∃ n, w' = w.drewN n) → Q .normal a' w') fuel listed a → wpAnyIn F m P .any l.toArray Q fuel listed a w1 := by
    intro fuel
    induction fuel with
    | zero => intro listed a w1 hw h; exact ⟨h.1, h.2 _ hw⟩
    | succ f ih => intro listed a w1 hw h; exact ⟨fun h0 => h.1 h0 _ hw, fun i hi => wpOpIn_of_qOpF hF (fun o c hi => noDefer_spec hD hi c) hw (fun a' w' hw' h' => ih _ a' w' hw' h') (h.2 i hi)⟩
  exact hgo _ _ _ _ ⟨1, rfl⟩ (by simpa using H)
end
end Go.Proofs.Ytaobhbfhbmenfaa
