/- slices.AppendSeq, slices.Collect: what an iterator yields, gathered. -/
import Derived.Test.YtfepefohaadecaaRows
import Derived.Test.YtfepefohaadecaaVals
import Derived.Test.YtfepefohaadecaaIter
import Derived.OwnWalkIn
import Derived.TacticsInMore
import Derived.Shelf.RegionOpen
import Derived.LoopNIn
import Derived.LoopIn
import Derived.Deep.Cut
import Derived.RangeFuncBox
import Derived.OneCell
namespace Go.Proofs.Ytfepefohaadecaa
open Go.RowKit
attribute [local go_sem] Oper.semAt_some
def intsL (L : List Int) : List Value := L.map fun x => .int .i64 x
theorem info_int : (Try.prog.info? 3).map (fun i => (i.zero, i.size, i.bytes)) = some (some (.int .i64 0), 1, 8) := by kernel_rfl
variable {w : World}
set_option maxHeartbeats 800000 in
theorem seq_Append {α : Type} (g : α → Int) (gf : Nat) (lb : Array Value) (hgf : ∀ args w, (callFunc gf args).run Try.prog w = .ok (.enter gf args) w) (L : List α) (hL : L.length ≤ 4096)
    (hit : YieldsAll Try.prog gf lb (fun x : α => #[.int .i64 (g x)]) L (fun k => k = w.heap.size ∨ w.heap.size + 2 < k) (fun _ => False) (w.alloc (.cells #[.slice none 0 0] 52))) :
    Calls Try.prog 112 #[.slice none 0 0, .func (.func gf) #[] lb] w fun e w' => ∃ v, e = .returned v ∧ w'.ownsRow (w.heap.size + 3) 3 1 v L.length (intsL (L.map g)) ∧ Below w.heap.size w w' := by
  obtain ⟨i0, hi, hz0, hz1, hz2⟩ := info_parts info_int
  have HI := hid hi
  clear hi
  have Hit := hid hit
  clear hit
  refine (callsIn_wide (n := 0)).1 ?_
  refine callsIn_of_wp_marks Try.func112 rfl trivial ?_ rfl
  simp only [Try.ntmps112, List.size_toArray, List.length_cons, List.length_nil, Nat.reduceAdd, Nat.reduceSub, Array.replicate_succ, Array.replicate_zero, List.push_toArray, List.append_toArray, List.nil_append, List.cons_append]
  gi_wp2_with (fail)
  refine wpIn_range (gf := gf) (lb := lb) rfl hgf (fun _ => rfl) L (fun k => k = w.heap.size ∨ w.heap.size + 2 < k) (fun _ => False) Hit.out
    (by simp; omega) (by simp)
    (fun pre W => (∃ v, W.heap[w.heap.size]? = some (.cells #[v] 52 (0, 0)) ∧ W.ownsRow (w.heap.size + 3) 3 1 v pre.length (intsL (pre.map g))) ∧ Below w.heap.size w W ∧ w.heap.size + 1 ≤ W.heap.size)
    (fun pre A B ⟨⟨v, i1, i2⟩, i3, i4⟩ hsz hk => ⟨⟨v, hk.heap i1 (fun h => by simp at h; omega), own_keeps i2 hk (fun b hb h => by have := (i2.lt b hb).1; simp at h; omega)⟩, i3.trans (hk.below i3.size (fun k h1 h2 => by simp at h2; omega)), Nat.le_trans i4 hk.size⟩)
    ⟨⟨_, blk_new _ _, own_nil _ _ _ _⟩, (Below.refl _ w).alloc (Nat.le_refl _) _, by simp⟩
    (fun x => { tmps := #[.slice none 0 0, .func (.func gf) #[] lb, .pointer (some ⟨w.heap.size, 0, none⟩), undef, .slice none 0 0, .int .i64 (g x), .func (.func gf) #[] lb, .int .i64 (g x), undef, undef, undef, undef, undef], defers := [] })
    ?assign ?body ?done
  case assign =>
    intro l x W K hK
    gi_wp2
    exact hK
  case body =>
    rintro l pre x rest A2 hl hx ⟨⟨v, i1, i2⟩, i3, i4⟩ hs4
    have hpl := congrArg List.length hx
    simp at hpl
    have Hx := hid hx
    have Hl := hid hl
    have Hpl := hid hpl
    have hpl2 : pre.length + 1 ≤ 4096 := by omega
    clear hx hl hpl
    have cv := cell_of_one i1
    have fv := free_of_one i1
    have H1 := hid i1
    clear i1
    gi_wp2_with (gi_at_builtin; refine wpListIn_append_own _ rfl _ _ 52 rfl (w.heap.size + 3) 3 i0 (.int .i64 0) 1 8 Try.underlying52 HI.out hz0 hz1 hz2 rfl (by decide) _ _ _ rfl (i2.alloc _) ⟨A2.heap.size, 0, none⟩ 1 1 [.int .i64 (g x)] rfl rfl (cell_one_new _ _ _) (by simp [Value.oneCell']) (by simp only [maxLen]; omega) (by omega) (by simp at hs4 ⊢; omega) ?_; intro v' w1 hown' hgrow _; have hk1 : Keeps (fun k => k = w.heap.size ∨ w.heap.size + 2 < k) A2 w1 := ((Keeps.refl _ A2).alloc _).grown hgrow (fun k hk => .inl (.inr (by have := (i2.lt k hk).1; omega))); obtain ⟨g', cap', rfl⟩ := ownsRow_succ hown'; have h2 := (hgrow.block w.heap.size (by simp; omega) (fun e => by have := (i2.lt _ e.symm).1; omega)).trans (blk_alloc H1.out _); have cv1 := cell_of_one h2; have fv1 := free_of_one h2; have Hb := hid h2; clear h2 hgrow)
    have hk2 := hk1.setCell (p := ⟨w.heap.size, 0, none⟩) (.inl rfl) (.slice (some ⟨g', 0, none⟩) (pre.length + 1) cap')
    refine ⟨hk2, ⟨_, by simpa using blk_set Hb.out 0 _, by simpa [intsL] using own_keeps hown' ((Keeps.refl (fun k => k = w.heap.size) w1).setCell (p := ⟨w.heap.size, 0, none⟩) rfl _) (fun b hb h => by have := (hown'.lt b hb).1; omega)⟩, i3.trans (hk2.below i3.size (fun k h1 h2 => by omega)), ?_⟩
    have := hk1.size
    omega
  case done =>
    rintro W ⟨⟨v, i1, i2⟩, i3, i4⟩ hD
    have cv := cell_of_one i1
    obtain ⟨a, cap, rfl, hv, hb⟩ := vals_of_own i2
    gi_wp2
    refine ⟨by simp, .inl ⟨_, _, rfl, run_takeDeferred hD, ?_⟩⟩
    refine ⟨_, results_tmp rfl _ _ _, _, rfl, own_keeps i2 ((Keeps.refl (fun k => k = w.heap.size + 1) W).putObj (by simp) _) (fun b hb h => by have := (i2.lt b hb).1; omega), ?_⟩
    exact i3.trans (((Keeps.refl (fun k => w.heap.size ≤ k) W).putObj (by simp) _).below i3.size (fun k h1 h2 => by omega))
theorem seq_Collect {α : Type} (g : α → Int) (gf : Nat) (lb : Array Value) (hgf : ∀ args w, (callFunc gf args).run Try.prog w = .ok (.enter gf args) w) (L : List α) (hL : L.length ≤ 4096)
    (hit : YieldsAll Try.prog gf lb (fun x : α => #[.int .i64 (g x)]) L (fun k => k = w.heap.size ∨ w.heap.size + 2 < k) (fun _ => False) (w.alloc (.cells #[.slice none 0 0] 52))) :
    Calls Try.prog 98 #[.func (.func gf) #[] lb] w fun e w' => ∃ v, e = .returned v ∧ w'.ownsRow (w.heap.size + 3) 3 1 v L.length (intsL (L.map g)) ∧ Below w.heap.size w w' := by
  have hA := hid (seq_Append g gf lb hgf L hL hit)
  clear hit
  go_enter Try.func98, Try.ntmps98
  go_wp2_with fail
  refine hA.out.mono ?_
  rintro e w' ⟨v, rfl, hown, hb⟩
  go_wp2
  go_ret
  exact ⟨_, rfl, hown, hb⟩
end Go.Proofs.Ytfepefohaadecaa
