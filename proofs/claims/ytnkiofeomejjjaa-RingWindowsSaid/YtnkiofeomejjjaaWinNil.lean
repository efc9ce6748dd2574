/- A window that is not there; the list of a ring that is not there. -/
import Derived.Test.YtnkiofeomejjjaaSeq
import Derived.Test.YtnkiofeomejjjaaRingNil
namespace Go.Proofs.Ytnkiofeomejjjaa
open Go.RowKit
attribute [local go_sem] Oper.semAt_some
variable {w : World}
theorem wnil_inside (f : Int) (w : World) : Calls Try.prog 34 #[.pointer none, .int .i64 f] w fun e w' => e = .returned (.pointer none) ∧ ∃ q, w' = w.drewN q := by
  go_enter Try.func34, Try.ntmps34
  go_wp2
  go_quiet (fail)
  go_wp2
  go_ret
  exact ⟨rfl, _, rfl⟩
theorem wnil_Put (f : Int) (x : Int) (w : World) : Calls Try.prog 20 #[.pointer none, .int .i64 f, (Value.int .i64 x)] w fun e w' => e = .returned (.int .i64 2) ∧ ∃ q, w' = w.drewN q := by
  go_enter Try.func20, Try.ntmps20
  go_wp2_with fail
  refine (wnil_inside f w).mono ?_
  rintro e w' ⟨rfl, q, rfl⟩
  go_wp2
  go_ret
  exact ⟨rfl, _, rfl⟩
theorem wnil_Get (f : Int) (w : World) : Calls Try.prog 25 #[.pointer none, .int .i64 f] w fun e w' => e = .returned (.tuple #[(Value.int .i64 0), .bool false]) ∧ ∃ q, w' = w.drewN q := by
  go_enter Try.func25, Try.ntmps25
  go_wp2_with fail
  refine (wnil_inside f w).mono ?_
  rintro e w' ⟨rfl, q, rfl⟩
  go_wp2
  go_ret2
  exact ⟨rfl, _, rfl⟩
theorem wnil_First (w : World) : Calls Try.prog 27 #[.pointer none] w fun e w' => e = .returned (.int .i64 0) ∧ w = w' := by
  go_enter Try.func27, Try.ntmps27
  go_wp2
  go_ret
  exact ⟨rfl, rfl⟩
theorem wnil_Cut (f : Int) (w : World) : Calls Try.prog 24 #[.pointer none, .int .i64 f] w fun e w' => e = .returned (.int .i64 0) ∧ w = w' := by
  go_enter Try.func24, Try.ntmps24
  go_wp2
  go_ret
  exact ⟨rfl, rfl⟩
theorem wnil_Move (f : Int) (w : World) : Calls Try.prog 23 #[.pointer none, .int .i64 f] w fun e w' => e = .returned (.int .i64 0) ∧ Below w.heap.size w w' := by
  go_enter Try.func23, Try.ntmps23
  go_wp2_with fail
  go_quiet (fail)
  go_wp2
  go_ret
  exact ⟨rfl, below_drewN ((Below.refl _ w).alloc (Nat.le_refl _) _) _⟩
theorem wnil_frames1 (Bn Bf : Nat) (Wr : Nat → Prop) (hc : w.cell? ⟨Bn, 0, none⟩ = some (.pointer none)) :
    YieldsAll Try.prog 43 #[.pointer (some ⟨Bn, 0, none⟩), .pointer (some ⟨Bf, 0, none⟩)] (fun x : Int => #[.int .i64 x]) [] Wr (fun _ => False) w := by
  intro l J W hl hk hsz hJ hY h0
  have hcW := hk.cell hc id
  refine callsIn_wide.2 ?_
  go_enter Try.func43, Try.ntmps43
  go_wp2_with fail
  refine bodyPost_ret (results_none rfl _ _ _) rfl ?_
  exact ⟨⟨_, rfl⟩, h0⟩
theorem wnil_frames (f : Int) (w : World) : Calls Try.prog 39 #[.pointer none, .int .i64 f] w fun e w' => e = .returned (.func (.func 43) #[] #[.pointer (some ⟨w.heap.size, 0, none⟩), .pointer (some ⟨w.heap.size + 1, 0, none⟩)]) ∧ (w.alloc (.cells #[.pointer none] 45)).alloc (.cells #[.int .i64 f] 3) = w' := by
  go_enter Try.func39, Try.ntmps39
  go_wp2
  go_ret
  exact ⟨rfl, rfl⟩
theorem wnil_Frames (w : World) : Calls Try.prog 28 #[.pointer none] w fun e w' => ∃ a cap, e = .returned (.slice a 0 cap) ∧ Below w.heap.size w w' := by
  go_enter Try.func28, Try.ntmps28
  go_wp2_with fail
  refine (wnil_frames 0 w).mono ?_
  rintro e w2 ⟨rfl, hw2⟩
  have hc : w2.cell? ⟨w.heap.size, 0, none⟩ = some (.pointer none) := by rw [← hw2]; exact cell_past (cell_one_new' _ _ _) _
  have hs : w.heap.size ≤ w2.heap.size := by rw [← hw2]; simp; omega
  have hb2 : Below w.heap.size w w2 := by rw [← hw2]; exact ((Below.refl _ w).alloc (Nat.le_refl _) _).alloc (by simp) _
  have hcol := hid (seq_Collect (w := w2) (fun x : Int => x) 43 #[.pointer (some ⟨w.heap.size, 0, none⟩), .pointer (some ⟨w.heap.size + 1, 0, none⟩)] (enters_of Try.func43 (by kernel_rfl) rfl) [] (by simp)
    (wnil_frames1 w.heap.size (w.heap.size + 1) _ (cell_past hc _)))
  clear hw2 hc
  go_wp2_with fail
  refine hcol.out.mono ?_
  rintro e w3 ⟨v, rfl, hown, hb⟩
  obtain ⟨a, cap, rfl, _, _⟩ := vals_of_own hown
  go_wp2
  go_ret
  exact ⟨_, _, rfl, hb2.trans (hb.mono hs)⟩
theorem rnil_all (w : World) :
    Calls Try.prog 32 #[.pointer none] w fun e w' => e = .returned (.func (.func 40) #[] #[.pointer (some ⟨w.heap.size, 0, none⟩)]) ∧ w.alloc (.cells #[.pointer none] 25) = w' := by
  go_enter Try.func32, Try.ntmps32
  go_wp2
  go_ret
  exact ⟨rfl, rfl⟩
theorem rnil_all1 (Bn : Nat) (Wr : Nat → Prop) (hc : w.cell? ⟨Bn, 0, none⟩ = some (.pointer none)) :
    YieldsAll Try.prog 40 #[.pointer (some ⟨Bn, 0, none⟩)] (fun p : Int × Nat => #[.int .i64 p.2, (Value.int .i64 p.1)]) [] Wr (fun _ => False) w := by
  intro l J W hl hk hsz hJ hY h0
  have hcW := hk.cell hc id
  refine callsIn_wide.2 ?_
  go_enter Try.func40, Try.ntmps40
  go_wp2_with fail
  go_loopw [3] (fun v wr => v = .int .i64 0 ∧ W = wr) (fun _ _ => 0)
  case atStart => exact ⟨rfl, rfl⟩
  case round =>
    obtain ⟨rfl, rfl⟩ := hrel
    go_wp2_with ((go_at_call 15; refine (nil_Len W).mono ?_; rintro e w' ⟨rfl, rfl⟩))
    go_end0
    exact ⟨⟨_, rfl⟩, h0⟩
set_option maxHeartbeats 800000 in
theorem rnil_List (w : World) :
    Calls Try.prog 12 #[.pointer none] w fun e w' => ∃ a cap, e = .returned (.slice a 0 cap) ∧ Below w.heap.size w w' := by
  refine (callsIn_wide (n := 0)).1 ?_
  refine callsIn_of_wp_marks Try.func12 rfl trivial ?_ rfl
  simp only [Try.ntmps12, List.size_toArray, List.length_cons, List.length_nil, Nat.reduceAdd, Nat.reduceSub, Array.replicate_succ, Array.replicate_zero, List.push_toArray, List.append_toArray, List.nil_append, List.cons_append]
  gi_wp2_with (fail)
  refine ⟨trivial, rfl, callsIn_wide.2 ((rnil_all _).mono ?_)⟩
  rintro e w2 ⟨rfl, hw2⟩
  gi_wp2_with (fail)
  subst hw2
  refine wpIn_range (gf := 40) (lb := #[.pointer (some ⟨w.heap.size + 1, 0, none⟩)]) rfl (enters_of Try.func40 (by kernel_rfl) rfl)
    (fun _ => rfl) [] (fun k => k = w.heap.size ∨ w.heap.size + 3 < k) (fun _ => False)
    (rnil_all1 (w.heap.size + 1) _ (by go_simp))
    (by simp; omega) (by simp)
    (fun _ W => (W.heap[w.heap.size]? = some (.cells #[.slice none 0 0] 22 (0, 0))) ∧ Below w.heap.size w W ∧ w.heap.size + 2 ≤ W.heap.size)
    (fun pre A B ⟨i1, i3, i4⟩ hsz hk => ⟨hk.heap i1 (fun h => by simp at h; omega), i3.trans (hk.below i3.size (fun k h1 h2 => by simp at h2; omega)), Nat.le_trans i4 hk.size⟩)
    ⟨blk_alloc (blk_new _ _) _, ((Below.refl _ w).alloc (Nat.le_refl _) _).alloc (by simp) _, by simp⟩
    (fun x => { tmps := #[.pointer none, undef, .slice none 0 0, .pointer (some ⟨w.heap.size, 0, none⟩), undef, (Value.int .i64 x.1), .pointer none, .func (.func 40) #[] #[.pointer (some ⟨w.heap.size + 1, 0, none⟩)], .int .i64 x.2, (Value.int .i64 x.1), undef, undef, undef, undef, undef], defers := [] })
    ?assign ?body ?done
  case assign =>
    intro l x W K hK
    gi_wp2
    exact hK
  case body =>
    rintro l pre x rest A2 hl hx
    simp at hx
  case done =>
    rintro W ⟨i1, i3, i4⟩ hD
    have cv := cell_of_one i1
    gi_wp2
    refine ⟨by simp, .inl ⟨_, _, rfl, run_takeDeferred hD, ?_⟩⟩
    refine ⟨_, results_tmp rfl _ _ _, none, 0, rfl, ?_⟩
    exact i3.trans (((Keeps.refl (fun k => w.heap.size ≤ k) W).putObj (by simp; omega) _).below i3.size (fun k h1 h2 => by omega))
end Go.Proofs.Ytnkiofeomejjjaa
