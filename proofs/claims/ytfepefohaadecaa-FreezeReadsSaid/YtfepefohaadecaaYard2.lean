/- game: the box in which players are (2). -/
import Derived.Test.YtfepefohaadecaaYard
namespace Go.Proofs.Ytfepefohaadecaa
open Go.RowKit
set_option maxRecDepth 10000
variable {w : World}
theorem sh_Add (a d x : Int) (hf : ∀ w, Calls Try.prog 136 #[.int .i32 a, .int .i32 d] w fun e w' => e = .returned (.int .i32 x) ∧ w = w') (w : World) :
    Calls Try.prog 120 #[.agg #[.int .i32 a, .int .i32 a], .agg #[.int .i32 d, .int .i32 d]] w fun e w' => e = .returned (.agg #[.int .i32 x, .int .i32 x]) ∧ Below w.heap.size w w' := by
  have b3 := (((Below.refl w.heap.size w).alloc (Nat.le_refl _) (.cells #[.int .i32 a, .int .i32 a] 25)).alloc (by simp) (.cells #[.int .i32 d, .int .i32 d] 25)).alloc (by simp; omega) (.cells #[.int .i32 0, .int .i32 0] 25)
  have hB := blk_new ((w.alloc (.cells #[.int .i32 a, .int .i32 a] 25)).alloc (.cells #[.int .i32 d, .int .i32 d] 25)) (.cells #[.int .i32 0, .int .i32 0] 25)
  have hC := fun W => sh_each1 a d x hf W
  go_enter Try.func120, Try.ntmps120
  go_wp2_with fail
  refine (hC _).mono ?_
  rintro e w1 ⟨rfl, hb⟩
  have hb1 := b3.trans (hb.mono b3.size)
  have hB1 := (Keeps.of_below (S := fun _ => False) hb (fun k h1 h2 => by omega)).heap hB id
  have hs : ((w.alloc (.cells #[.int .i32 a, .int .i32 a] 25)).alloc (.cells #[.int .i32 d, .int .i32 d] 25)).heap.size = w.heap.size + 1 + 1 := by simp
  rw [hs] at hB1
  have y0 := blk_cell hB1 (k := 0) rfl
  have y1 := blk_cell hB1 (k := 1) rfl
  have z0 := blk_free hB1 0
  have z1 := blk_free hB1 1
  go_wp2_with fail
  have hB2 := blk_set (blk_set hB1 0 (.int .i32 x)) 1 (.int .i32 x)
  have hload := box_load _ _ _ _ hB2 2 rfl
  simp only [List.setIfInBounds_toArray, List.set_cons_zero, List.set_cons_succ] at hload
  refine bodyPost_ret (v := .agg #[.int .i32 x, .int .i32 x]) (by simp [results, Try.results120, asAddr, loadVar, loadCells, Try.isAgg25, Try.sizeOf25, hload]) rfl ?_
  refine ⟨rfl, Below.setCell (Below.setCell hb1 ?_ _) ?_ _⟩
  all_goals show w.heap.size ≤ w.heap.size + 1 + 1
  all_goals omega
theorem sh_Sub (a d x : Int) (hf : ∀ w, Calls Try.prog 137 #[.int .i32 a, .int .i32 d] w fun e w' => e = .returned (.int .i32 x) ∧ w = w') (w : World) :
    Calls Try.prog 121 #[.agg #[.int .i32 a, .int .i32 a], .agg #[.int .i32 d, .int .i32 d]] w fun e w' => e = .returned (.agg #[.int .i32 x, .int .i32 x]) ∧ Below w.heap.size w w' := by
  have b3 := (((Below.refl w.heap.size w).alloc (Nat.le_refl _) (.cells #[.int .i32 a, .int .i32 a] 25)).alloc (by simp) (.cells #[.int .i32 d, .int .i32 d] 25)).alloc (by simp; omega) (.cells #[.int .i32 0, .int .i32 0] 25)
  have hB := blk_new ((w.alloc (.cells #[.int .i32 a, .int .i32 a] 25)).alloc (.cells #[.int .i32 d, .int .i32 d] 25)) (.cells #[.int .i32 0, .int .i32 0] 25)
  have hC := fun W => sh_each2 a d x hf W
  go_enter Try.func121, Try.ntmps121
  go_wp2_with fail
  refine (hC _).mono ?_
  rintro e w1 ⟨rfl, hb⟩
  have hb1 := b3.trans (hb.mono b3.size)
  have hB1 := (Keeps.of_below (S := fun _ => False) hb (fun k h1 h2 => by omega)).heap hB id
  have hs : ((w.alloc (.cells #[.int .i32 a, .int .i32 a] 25)).alloc (.cells #[.int .i32 d, .int .i32 d] 25)).heap.size = w.heap.size + 1 + 1 := by simp
  rw [hs] at hB1
  have y0 := blk_cell hB1 (k := 0) rfl
  have y1 := blk_cell hB1 (k := 1) rfl
  have z0 := blk_free hB1 0
  have z1 := blk_free hB1 1
  go_wp2_with fail
  have hB2 := blk_set (blk_set hB1 0 (.int .i32 x)) 1 (.int .i32 x)
  have hload := box_load _ _ _ _ hB2 2 rfl
  simp only [List.setIfInBounds_toArray, List.set_cons_zero, List.set_cons_succ] at hload
  refine bodyPost_ret (v := .agg #[.int .i32 x, .int .i32 x]) (by simp [results, Try.results121, asAddr, loadVar, loadCells, Try.isAgg25, Try.sizeOf25, hload]) rfl ?_
  refine ⟨rfl, Below.setCell (Below.setCell hb1 ?_ _) ?_ _⟩
  all_goals show w.heap.size ≤ w.heap.size + 1 + 1
  all_goals omega
theorem sh_Right (a b c d : Int) (h1 : a ≤ c) (h2 : b ≤ d) (w : World) : Calls Try.prog 122 #[.agg #[.int .i32 a, .int .i32 b, .int .i32 c, .int .i32 d]] w fun e w' => e = .returned (.bool true) ∧ Below w.heap.size w w' := by
  go_enter Try.func122, Try.ntmps122
  go_wp2
  go_ret
  exact ⟨by first | rfl | simp [h2], (Below.refl _ w).alloc (Nat.le_refl _) _⟩
end Go.Proofs.Ytfepefohaadecaa
