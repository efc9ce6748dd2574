/- game: numbers and places within bounds. -/
import Derived.Test.YtfepefohaadecaaShoEq
namespace Go.Proofs.Ytfepefohaadecaa
open Go.RowKit
set_option maxRecDepth 10000
variable {w : World}
theorem gm_within (n a b : Int) (w : World) : Calls Try.prog 69 #[.int .i64 n, .int .i64 a, .int .i64 b] w fun e w' => e = .returned (.bool (decide (a ≤ n) && decide (n ≤ b))) ∧ w = w' := by
  by_cases h1 : a ≤ n
  · by_cases h2 : n ≤ b
    · go_enter Try.func69, Try.ntmps69
      go_wp2
      go_ret
      exact ⟨by simp [h1, h2], rfl⟩
    · go_enter Try.func69, Try.ntmps69
      go_wp2
      go_ret
      exact ⟨by simp [h2], rfl⟩
  · go_enter Try.func69, Try.ntmps69
    go_wp2
    go_ret
    exact ⟨by rw [show decide (a ≤ n) = false by simpa using h1]; simp, rfl⟩
def inB (a b c d x y : Int) : Bool := decide (a ≤ x) && decide (x ≤ c) && decide (b ≤ y) && decide (y ≤ d)
theorem sh_Inside (a b c d x y : Int) (w : World) : Calls Try.prog 93 #[.agg #[.int .i32 a, .int .i32 b, .int .i32 c, .int .i32 d], .agg #[.int .i32 x, .int .i32 y]] w fun e w' => e = .returned (.bool (inB a b c d x y)) ∧ Below w.heap.size w w' := by
  by_cases h1 : a ≤ x
  · by_cases h2 : x ≤ c
    · by_cases h3 : b ≤ y
      · by_cases h4 : y ≤ d
        · rw [show inB a b c d x y = true by simp [inB, h1, h2, h3, h4]]
          go_enter Try.func93, Try.ntmps93
          go_wp2
          go_ret
          exact ⟨rfl, ((Below.refl _ w).alloc (Nat.le_refl _) _).alloc (by simp) _⟩
        · rw [show inB a b c d x y = false by simp [inB, h4]]
          go_enter Try.func93, Try.ntmps93
          go_wp2
          go_ret
          exact ⟨rfl, ((Below.refl _ w).alloc (Nat.le_refl _) _).alloc (by simp) _⟩
      · rw [show inB a b c d x y = false by simp [inB, h3]]
        go_enter Try.func93, Try.ntmps93
        go_wp2
        go_ret
        exact ⟨rfl, ((Below.refl _ w).alloc (Nat.le_refl _) _).alloc (by simp) _⟩
    · rw [show inB a b c d x y = false by simp [inB, h2]]
      go_enter Try.func93, Try.ntmps93
      go_wp2
      go_ret
      exact ⟨rfl, ((Below.refl _ w).alloc (Nat.le_refl _) _).alloc (by simp) _⟩
  · rw [show inB a b c d x y = false by simp [inB, h1]]
    go_enter Try.func93, Try.ntmps93
    go_wp2
    go_ret
    exact ⟨rfl, ((Below.refl _ w).alloc (Nat.le_refl _) _).alloc (by simp) _⟩
theorem box_load (w : World) (b : Nat) (c : Array Value) (t : TypeId) (hB : w.heap[b]? = some (.cells c t (0, 0))) (k : Nat) (hk : c.size = k) : (loadCellsFrom ⟨b, 0, none⟩ 0 k #[]).run Try.prog w = .ok c w := by
  have h := run_loadCells_list (P := Try.prog) w ⟨b, 0, none⟩ c.toList (fun j v hj => by
    rw [addr_add, Nat.zero_add]
    exact blk_cell hB (by simpa using hj))
  simp only [Array.length_toList, Array.toArray_toList, hk, loadCells] at h
  exact h
theorem gm_arena (w : World) : Calls Try.prog 94 #[] w fun e w' => e = .returned (.agg #[.int .i32 (-4194304), .int .i32 (-4194304), .int .i32 4194304, .int .i32 4194304]) ∧ Below w.heap.size w w' := by
  have hload := box_load _ _ _ _ (blk_new w (.cells #[.int .i32 (-4194304), .int .i32 (-4194304), .int .i32 4194304, .int .i32 4194304] 98)) 4 rfl
  go_enter Try.func94, Try.ntmps94
  go_wp2
  refine bodyPost_ret (v := .agg #[.int .i32 (-4194304), .int .i32 (-4194304), .int .i32 4194304, .int .i32 4194304]) (by simp [results, Try.results94, asAddr, loadVar, loadCells, Try.isAgg98, Try.sizeOf98, hload]) rfl ?_
  exact ⟨rfl, (Below.refl _ w).alloc (Nat.le_refl _) _⟩
end Go.Proofs.Ytfepefohaadecaa
