/- freeze: whether a shot is none. -/
import Derived.Test.YtfepefohaadecaaFrz3
import Derived.Test.YtfepefohaadecaaAgg
import Derived.Laws.StructEq
namespace Go.Proofs.Ytfepefohaadecaa
open Go.RowKit
set_option maxRecDepth 10000
/-- a shot's cells in a state -/
def shoC (v : Nat → Int) (j : Nat) : Array Value := #[.int .i32 (v (24 + 6 * j)), .int .i32 (v (25 + 6 * j)), .int .i32 (v (26 + 6 * j)), .int .i32 (v (27 + 6 * j)), .int .i64 (v (28 + 6 * j)), .int .i64 (v (29 + 6 * j))]
def noSho (v : Nat → Int) (j : Nat) : Prop := v (24 + 6 * j) = 0 ∧ v (25 + 6 * j) = 0 ∧ v (26 + 6 * j) = 0 ∧ v (27 + 6 * j) = 0 ∧ v (28 + 6 * j) = 0 ∧ v (29 + 6 * j) = 0
instance (v : Nat → Int) (j : Nat) : Decidable (noSho v j) := by unfold noSho; infer_instance
def shosC (v : Nat → Int) : Array Value := ((List.range 36).map fun j => Value.int (kindAt (24 + j)) (v (24 + j))).toArray
theorem run_index_sho0 (v : Nat → Int) (w : World) : (Instr.index 31 (.agg (shosC v)) (.int .i64 0)).run Try.prog w = .ok (.agg (shoC v 0)) w := by kernel_rfl
theorem run_index_sho1 (v : Nat → Int) (w : World) : (Instr.index 31 (.agg (shosC v)) (.int .i64 1)).run Try.prog w = .ok (.agg (shoC v 1)) w := by kernel_rfl
theorem run_index_sho2 (v : Nat → Int) (w : World) : (Instr.index 31 (.agg (shosC v)) (.int .i64 2)).run Try.prog w = .ok (.agg (shoC v 2)) w := by kernel_rfl
theorem run_index_sho3 (v : Nat → Int) (w : World) : (Instr.index 31 (.agg (shosC v)) (.int .i64 3)).run Try.prog w = .ok (.agg (shoC v 3)) w := by kernel_rfl
theorem run_index_sho4 (v : Nat → Int) (w : World) : (Instr.index 31 (.agg (shosC v)) (.int .i64 4)).run Try.prog w = .ok (.agg (shoC v 4)) w := by kernel_rfl
theorem run_index_sho5 (v : Nat → Int) (w : World) : (Instr.index 31 (.agg (shosC v)) (.int .i64 5)).run Try.prog w = .ok (.agg (shoC v 5)) w := by kernel_rfl
theorem run_index_sho (v : Nat → Int) (j : Nat) (h : j < 6) (w : World) : (Instr.index 31 (.agg (shosC v)) (.int .i64 (j : Nat))).run Try.prog w = .ok (.agg (shoC v j)) w := by
  match j, h with
  | 0, _ => exact run_index_sho0 v w
  | 1, _ => exact run_index_sho1 v w
  | 2, _ => exact run_index_sho2 v w
  | 3, _ => exact run_index_sho3 v w
  | 4, _ => exact run_index_sho4 v w
  | 5, _ => exact run_index_sho5 v w
theorem run_load_shos (v : Nat → Int) (B : Nat) (w : World) (t : TypeId) (hB : w.heap[B]? = some (.cells (mkC v) t (0, 0))) : (Instr.loadAt 31 (.pointer (some ⟨B, 24, none⟩))).run Try.prog w = .ok (.agg (shosC v)) w := by
  refine run_load_agg 31 36 B 24 (shosC v) (mkC v) t Try.isAgg31 Try.sizeOf31 (by simp [shosC]) hB ?_
  intro j x hj
  have h : j < 36 := by
    have := (Array.getElem?_eq_some_iff.1 hj).1
    simpa [shosC] using this
  rw [mkC_get _ (by omega)]
  simpa [shosC, h] using hj
theorem vec_eq0 (a b : Int) (w : World) : (Op.equalIn 9999 25 (.agg #[.int .i32 a, .int .i32 b]) (.agg #[.int .i32 0, .int .i32 0])).run Try.prog w = .ok (decide (a = 0) && decide (b = 0)) w := by
  have u4 := Try.underlying23
  have a4 := Try.isAgg23
  have z4 := Try.sizeOf23
  have hS2 : Try.prog.underlying 25 = some (.struct (Try.prog.fieldsOf 25)) := by kernel_rfl
  have hp2 : Try.prog.stoodInHeld 25 = false := by kernel_rfl
  rw [show (9999 : Nat) = 9998 + 1 from rfl, run_equalIn_agg w 9998 25 _ _ hS2 hp2]
  simp only [Program.fieldsOf, Try.underlying25]
  clear hS2 hp2
  go_simp
  by_cases h1 : a = 0 <;> by_cases h2 : b = 0 <;> simp [h1, h2]
theorem sho_neq (a b c d e f : Int) (w : World) : (binOp .neq 30 (.agg #[.int .i32 a, .int .i32 b, .int .i32 c, .int .i32 d, .int .i64 e, .int .i64 f]) (.agg #[.int .i32 0, .int .i32 0, .int .i32 0, .int .i32 0, .int .i64 0, .int .i64 0])).run Try.prog w = .ok (.bool (decide ¬ (a = 0 ∧ b = 0 ∧ c = 0 ∧ d = 0 ∧ e = 0 ∧ f = 0))) w := by
  have u3 := Try.underlying3
  have a3 := Try.isAgg3
  have z3 := Try.sizeOf3
  have u4 := Try.underlying23
  have a4 := Try.isAgg23
  have z4 := Try.sizeOf23
  have a5 := Try.isAgg25
  have z5 := Try.sizeOf25
  have hS : Try.prog.underlying 30 = some (.struct (Try.prog.fieldsOf 30)) := by kernel_rfl
  have hp : Try.prog.stoodInHeld 30 = false := by kernel_rfl
  have hv := vec_eq0
  rw [run_neq_struct, show (10000 : Nat) = 9999 + 1 from rfl, run_equalIn_agg w 9999 30 _ _ hS hp]
  simp only [Program.fieldsOf, Try.underlying30]
  clear hS hp
  go_simp
  by_cases h1 : a = 0 <;> by_cases h2 : b = 0 <;> by_cases h3 : c = 0 <;> by_cases h4 : d = 0 <;> by_cases h5 : e = 0 <;> by_cases h6 : f = 0 <;> simp [h1, h2, h3, h4, h5, h6]
theorem sho_none (v : Nat → Int) (j : Nat) (h : noSho v j) (w : World) : (binOp .neq 30 (.agg #[.int .i32 (v (24 + 6 * j)), .int .i32 (v (25 + 6 * j)), .int .i32 (v (26 + 6 * j)), .int .i32 (v (27 + 6 * j)), .int .i64 (v (28 + 6 * j)), .int .i64 (v (29 + 6 * j))]) (.agg #[.int .i32 0, .int .i32 0, .int .i32 0, .int .i32 0, .int .i64 0, .int .i64 0])).run Try.prog w = .ok (.bool false) w := by
  rw [sho_neq]
  congr 2
  exact decide_eq_false (not_not_intro h)
theorem sho_some (v : Nat → Int) (j : Nat) (h : ¬ noSho v j) (w : World) : (binOp .neq 30 (.agg #[.int .i32 (v (24 + 6 * j)), .int .i32 (v (25 + 6 * j)), .int .i32 (v (26 + 6 * j)), .int .i32 (v (27 + 6 * j)), .int .i64 (v (28 + 6 * j)), .int .i64 (v (29 + 6 * j))]) (.agg #[.int .i32 0, .int .i32 0, .int .i32 0, .int .i32 0, .int .i64 0, .int .i64 0])).run Try.prog w = .ok (.bool true) w := by
  rw [sho_neq]
  congr 2
  exact decide_eq_true h
end Go.Proofs.Ytfepefohaadecaa
