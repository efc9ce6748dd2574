/- game: the box in which players are. -/
import Derived.Test.YtfepefohaadecaaGame
import Derived.Test.YtfepefohaadecaaTail
import Derived.Test.YtfepefohaadecaaRelAt
namespace Go.Proofs.Ytfepefohaadecaa
open Go.RowKit
set_option maxRecDepth 10000
variable {w : World}
theorem fx_within (n : Int) (h : -2147483648 ≤ n ∧ n ≤ 2147483647) (w : World) : Calls Try.prog 146 #[.int .i64 n, .int .i64 (-2147483648), .int .i64 2147483647] w fun e w' => e = .returned (.int .i64 n) ∧ w = w' := by
  have e1 : min n 2147483647 = n := by omega
  go_enter Try.func146, Try.ntmps146
  go_wp2
  all_goals go_ret
  all_goals exact ⟨by first | rfl | (rw [show n = -2147483648 by omega]; rfl), rfl⟩
theorem fx_Sat (n : Int) (h : -2147483648 ≤ n ∧ n ≤ 2147483647) (w : World) : Calls Try.prog 144 #[.int .i64 n] w fun e w' => e = .returned (.int .i32 n) ∧ w = w' := by
  have e1 : IntKind.i32.wrap n = n := by rw [IntKind.wrap_i32]; omega
  go_enter Try.func144, Try.ntmps144
  go_wp2_with fail
  refine (fx_within n h w).mono ?_
  rintro e w' ⟨rfl, rfl⟩
  go_wp2
  go_ret
  exact ⟨rfl, rfl⟩
theorem fx_Add (a b n : Int) (ha : -2147483648 ≤ a ∧ a ≤ 2147483647) (hb : -2147483648 ≤ b ∧ b ≤ 2147483647) (h : -2147483648 ≤ n ∧ n ≤ 2147483647) (hn : a + b = n) (w : World) : Calls Try.prog 136 #[.int .i32 a, .int .i32 b] w fun e w' => e = .returned (.int .i32 n) ∧ w = w' := by
  have e1 : IntKind.i64.wrap a = a := IntWalk.i64_in _ (by omega)
  have e2 : IntKind.i64.wrap b = b := IntWalk.i64_in _ (by omega)
  have e3 : IntKind.i64.wrap (a + b) = n := by rw [IntWalk.i64_in _ (by omega), hn]
  go_enter Try.func136, Try.ntmps136
  go_wp2_with fail
  refine (fx_Sat n h w).mono ?_
  rintro e w' ⟨rfl, rfl⟩
  go_wp2
  go_ret
  exact ⟨rfl, rfl⟩
theorem fx_Sub (a b n : Int) (ha : -2147483648 ≤ a ∧ a ≤ 2147483647) (hb : -2147483648 ≤ b ∧ b ≤ 2147483647) (h : -2147483648 ≤ n ∧ n ≤ 2147483647) (hn : a - b = n) (w : World) : Calls Try.prog 137 #[.int .i32 a, .int .i32 b] w fun e w' => e = .returned (.int .i32 n) ∧ w = w' := by
  have e1 : IntKind.i64.wrap a = a := IntWalk.i64_in _ (by omega)
  have e2 : IntKind.i64.wrap b = b := IntWalk.i64_in _ (by omega)
  have e3 : IntKind.i64.wrap (a - b) = n := by rw [IntWalk.i64_in _ (by omega), hn]
  go_enter Try.func137, Try.ntmps137
  go_wp2_with fail
  refine (fx_Sat n h w).mono ?_
  rintro e w' ⟨rfl, rfl⟩
  go_wp2
  go_ret
  exact ⟨rfl, rfl⟩
theorem sh_each1 (a d x : Int) (hf : ∀ w, Calls Try.prog 136 #[.int .i32 a, .int .i32 d] w fun e w' => e = .returned (.int .i32 x) ∧ w = w') (w : World) :
    Calls Try.prog 135 #[.agg #[.int .i32 a, .int .i32 a], .agg #[.int .i32 d, .int .i32 d], .func (.func 136) #[] #[]] w fun e w' => e = .returned (.agg #[.int .i32 x, .int .i32 x]) ∧ Below w.heap.size w w' := by
  go_enter Try.func135, Try.ntmps135
  go_wp2_with fail
  refine wp_region_taild 13 (by kernel_rfl) (by kernel_rfl) ?_
  simp only [List.take_succ_cons, List.take_zero, List.drop_succ_cons, List.drop_zero]
  repeat (go_big_quiet_step ((exact (hf _).mono fun _ _ h => ⟨h.1, _, h.2.symm⟩)))
  refine wpQuiet_nil ?_
  intro _ hw'
  obtain ⟨nq, hw''⟩ := hw'
  subst hw''
  go_wp2_with fail
  refine bodyPost_ret (v := .agg #[.int .i32 x, .int .i32 x]) (by simp [results, Try.results135, go_sem]) rfl ?_
  have b3 := (((Below.refl w.heap.size w).alloc (Nat.le_refl _) (.cells #[.int .i32 a, .int .i32 a] 25)).alloc (by simp) (.cells #[.int .i32 d, .int .i32 d] 25)).alloc (by simp; omega) (.cells #[.int .i32 0, .int .i32 0] 25)
  refine ⟨rfl, Below.setCell (Below.setCell ?_ ?_ _) ?_ _⟩
  · exact ⟨b3.os, b3.tape, b3.output, b3.size, b3.block⟩
  all_goals show w.heap.size ≤ w.heap.size + 1 + 1
  all_goals omega
theorem sh_each2 (a d x : Int) (hf : ∀ w, Calls Try.prog 137 #[.int .i32 a, .int .i32 d] w fun e w' => e = .returned (.int .i32 x) ∧ w = w') (w : World) :
    Calls Try.prog 135 #[.agg #[.int .i32 a, .int .i32 a], .agg #[.int .i32 d, .int .i32 d], .func (.func 137) #[] #[]] w fun e w' => e = .returned (.agg #[.int .i32 x, .int .i32 x]) ∧ Below w.heap.size w w' := by
  go_enter Try.func135, Try.ntmps135
  go_wp2_with fail
  refine wp_region_taild 13 (by kernel_rfl) (by kernel_rfl) ?_
  simp only [List.take_succ_cons, List.take_zero, List.drop_succ_cons, List.drop_zero]
  repeat (go_big_quiet_step ((exact (hf _).mono fun _ _ h => ⟨h.1, _, h.2.symm⟩)))
  refine wpQuiet_nil ?_
  intro _ hw'
  obtain ⟨nq, hw''⟩ := hw'
  subst hw''
  go_wp2_with fail
  refine bodyPost_ret (v := .agg #[.int .i32 x, .int .i32 x]) (by simp [results, Try.results135, go_sem]) rfl ?_
  have b3 := (((Below.refl w.heap.size w).alloc (Nat.le_refl _) (.cells #[.int .i32 a, .int .i32 a] 25)).alloc (by simp) (.cells #[.int .i32 d, .int .i32 d] 25)).alloc (by simp; omega) (.cells #[.int .i32 0, .int .i32 0] 25)
  refine ⟨rfl, Below.setCell (Below.setCell ?_ ?_ _) ?_ _⟩
  · exact ⟨b3.os, b3.tape, b3.output, b3.size, b3.block⟩
  all_goals show w.heap.size ≤ w.heap.size + 1 + 1
  all_goals omega
end Go.Proofs.Ytfepefohaadecaa
