/- ring.may. -/
import Derived.Test.YtfepefohaadecaaRows
import Derived.Test.YtfepefohaadecaaAgg
import Derived.Test.YtfepefohaadecaaTail
import Derived.Laws.MakeOwn
import Derived.IntWalk
import Derived.Deep.QuietTactic
import Derived.BigQuiet
namespace Go.Proofs.Ytfepefohaadecaa
open Go.RowKit
theorem ring_may (x : Int) (w : World) : Calls Try.prog 115 #[.int .i64 x] w fun e w' => e = .returned (.bool (decide (1 ≤ x ∧ x ≤ 4096))) ∧ w = w' := by
  by_cases h1 : 1 ≤ x
  · by_cases h2 : x ≤ 4096
    · go_enter Try.func115, Try.ntmps115
      go_wp2
      go_ret
      exact ⟨ret_bool (by simp; omega), rfl⟩
    · go_enter Try.func115, Try.ntmps115
      go_wp2
      go_ret
      exact ⟨ret_bool (by simp; omega), rfl⟩
  · go_enter Try.func115, Try.ntmps115
    go_wp2
    go_ret
    exact ⟨ret_bool (by simp; omega), rfl⟩
end Go.Proofs.Ytfepefohaadecaa
