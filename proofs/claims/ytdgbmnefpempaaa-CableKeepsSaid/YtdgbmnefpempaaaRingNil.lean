/- The methods of a ring that is not there. -/
import Derived.Test.YtdgbmnefpempaaaRing2
namespace Go.Proofs.Ytdgbmnefpempaaa
open Go.RowKit
theorem nil_Len (w : World) : Calls Try.prog 34 #[.pointer none] w fun e w' => e = .returned (.int .i64 0) ∧ w = w' := by
  go_enter Try.func34, Try.ntmps34
  go_wp2
  go_ret
  exact ⟨rfl, rfl⟩
theorem nil_At (x : Int) (w : World) : Calls Try.prog 33 #[.pointer none, .int .i64 x] w fun e w' => e = .returned (.tuple #[(Value.string ByteArray.empty), .bool false]) ∧ w = w' := by
  go_enter Try.func33, Try.ntmps33
  go_wp2
  go_ret2
  exact ⟨rfl, rfl⟩
theorem nil_Take (x : Int) (w : World) : Calls Try.prog 32 #[.pointer none, .int .i64 x] w fun e w' => e = .returned (.tuple #[(Value.string ByteArray.empty), .bool false]) ∧ w = w' := by
  go_enter Try.func32, Try.ntmps32
  go_wp2_with fail
  refine (nil_At x w).mono ?_
  rintro e w' ⟨rfl, rfl⟩
  go_wp2
  go_ret2
  exact ⟨rfl, rfl⟩
theorem nil_Push (x : ByteArray) (w : World) : Calls Try.prog 31 #[.pointer none, (Value.string x)] w fun e w' => e = .returned (.int .i64 2) ∧ w = w' := by
  go_enter Try.func31, Try.ntmps31
  go_wp2
  go_ret
  exact ⟨rfl, rfl⟩
end Go.Proofs.Ytdgbmnefpempaaa
