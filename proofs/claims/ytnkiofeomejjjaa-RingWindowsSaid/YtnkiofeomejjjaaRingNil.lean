/- The methods of a ring that is not there. -/
import Derived.Test.YtnkiofeomejjjaaRing2
namespace Go.Proofs.Ytnkiofeomejjjaa
open Go.RowKit
theorem nil_Len (w : World) : Calls Try.prog 15 #[.pointer none] w fun e w' => e = .returned (.int .i64 0) ∧ w = w' := by
  go_enter Try.func15, Try.ntmps15
  go_wp2
  go_ret
  exact ⟨rfl, rfl⟩
theorem nil_At (x : Int) (w : World) : Calls Try.prog 17 #[.pointer none, .int .i64 x] w fun e w' => e = .returned (.tuple #[(Value.int .i64 0), .bool false]) ∧ w = w' := by
  go_enter Try.func17, Try.ntmps17
  go_wp2
  go_ret2
  exact ⟨rfl, rfl⟩
theorem nil_Take (x : Int) (w : World) : Calls Try.prog 29 #[.pointer none, .int .i64 x] w fun e w' => e = .returned (.tuple #[(Value.int .i64 0), .bool false]) ∧ w = w' := by
  go_enter Try.func29, Try.ntmps29
  go_wp2_with fail
  refine (nil_At x w).mono ?_
  rintro e w' ⟨rfl, rfl⟩
  go_wp2
  go_ret2
  exact ⟨rfl, rfl⟩
theorem nil_Push (x : Int) (w : World) : Calls Try.prog 9 #[.pointer none, (Value.int .i64 x)] w fun e w' => e = .returned (.int .i64 2) ∧ w = w' := by
  go_enter Try.func9, Try.ntmps9
  go_wp2
  go_ret
  exact ⟨rfl, rfl⟩
theorem nil_Room (w : World) : Calls Try.prog 16 #[.pointer none] w fun e w' => e = .returned (.int .i64 0) ∧ w = w' := by
  go_enter Try.func16, Try.ntmps16
  go_wp2
  go_ret
  exact ⟨rfl, rfl⟩
theorem nil_Pop (w : World) : Calls Try.prog 10 #[.pointer none] w fun e w' => e = .returned (.tuple #[(Value.int .i64 0), .bool false]) ∧ w = w' := by
  go_enter Try.func10, Try.ntmps10
  go_wp2_with fail
  refine (nil_At 0 w).mono ?_
  rintro e w' ⟨rfl, rfl⟩
  go_wp2
  go_ret2
  exact ⟨rfl, rfl⟩
theorem nil_Last (w : World) : Calls Try.prog 18 #[.pointer none] w fun e w' => e = .returned (.tuple #[(Value.int .i64 0), .bool false]) ∧ w = w' := by
  go_enter Try.func18, Try.ntmps18
  go_wp2_with fail
  refine (nil_Len w).mono ?_
  rintro e w' ⟨rfl, rfl⟩
  go_wp2_with fail
  refine (nil_At _ w).mono ?_
  rintro e w' ⟨rfl, rfl⟩
  go_wp2
  go_ret2
  exact ⟨rfl, rfl⟩
end Go.Proofs.Ytnkiofeomejjjaa
