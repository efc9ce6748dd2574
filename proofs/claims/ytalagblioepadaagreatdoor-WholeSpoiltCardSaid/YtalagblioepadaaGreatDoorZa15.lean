/- The proof, part 15. -/
import Derived.Test.YtalagblioepadaaGreatDoorRows
import Derived.Test.YtalagblioepadaaGreatDoorZa10
import Derived.DeepKeys5
namespace Go.Proofs.YtalagblioepadaaGreatDoor
section
open Go.RowKit
open Go.Maps
theorem key_law:Keyed Tryz.prog 43:=Keyed.of_law (deep_law_gate (by kernel_rfl) (of_decide_eq_true (by kernel_rfl)) (of_decide_eq_true (by kernel_rfl)) (by kernel_rfl) (by kernel_rfl))
theorem int_law:Keyed Tryz.prog 3:=int_keyed Tryz.underlying3
end
end Go.Proofs.YtalagblioepadaaGreatDoor
