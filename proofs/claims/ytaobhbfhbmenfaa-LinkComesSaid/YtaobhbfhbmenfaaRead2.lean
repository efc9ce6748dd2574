/- What the reference's ReadNumber returns. -/
import Derived.Test.YtaobhbfhbmenfaaRead
namespace Go.Proofs.Ytaobhbfhbmenfaa
open Go.RowKit
theorem scale_ok (k : Nat) (hk : k ≤ 9) : 128 ^ k % two64 = 128 ^ k := by
  unfold two64
  exact Nat.mod_eq_of_lt (Nat.lt_of_le_of_lt (Nat.pow_le_pow_right (by decide) hk) (by decide))
theorem scale_next (k : Nat) : IntKind.u64.wrap (((128 ^ k % two64 : Nat) : Int) * 128) = ((128 ^ (k + 1) % two64 : Nat) : Int) := by
  rw [wrap_u64, Nat.pow_succ]
  unfold two64
  omega
theorem u64_nat (a : Nat) (h : a < two64) : IntKind.u64.wrap (a : Int) = (a : Int) := by unfold two64 at h; exact IntWalk.u64_in _ (by omega)
end Go.Proofs.Ytaobhbfhbmenfaa
