/- sum.Join, and the four statements of sum. -/
import Derived.Test.YtohkdoopechghaaSum2
namespace Go.Proofs.Ytohkdoopechghaa
open Go.RowKit
/-- may the parts be joined? -/
def canJoin (a b n : Int) : Prop := 0 ≤ n ∧ n ≤ 2147483648 ∧ a % 65536 < 65521 ∧ a / 65536 < 65521 ∧ b % 65536 < 65521 ∧ b / 65536 < 65521
def joined (a b n : Int) : Int := (a / 65536 + b / 65536 + n % 65521 * (a % 65536 + 65520)) % 65521 * 65536 + (a % 65536 + b % 65536 + 65520) % 65521
theorem bits_low (a : Int) (h : 0 ≤ a ∧ a < 4294967296) : bits .and .u32 a 65535 = a % 65536 := bits_mask .u32 32 (by decide) (fun m a b => by rw [wrap_u32]; omega) 16 (by decide) a h.1 h.2
theorem sum_Join_no (a b n : Int) (ha : 0 ≤ a ∧ a < 4294967296) (hb : 0 ≤ b ∧ b < 4294967296) (w : World) (h : ¬ canJoin a b n) :
    Calls Try.prog 25 #[.int .u32 a, .int .u32 b, .int .i64 n] w fun e w' => e = .returned (.tuple #[.int .u32 0, .int .i64 1]) ∧ w = w' := by
  have ea := bits_low a ha
  have eb := bits_low b hb
  unfold canJoin at h
  by_cases c1 : n < 0
  · have e1 : decide (n < 0) = true := by simpa using c1
    go_enter Try.func25, Try.ntmps25
    go_wp2_with (go_at_call 30; refine (sum_half _ _).mono ?_; rintro e w' ⟨rfl, rfl⟩)
    go_ret2
    exact ⟨rfl, rfl⟩
  have e1 : decide (n < 0) = false := by simpa using c1
  by_cases c2 : 2147483648 < n
  · have e2 : decide (2147483648 < n) = true := by simpa using c2
    go_enter Try.func25, Try.ntmps25
    go_wp2_with (go_at_call 30; refine (sum_half _ _).mono ?_; rintro e w' ⟨rfl, rfl⟩)
    go_ret2
    exact ⟨rfl, rfl⟩
  have e2 : decide (2147483648 < n) = false := by simpa using c2
  by_cases c3 : ¬ a % 65536 < 65521
  · have e3 : decide (a % 65536 < 65521) = false := by simpa using c3
    go_enter Try.func25, Try.ntmps25
    go_wp2_with (go_at_call 30; refine (sum_half _ _).mono ?_; rintro e w' ⟨rfl, rfl⟩)
    go_ret2
    exact ⟨rfl, rfl⟩
  have e3 : decide (a % 65536 < 65521) = true := by simpa using c3
  by_cases c4 : ¬ a / 65536 < 65521
  · have e4 : decide (a / 65536 < 65521) = false := by simpa using c4
    go_enter Try.func25, Try.ntmps25
    go_wp2_with (go_at_call 30; refine (sum_half _ _).mono ?_; rintro e w' ⟨rfl, rfl⟩)
    go_ret2
    exact ⟨rfl, rfl⟩
  have e4 : decide (a / 65536 < 65521) = true := by simpa using c4
  by_cases c5 : ¬ b % 65536 < 65521
  · have e5 : decide (b % 65536 < 65521) = false := by simpa using c5
    go_enter Try.func25, Try.ntmps25
    go_wp2_with (go_at_call 30; refine (sum_half _ _).mono ?_; rintro e w' ⟨rfl, rfl⟩)
    go_ret2
    exact ⟨rfl, rfl⟩
  have e5 : decide (b % 65536 < 65521) = true := by simpa using c5
  by_cases c6 : ¬ b / 65536 < 65521
  · have e6 : decide (b / 65536 < 65521) = false := by simpa using c6
    go_enter Try.func25, Try.ntmps25
    go_wp2_with (go_at_call 30; refine (sum_half _ _).mono ?_; rintro e w' ⟨rfl, rfl⟩)
    go_ret2
    exact ⟨rfl, rfl⟩
  exact absurd ⟨by omega, by omega, by omega, by omega, by omega, by omega⟩ h
theorem sum_Join_yes (a b n : Int) (ha : 0 ≤ a ∧ a < 4294967296) (hb : 0 ≤ b ∧ b < 4294967296) (w : World) (h : canJoin a b n) :
    Calls Try.prog 25 #[.int .u32 a, .int .u32 b, .int .i64 n] w fun e w' => e = .returned (.tuple #[.int .u32 (joined a b n), .int .i64 0]) ∧ w = w' := by
  have ea := bits_low a ha
  have eb := bits_low b hb
  obtain ⟨c1, c2, c3, c4, c5, c6⟩ := h
  have e1 : decide (n < 0) = false := by simpa using c1
  have e2 : decide (2147483648 < n) = false := by simpa using c2
  have e3 : decide (a % 65536 < 65521) = true := by simpa using c3
  have e4 : decide (a / 65536 < 65521) = true := by simpa using c4
  have e5 : decide (b % 65536 < 65521) = true := by simpa using c5
  have e6 : decide (b / 65536 < 65521) = true := by simpa using c6
  have hm : 0 ≤ n % 65521 * (a % 65536 + 65521 - 1) ∧ n % 65521 * (a % 65536 + 65521 - 1) ≤ 65520 * 131040 :=
    ⟨Int.mul_nonneg (by omega) (by omega), Int.mul_le_mul (by omega) (by omega) (by omega) (by omega)⟩
  go_enter Try.func25, Try.ntmps25
  go_wp2_with (go_at_call 30; refine (sum_half _ _).mono ?_; rintro e w' ⟨rfl, rfl⟩)
  go_ret2
  refine ⟨ret_two (val_int ?_) rfl, rfl⟩
  have e7 : bits .or .u32 ((a / 65536 + b / 65536 + n % 65521 * (a % 65536 + 65521 - 1)) % 65521 * 65536) ((a % 65536 + b % 65536 + 65521 - 1) % 65521) = _ :=
    bits_join .u32 32 (by decide) (fun m a b => by rw [wrap_u32]; omega) 16 _ _ (by omega) (by omega) (by omega) (by omega) (by omega) (by omega)
  refine Eq.trans e7 ?_
  unfold joined
  rw [show a % 65536 + 65521 - 1 = a % 65536 + 65520 by omega, show a % 65536 + b % 65536 + 65521 - 1 = a % 65536 + b % 65536 + 65520 by omega]
end Go.Proofs.Ytohkdoopechghaa
