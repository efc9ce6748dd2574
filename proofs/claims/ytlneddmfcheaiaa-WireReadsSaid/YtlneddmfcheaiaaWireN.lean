/- What the reference's number of a text returns. -/
import Derived.Test.YtlneddmfcheaiaaWirePk
namespace Go.Proofs.Ytlneddmfcheaiaa
open Go.RowKit
set_option maxRecDepth 10000
theorem ref_Num7 (s : ByteArray) (hs : s.size ≤ 4) (w : World) :
    Calls Try.prog 79 #[.string s] w fun e w' => e = .returned (.int .u64 (bN s)) ∧ w = w' := by
  go_enter Try.func79, Try.ntmps79
  go_wp2_with fail
  go_loop [3, 4] (fun xv iv => ∃ k : Nat, k ≤ s.size ∧ iv = .int .i64 k ∧ xv = .int .u64 ((beN (s.data.toList.take k) : Nat) : Int)) (fun _ i => s.size - (intOf i).toNat)
  case atStart => exact ⟨0, Nat.zero_le _, rfl, rfl⟩
  case round =>
    obtain ⟨k, hk, rfl, rfl⟩ := hrel
    by_cases hlt : k < s.size
    · have hsn : beN (s.data.toList.take (k + 1)) = beN (s.data.toList.take k) * 256 + (s[k]).toNat := by rw [take_snoc s k hlt, beN_snoc]
      have hlt2 := beN_lt k (s.data.toList.take k) (by simp; omega)
      have hbd : beN (s.data.toList.take k) < 4294967296 := Nat.lt_of_lt_of_le hlt2 (Nat.le_trans (Nat.pow_le_pow_right (by omega) (show k ≤ 4 by omega)) (by decide))
      have hc := (s[k]).toNat_lt
      generalize beN (s.data.toList.take k) = av at *
      have Hsn := hid hsn
      clear hsn hlt2
      go_wp2
      go_round
      case rel => exact ⟨k + 1, by omega, by go_num, by rw [Hsn.out]; exact val_int (by omega)⟩
      case measure => simp [intOf]; omega
    · obtain rfl : k = s.size := by omega
      go_wp2
      go_ret
      exact ⟨ret_int (by unfold bN; rw [List.take_of_length_le (by simp)]), rfl⟩
end Go.Proofs.Ytlneddmfcheaiaa
