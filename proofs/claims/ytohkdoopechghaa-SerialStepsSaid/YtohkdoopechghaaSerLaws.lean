/- The four statements of serial return true, for whatever arguments that fit their kinds. -/
import Derived.Test.YtohkdoopechghaaSer
namespace Go.Proofs.Ytohkdoopechghaa
open Go.RowKit
theorem awake03 (w : World) :
    Calls Try.prog 11 #[] w fun e w' => e = .returned (.bool true) ∧ w = w' := by
  have h1 : frm 70000 5 = (65541, 0) := by decide
  have h2 : stp 65535 2 = 3 := by decide
  go_enter Try.func11, Try.ntmps11
  go_wp2_with (first | (go_at_call 12; refine (serial_Frame _ _ _).mono ?_; rintro e w' ⟨rfl, rfl⟩) | (go_at_call 16; refine (serial_Steps _ _ _).mono ?_; rintro e w' ⟨rfl, rfl⟩))
  go_ret
  exact ⟨rfl, rfl⟩
theorem law_SerialNear (a b : Int) (hb : 0 ≤ b ∧ b ≤ 65535) (w : World) :
    Calls Try.prog 3 #[.int .i64 a, .int .u16 b] w fun e w' => e = .returned (.bool true) ∧ w = w' := by
  go_enter Try.func3, Try.ntmps3
  go_wp2_with (first | (go_at_call 11; refine (awake03 _).mono ?_; rintro e w' ⟨rfl, rfl⟩) | (go_at_call 12; refine (serial_Frame _ _ _).mono ?_; rintro e w' ⟨rfl, rfl⟩) | (go_at_call 13; refine (ref_Frame _ _ hb _).mono ?_; rintro e w' ⟨rfl, rfl⟩))
  go_ret
  exact ⟨ret_bool (by simp), rfl⟩
theorem law_SerialSteps (a b c : Int) (ha : 0 ≤ a ∧ a ≤ 65535) (hb : 0 ≤ b ∧ b ≤ 65535) (hc : -9223372036854775808 ≤ c ∧ c ≤ 9223372036854775807) (w : World) :
    Calls Try.prog 5 #[.int .u16 a, .int .u16 b, .int .i64 c] w fun e w' => e = .returned (.bool true) ∧ w = w' := by
  go_enter Try.func5, Try.ntmps5
  go_wp2_with (first | (go_at_call 11; refine (awake03 _).mono ?_; rintro e w' ⟨rfl, rfl⟩) | (go_at_call 16; refine (serial_Steps _ _ _).mono ?_; rintro e w' ⟨rfl, rfl⟩) | (go_at_call 17; refine (serial_Newer _ _ _).mono ?_; rintro e w' ⟨rfl, rfl⟩) | (go_at_call 18; refine (serial_Next _ _).mono ?_; rintro e w' ⟨rfl, rfl⟩) | (go_at_call 14; refine (serial_Of _ _).mono ?_; rintro e w' ⟨rfl, rfl⟩) | (go_at_call 15; refine (ref_Steps _ _ ha hb _).mono ?_; rintro e w' ⟨rfl, rfl⟩) | (go_at_call 19; refine (ref_Of _ (by omega) _).mono ?_; rintro e w' ⟨rfl, rfl⟩))
  all_goals
    go_ret
    exact ⟨ret_bool (by simp_all), rfl⟩
theorem law_SerialBack (a b : Int) (hb : -9223372036854775808 ≤ b ∧ b ≤ 9223372036854775807) (w : World) :
    Calls Try.prog 4 #[.int .i64 a, .int .i64 b] w fun e w' => e = .returned (.bool true) ∧ w = w' := by
  by_cases h : a < 0 ∨ 1073741824 < a ∨ b < -32767 ∨ 32767 < b ∨ a + b < 0 ∨ 1073741824 < a + b
  · go_enter Try.func4, Try.ntmps4
    go_wp2_with (go_at_call 11; refine (awake03 _).mono ?_; rintro e w' ⟨rfl, rfl⟩)
    all_goals
      go_ret
      exact ⟨rfl, rfl⟩
  · obtain ⟨h1, h2, h3⟩ : (0 ≤ a ∧ a ≤ 1073741824) ∧ (-32767 ≤ b ∧ b ≤ 32767) ∧ (0 ≤ a + b ∧ a + b ≤ 1073741824) := by omega
    clear h
    have hf : frm a ((a + b) % 65536) = (a + b, 0) := by
      have e : a + stp (a % 65536) ((a + b) % 65536) = a + b := by unfold stp; omega
      unfold frm
      rw [if_neg (by omega)]
      simp only [e]
      rw [if_neg (by omega)]
    go_enter Try.func4, Try.ntmps4
    go_wp2_with (first | (go_at_call 11; refine (awake03 _).mono ?_; rintro e w' ⟨rfl, rfl⟩) | (go_at_call 12; refine (serial_Frame _ _ _).mono ?_; rintro e w' ⟨rfl, rfl⟩) | (go_at_call 14; refine (serial_Of _ _).mono ?_; rintro e w' ⟨rfl, rfl⟩))
    go_ret
    exact ⟨rfl, rfl⟩
theorem law_SerialOne (a b : Int) (ha : 0 ≤ a ∧ a ≤ 65535) (hb : 0 ≤ b ∧ b ≤ 65535) (w : World) :
    Calls Try.prog 6 #[.int .u16 a, .int .u16 b] w fun e w' => e = .returned (.bool true) ∧ w = w' := by
  by_cases c1 : a = b
  · subst c1
    have e1 : decide (0 < stp a a) = false := by simp [stp]
    go_enter Try.func6, Try.ntmps6
    go_wp2_with (first | (go_at_call 11; refine (awake03 _).mono ?_; rintro e w' ⟨rfl, rfl⟩) | (go_at_call 17; refine (serial_Newer _ _ _).mono ?_; rintro e w' ⟨rfl, rfl⟩) | (go_at_call 18; refine (serial_Next _ _).mono ?_; rintro e w' ⟨rfl, rfl⟩))
    go_ret
    exact ⟨rfl, rfl⟩
  have e0 : (a == b) = false := by simp [c1]
  by_cases c2 : (a - b) % 65536 = 32768
  · have e1 : decide (0 < stp a b) = false := by simp [stp]; omega
    have e2 : decide (0 < stp b a) = false := by simp [stp]; omega
    have e3 : (IntKind.u16.wrap (a - b) == 32768) = true := by rw [wrap_u16]; simpa using c2
    go_enter Try.func6, Try.ntmps6
    go_wp2_with (first | (go_at_call 11; refine (awake03 _).mono ?_; rintro e w' ⟨rfl, rfl⟩) | (go_at_call 17; refine (serial_Newer _ _ _).mono ?_; rintro e w' ⟨rfl, rfl⟩) | (go_at_call 18; refine (serial_Next _ _).mono ?_; rintro e w' ⟨rfl, rfl⟩))
    go_ret
    exact ⟨rfl, rfl⟩
  have e3 : (IntKind.u16.wrap (a - b) == 32768) = false := by rw [wrap_u16]; simpa using c2
  have e4 : decide (0 < stp a ((a + 1) % 65536)) = true := by simp [stp]; omega
  by_cases c3 : 0 < stp b a
  · have e1 : decide (0 < stp b a) = true := by simpa using c3
    have e2 : decide (0 < stp a b) = false := by simp [stp] at c3 ⊢; omega
    by_cases c4 : (a - b) % 65536 = 1
    · have e5 : (IntKind.u16.wrap (a - b) == 1) = true := by rw [wrap_u16]; simpa using c4
      clear c1 c2 c3 c4
      go_enter Try.func6, Try.ntmps6
      go_wp2_with (first | (go_at_call 11; refine (awake03 _).mono ?_; rintro e w' ⟨rfl, rfl⟩) | (go_at_call 17; refine (serial_Newer _ _ _).mono ?_; rintro e w' ⟨rfl, rfl⟩) | (go_at_call 18; refine (serial_Next _ _).mono ?_; rintro e w' ⟨rfl, rfl⟩))
      go_ret
      exact ⟨rfl, rfl⟩
    · have e5 : (IntKind.u16.wrap (a - b) == 1) = false := by rw [wrap_u16]; simpa using c4
      have e6 : decide (0 < stp ((b + 1) % 65536) a) = true := by simp [stp] at c3 ⊢; omega
      clear c1 c2 c3 c4
      go_enter Try.func6, Try.ntmps6
      go_wp2_with (first | (go_at_call 11; refine (awake03 _).mono ?_; rintro e w' ⟨rfl, rfl⟩) | (go_at_call 17; refine (serial_Newer _ _ _).mono ?_; rintro e w' ⟨rfl, rfl⟩) | (go_at_call 18; refine (serial_Next _ _).mono ?_; rintro e w' ⟨rfl, rfl⟩))
      go_ret
      exact ⟨rfl, rfl⟩
  · have e1 : decide (0 < stp b a) = false := by simpa using c3
    have e2 : decide (0 < stp a b) = true := by simp [stp] at c3 ⊢; omega
    clear c1 c2 c3
    go_enter Try.func6, Try.ntmps6
    go_wp2_with (first | (go_at_call 11; refine (awake03 _).mono ?_; rintro e w' ⟨rfl, rfl⟩) | (go_at_call 17; refine (serial_Newer _ _ _).mono ?_; rintro e w' ⟨rfl, rfl⟩) | (go_at_call 18; refine (serial_Next _ _).mono ?_; rintro e w' ⟨rfl, rfl⟩))
    go_ret
    exact ⟨rfl, rfl⟩
end Go.Proofs.Ytohkdoopechghaa
