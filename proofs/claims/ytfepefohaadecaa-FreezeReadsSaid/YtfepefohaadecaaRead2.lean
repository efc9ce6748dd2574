/- What the reference's ReadNumber returns. -/
import Derived.Test.YtfepefohaadecaaRead
namespace Go.Proofs.Ytfepefohaadecaa
open Go.RowKit
theorem scale_ok (k : Nat) (hk : k ≤ 9) : 128 ^ k % two64 = 128 ^ k := by
  unfold two64
  exact Nat.mod_eq_of_lt (Nat.lt_of_le_of_lt (Nat.pow_le_pow_right (by decide) hk) (by decide))
theorem scale_next (k : Nat) : IntKind.u64.wrap (((128 ^ k % two64 : Nat) : Int) * 128) = ((128 ^ (k + 1) % two64 : Nat) : Int) := by
  rw [wrap_u64, Nat.pow_succ]
  unfold two64
  omega
theorem u64_nat (a : Nat) (h : a < two64) : IntKind.u64.wrap (a : Int) = (a : Int) := by unfold two64 at h; exact IntWalk.u64_in _ (by omega)
set_option maxRecDepth 100000 in
set_option maxHeartbeats 1000000 in
theorem ref_ReadNumber (s : ByteArray) (hs : s.size ≤ maxLen) (w : World) :
    Calls Try.prog 60 #[.string s] w fun e w' => e = .returned (.tuple #[.int .u64 ((rdNum s.data.toList).1 : Int), .int .i64 ((rdNum s.data.toList).2.1 : Int), .int .i64 (rdNum s.data.toList).2.2]) ∧ w = w' := by
  unfold maxLen at hs
  go_enter Try.func60, Try.ntmps60
  go_wp2_with fail
  go_loop [5, 6, 7] (fun n sc i => ∃ k a S : Nat, k ≤ s.size ∧ k ≤ 10 ∧ i = .int .i64 k ∧ sc = .int .u64 S ∧ S = 128 ^ k % two64 ∧ n = .int .u64 a ∧ a < 128 ^ k ∧ a < two64 ∧ rdNum s.data.toList = rdF k a (s.data.toList.drop k)) (fun _ _ i => s.size - (intOf i).toNat)
  case atStart => exact ⟨0, 0, 1, by omega, by omega, rfl, rfl, by decide, rfl, by decide, by decide, rfl⟩
  case round =>
    obtain ⟨k, a, S, hk, hk10, rfl, rfl, hS, rfl, ha, ha64, hr⟩ := hrel
    have HS := hid hS
    clear hS
    by_cases hlt : k < s.size
    · have hd : s.data.toList.drop k = s[k] :: s.data.toList.drop (k + 1) := by
        rw [List.drop_eq_getElem_cons (by simpa using hlt)]; rfl
      rw [hd] at hr
      have Ha := hid ha
      have hbyte : (0 : Int) ≤ (s[k].toNat : Int) ∧ (s[k].toNat : Int) ≤ 255 := by have := s[k].toNat_lt; omega
      clear hd ha
      by_cases hw : 9 < k ∨ (k = 9 ∧ 1 < s[k].toNat % 128)
      · rw [rdF_wide _ _ _ _ hw] at hr
        have Hr := hid hr
        clear hr
        by_cases h9 : 9 < k
        · clear hw
          go_wp2_with fail
          go_ret3
          exact ⟨by rw [Hr.out]; rfl, rfl⟩
        · have hl : ((k : Int) == 9) = true := by rw [beq_iff_eq]; omega
          have hl2 : (1 : Int) < (s[k].toNat : Int) % 128 := by omega
          clear hw
          go_wp2_with fail
          go_ret3
          exact ⟨by rw [Hr.out]; rfl, rfl⟩
      · have hk9 : k ≤ 9 := by omega
        by_cases h2 : s[k].toNat = 0 ∧ 0 < k
        · rw [rdF_nought _ _ _ _ hw h2] at hr
          have Hr := hid hr
          have h1 : 0 < k := h2.2
          have h3 : ((s[k].toNat : Int) == 0) = true := by rw [beq_iff_eq]; omega
          have h4 : ¬ (1 : Int) < (s[k].toNat : Int) % 128 := by omega
          clear hr hw h2
          by_cases h9 : k = 9
          · have hl : ((k : Int) == 9) = true := by rw [beq_iff_eq]; omega
            clear h9
            go_wp2_with fail
            go_ret3
            exact ⟨by rw [Hr.out]; rfl, rfl⟩
          · have hl : ((k : Int) == 9) = false := by rw [beq_eq_false_iff_ne]; omega
            clear h9
            go_wp2_with fail
            go_ret3
            exact ⟨by rw [Hr.out]; rfl, rfl⟩
        · have hfit := rd_fits k a (s[k].toNat % 128) hk9 (Nat.mod_lt _ (by decide)) (by omega) Ha.out
          have hSk : S = 128 ^ k := by rw [HS.out, scale_ok k hk9]
          have e1 : IntKind.u64.wrap ((s[k].toNat : Int) % 128 * (S : Int)) = ((s[k].toNat % 128 * 128 ^ k : Nat) : Int) := by
            rw [hSk]
            exact u64_nat _ (Nat.lt_of_le_of_lt (Nat.le_add_left _ _) hfit.1)
          have e2 : IntKind.u64.wrap ((a : Int) + ((s[k].toNat % 128 * 128 ^ k : Nat) : Int)) = ((a + s[k].toNat % 128 * 128 ^ k : Nat) : Int) := u64_nat _ hfit.1
          have e3 : IntKind.u64.wrap ((S : Int) * 128) = ((128 ^ (k + 1) % two64 : Nat) : Int) := by rw [HS.out]; exact scale_next k
          generalize hT : 128 ^ (k + 1) % two64 = T at *
          have HT := hid hT
          generalize hv : a + s[k].toNat % 128 * 128 ^ k = v at *
          generalize hu : s[k].toNat % 128 * 128 ^ k = u at *
          have Hv := hid hv
          have Hu := hid hu
          clear hT hSk hv hu HS
          have g1 : ¬ (k = 9 ∧ (1 : Int) < (s[k].toNat : Int) % 128) := by omega
          by_cases h4 : s[k].toNat < 128
          · rw [rdF_end _ _ _ _ hw h2 h4, Hu.out, Hv.out] at hr
            have Hr := hid hr
            by_cases h5 : s[k].toNat = 0
            · have q1 : ((s[k].toNat : Int) == 0) = true := by rw [beq_iff_eq]; omega
              have q2 : ¬ 0 < k := fun c => h2 ⟨h5, c⟩
              have q3 : ((k : Int) == 9) = false := by rw [beq_eq_false_iff_ne]; omega
              clear hr hw h2 h5 g1
              go_wp2_with fail
              go_ret3
              exact ⟨by rw [Hr.out]; rfl, rfl⟩
            · have q1 : ((s[k].toNat : Int) == 0) = false := by rw [beq_eq_false_iff_ne]; omega
              by_cases h9 : k = 9
              · have q3 : ((k : Int) == 9) = true := by rw [beq_iff_eq]; omega
                have q4 : ¬ (1 : Int) < (s[k].toNat : Int) % 128 := fun c => g1 ⟨h9, c⟩
                clear hr hw h2 h5 g1 h9
                go_wp2_with fail
                go_ret3
                exact ⟨by rw [Hr.out]; rfl, rfl⟩
              · have q3 : ((k : Int) == 9) = false := by rw [beq_eq_false_iff_ne]; omega
                clear hr hw h2 h5 g1 h9
                go_wp2_with fail
                go_ret3
                exact ⟨by rw [Hr.out]; rfl, rfl⟩
          · rw [rdF_on _ _ _ _ hw h2 h4, Hu.out, Hv.out] at hr
            have Hr := hid hr
            have q1 : ((s[k].toNat : Int) == 0) = false := by rw [beq_eq_false_iff_ne]; omega
            by_cases h9 : k = 9
            · have q3 : ((k : Int) == 9) = true := by rw [beq_iff_eq]; omega
              have q4 : ¬ (1 : Int) < (s[k].toNat : Int) % 128 := fun c => g1 ⟨h9, c⟩
              clear hr hw h2 g1 h9
              go_wp2_with fail
              go_round
              case rel => exact ⟨k + 1, _, _, by omega, by omega, by go_num, rfl, HT.out.symm, rfl, hfit.2, hfit.1, Hr.out⟩
              case measure => simp [intOf]; omega
            · have q3 : ((k : Int) == 9) = false := by rw [beq_eq_false_iff_ne]; omega
              clear hr hw h2 g1 h9
              go_wp2_with fail
              go_round
              case rel => exact ⟨k + 1, _, _, by omega, by omega, by go_num, rfl, HT.out.symm, rfl, hfit.2, hfit.1, Hr.out⟩
              case measure => simp [intOf]; omega
    · have h0 : s.data.toList.drop k = [] := List.drop_eq_nil_of_le (by simp; omega)
      rw [h0] at hr
      have Hr := hid hr
      clear hr h0 ha
      go_wp2_with fail
      go_ret3
      exact ⟨by rw [Hr.out]; rfl, rfl⟩
end Go.Proofs.Ytfepefohaadecaa
