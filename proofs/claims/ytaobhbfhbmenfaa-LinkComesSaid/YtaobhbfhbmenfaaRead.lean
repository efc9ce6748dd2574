/- What pack.ReadNumber, and its reference, return. -/
import Derived.Test.YtaobhbfhbmenfaaPack
namespace Go.Proofs.Ytaobhbfhbmenfaa
open Go.RowKit
theorem shl_same (k : Nat) (x : Int) (hk : k ≤ 9) (hx : 0 ≤ x ∧ x < 128) (h : ¬ (k = 9 ∧ 1 < x)) : (x * 2 ^ (7 * k) / 2 ^ (7 * k) != x) = false ∧ IntKind.u64.wrap (x * 2 ^ (7 * k)) = x * 2 ^ (7 * k) := by
  rw [wrap_u64]
  rcases (show k = 0 ∨ k = 1 ∨ k = 2 ∨ k = 3 ∨ k = 4 ∨ k = 5 ∨ k = 6 ∨ k = 7 ∨ k = 8 ∨ k = 9 by omega) with rfl | rfl | rfl | rfl | rfl | rfl | rfl | rfl | rfl | rfl <;> (simp only [Nat.reduceMul, Int.reducePow, bne_eq_false_iff_eq]; omega)
theorem shl_lost (k : Nat) (hk : k = 9) (x : Int) (hx : 1 < x ∧ x < 128) : (IntKind.u64.wrap (x * 2 ^ (7 * k)) / 2 ^ (7 * k) != x) = true := by
  subst hk
  rw [wrap_u64]
  simp only [Nat.reduceMul, Int.reducePow, bne_iff_ne, ne_eq]
  omega
theorem or_fits (k a x : Nat) (hk : k ≤ 9) (hx : x < 128) (h : ¬ (k = 9 ∧ 1 < x)) (ha : a < 128 ^ k) : bits .or .u64 (a : Int) ((x : Int) * 2 ^ (7 * k)) = ((a + x * 128 ^ k : Nat) : Int) := by
  have hf := (rd_fits k a x hk hx h ha).1
  have e : ((x : Int) * 2 ^ (7 * k)) = ((x * 128 ^ k : Nat) : Int) := by
    rw [Nat.pow_mul 2 7 k |> fun (h : 2 ^ (7 * k) = (2 ^ 7) ^ k) => show (128 : Nat) ^ k = 2 ^ (7 * k) from h.symm]
    simp
  have e2 : 128 ^ k = 2 ^ (7 * k) := (Nat.pow_mul 2 7 k).symm
  unfold two64 at hf
  rw [e, u64_or_nat _ _ (by omega) (by omega), Nat.or_comm, nat_join (7 * k) (x * 128 ^ k) a (by rw [e2]; exact Nat.mul_mod_left _ _) (by rw [← e2]; exact ha), Nat.add_comm]
set_option maxRecDepth 100000 in
set_option maxHeartbeats 1000000 in
theorem pack_ReadNumber (s : ByteArray) (hs : s.size ≤ maxLen) (w : World) :
    Calls Try.prog 67 #[.string s] w fun e w' => e = .returned (.tuple #[.int .u64 ((rdNum s.data.toList).1 : Int), .int .i64 ((rdNum s.data.toList).2.1 : Int), .int .i64 (rdNum s.data.toList).2.2]) ∧ w = w' := by
  unfold maxLen at hs
  go_enter Try.func67, Try.ntmps67
  go_wp2_with fail
  go_loop [5, 11] (fun n i => ∃ k a : Nat, k ≤ s.size ∧ k ≤ 10 ∧ i = .int .i64 k ∧ n = .int .u64 a ∧ a < 128 ^ k ∧ a < two64 ∧ rdNum s.data.toList = rdF k a (s.data.toList.drop k)) (fun _ i => s.size - (intOf i).toNat)
  case atStart => exact ⟨0, 0, by omega, by omega, rfl, rfl, by decide, by decide, rfl⟩
  case round =>
    obtain ⟨k, a, hk, hk10, rfl, rfl, ha, ha64, hr⟩ := hrel
    by_cases hlt : k < s.size
    · have hd : s.data.toList.drop k = s[k] :: s.data.toList.drop (k + 1) := by
        rw [List.drop_eq_getElem_cons (by simpa using hlt)]; rfl
      rw [hd] at hr
      have Ha := hid ha
      have hbyte : (0 : Int) ≤ (s[k].toNat : Int) ∧ (s[k].toNat : Int) ≤ 255 := by have := s[k].toNat_lt; omega
      clear hd ha
      by_cases hw : 9 < k ∨ (k = 9 ∧ 1 < s[k].toNat % 128)
      · rw [rdF_wide _ _ _ _ hw] at hr
        have Hr := hid hr
        clear hr
        by_cases h9 : 9 < k
        · clear hw
          go_wp2_with fail
          go_ret3
          exact ⟨by rw [Hr.out]; rfl, rfl⟩
        · have hl := shl_lost k (by omega) ((s[k].toNat : Int) % 128) (by omega)
          have hk9 : k ≤ 9 := by omega
          clear hw
          go_wp2_with fail
          go_ret3
          exact ⟨by rw [Hr.out]; rfl, rfl⟩
      · have hk9 : k ≤ 9 := by omega
        obtain ⟨hl, hl2⟩ := shl_same k ((s[k].toNat : Int) % 128) hk9 (by omega) (by omega)
        by_cases h2 : s[k].toNat = 0 ∧ 0 < k
        · rw [rdF_nought _ _ _ _ hw h2] at hr
          have Hr := hid hr
          have h0 : (s[k].toNat : Int) < 128 := by omega
          have h1 : 0 < k := h2.2
          have h3 : ((s[k].toNat : Int) % 128 == 0) = true := by rw [beq_iff_eq]; omega
          clear hr hw h2
          go_wp2_with fail
          go_ret3
          exact ⟨by rw [Hr.out]; rfl, rfl⟩
        · have hor : bits .or .u64 (a : Int) ((s[k].toNat : Int) % 128 * 2 ^ (7 * k)) = ((a + s[k].toNat % 128 * 128 ^ k : Nat) : Int) := or_fits k a (s[k].toNat % 128) hk9 (Nat.mod_lt _ (by decide)) (by omega) Ha.out
          have hfit := rd_fits k a (s[k].toNat % 128) hk9 (Nat.mod_lt _ (by decide)) (by omega) Ha.out
          by_cases h4 : s[k].toNat < 128
          · rw [rdF_end _ _ _ _ hw h2 h4] at hr
            have Hr := hid hr
            have hck : s[k].toNat % 128 = s[k].toNat := Nat.mod_eq_of_lt h4
            by_cases h5 : s[k].toNat = 0
            · have horz : bits .or .u64 (a : Int) 0 = (a : Int) := by
                have h := u64_or_nat a 0 (by unfold two64 at ha64; exact ha64) (by decide)
                simpa using h
              have hk0 : ¬ 0 < k := fun c => h2 ⟨h5, c⟩
              have hz1 : ((s[k].toNat : Int) % 128 == 0) = true := by rw [beq_iff_eq]; omega
              have hz2 : a + s[k].toNat % 128 * 128 ^ k = a := by rw [h5]; simp
              rw [hz2] at Hr
              clear hr hw h2 hor hfit hck hz2
              go_wp2_with fail
              go_ret3
              exact ⟨by rw [Hr.out]; rfl, rfl⟩
            · have hz1 : ((s[k].toNat : Int) % 128 == 0) = false := by rw [beq_eq_false_iff_ne]; omega
              clear hr hw h2 hck
              go_wp2_with fail
              go_ret3
              exact ⟨by rw [Hr.out]; rfl, rfl⟩
          · rw [rdF_on _ _ _ _ hw h2 h4] at hr
            have Hr := hid hr
            clear hr hw h2
            go_wp2_with fail
            go_round
            case rel => exact ⟨k + 1, _, by omega, by omega, by go_num, rfl, hfit.2, hfit.1, Hr.out⟩
            case measure => simp [intOf]; omega
    · have h0 : s.data.toList.drop k = [] := List.drop_eq_nil_of_le (by simp; omega)
      rw [h0] at hr
      have Hr := hid hr
      clear hr h0 ha
      go_wp2_with fail
      go_ret3
      exact ⟨by rw [Hr.out]; rfl, rfl⟩
end Go.Proofs.Ytaobhbfhbmenfaa
