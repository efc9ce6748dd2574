/- Plain laws: a number is read from its bytes; what is read is told by its bytes; signs. -/
import Derived.Test.YtaobhbfhbmenfaaPackM
namespace Go.Proofs.Ytaobhbfhbmenfaa
theorem byte_of (n : Nat) (h : n < 256) : (UInt8.ofNat n).toNat = n := by simp [Nat.mod_eq_of_lt h]
theorem rd_num : ∀ (n k a : Nat) (t : List UInt8), a + n * 128 ^ k < two64 → (0 < k → 0 < n) → rdF k a (num n ++ t) = (a + n * 128 ^ k, k + (num n).length, 0) := by
  intro n
  induction n using Nat.strongRecOn with
  | _ n ih =>
    intro k a t hf hp
    have hk : 9 < k → False := by
      intro h
      have h1 : 128 ^ 10 ≤ 128 ^ k := Nat.pow_le_pow_right (by decide) h
      have h2 : 1 * 128 ^ k ≤ n * 128 ^ k := Nat.mul_le_mul_right _ (hp (by omega))
      unfold two64 at hf
      have : (18446744073709551616 : Nat) < 128 ^ 10 := by decide
      omega
    by_cases hn : n < 128
    · have hb := byte_of n (by omega)
      rw [num_small n hn, List.cons_append, rdF_end]
      · rw [hb, Nat.mod_eq_of_lt hn]; rfl
      · rw [hb, Nat.mod_eq_of_lt hn]
        rintro (h | ⟨rfl, h⟩)
        · exact hk h
        · unfold two64 at hf
          have : 2 * 128 ^ 9 ≤ n * 128 ^ 9 := Nat.mul_le_mul_right _ h
          omega
      · rw [hb]
        rintro ⟨h, h2⟩
        have := hp h2
        omega
      · rw [hb]; exact hn
    · have hb := byte_of (n % 128 + 128) (by omega)
      have h8 : ¬ (9 < k ∨ k = 9) := by
        rintro (h | rfl)
        · exact hk h
        · unfold two64 at hf
          have : 128 * 128 ^ 9 ≤ n * 128 ^ 9 := Nat.mul_le_mul_right _ (by omega)
          omega
      have e : n * 128 ^ k = n % 128 * 128 ^ k + n / 128 * 128 ^ (k + 1) := by
        have h1 : n = n % 128 + n / 128 * 128 := by omega
        calc n * 128 ^ k = (n % 128 + n / 128 * 128) * 128 ^ k := by rw [← h1]
          _ = _ := by rw [Nat.add_mul, Nat.mul_assoc, Nat.pow_succ, Nat.mul_comm 128]
      have em : (n % 128 + 128) % 128 = n % 128 := by omega
      rw [num_big n hn, List.cons_append, rdF_on, hb, em, ih (n / 128) (by omega) (k + 1) _ t (by rw [Nat.add_assoc, ← e]; exact hf) (fun _ => by omega)]
      · refine Prod.ext ?_ (Prod.ext ?_ rfl)
        · show a + n % 128 * 128 ^ k + n / 128 * 128 ^ (k + 1) = _
          rw [e, Nat.add_assoc]
        · show k + 1 + (num (n / 128)).length = _
          simp only [List.length_cons]
          omega
      · rintro (h | ⟨h, _⟩)
        · exact h8 (.inl h)
        · exact h8 (.inr h)
      · rw [hb]; omega
      · rw [hb]; omega
theorem rd_behind (n : Nat) (hn : n < two64) (t : List UInt8) : rdNum (num n ++ t) = (n, (num n).length, 0) := by
  have := rd_num n 0 0 t (by simpa using hn) (fun h => absurd h (by decide))
  simpa [rdNum] using this
/-- what is read is told by these bytes -/
theorem rd_told : ∀ (l : List UInt8) (k a v i : Nat), rdF k a l = (v, i, 0) → a < 128 ^ k → ∃ n, v = a + n * 128 ^ k ∧ num n = l.take (i - k) ∧ i = k + (num n).length ∧ (0 < k → 0 < n) ∧ v < two64
  | [], k, a, v, i, h, _ => by simp [rdF] at h
  | c :: r, k, a, v, i, h, ha => by
    by_cases h1 : 9 < k ∨ (k = 9 ∧ 1 < c.toNat % 128)
    · rw [rdF_wide _ _ _ _ h1] at h; simp at h
    by_cases h2 : c.toNat = 0 ∧ 0 < k
    · rw [rdF_nought _ _ _ _ h1 h2] at h; simp at h
    have hfit := rd_fits k a (c.toNat % 128) (by omega) (Nat.mod_lt _ (by decide)) (by omega) ha
    by_cases h3 : c.toNat < 128
    · rw [rdF_end _ _ _ _ h1 h2 h3] at h
      simp only [Prod.mk.injEq, and_true] at h
      obtain ⟨rfl, rfl⟩ := h
      rw [Nat.mod_eq_of_lt h3] at *
      refine ⟨c.toNat, rfl, ?_, ?_, fun hk => by omega, hfit.1⟩
      · rw [num_small _ h3, Nat.add_sub_cancel_left]; simp
      · rw [num_small _ h3]; rfl
    · rw [rdF_on _ _ _ _ h1 h2 h3] at h
      obtain ⟨n, e1, e2, e3, e4, e5⟩ := rd_told r (k + 1) _ v i h hfit.2
      have hc : c.toNat < 256 := c.toNat_lt
      have hn : ¬ n * 128 + c.toNat % 128 < 128 := by have := e4 (by omega); omega
      refine ⟨n * 128 + c.toNat % 128, ?_, ?_, ?_, fun _ => by omega, e5⟩
      · rw [e1, Nat.add_mul, Nat.mul_assoc, Nat.pow_succ, Nat.mul_comm 128, Nat.add_assoc, Nat.add_comm (c.toNat % 128 * 128 ^ k)]
      · rw [num_big _ hn, show (n * 128 + c.toNat % 128) / 128 = n by omega, show (n * 128 + c.toNat % 128) % 128 + 128 = c.toNat by omega, e2, show i - k = (i - (k + 1)) + 1 by omega]
        simp
      · rw [num_big _ hn, show (n * 128 + c.toNat % 128) / 128 = n by omega]
        simp only [List.length_cons]
        omega
theorem rd_ok (l : List UInt8) (v i : Nat) (h : rdNum l = (v, i, 0)) : num v = l.take i ∧ v < two64 ∧ i = (num v).length := by
  obtain ⟨n, e1, e2, e3, _, e5⟩ := rd_told l 0 0 v i h (by decide)
  simp at e1
  subst e1
  exact ⟨by simpa using e2, e5, by omega⟩
theorem rd_err : ∀ (l : List UInt8) (k a : Nat), (rdF k a l).2.2 ≠ 0 → (rdF k a l).1 = 0 ∧ (rdF k a l).2.1 = 0
  | [], _, _, _ => by simp [rdF]
  | c :: r, k, a, h => by
    rw [rdF] at h ⊢
    split
    · simp
    · split
      · simp
      · split
        · simp_all
        · refine rd_err r _ _ ?_
          simp_all
/-- what is read fits, and lies within -/
theorem rd_in (l : List UInt8) : (rdNum l).1 < two64 ∧ (rdNum l).2.1 ≤ l.length ∧ (rdNum l).2.1 ≤ 10 := by
  by_cases h : (rdNum l).2.2 = 0
  · obtain ⟨h1, h2, h3⟩ := rd_ok l (rdNum l).1 (rdNum l).2.1 (Prod.ext rfl (Prod.ext rfl h))
    have := congrArg List.length h1
    have h4 := num_len10 _ h2
    rw [List.length_take] at this
    exact ⟨h2, by omega, by omega⟩
  · obtain ⟨h1, h2⟩ := rd_err l 0 0 h
    have h1' : (rdNum l).1 = 0 := h1
    have h2' : (rdNum l).2.1 = 0 := h2
    rw [h1', h2']
    exact ⟨by decide, by omega, by omega⟩
/-- the number that stands for one with a sign -/
def zz (n : Int) : Nat := if 0 ≤ n then (2 * n).toNat else (-2 * n - 1).toNat
def unzz (a : Nat) : Int := if a % 2 = 0 then ((a / 2 : Nat) : Int) else -((a / 2 : Nat) : Int) - 1
theorem unzz_zz (n : Int) : unzz (zz n) = n := by
  unfold unzz zz
  split <;> split <;> omega
theorem zz_unzz (a : Nat) : zz (unzz a) = a := by
  unfold unzz zz
  split <;> split <;> omega
theorem zz_in (n : Int) (h : -9223372036854775808 ≤ n ∧ n ≤ 9223372036854775807) : zz n < two64 := by
  unfold zz two64
  split <;> omega
theorem unzz_in (a : Nat) (h : a < two64) : -9223372036854775808 ≤ unzz a ∧ unzz a ≤ 9223372036854775807 := by
  unfold two64 at h
  unfold unzz
  split <;> omega
end Go.Proofs.Ytaobhbfhbmenfaa
