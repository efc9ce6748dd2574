/- Plain facts on the bytes of numbers. No program in sight. -/
import Derived.RowKit
namespace Go.Proofs.Ytaobhbfhbmenfaa
/-- so many numbers of 64 bits there are -/
def two64 : Nat := 18446744073709551616
/-- the bytes of a number -/
def num (n : Nat) : List UInt8 := if n < 128 then [UInt8.ofNat n] else UInt8.ofNat (n % 128 + 128) :: num (n / 128)
termination_by n
decreasing_by omega
theorem num_small (n : Nat) (h : n < 128) : num n = [UInt8.ofNat n] := by rw [num, if_pos h]
theorem num_big (n : Nat) (h : ¬ n < 128) : num n = UInt8.ofNat (n % 128 + 128) :: num (n / 128) := by rw [num, if_neg h]
theorem num_len : ∀ (k n : Nat), n < 128 ^ (k + 1) → (num n).length ≤ k + 1
  | 0, n, h => by rw [num_small n (by simpa using h)]; simp
  | k + 1, n, h => by
    by_cases hn : n < 128
    · rw [num_small n hn]; simp
    · rw [num_big n hn]
      have := num_len k (n / 128) (by rw [Nat.div_lt_iff_lt_mul (by omega)]; rw [Nat.pow_succ] at h; exact h)
      simp only [List.length_cons]
      omega
theorem num_len10 (n : Nat) (h : n < two64) : (num n).length ≤ 10 := num_len 9 n (Nat.lt_of_lt_of_le h (by unfold two64; decide))
theorem num_pos (n : Nat) : 0 < (num n).length := by
  by_cases hn : n < 128
  · rw [num_small n hn]; simp
  · rw [num_big n hn]; simp
/-- what bytes begin with: the number, how many bytes it has, the error; i bytes are read, they are worth a -/
def rdF : Nat → Nat → List UInt8 → Nat × Nat × Int
  | _, _, [] => (0, 0, 3)
  | i, a, c :: r =>
    if 9 < i ∨ (i = 9 ∧ 1 < c.toNat % 128) then (0, 0, 4)
    else if c.toNat = 0 ∧ 0 < i then (0, 0, 4)
    else if c.toNat < 128 then (a + c.toNat % 128 * 128 ^ i, i + 1, 0)
    else rdF (i + 1) (a + c.toNat % 128 * 128 ^ i) r
def rdNum (l : List UInt8) : Nat × Nat × Int := rdF 0 0 l
theorem rdF_wide (k a : Nat) (c : UInt8) (r : List UInt8) (h : 9 < k ∨ (k = 9 ∧ 1 < c.toNat % 128)) : rdF k a (c :: r) = (0, 0, 4) := by rw [rdF, if_pos h]
theorem rdF_nought (k a : Nat) (c : UInt8) (r : List UInt8) (h : ¬ (9 < k ∨ (k = 9 ∧ 1 < c.toNat % 128))) (h2 : c.toNat = 0 ∧ 0 < k) : rdF k a (c :: r) = (0, 0, 4) := by rw [rdF, if_neg h, if_pos h2]
theorem rdF_end (k a : Nat) (c : UInt8) (r : List UInt8) (h : ¬ (9 < k ∨ (k = 9 ∧ 1 < c.toNat % 128))) (h2 : ¬ (c.toNat = 0 ∧ 0 < k)) (h3 : c.toNat < 128) : rdF k a (c :: r) = (a + c.toNat % 128 * 128 ^ k, k + 1, 0) := by rw [rdF, if_neg h, if_neg h2, if_pos h3]
theorem rdF_on (k a : Nat) (c : UInt8) (r : List UInt8) (h : ¬ (9 < k ∨ (k = 9 ∧ 1 < c.toNat % 128))) (h2 : ¬ (c.toNat = 0 ∧ 0 < k)) (h3 : ¬ c.toNat < 128) : rdF k a (c :: r) = rdF (k + 1) (a + c.toNat % 128 * 128 ^ k) r := by rw [rdF, if_neg h, if_neg h2, if_neg h3]
/-- what has been read so far fits -/
theorem rd_fits (k a x : Nat) (hk : k ≤ 9) (hx : x < 128) (h : ¬ (k = 9 ∧ 1 < x)) (ha : a < 128 ^ k) : a + x * 128 ^ k < two64 ∧ a + x * 128 ^ k < 128 ^ (k + 1) := by
  unfold two64
  rcases (show k = 0 ∨ k = 1 ∨ k = 2 ∨ k = 3 ∨ k = 4 ∨ k = 5 ∨ k = 6 ∨ k = 7 ∨ k = 8 ∨ k = 9 by omega) with rfl | rfl | rfl | rfl | rfl | rfl | rfl | rfl | rfl | rfl <;> (simp only [Nat.reduceAdd, Nat.reducePow] at ha ⊢; omega)
/-- how many bytes at the front are like c -/
def same (c : UInt8) : List UInt8 → Nat
  | [] => 0
  | d :: r => if d = c then same c r + 1 else 0
theorem same_le (c : UInt8) : ∀ r : List UInt8, same c r ≤ r.length
  | [] => Nat.le_refl _
  | d :: r => by
    have := same_le c r
    unfold same
    split <;> simp only [List.length_cons] <;> omega
theorem same_at (c : UInt8) : ∀ (r : List UInt8) (i : Nat) (_ : i < same c r) (h2 : i < r.length), r[i] = c
  | d :: r, i, h, h2 => by
    unfold same at h
    split at h
    · rename_i hd
      match i, h, h2 with
      | 0, _, _ => exact hd
      | i + 1, h, h2 => exact same_at c r i (by omega) (by simpa using h2)
    · omega
theorem same_end (c : UInt8) : ∀ (r : List UInt8) (h : same c r < r.length), r[same c r] ≠ c
  | d :: r, h => by
    by_cases hd : d = c
    · have e : same c (d :: r) = same c r + 1 := by rw [same, if_pos hd]
      have h' : same c r < r.length := by rw [e] at h; simpa using h
      have := same_end c r h'
      simpa [e] using this
    · have e : same c (d :: r) = 0 := by rw [same, if_neg hd]
      simpa [e] using hd
/-- stretches of like bytes -/
def runs : List UInt8 → List (UInt8 × Nat)
  | [] => []
  | c :: r => (c, same c r + 1) :: runs (r.drop (same c r))
termination_by l => l.length
decreasing_by simp only [List.length_drop, List.length_cons]; omega
theorem runs_le : ∀ (m : Nat) (L : List UInt8), L.length ≤ m → ∀ x ∈ runs L, 0 < x.2 ∧ x.2 ≤ L.length
  | _, [], _, x, hx => by simp [runs] at hx
  | 0, c :: r, h, _, _ => by simp at h
  | m + 1, c :: r, h, x, hx => by
    have hs := same_le c r
    rw [runs] at hx
    simp only [List.length_cons] at h ⊢
    rcases List.mem_cons.1 hx with rfl | hx
    · exact ⟨by simp, by simpa using hs⟩
    · have := runs_le m (r.drop (same c r)) (by simp; omega) x hx
      simp only [List.length_drop] at this
      omega
/-- is it a run? -/
def fits (L : List UInt8) : Bool := L.all (fun c => decide (c.toNat ≤ 63)) && decide (L.length ≤ 64)
/-- the bytes of stretches -/
def runsBytes (p : List (UInt8 × Nat)) : List UInt8 := p.flatMap fun x => x.1 :: num x.2
/-- the bytes of a run -/
def runBytes (L : List UInt8) : List UInt8 := num L.length ++ runsBytes (runs L)
theorem runs_len : ∀ (m : Nat) (L : List UInt8), L.length ≤ m → (runs L).length ≤ L.length
  | _, [], _ => by simp [runs]
  | 0, c :: r, h => by simp at h
  | m + 1, c :: r, h => by
    simp only [List.length_cons] at h
    have := runs_len m (r.drop (same c r)) (by simp; omega)
    rw [runs]
    simp only [List.length_cons, List.length_drop] at this ⊢
    omega
theorem runsBytes_len : ∀ (p : List (UInt8 × Nat)), (∀ x ∈ p, x.2 < 128) → (runsBytes p).length = 2 * p.length
  | [], _ => rfl
  | x :: p, h => by
    have h1 := runsBytes_len p (fun y hy => h y (List.mem_cons_of_mem _ hy))
    have h2 := h x (List.mem_cons_self)
    unfold runsBytes at *
    rw [List.flatMap_cons, num_small _ h2]
    simp only [List.length_append, List.length_cons, List.length_nil, h1]
    omega
theorem runsBytes_snoc (p : List (UInt8 × Nat)) (x : UInt8 × Nat) : runsBytes (p ++ [x]) = runsBytes p ++ (x.1 :: num x.2) := by simp [runsBytes]
/-- the bytes of what comes first -/
theorem pre_len (L : List UInt8) (hl : L.length ≤ 64) (pre rest : List (UInt8 × Nat)) (h : runs L = pre ++ rest) : (num L.length ++ runsBytes pre).length ≤ 138 := by
  have h1 := runs_len _ L (Nat.le_refl _)
  have h2 := runs_le _ L (Nat.le_refl _)
  rw [h] at h1 h2
  simp only [List.length_append] at h1 ⊢
  rw [runsBytes_len pre (fun x hx => by have := h2 x (List.mem_append_left _ hx); omega)]
  have := num_len10 L.length (by unfold two64; omega)
  omega
end Go.Proofs.Ytaobhbfhbmenfaa
