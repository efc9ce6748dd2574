/- Plain facts on the trip at a part of some trips (law 35). -/
import Derived.Test.YtfepefohaadecaaBase
namespace Go.Proofs.Ytfepefohaadecaa
/-- how many have it, or less -/
def cntL (L : List Int) (n : Int) : Nat := L.countP (fun x => decide (x ≤ n))
theorem cntL_perm {L S : List Int} (h : S.Perm L) (n : Int) : cntL S n = cntL L n := h.countP_eq _
theorem cntL_append (A B : List Int) (n : Int) : cntL (A ++ B) n = cntL A n + cntL B n := List.countP_append
theorem cntL_le (L : List Int) (n : Int) : cntL L n ≤ L.length := List.countP_le_length
theorem cntL_all {L : List Int} {n : Int} (h : ∀ x ∈ L, x ≤ n) : cntL L n = L.length := List.countP_eq_length.2 fun x hx => by simpa using h x hx
theorem cntL_none {L : List Int} {n : Int} (h : ∀ x ∈ L, n < x) : cntL L n = 0 := List.countP_eq_zero.2 fun x hx => by have := h x hx; simp; omega
theorem sorted_take {S : List Int} (hs : S.Pairwise (· ≤ ·)) (i : Nat) (hi : i < S.length) : ∀ x ∈ S.take (i + 1), x ≤ S[i] := by
  intro x hx
  obtain ⟨j, hj, rfl⟩ := List.mem_iff_getElem.1 hx
  rw [List.getElem_take]
  have hj' : j < i + 1 := by simp at hj; omega
  by_cases e : j = i
  · subst e; exact Int.le_refl _
  · exact List.pairwise_iff_getElem.1 hs j i _ hi (by omega)
theorem sorted_drop {S : List Int} (hs : S.Pairwise (· ≤ ·)) (i : Nat) (hi : i < S.length) : ∀ x ∈ S.drop i, S[i] ≤ x := by
  intro x hx
  obtain ⟨j, hj, rfl⟩ := List.mem_iff_getElem.1 hx
  rw [List.getElem_drop]
  by_cases e : j = 0
  · subst e; exact Int.le_refl _
  · exact List.pairwise_iff_getElem.1 hs i (i + j) hi (by simp at hj; omega) (by omega)
theorem cnt_take {S : List Int} (hs : S.Pairwise (· ≤ ·)) (i : Nat) (hi : i < S.length) : i + 1 ≤ cntL S S[i] := by
  have h1 := cntL_append (S.take (i + 1)) (S.drop (i + 1)) S[i]
  rw [List.take_append_drop, cntL_all (sorted_take hs i hi)] at h1
  simp at h1
  omega
theorem cnt_low {S : List Int} (hs : S.Pairwise (· ≤ ·)) (i : Nat) (hi : i < S.length) (n : Int) (h : n < S[i]) : cntL S n ≤ i := by
  have h1 := cntL_append (S.take i) (S.drop i) n
  have h2 : cntL (S.drop i) n = 0 := cntL_none fun x hx => by have := sorted_drop hs i hi x hx; omega
  have h3 := cntL_le (S.take i) n
  rw [List.take_append_drop, h2] at h1
  simp at h3
  omega
/-- the trip at need of some: a trip, that need have or less, and no lesser one -/
structure AtL (L : List Int) (need : Nat) (v : Int) : Prop where
  mem : v ∈ L
  has : need ≤ cntL L v
  least : ∀ n, n < v → cntL L n < need
theorem at_sorted {L S : List Int} (hp : S.Perm L) (hs : S.Pairwise (· ≤ ·)) (need : Nat) (h1 : 1 ≤ need) (h2 : need - 1 < S.length) : AtL L need S[need - 1] :=
  ⟨hp.mem_iff.1 (List.getElem_mem h2), by rw [← cntL_perm hp]; have := cnt_take hs (need - 1) h2; omega, fun n hn => by rw [← cntL_perm hp]; have := cnt_low hs (need - 1) h2 n hn; omega⟩
theorem AtL.uniq {L : List Int} {need : Nat} {v v' : Int} (h : AtL L need v) (h' : AtL L need v') : v = v' := by
  rcases Int.lt_trichotomy v v' with hlt | rfl | hgt
  · have := h'.least v hlt; have := h.has; omega
  · rfl
  · have := h.least v' hgt; have := h'.has; omega
/-- longer trips: none is less -/
theorem AtL.mono {L M : List Int} {need : Nat} {v v' : Int} (h : AtL L need v) (h' : AtL M need v') (hc : ∀ n, cntL M n ≤ cntL L n) : v ≤ v' := by
  rcases Int.lt_or_le v' v with hlt | hle
  · have := h.least v' hlt; have := h'.has; have := hc v'; omega
  · exact hle
theorem cnt_longer : ∀ (L M : List Int), L.length = M.length → (∀ i (h : i < L.length) (h' : i < M.length), L[i] ≤ M[i]) → ∀ n, cntL M n ≤ cntL L n
  | [], [], _, _, _ => Nat.le_refl _
  | a :: L, b :: M, hl, h, n => by
    have ih := cnt_longer L M (by simpa using hl) (fun i h1 h2 => h (i + 1) (by simp; omega) (by simp; omega)) n
    have h0 := h 0 (by simp) (by simp)
    simp only [List.getElem_cons_zero] at h0
    unfold cntL at ih ⊢
    rw [List.countP_cons, List.countP_cons]
    by_cases hb : b ≤ n
    · have ha : a ≤ n := by omega
      simp [hb, ha]
      omega
    · simp [hb]
      omega
def needL (p : Int) (n : Nat) : Nat := ((p * n + 99) / 100).toNat
theorem need_in (p : Int) (n : Nat) (hp : 1 ≤ p ∧ p ≤ 100) (hn : 1 ≤ n) : 1 ≤ needL p n ∧ needL p n ≤ n := by
  unfold needL
  have h1 : p * n ≤ 100 * n := Int.mul_le_mul_of_nonneg_right hp.2 (by omega)
  have h2 : 1 * (n : Int) ≤ p * n := Int.mul_le_mul_of_nonneg_right hp.1 (by omega)
  omega
theorem need_iff (p : Int) (n c : Nat) (hp : 1 ≤ p) : p * n ≤ 100 * c ↔ needL p n ≤ c := by
  unfold needL
  have h2 : 0 ≤ p * (n : Int) := Int.mul_nonneg (by omega) (by omega)
  omega
/-- the reference's count, from k on -/
def refAtF (L : List Int) (p : Int) : Nat → Int → Int
  | 0, _ => 0
  | f + 1, k => if k ∈ L ∧ p * L.length ≤ 100 * (cntL L k : Int) then k else refAtF L p f (k + 1)
def refAtL (L : List Int) (p : Int) : Int := refAtF L p 1001 0
theorem refAtF_at (L : List Int) (p : Int) (hp : 1 ≤ p) (v : Int) (h : AtL L (needL p L.length) v) : ∀ (f : Nat) (k : Int), k ≤ v → v < k + f → refAtF L p f k = v
  | 0, k, h1, h2 => by omega
  | f + 1, k, h1, h2 => by
    unfold refAtF
    by_cases e : k = v
    · subst e
      rw [if_pos ⟨h.mem, (need_iff p L.length _ hp).2 h.has⟩]
    · rw [if_neg]
      · exact refAtF_at L p hp v h f (k + 1) (by omega) (by omega)
      · rintro ⟨_, h3⟩
        have := h.least k (by omega)
        have := (need_iff p L.length _ hp).1 h3
        omega
theorem refAt_sorted (L S : List Int) (p : Int) (hp : 1 ≤ p ∧ p ≤ 100) (hL : ∀ x ∈ L, 0 ≤ x ∧ x ≤ 1000) (hn : L ≠ []) (hperm : S.Perm L) (hs : S.Pairwise (· ≤ ·)) (h2 : needL p L.length - 1 < S.length) : refAtL L p = S[needL p L.length - 1] := by
  have hl := List.length_pos_iff.2 hn
  have hat := at_sorted hperm hs (needL p L.length) (need_in p _ hp hl).1 h2
  have hv := hL _ hat.mem
  exact refAtF_at L p hp.1 _ hat 1001 0 hv.1 (by omega)
end Go.Proofs.Ytfepefohaadecaa
