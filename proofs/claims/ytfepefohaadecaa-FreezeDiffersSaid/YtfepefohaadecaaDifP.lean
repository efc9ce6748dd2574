/- Plain facts for the law FreezeDiffers. -/
import Derived.Test.YtfepefohaadecaaDif
import Derived.Test.YtfepefohaadecaaFrzP
namespace Go.Proofs.Ytfepefohaadecaa
open Go.RowKit
set_option maxRecDepth 10000
variable {w : World}
def nmC : Array Value := #[.string (nmB 0), .string (nmB 1), .string (nmB 2), .string (nmB 3), .string (nmB 4), .string (nmB 5), .string (nmB 6)]
def flB (f : Nat → Bool) : Array Value := #[.bool (f 0), .bool (f 1), .bool (f 2), .bool (f 3), .bool (f 4), .bool (f 5), .bool (f 6)]
theorem nmC_get (f : Nat → Bool) (k : Nat) (h : k < 7) : nmC[k]? = some (.string (nmB k)) ∧ (flB f)[k]? = some (.bool (f k)) := by
  match k, h with
  | 0, _ => exact ⟨rfl, rfl⟩
  | 1, _ => exact ⟨rfl, rfl⟩
  | 2, _ => exact ⟨rfl, rfl⟩
  | 3, _ => exact ⟨rfl, rfl⟩
  | 4, _ => exact ⟨rfl, rfl⟩
  | 5, _ => exact ⟨rfl, rfl⟩
  | 6, _ => exact ⟨rfl, rfl⟩
theorem difN_pre (f : Nat → Bool) (k : Nat) : ∀ m, ∃ t, difN f (k + m) = difN f k ++ t
  | 0 => ⟨[], by simp⟩
  | m + 1 => by
    obtain ⟨t, ht⟩ := difN_pre f k m
    exact ⟨t ++ (if f (k + m) then [] else [k + m]), by rw [← Nat.add_assoc]; show difN f (k + m) ++ _ = _; rw [ht, List.append_assoc]⟩
theorem difN_at (f : Nat → Bool) (k : Nat) (hk : k < 7) (h : f k = false) : (difN f 7)[(difN f k).length]? = some k := by
  obtain ⟨t, ht⟩ := difN_pre f (k + 1) (7 - (k + 1))
  rw [show k + 1 + (7 - (k + 1)) = 7 by omega, show difN f (k + 1) = difN f k ++ (if f k then [] else [k]) from rfl, h] at ht
  rw [ht]
  simp
theorem difN_none (f : Nat → Bool) (k : Nat) : difN f k = [] ↔ ∀ j, j < k → f j = true := by
  induction k with
  | zero => exact ⟨fun _ j hj => absurd hj (Nat.not_lt_zero _), fun _ => rfl⟩
  | succ k ih =>
    rw [show difN f (k + 1) = difN f k ++ (if f k then [] else [k]) from rfl, List.append_eq_nil_iff, ih]
    constructor
    · rintro ⟨h1, h2⟩ j hj
      by_cases e : j = k
      · subst e
        by_cases hf : f j = true
        · exact hf
        · simp [hf] at h2
      · exact h1 j (by omega)
    · intro h
      exact ⟨fun j hj => h j (by omega), by simp [h k (by omega)]⟩
theorem flg_all (a b : Nat → Int) : difN (flg a b) 7 = [] ↔ sameN a b 0 60 := by
  refine (difN_none _ _).trans (Iff.trans ?_ (sameN_iff a b).symm)
  refine Iff.intro (fun h => ?_) (fun h => ?_)
  · have h0 : (a 0 == b 0) = true := h 0 (by decide)
    have h1 : (a 1 == b 1) = true := h 1 (by decide)
    have h2 : (a 2 == b 2) = true := h 2 (by decide)
    have h3 : (a 3 == b 3) = true := h 3 (by decide)
    have h4 : decide (sameN a b 4 10) = true := h 4 (by decide)
    have h5 : decide (sameN a b 14 10) = true := h 5 (by decide)
    have h6 : decide (sameN a b 24 36) = true := h 6 (by decide)
    exact And.intro (eq_of_beq h0) (And.intro (eq_of_beq h1) (And.intro (eq_of_beq h2) (And.intro (eq_of_beq h3) (And.intro (of_decide_eq_true h4) (And.intro (of_decide_eq_true h5) (of_decide_eq_true h6))))))
  · intro j hj
    obtain ⟨h0, h1, h2, h3, h4, h5, h6⟩ := h
    match j, hj with
    | 0, _ => exact beq_iff_eq.2 h0
    | 1, _ => exact beq_iff_eq.2 h1
    | 2, _ => exact beq_iff_eq.2 h2
    | 3, _ => exact beq_iff_eq.2 h3
    | 4, _ => exact decide_eq_true h4
    | 5, _ => exact decide_eq_true h5
    | 6, _ => exact decide_eq_true h6
theorem packs_iff {a b : Nat → Int} (ha : WfS a) (hb : WfS b) (h0 : ∀ j, 60 ≤ j → a j = b j) (ra : rightS a = true) (rb : rightS b = true) : packS a = packS b ↔ sameN a b 0 60 := by
  constructor
  · exact packS_inj ⟨ha, fun j hj hk => right_pos ha ra j hj hk⟩ ⟨hb, fun j hj hk => right_pos hb rb j hj hk⟩
  · intro h
    have : a = b := by
      funext j
      by_cases hj : j < 60
      · simpa using h j hj
      · exact h0 j (by omega)
    rw [this]
end Go.Proofs.Ytfepefohaadecaa
