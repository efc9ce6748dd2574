/- What there is of a number, a frame or none. -/
import Derived.Test.YtdgbmnefpempaaaWinD
namespace Go.Proofs.Ytdgbmnefpempaaa
/-- what there is of a number, a frame or none -/
def lookI {α : Type} : List (Nat × α) → Int → Option α
  | [], _ => none
  | (g, y) :: r, f => if (g : Int) = f then some y else lookI r f
theorem lookI_nat {α : Type} (L : List (Nat × α)) (n : Nat) : lookI L (n : Int) = lookL L n := by
  induction L with
  | nil => rfl
  | cons c L ih =>
    obtain ⟨g, y⟩ := c
    simp only [lookI, lookL, ih]
    by_cases h : g = n
    · rw [if_pos (by omega), if_pos h]
    · rw [if_neg (by omega), if_neg h]
theorem lookI_none {α : Type} {L : List (Nat × α)} {f : Int} (h : ∀ p ∈ L, ((p.1 : Nat) : Int) ≠ f) : lookI L f = none := by
  induction L with
  | nil => rfl
  | cons c L ih =>
    obtain ⟨g, y⟩ := c
    simp only [lookI]
    rw [if_neg (h (g, y) (by simp)), ih (fun p hp => h p (by simp [hp]))]
end Go.Proofs.Ytdgbmnefpempaaa
