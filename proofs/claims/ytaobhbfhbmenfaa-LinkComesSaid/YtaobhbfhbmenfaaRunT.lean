/- A run's stretches, cut off one by one from the front; plain. -/
import Derived.Test.YtaobhbfhbmenfaaRunM
namespace Go.Proofs.Ytaobhbfhbmenfaa
/-- a stretch ends at i -/
theorem run_cut (L : List UInt8) (f i : Nat) (hf : f ≤ i) (hi : i < L.length) (hal : ∀ j (hj : j < L.length), f ≤ j → j ≤ i → L[j] = L[i]) (hend : ∀ h : i + 1 < L.length, L[i + 1] ≠ L[i]) :
    runs (L.drop f) = (L[i], i + 1 - f) :: runs (L.drop (i + 1)) := by
  have e : L.drop f = List.replicate (i - f + 1) L[i] ++ L.drop (i + 1) := by
    refine List.ext_getElem (by simp; omega) fun j h1 h2 => ?_
    simp only [List.length_drop] at h1
    rw [List.getElem_append]
    split
    · rename_i h
      simp only [List.length_replicate] at h
      simp only [List.getElem_drop, List.getElem_replicate]
      exact hal _ _ (by omega) (by omega)
    · rename_i h
      simp only [List.length_replicate] at h
      simp only [List.getElem_drop, List.length_replicate]
      congr 1
      omega
  rw [e, runs_of]
  · rw [show i - f + 1 = i + 1 - f by omega]
  · rw [List.head?_drop]
    intro h
    obtain ⟨h1, h2⟩ := List.getElem?_eq_some_iff.1 h
    exact hend h1 h2
end Go.Proofs.Ytaobhbfhbmenfaa
