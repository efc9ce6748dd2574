/- A state argument's leaves are the cells of some 60 numbers. -/
import Derived.Test.YtfepefohaadecaaOpen
import Derived.Test.YtfepefohaadecaaStEq
namespace Go.Proofs.Ytfepefohaadecaa
variable {w : World}
def numV (c : List Value) (j : Nat) : Int := match c[j]? with
  | some (.int _ n) => n
  | _ => 0
theorem state_of {c : List Value} (h : LeavesAre w ((List.range 60).map fun j => Leaf.int (kindAt j)) c) : c.toArray = mkC (numV c) ∧ WfL (numV c) ∧ ∀ j, 60 ≤ j → numV c j = 0 := by
  obtain ⟨hl, hv⟩ := h
  rw [List.length_map, List.length_range] at hl
  have key : ∀ j, j < 60 → ∃ n, c[j]? = some (.int (kindAt j) n) ∧ (Lit.int (kindAt j) n).wf = true := by
    intro j hj
    have hc : c[j]? = some (c[j]'(by omega)) := List.getElem?_eq_getElem (by omega)
    obtain ⟨n, e, hw⟩ := hv j (.int (kindAt j)) _ (by simp [hj]) hc
    exact ⟨n, by rw [hc, e], hw⟩
  have kn : ∀ j, j < 60 → c[j]? = some (.int (kindAt j) (numV c j)) ∧ (Lit.int (kindAt j) (numV c j)).wf = true := by
    intro j hj
    obtain ⟨n, e, hw⟩ := key j hj
    have : numV c j = n := by unfold numV; rw [e]
    rw [this]
    exact ⟨e, hw⟩
  refine ⟨?_, fun j hj => (kn j hj).2, fun j hj => ?_⟩
  · apply Array.ext_getElem?
    intro k
    rw [List.getElem?_toArray]
    by_cases hk : k < 60
    · rw [mkC_get _ hk, (kn k hk).1]
    · rw [List.getElem?_eq_none (by omega), Array.getElem?_eq_none (by rw [mkC_size]; omega)]
  · unfold numV
    rw [List.getElem?_eq_none (by omega)]
end Go.Proofs.Ytfepefohaadecaa
