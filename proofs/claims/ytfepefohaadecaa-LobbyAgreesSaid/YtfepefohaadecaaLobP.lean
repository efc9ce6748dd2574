/- Plain: the trip at a part, the delay, the window, how steady they are (law 35). -/
import Derived.Test.YtfepefohaadecaaSorted
namespace Go.Proofs.Ytfepefohaadecaa
def rangeT (x : Int) : Bool := decide (0 ≤ x) && decide (x ≤ 1000)
def tripsB (L : List Int) : Bool := L.all rangeT
theorem rangeT_iff {x : Int} : rangeT x = true ↔ 0 ≤ x ∧ x ≤ 1000 := by simp [rangeT]
theorem tripsB_iff {L : List Int} : tripsB L = true ↔ ∀ x ∈ L, 0 ≤ x ∧ x ≤ 1000 := by
  unfold tripsB
  rw [List.all_eq_true]
  exact ⟨fun h x hx => rangeT_iff.1 (h x hx), fun h x hx => rangeT_iff.2 (h x hx)⟩
def atV (L : List Int) (p : Int) : Int := (sortL L).getD (needL p L.length - 1) 0
theorem atV_get (L : List Int) (p : Int) (hp : 1 ≤ p ∧ p ≤ 100) (hn : 0 < L.length) : ∃ h : needL p L.length - 1 < (sortL L).length, atV L p = (sortL L)[needL p L.length - 1] := by
  have h1 := need_in p L.length hp hn
  have h2 : needL p L.length - 1 < (sortL L).length := by rw [sortL_len]; omega
  exact ⟨h2, by unfold atV; rw [List.getD_eq_getElem?_getD, List.getElem?_eq_getElem h2]; rfl⟩
theorem atV_at (L : List Int) (p : Int) (hp : 1 ≤ p ∧ p ≤ 100) (hn : 0 < L.length) : AtL L (needL p L.length) (atV L p) := by
  obtain ⟨h, e⟩ := atV_get L p hp hn
  rw [e]
  exact at_sorted (sortL_perm L) (sortL_sorted L) _ (need_in p _ hp hn).1 h
theorem atV_mem (L : List Int) (p : Int) (hp : 1 ≤ p ∧ p ≤ 100) (hn : 0 < L.length) : atV L p ∈ L := (atV_at L p hp hn).mem
theorem refAt_atV (L : List Int) (p : Int) (hp : 1 ≤ p ∧ p ≤ 100) (hL : tripsB L = true) (hn : 0 < L.length) : refAtL L p = atV L p := by
  obtain ⟨h, e⟩ := atV_get L p hp hn
  rw [e]
  exact refAt_sorted L (sortL L) p hp (tripsB_iff.1 hL) (by rintro rfl; simp at hn) (sortL_perm L) (sortL_sorted L) h
def delayV (L : List Int) : Int := if L.length = 0 then 2 else min ((atV L 75 + 3) / 4) 8
def windowV (L : List Int) : Int := if L.length = 0 then 8 else min ((atV L 95 + 1) / 2 + 2) 16
def goodL (L : List Int) : List Int := L.filter rangeT
def manyV (L : List Int) : Nat := cntL L (atV L 50 + 2)
def steadyV (L : List Int) : Int := if (goodL L).length = 0 then 1000 else 1000 * (manyV (goodL L) : Int) / ((goodL L).length : Int)
theorem goodL_in (L : List Int) : tripsB (goodL L) = true := by
  rw [tripsB_iff]
  intro x hx
  exact rangeT_iff.1 (List.mem_filter.1 hx).2
theorem atV_in (L : List Int) (p : Int) (hp : 1 ≤ p ∧ p ≤ 100) (hL : tripsB L = true) (hn : 0 < L.length) : 0 ≤ atV L p ∧ atV L p ≤ 1000 := tripsB_iff.1 hL _ (atV_mem L p hp hn)
theorem longer (L M : List Int) (p : Int) (hp : 1 ≤ p ∧ p ≤ 100) (hn : 0 < L.length) (hl : L.length = M.length) (h : ∀ i (h : i < L.length) (h' : i < M.length), L[i] ≤ M[i]) : atV L p ≤ atV M p := by
  have h1 := atV_at L p hp hn
  have h2 := atV_at M p hp (by omega)
  rw [← hl] at h2
  exact AtL.mono h1 h2 (cnt_longer L M hl h)
theorem delay_longer (L M : List Int) (hl : L.length = M.length) (h : ∀ i (h : i < L.length) (h' : i < M.length), L[i] ≤ M[i]) : delayV L ≤ delayV M ∧ windowV L ≤ windowV M := by
  unfold delayV windowV
  by_cases h0 : L.length = 0
  · rw [if_pos h0, if_pos (by omega), if_pos h0, if_pos (by omega)]
    exact ⟨Int.le_refl _, Int.le_refl _⟩
  · rw [if_neg h0, if_neg (by omega), if_neg h0, if_neg (by omega)]
    have h1 := longer L M 75 (by omega) (by omega) hl h
    have h2 := longer L M 95 (by omega) (by omega) hl h
    omega
end Go.Proofs.Ytfepefohaadecaa
