/- Plain facts on the places of a ring. -/
import Derived.Test.YtaobhbfhbmenfaaBase
namespace Go.Proofs.Ytaobhbfhbmenfaa
theorem place_eq {f s t : Nat} (hf : f < s) (ht : t < s) : (f + t) % s = if f + t < s then f + t else f + t - s := by
  by_cases h : f + t < s
  · rw [if_pos h, Nat.mod_eq_of_lt h]
  · rw [if_neg h, Nat.mod_eq_sub_mod (by omega), Nat.mod_eq_of_lt (by omega)]
theorem place_inj {f s t u : Nat} (hf : f < s) (ht : t < s) (hu : u < s) (h : (f + t) % s = (f + u) % s) : t = u := by
  rw [place_eq hf ht, place_eq hf hu] at h
  split at h <;> split at h <;> omega
theorem place_step (f s t : Nat) : ((f + 1) % s + t) % s = (f + (t + 1)) % s := by
  rw [Nat.mod_add_mod]
  congr 1
  omega
/-- the cells of a ring hold L, from the first one on -/
def Holds {α : Type} (A : List α) (f s : Nat) (L : List α) : Prop := ∀ t, t < L.length → A[(f + t) % s]? = L[t]?
section
variable {α : Type} {A L : List α} {f s : Nat}
theorem Holds.push (h : Holds A f s L) (hf : f < s) (hA : A.length = s) (hl : L.length < s) (v : α) : Holds (A.set ((f + L.length) % s) v) f s (L ++ [v]) := by
  intro t ht
  simp only [List.length_append, List.length_cons, List.length_nil] at ht
  have hk : (f + L.length) % s < s := Nat.mod_lt _ (by omega)
  by_cases e : t = L.length
  · subst e
    rw [List.getElem?_set_self (by omega)]
    simp
  · rw [List.getElem?_set_ne (fun e2 => e (place_inj hf (by omega) hl e2.symm)), h t (by omega), List.getElem?_append_left (by omega)]
theorem Holds.pop (h : Holds A f s L) (hf : f < s) (hl : L.length ≤ s) (hn : 0 < L.length) (v : α) : Holds (A.set f v) ((f + 1) % s) s L.tail := by
  intro t ht
  simp only [List.length_tail] at ht
  rw [place_step]
  have h0 : (f + 0) % s = f := Nat.mod_eq_of_lt hf
  rw [List.getElem?_set_ne (fun e => absurd (place_inj (t := 0) (u := t + 1) hf (by omega) (by omega) (h0.trans e)) (by omega)), h (t + 1) (by omega)]
  simp
/-- a ring in the midst of a take of the i-th -/
def Shifted (A : List α) (f s : Nat) (L : List α) (i j : Nat) : Prop := ∀ t, t < L.length → A[(f + t) % s]? = if i ≤ t ∧ t < j then L[t + 1]? else L[t]?
theorem Holds.shift (h : Holds A f s L) (i : Nat) : Shifted A f s L i i := by
  intro t ht
  rw [if_neg (by omega)]
  exact h t ht
theorem Shifted.next {i j : Nat} (h : Shifted A f s L i j) (hf : f < s) (hA : A.length = s) (hl : L.length ≤ s) (hij : i ≤ j) (hj : j + 1 < L.length) (y : α) (hy : A[(f + (j + 1)) % s]? = some y) :
    Shifted (A.set ((f + j) % s) y) f s L i (j + 1) := by
  intro t ht
  have hk : (f + j) % s < s := Nat.mod_lt _ (by omega)
  by_cases e : t = j
  · subst e
    rw [List.getElem?_set_self (by omega), if_pos (by omega), ← hy, h (t + 1) (by omega), if_neg (by omega)]
  · rw [List.getElem?_set_ne (fun e2 => e (place_inj hf (by omega) (by omega) e2.symm)), h t ht]
    by_cases c : i ≤ t ∧ t < j
    · rw [if_pos c, if_pos (by omega)]
    · rw [if_neg c, if_neg (by omega)]
theorem Shifted.done {i : Nat} (h : Shifted A f s L i (L.length - 1)) (hf : f < s) (hl : L.length ≤ s) (hi : i < L.length) (z : α) : Holds (A.set ((f + (L.length - 1)) % s) z) f s (L.eraseIdx i) := by
  intro t ht
  rw [List.length_eraseIdx_of_lt hi] at ht
  rw [List.getElem?_set_ne (fun e => absurd (place_inj hf (by omega) (by omega) e) (by omega)), h t (by omega), List.getElem?_eraseIdx]
  by_cases c : t < i
  · rw [if_pos c, if_neg (by omega)]
  · rw [if_neg c, if_pos (by omega)]
end
end Go.Proofs.Ytaobhbfhbmenfaa
