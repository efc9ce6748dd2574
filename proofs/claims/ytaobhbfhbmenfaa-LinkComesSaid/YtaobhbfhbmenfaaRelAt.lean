/- region_rel with the frame laid by its slots: the operations ahead of the last write the slots s, s + 1, .. -/
import Derived.Test.YtaobhbfhbmenfaaRel
namespace Go.Proofs.Ytaobhbfhbmenfaa
open Go.RowKit
def fillL : List Value → Nat → Nat → Nat → (Nat → Value) → List Value
  | [], _, _, _, _ => []
  | x :: t, s + 1, n, i, vals => x :: fillL t s n i vals
  | _ :: t, 0, n + 1, i, vals => vals i :: fillL t 0 n (i + 1) vals
  | x :: t, 0, 0, _, _ => x :: t
def relAct (a : Act) (s n : Nat) (vals : Nat → Value) : Act := { a with tmps := (fillL a.tmps.toList s n 0 vals).toArray }
theorem fillL_self : ∀ (l : List Value) (s n i : Nat) (vals : Nat → Value), (∀ j, j < n → ∀ h : s + j < l.length, vals (i + j) = l[s + j]) → fillL l s n i vals = l
  | [], _, _, _, _, _ => rfl
  | x :: t, s + 1, n, i, vals, h => by
    rw [fillL, fillL_self t s n i vals fun j hj hl => by
      have := h j hj (by simp; omega)
      rw [this]
      simp [show s + 1 + j = s + j + 1 by omega]]
  | x :: t, 0, n + 1, i, vals, h => by
    rw [fillL, fillL_self t 0 n (i + 1) vals fun j hj hl => by
      have := h (j + 1) (by omega) (by simp; omega)
      rw [show i + 1 + j = i + (j + 1) by omega, this]
      simp]
    have := h 0 (by omega) (by simp)
    simp at this
    rw [this]
  | x :: t, 0, 0, _, _, _ => by rw [fillL]
theorem relAct_self (a : Act) (s n : Nat) : a = relAct a s n (fun j => a.tmps.getD (s + j) undef) := by
  unfold relAct
  rw [fillL_self]
  intro j _ h
  have h2 : s + j < a.tmps.size := by simpa using h
  simp [h2]
theorem region_at {P : Program} {id : Nat} {l : List Oper} (s n : Nat) {Q : Exit → Act → World → Prop} {a : Act} {w : World} (hm : P.follows .mixedOrders = true)
    (hB : relB l n = true) (C : World → Prop) (R : Nat → Value → World → Prop) (hC : C { w with drawn := w.drawn + 1 })
    (hrun : ∀ i o vals w, i < n → l[i]? = some o → C w → (∀ e ∈ o.after, Region.binds .any e = true → R e.on (vals e.on) w) →
      o.wp P (relAct a s n vals) w (fun a' w' => ∃ v, a' = relAct a s n (upd vals i v) ∧ R i v w' ∧ C w' ∧ ∀ j u, R j u w → R j u w') Q)
    (hfin : ∀ tail, l[n]? = some tail → ∀ vals w, C w → (∀ i, i < n → R i (vals i) w) → tail.wp P (relAct a s n vals) w (fun a' w' => Q .normal a' w') Q) :
    (Code.region id l.toArray true).wp P Q a w :=
  region_rel n hm hB (relAct a s n) C R _ (relAct_self a s n) hC hrun hfin
theorem round_at {P : Program} {id : Nat} {l : List Oper} (r : Nat) (s n : Nat) {Q : Exit → Act → World → Prop} {a : Act} {w : World} (hm : P.follows .mixedOrders = true)
    (hB : relB l n = true) (C : World → Prop) (R : Nat → Value → World → Prop) (hC : C { w with drawn := w.drawn + 1 })
    (hrun : ∀ i o vals w, i < n → l[i]? = some o → C w → (∀ e ∈ o.after, Region.binds .any e = true → R e.on (vals e.on) w) →
      o.wpIn (Fence.wide.inRound r) 0 P (relAct a s n vals) w (fun a' w' => ∃ v, a' = relAct a s n (upd vals i v) ∧ R i v w' ∧ C w' ∧ ∀ j u, R j u w → R j u w') Q)
    (hfin : ∀ tail, l[n]? = some tail → ∀ vals w, C w → (∀ i, i < n → R i (vals i) w) → tail.wpIn (Fence.wide.inRound r) 0 P (relAct a s n vals) w (fun a' w' => Q .normal a' w') Q) :
    (Code.region id l.toArray true).wpIn (Fence.wide.inRound r) 0 P Q a w :=
  round_rel r n hm hB (relAct a s n) C R _ (relAct_self a s n) hC hrun hfin
end Go.Proofs.Ytaobhbfhbmenfaa
