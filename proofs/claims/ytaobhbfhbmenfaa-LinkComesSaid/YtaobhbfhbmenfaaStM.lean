/- One stretch more of a run that is read; plain. And: what a row of the call's own is to its caller. -/
import Derived.Test.YtaobhbfhbmenfaaStretch
namespace Go.Proofs.Ytaobhbfhbmenfaa
open Go.RowKit
set_option maxRecDepth 10000
theorem rdRun_err (l : List UInt8) (h : (rdNum l).2.2 ≠ 0) : rdRun l = ([], 0, (rdNum l).2.2) := by unfold rdRun; rw [if_pos h]
theorem rdRun_long (l : List UInt8) (h : (rdNum l).2.2 = 0) (h2 : 64 < (rdNum l).1) : rdRun l = ([], 0, 5) := by unfold rdRun; rw [if_neg (by simpa using h), if_pos h2]
theorem rdRun_go (l : List UInt8) (h : (rdNum l).2.2 = 0) (h2 : ¬ 64 < (rdNum l).1) : rdRun l = rr l (rdNum l).1 [] (rdNum l).2.1 := by unfold rdRun; rw [if_neg (by simpa using h), if_neg h2]
theorem st_err (l : List UInt8) (count : Nat) (out : List UInt8) (k : Nat) (h : ¬ count ≤ out.length) (hlast : ∀ x, (l.drop k).head? = some x → out.getLast? ≠ some x) (he : (st (l.drop k) (count - out.length)).2.2.2 ≠ 0) :
    rr l count out k = ([], 0, (st (l.drop k) (count - out.length)).2.2.2) := by
  cases hd : l.drop k with
  | nil => rw [rr_short _ _ _ _ h hd]; rfl
  | cons x r =>
    rw [hd] at he hlast
    have hl := hlast x rfl
    by_cases h1 : 63 < x.toNat
    · rw [rr_form _ _ _ _ h x r hd (.inl h1)]
      simp only [st, if_pos h1]
    · by_cases h2 : (rdNum r).2.2 = 0
      · by_cases h3 : (rdNum r).1 = 0 ∨ count - out.length < (rdNum r).1
        · rw [rr_size _ _ _ _ h x r hd (by simp [hl, h1]) h2 h3]
          simp only [st, if_neg h1, if_neg (not_not_intro h2), if_pos h3]
        · simp only [st, if_neg h1, if_neg (not_not_intro h2), if_neg h3] at he
          exact absurd rfl he
      · rw [rr_err _ _ _ _ h x r hd (by simp [hl, h1]) h2]
        simp only [st, if_neg h1, if_pos h2]
theorem st_ok (l : List UInt8) (count : Nat) (out : List UInt8) (k : Nat) (h : ¬ count ≤ out.length) (hlast : ∀ x, (l.drop k).head? = some x → out.getLast? ≠ some x) (he : (st (l.drop k) (count - out.length)).2.2.2 = 0) :
    ∃ x n m, st (l.drop k) (count - out.length) = (x.toNat, n, m, 0) ∧ rr l count out k = rr l count (out ++ List.replicate n x) (k + m) ∧ 1 ≤ n ∧ n ≤ count - out.length ∧ k + m ≤ l.length := by
  cases hd : l.drop k with
  | nil => rw [hd] at he; cases he
  | cons x r =>
    rw [hd] at he hlast
    have hl := hlast x rfl
    have hlen := congrArg List.length hd
    simp only [List.length_drop, List.length_cons] at hlen
    have hin := (rd_in r).2.1
    by_cases h1 : 63 < x.toNat
    · simp only [st, if_pos h1] at he
      cases he
    · by_cases h2 : (rdNum r).2.2 = 0
      · by_cases h3 : (rdNum r).1 = 0 ∨ count - out.length < (rdNum r).1
        · simp only [st, if_neg h1, if_neg (not_not_intro h2), if_pos h3] at he
          cases he
        · refine ⟨x, (rdNum r).1, (rdNum r).2.1 + 1, ?_, ?_, by omega, by omega, by omega⟩
          · simp only [st, if_neg h1, if_neg (not_not_intro h2), if_neg h3]
          · rw [rr_on _ _ _ _ h x r hd (by simp [hl, h1]) h2 h3, show k + 1 + (rdNum r).2.1 = k + ((rdNum r).2.1 + 1) by omega]
      · simp only [st, if_neg h1, if_pos h2] at he
        exact absurd he h2
theorem own_bytes {w : World} {base : Nat} {v : Value} {L : List UInt8} (h : w.ownsRow base 5 1 v L.length (L.map byteV)) : ∃ a cap, v = .slice a L.length cap ∧ IsBytes w a cap L := by
  rcases id h.2 with ⟨rfl, h0⟩ | ⟨g, cap, cur, rfl, _, _, h1, h2, _⟩
  · refine ⟨none, 0, by rw [h0], by omega, Nat.zero_le _, .inl (List.length_eq_zero_iff.1 h0)⟩
  · refine ⟨_, cap, rfl, h1, h2, .inr ⟨g, 0, rfl, fun i hi => ?_⟩⟩
    rw [Nat.zero_add, h.cellAt i (by omega)]
    simp [hi]
def slLen : Value → Nat | .slice _ n _ => n | _ => 0
theorem own_len {w : World} {base n : Nat} {v : Value} {l : List Value} (h : w.ownsRow base 5 1 v n l) : slLen v = n := by
  rcases id h.2 with ⟨rfl, h0⟩ | ⟨g, cap, cur, rfl, _⟩
  · exact h0.symm
  · rfl
theorem own_snoc2 {w : World} {base n : Nat} {v : Value} {acc : List UInt8} {x : Int} (c : UInt8) (hn : n = acc.length + 1) (h : w.ownsRow base 5 1 v n (acc.map byteV ++ [.int .u8 x])) (hx : x = c.toNat) :
    w.ownsRow base 5 1 v (acc ++ [c]).length ((acc ++ [c]).map byteV) := by
  subst hn
  exact own_snoc c h hx
end Go.Proofs.Ytaobhbfhbmenfaa
