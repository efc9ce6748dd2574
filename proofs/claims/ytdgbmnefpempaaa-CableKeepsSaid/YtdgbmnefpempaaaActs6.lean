/- The calls of a script on cables: six leaves each. -/
import Derived.Test.YtdgbmnefpempaaaOpen
namespace Go.Proofs.Ytdgbmnefpempaaa
open Go.RowKit
structure Act6 where
  kind : Int
  to : Int
  i : Int
  s : ByteArray
  at' : Int
  b : Nat
def Act6.vals (c : Act6) : List Value := [.int .i64 c.kind, .int .i64 c.to, .int .i64 c.i, .string c.s, .int .i64 c.at', .int .u8 c.b]
structure Act6.wf (c : Act6) : Prop where
  kind : -9223372036854775808 ≤ c.kind ∧ c.kind ≤ 9223372036854775807
  to : -9223372036854775808 ≤ c.to ∧ c.to ≤ 9223372036854775807
  i : -9223372036854775808 ≤ c.i ∧ c.i ≤ 9223372036854775807
  s : c.s.size ≤ maxLen
  b : c.b < 256
theorem act6_of {w : World} {cs : List Value} (h : LeavesAre w [.int .i64, .int .i64, .int .i64, .str, .int .i64, .int .u8] cs) : ∃ c : Act6, cs = c.vals ∧ c.wf := by
  obtain ⟨hl, h⟩ := h
  match cs, hl, h with
  | [v0, v1, v2, v3, v4, v5], _, h =>
    obtain ⟨k, rfl, w0⟩ := h 0 _ _ rfl rfl
    obtain ⟨to, rfl, w1⟩ := h 1 _ _ rfl rfl
    obtain ⟨i, rfl, w2⟩ := h 2 _ _ rfl rfl
    obtain ⟨s, rfl, w3⟩ := h 3 _ _ rfl rfl
    obtain ⟨a, rfl, w4⟩ := h 4 _ _ rfl rfl
    obtain ⟨b, rfl, w5⟩ := h 5 _ _ rfl rfl
    have hb := wf_u8 w5
    obtain ⟨b, rfl⟩ := Int.eq_ofNat_of_zero_le (show 0 ≤ b by omega)
    exact ⟨⟨k, to, i, s, a, b⟩, rfl, wf_i64 w0, wf_i64 w1, wf_i64 w2, w3, by simp; omega⟩
def acts6 (L : List Act6) : List Value := L.flatMap Act6.vals
theorem acts6_len (L : List Act6) : (acts6 L).length = L.length * 6 := by
  induction L with
  | nil => rfl
  | cons c L ih => simp only [acts6, List.flatMap_cons, List.length_cons] at ih ⊢; rw [List.length_append, ih, Nat.succ_mul, Nat.add_comm]; rfl
theorem acts6_at (L : List Act6) (i : Nat) (h : i < L.length) (j : Nat) (hj : j < 6) : (acts6 L)[i * 6 + j]? = L[i].vals[j]? := by
  induction L generalizing i with
  | nil => exact absurd h (Nat.not_lt_zero _)
  | cons c L ih =>
    simp only [acts6, List.flatMap_cons] at ih ⊢
    cases i with
    | zero => rw [List.getElem?_append_left (by simp [Act6.vals]; omega)]; simp
    | succ i =>
      rw [List.getElem?_append_right (by simp [Act6.vals, Nat.succ_mul]; omega), show (i + 1) * 6 + j - c.vals.length = i * 6 + j by simp [Act6.vals, Nat.succ_mul]; omega]
      exact ih i (by simpa using h)
theorem acts6_of {w : World} : ∀ (n : Nat) (xs : List Value), xs.length = n * 6 → (∀ i, i < n → LeavesAre w [.int .i64, .int .i64, .int .i64, .str, .int .i64, .int .u8] ((xs.drop (i * 6)).take 6)) → ∃ L : List Act6, L.length = n ∧ xs = acts6 L ∧ ∀ c ∈ L, c.wf
  | 0, xs, h, _ => ⟨[], rfl, List.eq_nil_of_length_eq_zero (by simpa using h), fun _ h => by cases h⟩
  | n + 1, xs, h, hl => by
    obtain ⟨c, hc, hw⟩ := act6_of (hl 0 (by omega))
    obtain ⟨L, h1, h2, h3⟩ := acts6_of n (xs.drop 6) (by simp [h, Nat.succ_mul]) (fun i hi => by
      have := hl (i + 1) (by omega)
      rwa [Nat.succ_mul, Nat.add_comm, ← List.drop_drop] at this)
    refine ⟨c :: L, by simp [h1], ?_, fun d hd => ?_⟩
    · rw [← List.take_append_drop 6 xs, h2]
      simp only [Nat.zero_mul, List.drop_zero] at hc
      rw [hc]
      rfl
    · cases hd with
      | head => exact hw
      | tail _ hd => exact h3 d hd
end Go.Proofs.Ytdgbmnefpempaaa
