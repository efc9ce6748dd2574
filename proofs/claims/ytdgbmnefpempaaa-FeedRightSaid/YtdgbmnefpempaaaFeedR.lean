/- What holds of a feed whatever is done; the law on taking anew from the first wrong frame on. -/
import Derived.Test.YtdgbmnefpempaaaFeed2
import Derived.Test.YtdgbmnefpempaaaOpen
namespace Go.Proofs.Ytdgbmnefpempaaa
open Go.RowKit
structure FAct where
  kind : Int
  n : Int
  x : Int
def FAct.wf (c : FAct) : Prop := (Lit.int .i64 c.kind).wf = true ∧ (Lit.int .i64 c.n).wf = true ∧ (Lit.int .u8 c.x).wf = true
def facts (L : List FAct) : List Value := L.flatMap fun c => [.int .i64 c.kind, .int .i64 c.n, .int .u8 c.x]
theorem facts_at (L : List FAct) (i : Nat) (h : i < L.length) : (facts L)[i * 3]? = some (.int .i64 L[i].kind) ∧ (facts L)[i * 3 + 1]? = some (.int .i64 L[i].n) ∧ (facts L)[i * 3 + 2]? = some (.int .u8 L[i].x) := by
  induction L generalizing i with
  | nil => exact absurd h (Nat.not_lt_zero _)
  | cons c L ih =>
    simp only [facts, List.flatMap_cons] at ih ⊢
    cases i with
    | zero => simp
    | succ i =>
      have := ih i (by simpa using h)
      simp only [Nat.succ_mul, List.getElem_cons_succ, List.cons_append, List.nil_append]
      exact this
theorem facts_of {w : World} : ∀ (n : Nat) (xs : List Value), xs.length = n * 3 → (∀ i, i < n → LeavesAre w [.int .i64, .int .i64, .int .u8] ((xs.drop (i * 3)).take 3)) → ∃ L : List FAct, L.length = n ∧ xs = facts L ∧ ∀ c ∈ L, c.wf
  | 0, xs, h, _ => ⟨[], rfl, List.eq_nil_of_length_eq_zero (by simpa using h), fun _ h => by cases h⟩
  | n + 1, xs, h, hl => by
    obtain ⟨a, b, c, r, rfl⟩ : ∃ a b c r, xs = a :: b :: c :: r := by
      match xs, h with
      | a :: b :: c :: r, _ => exact ⟨a, b, c, r, rfl⟩
      | [_, _], h => simp at h; omega
      | [_], h => simp at h; omega
      | [], h => simp at h
    obtain ⟨L, h1, h2, h3⟩ := facts_of n r (by simp at h; omega) (fun i hi => by
      have := hl (i + 1) (by omega)
      rwa [Nat.succ_mul, show i * 3 + 3 = 3 + i * 3 by omega, ← List.drop_drop] at this)
    have h0 := hl 0 (by omega)
    obtain ⟨ka, rfl, wa⟩ := h0.2 0 _ a rfl rfl
    obtain ⟨kb, rfl, wb⟩ := h0.2 1 _ b rfl rfl
    obtain ⟨kc, rfl, wc⟩ := h0.2 2 _ c rfl rfl
    exact ⟨⟨ka, kb, kc⟩ :: L, by simp [h1], by rw [h2]; rfl, fun c hc => by
      rcases List.mem_cons.1 hc with rfl | hc
      · exact ⟨wa, wb, wc⟩
      · exact h3 c hc⟩
/-- all frames from the first kept one up to the next one are known, and no others -/
structure Inv (first next : Nat) (K : List (Nat × Int)) : Prop where
  le : first ≤ next
  all : ∀ f, first ≤ f → f < next → ∃ x, lookL K f = some x ∧ x ≤ 63
  lt : ∀ f x, lookL K f = some x → first ≤ f ∧ f < next
theorem Inv.put {first next : Nat} {K : List (Nat × Int)} (h : Inv first next K) (x : Int) (hx : x ≤ 63) : Inv first (next + 1) (putL K next x) where
  le := Nat.le_succ_of_le h.le
  all f h1 h2 := by
    rw [lookL_put]
    by_cases e : f = next
    · rw [if_pos e]; exact ⟨x, rfl, hx⟩
    · rw [if_neg e]; exact h.all f h1 (by omega)
  lt f y hy := by
    rw [lookL_put] at hy
    split at hy
    · rename_i e; have := h.le; omega
    · have := h.lt f y hy; omega
theorem Inv.cut {first next : Nat} {K : List (Nat × Int)} (h : Inv first next K) (n : Nat) (h1 : first ≤ n) (h2 : n ≤ next) : Inv n next (cutL n K) where
  le := h2
  all f h3 h4 := by
    unfold cutL
    rw [lookL_filter (p := fun m => !decide (m < n)), if_pos (by simp; omega)]
    exact h.all f (by omega) h4
  lt f y hy := by
    unfold cutL at hy
    rw [lookL_filter (p := fun m => !decide (m < n))] at hy
    split at hy
    · rename_i e
      have := h.lt f y hy
      simp at e
      omega
    · cases hy
/-- below j what was used is what is known -/
def Clean (j : Nat) (K U : List (Nat × Int)) : Prop := ∀ g y x, g < j → lookL U g = some y → lookL K g = some x → x = y
theorem wrong_some {K : List (Nat × Int)} : ∀ {U : List (Nat × Int)}, Asc U → ∀ {n : Nat}, wrongL K U = some n → Clean n K U ∧ ∃ x, lookL K n = some x
  | [], _, n, h => by cases h
  | (g, y) :: r, ha, n, h => by
    have hc := List.pairwise_cons.1 ha
    have hgn : ∀ m, wrongL K r = some m → g < m := fun m hm => by
      have : ∀ (r : List (Nat × Int)), wrongL K r = some m → ∃ p ∈ r, p.1 = m := by
        intro r
        induction r with
        | nil => intro h; cases h
        | cons p r ih =>
          intro h
          obtain ⟨a, b⟩ := p
          simp only [wrongL] at h
          cases hl : lookL K a with
          | none =>
            rw [hl] at h
            obtain ⟨q, hq, e⟩ := ih h
            exact ⟨q, by simp [hq], e⟩
          | some z =>
            rw [hl] at h
            simp only at h
            split at h
            · obtain ⟨q, hq, e⟩ := ih h
              exact ⟨q, by simp [hq], e⟩
            · exact ⟨(a, b), by simp, Option.some.inj h⟩
      obtain ⟨p, hp, e⟩ := this r hm
      have := hc.1 p hp
      simp at this
      omega
    simp only [wrongL] at h
    cases hl : lookL K g with
    | none =>
      rw [hl] at h
      obtain ⟨h1, h2⟩ := wrong_some hc.2 h
      refine ⟨fun f z x hf hz hx => ?_, h2⟩
      simp only [lookL] at hz
      split at hz
      · rename_i e; subst e; rw [hl] at hx; cases hx
      · exact h1 f z x hf hz hx
    | some x =>
      rw [hl] at h
      simp only at h
      split at h
      · rename_i e
        obtain ⟨h1, h2⟩ := wrong_some hc.2 h
        refine ⟨fun f z x' hf hz hx => ?_, h2⟩
        simp only [lookL] at hz
        split at hz
        · rename_i e2; subst e2; rw [hl] at hx; cases hx; cases hz; exact e
        · exact h1 f z x' hf hz hx
      · cases h
        refine ⟨fun f z x' hf hz hx => ?_, x, hl⟩
        simp only [lookL] at hz
        rw [if_neg (by omega)] at hz
        have := hc.1 _ (lookL_mem hz)
        simp at this
        omega
theorem wrong_none {K : List (Nat × Int)} : ∀ {U : List (Nat × Int)}, Asc U → (∀ g y x, lookL U g = some y → lookL K g = some x → x = y) → wrongL K U = none
  | [], _, _ => rfl
  | (g, y) :: r, ha, h => by
    have hc := List.pairwise_cons.1 ha
    have ih := wrong_none hc.2 (fun f z x hz hx => h f z x (by
      simp only [lookL]
      have := hc.1 _ (lookL_mem hz)
      simp at this
      rw [if_neg (by omega)]
      exact hz) hx)
    simp only [wrongL, ih]
    cases hl : lookL K g with
    | none => rfl
    | some x =>
      simp only
      rw [if_pos (h g y x (by simp [lookL]) hl)]
variable {w w' : World} {D m : Nat}
theorem IsWin.asc {r B size first : Nat} {L : List (Nat × Int)} (h : IsWin w r B size first L) : Asc L := by
  obtain ⟨S, _, h⟩ := h
  exact h.asc
theorem IsWin.inwin {r B size first : Nat} {L : List (Nat × Int)} (h : IsWin w r B size first L) : ∀ p ∈ L, first ≤ p.1 ∧ p.1 < first + size := by
  obtain ⟨S, _, h⟩ := h
  exact fun p hp => ⟨(h.isin p hp).1, (h.isin p hp).2.1⟩
def AnyFeed (D m : Nat) (w : World) : Prop := ∃ first next last K U, IsFeed w D first next last K U ∧ Inv first next K ∧ next ≤ m
theorem any_Put (h : AnyFeed D m w) (hm : m ≤ 1000) (x f : Int) (hr : -9223372036854775808 ≤ f ∧ f ≤ 9223372036854775807) :
    Calls Try.prog 21 #[.pointer (some ⟨D + 4, 0, none⟩), .int .i64 f, .int .u8 x] w fun e w' => SomeNum e ∧ AnyFeed D (m + 1) w' ∧ Keeps (fun b => Feeds D b) w w' := by
  obtain ⟨first, next, last, K, U, h, hi, hn⟩ := h
  have hle := hi.le
  by_cases hx : x ≤ 63 ∧ f = next ∧ next < first + 64
  · refine (feed_Put h x hx.1 f hx.2.1 (by omega) ⟨hi.le, hx.2.2⟩).mono ?_
    rintro e w' ⟨rfl, h1, h2⟩
    exact ⟨⟨_, rfl⟩, ⟨_, _, _, _, _, h1, hi.put x hx.1, by omega⟩, h2⟩
  · refine (feed_Put_no h x f hr (by omega)).mono ?_
    rintro e w' ⟨hs, q, rfl⟩
    exact ⟨hs, ⟨_, _, _, _, _, h.drew q, hi, by omega⟩, (Keeps.refl _ w).drewN q⟩
def SomeTwo (e : Ending) : Prop := ∃ (c : Int) (b : Bool), e = .returned (.tuple #[.int .u8 c, .bool b])
theorem any_Take (h : AnyFeed D m w) (f : Int) :
    Calls Try.prog 22 #[.pointer (some ⟨D + 4, 0, none⟩), .int .i64 f] w fun e w' => SomeTwo e ∧ AnyFeed D (m + 1) w' ∧ Keeps (fun b => Feeds D b) w w' := by
  obtain ⟨first, next, last, K, U, h, hi, hn⟩ := h
  by_cases hf : f < first ∨ 1073741824 < f
  · refine (feed_Take_no h f hf).mono ?_
    rintro e w' ⟨rfl, rfl⟩
    exact ⟨⟨_, _, rfl⟩, ⟨_, _, _, _, _, h, hi, by omega⟩, Keeps.refl _ w⟩
  · refine (feed_Take h f.toNat f (by omega) (by omega)).mono ?_
    rintro e w' ⟨rfl, h1, h2⟩
    exact ⟨⟨_, _, rfl⟩, ⟨_, _, _, _, _, h1, hi, by omega⟩, h2⟩
theorem any_Trim (h : AnyFeed D m w) (hm : m ≤ 1000) (f : Int) :
    Calls Try.prog 23 #[.pointer (some ⟨D + 4, 0, none⟩), .int .i64 f] w fun e w' => SomeNum e ∧ AnyFeed D (m + 1) w' ∧ Keeps (fun b => Feeds D b) w w' := by
  obtain ⟨first, next, last, K, U, h, hi, hn⟩ := h
  have hle := hi.le
  by_cases hf : f < first
  · refine (feed_Trim_no h hi.le f hf).mono ?_
    rintro e w' ⟨hs, h1, h2⟩
    exact ⟨hs, ⟨_, _, _, _, _, h1, hi, by omega⟩, h2⟩
  · by_cases h3 : f ≤ next
    · refine (feed_Trim h f.toNat f (by omega) (.inl ⟨by omega, by omega⟩)).mono ?_
      rintro e w' ⟨hs, h1, h2⟩
      exact ⟨hs, ⟨_, _, _, _, _, h1, hi.cut _ (by omega) (by omega), by omega⟩, h2⟩
    · refine (feed_Trim h next f (by omega) (.inr ⟨rfl, by omega⟩)).mono ?_
      rintro e w' ⟨hs, h1, h2⟩
      exact ⟨hs, ⟨_, _, _, _, _, h1, hi.cut _ hi.le (Nat.le_refl _), by omega⟩, h2⟩
end Go.Proofs.Ytdgbmnefpempaaa
