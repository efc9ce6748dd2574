/- Plain facts on windows: lists of frames and their things, in order. -/
import Derived.Test.YtdgbmnefpempaaaRingM
namespace Go.Proofs.Ytdgbmnefpempaaa
section
variable {α : Type}
def lookL : List (Nat × α) → Nat → Option α
  | [], _ => none
  | (g, y) :: r, f => if g = f then some y else lookL r f
def Asc (L : List (Nat × α)) : Prop := L.Pairwise fun p q => p.1 < q.1
def putL : List (Nat × α) → Nat → α → List (Nat × α)
  | [], f, x => [(f, x)]
  | (g, y) :: r, f, x => if f ≤ g then (f, x) :: ((g, y) :: r).filter (fun p => p.1 != f) else (g, y) :: putL r f x
theorem lookL_filter (L : List (Nat × α)) (p : Nat → Bool) (f : Nat) : lookL (L.filter fun q => p q.1) f = if p f then lookL L f else none := by
  induction L with
  | nil => simp [lookL]
  | cons c r ih =>
    obtain ⟨g, y⟩ := c
    by_cases hp : p g
    · rw [List.filter_cons_of_pos (by simpa using hp)]
      simp only [lookL]
      by_cases e : g = f
      · subst e; simp [hp]
      · rw [if_neg e, if_neg e, ih]
    · rw [List.filter_cons_of_neg (by simpa using hp), ih]
      simp only [lookL]
      by_cases e : g = f
      · subst e; simp [hp]
      · rw [if_neg e]
theorem lookL_put (L : List (Nat × α)) (f : Nat) (x : α) (f' : Nat) : lookL (putL L f x) f' = if f' = f then some x else lookL L f' := by
  induction L with
  | nil =>
    simp only [putL, lookL]
    by_cases e : f = f'
    · subst e; simp
    · rw [if_neg e, if_neg (Ne.symm e)]
  | cons c r ih =>
    obtain ⟨g, y⟩ := c
    simp only [putL]
    split
    · rename_i h
      have h1 := lookL_filter ((g, y) :: r) (fun n => n != f) f'
      simp only [lookL] at h1 ⊢
      by_cases e : f = f'
      · subst e; simp
      · rw [if_neg e, if_neg (Ne.symm e), h1, if_pos (by simpa using Ne.symm e)]
    · rename_i h
      simp only [lookL]
      by_cases e : g = f'
      · rw [if_pos e, if_pos e, if_neg (by omega)]
      · rw [if_neg e, if_neg e, ih]
theorem mem_put {L : List (Nat × α)} {f : Nat} {x : α} {p : Nat × α} (h : p ∈ putL L f x) : p = (f, x) ∨ p ∈ L := by
  induction L with
  | nil => exact .inl (by simpa [putL] using h)
  | cons c r ih =>
    obtain ⟨g, y⟩ := c
    simp only [putL] at h
    split at h
    · rcases List.mem_cons.1 h with h | h
      · exact .inl h
      · exact .inr (List.mem_filter.1 h).1
    · rcases List.mem_cons.1 h with h | h
      · exact .inr (by rw [h]; simp)
      · rcases ih h with h | h
        · exact .inl h
        · exact .inr (by simp [h])
theorem asc_put {L : List (Nat × α)} (h : Asc L) (f : Nat) (x : α) : Asc (putL L f x) := by
  induction L with
  | nil => simp [putL, Asc]
  | cons c r ih =>
    obtain ⟨g, y⟩ := c
    have hc := List.pairwise_cons.1 h
    simp only [putL]
    split
    · rename_i hle
      refine List.pairwise_cons.2 ⟨fun p hp => ?_, h.filter _⟩
      obtain ⟨h1, h2⟩ := List.mem_filter.1 hp
      have h3 : p.1 ≠ f := by simpa using h2
      rcases List.mem_cons.1 h1 with h1 | h1
      · rw [h1] at h3 ⊢; simp at h3 ⊢; omega
      · have := hc.1 p h1; simp at this ⊢; omega
    · rename_i hle
      refine List.pairwise_cons.2 ⟨fun p hp => ?_, ih hc.2⟩
      rcases mem_put hp with h1 | h1
      · rw [h1]; simp; omega
      · exact hc.1 p h1
theorem asc_filter {L : List (Nat × α)} (h : Asc L) (p : Nat × α → Bool) : Asc (L.filter p) := h.filter _
theorem lookL_mem {L : List (Nat × α)} {f : Nat} {x : α} (h : lookL L f = some x) : (f, x) ∈ L := by
  induction L with
  | nil => cases h
  | cons c r ih =>
    obtain ⟨g, y⟩ := c
    simp only [lookL] at h
    split at h
    · rename_i e; subst e; cases h; simp
    · simp [ih h]
theorem mem_lookL {L : List (Nat × α)} (ha : Asc L) {f : Nat} {x : α} (h : (f, x) ∈ L) : lookL L f = some x := by
  induction L with
  | nil => cases h
  | cons c r ih =>
    obtain ⟨g, y⟩ := c
    have hc := List.pairwise_cons.1 ha
    simp only [lookL]
    rcases List.mem_cons.1 h with h | h
    · cases h; rw [if_pos rfl]
    · have := hc.1 _ h
      simp at this
      rw [if_neg (by omega)]
      exact ih hc.2 h
/-- the frames in a window of which there is a thing, told one by one, are those of the list -/
theorem frames_of {L : List (Nat × α)} (ha : Asc L) (first size : Nat) (hin : ∀ p ∈ L, first ≤ p.1 ∧ p.1 < first + size) :
    ((List.range size).map (first + ·)).filter (fun f => (lookL L f).isSome) = L.map (·.1) := by
  have key : ∀ (l1 l2 : List Nat), l1.Pairwise (· < ·) → l2.Pairwise (· < ·) → (∀ n, n ∈ l1 ↔ n ∈ l2) → l1 = l2 := by
    intro l1
    induction l1 with
    | nil =>
      intro l2 _ _ h
      cases l2 with
      | nil => rfl
      | cons b r => have := (h b).2 (by simp); cases this
    | cons a r ih =>
      intro l2 h1 h2 h
      cases l2 with
      | nil => have := (h a).1 (by simp); cases this
      | cons b s =>
        have c1 := List.pairwise_cons.1 h1
        have c2 := List.pairwise_cons.1 h2
        have hab : a = b := by
          rcases List.mem_cons.1 ((h a).1 (by simp)) with e | e
          · exact e
          · rcases List.mem_cons.1 ((h b).2 (by simp)) with e2 | e2
            · exact e2.symm
            · have := c1.1 b e2; have := c2.1 a e; omega
        subst hab
        rw [ih s c1.2 c2.2 (fun n => ⟨fun hn => by
          rcases List.mem_cons.1 ((h n).1 (by simp [hn])) with e | e
          · have := c1.1 n hn; omega
          · exact e, fun hn => by
          rcases List.mem_cons.1 ((h n).2 (by simp [hn])) with e | e
          · have := c2.1 n hn; omega
          · exact e⟩)]
  refine key _ _ (List.Pairwise.filter _ ?_) ?_ fun n => ?_
  · rw [List.pairwise_map]
    exact (List.pairwise_lt_range).imp (fun h => by omega)
  · rw [List.pairwise_map]; exact ha
  · rw [List.mem_filter, List.mem_map, List.mem_map]
    constructor
    · rintro ⟨_, h⟩
      obtain ⟨x, hx⟩ := Option.isSome_iff_exists.1 h
      exact ⟨(n, x), lookL_mem hx, rfl⟩
    · rintro ⟨⟨f, x⟩, hp, rfl⟩
      have h1 := hin _ hp
      exact ⟨⟨f - first, by simp; simp at h1; omega, by simp at h1 ⊢; omega⟩, by simp [mem_lookL ha hp]⟩
end
end Go.Proofs.Ytdgbmnefpempaaa
