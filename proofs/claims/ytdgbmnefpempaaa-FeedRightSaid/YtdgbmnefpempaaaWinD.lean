/- Plain facts: which slots a window's list of frames asks for; what putting, dropping and moving do to them. -/
import Derived.Test.YtdgbmnefpempaaaWin5
namespace Go.Proofs.Ytdgbmnefpempaaa
open Go.RowKit
/-- the slots S of a window from first on hold the things L -/
structure Slots (S : List (Int × Bool)) (size first : Nat) (L : List (Nat × Int)) : Prop where
  slen : S.length = size
  pos : 0 < size
  asc : Asc L
  isin : ∀ p ∈ L, first ≤ p.1 ∧ p.1 < first + size ∧ p.1 ≤ 1073741824
  some' : ∀ f x, lookL L f = some x → S[f % size]? = some (x, true)
  none' : ∀ f, first ≤ f → f < first + size → f ≤ 1073741824 → lookL L f = none → ∃ y, S[f % size]? = some (y, false)
def dropS (S : List (Int × Bool)) (size : Nat) (fs : List Nat) : List (Int × Bool) := fs.foldl (fun S f => S.set (f % size) (0, false)) S
theorem dropS_len (S : List (Int × Bool)) (size : Nat) (fs : List Nat) : (dropS S size fs).length = S.length := by
  unfold dropS
  induction fs generalizing S with
  | nil => rfl
  | cons f fs ih => rw [List.foldl_cons, ih]; simp
theorem dropS_snoc (S : List (Int × Bool)) (size : Nat) (fs : List Nat) (f : Nat) : dropS S size (fs ++ [f]) = (dropS S size fs).set (f % size) (0, false) := by
  unfold dropS
  rw [List.foldl_append]
  rfl
theorem mod_apart {size first a b : Nat} (ha : first ≤ a ∧ a < first + size) (hb : first ≤ b ∧ b < first + size) (h : a % size = b % size) : a = b := by
  have h1 := Nat.div_add_mod a size
  have h2 := Nat.div_add_mod b size
  rw [h] at h1
  rcases Nat.lt_trichotomy (a / size) (b / size) with c | c | c
  · have := Nat.mul_le_mul_left size c
    rw [Nat.mul_succ] at this
    omega
  · rw [c] at h1; omega
  · have := Nat.mul_le_mul_left size c
    rw [Nat.mul_succ] at this
    omega
theorem dropS_at (S : List (Int × Bool)) (size first : Nat) (fs : List Nat) (hs : S.length = size) (hf : ∀ f ∈ fs, first ≤ f ∧ f < first + size) (g : Nat) (hg : first ≤ g ∧ g < first + size) :
    (dropS S size fs)[g % size]? = if g ∈ fs then some (0, false) else S[g % size]? := by
  have hp : 0 < size := by omega
  induction fs generalizing S with
  | nil => rfl
  | cons f fs ih =>
    have e : dropS S size (f :: fs) = dropS (S.set (f % size) (0, false)) size fs := rfl
    rw [e, ih _ (by simpa using hs) (fun x hx => hf x (by simp [hx]))]
    have hf0 := hf f (by simp)
    by_cases h1 : g ∈ fs
    · rw [if_pos h1, if_pos (by simp [h1])]
    · rw [if_neg h1]
      by_cases h2 : g = f
      · subst h2
        rw [if_pos (by simp), List.getElem?_set_self (by rw [hs]; exact Nat.mod_lt _ hp)]
      · rw [if_neg (by simp [h1, h2]), List.getElem?_set_ne (fun h => h2 (mod_apart hg hf0 h.symm))]
theorem lookL_none {α : Type} {L : List (Nat × α)} {f : Nat} (h : ∀ p ∈ L, p.1 ≠ f) : lookL L f = none := by
  rcases hl : lookL L f with _ | x
  · rfl
  · exact absurd rfl (h _ (lookL_mem hl))
namespace Slots
variable {S : List (Int × Bool)} {size first : Nat} {L : List (Nat × Int)}
theorem put (h : Slots S size first L) (f : Nat) (x : Int) (hf : first ≤ f ∧ f < first + size ∧ f ≤ 1073741824) : Slots (S.set (f % size) (x, true)) size first (putL L f x) where
  slen := by simpa using h.slen
  pos := h.pos
  asc := asc_put h.asc f x
  isin p hp := by
    rcases mem_put hp with rfl | hp
    · exact hf
    · exact h.isin p hp
  some' g y hg := by
    rw [lookL_put] at hg
    split at hg
    · rename_i e; subst e; cases hg
      rw [List.getElem?_set_self (by rw [h.slen]; exact Nat.mod_lt _ h.pos)]
    · rename_i e
      have hi := h.isin _ (lookL_mem hg)
      rw [List.getElem?_set_ne (fun c => e (mod_apart (first := first) ⟨hi.1, hi.2.1⟩ ⟨hf.1, hf.2.1⟩ c.symm))]
      exact h.some' g y hg
  none' g h1 h2 h3 hg := by
    rw [lookL_put] at hg
    split at hg
    · cases hg
    · rename_i e
      rw [List.getElem?_set_ne (fun c => e (mod_apart (first := first) ⟨h1, h2⟩ ⟨hf.1, hf.2.1⟩ c.symm))]
      exact h.none' g h1 h2 h3 hg
theorem has (h : Slots S size first L) (f : Nat) (h1 : first ≤ f) (h2 : f < first + size) : hasW S size f = (lookL L f).isSome := by
  unfold hasW
  by_cases h3 : f ≤ 1073741824
  · rcases hl : lookL L f with _ | x
    · obtain ⟨y, hy⟩ := h.none' f h1 h2 h3 hl
      rw [hy]; simp
    · rw [h.some' f x hl]; simp [h3]
  · rw [lookL_none (L := L) (f := f) (fun p hp e => h3 (by have := (h.isin p hp).2.2; omega))]; simp [h3]
theorem frames (h : Slots S size first L) (fr : Int) : framesW S size first fr size = (L.map (·.1)).filter fun f : Nat => decide (fr ≤ (f : Int)) := by
  rw [← frames_of h.asc first size (fun p hp => ⟨(h.isin p hp).1, (h.isin p hp).2.1⟩)]
  unfold framesW
  rw [List.filter_filter]
  refine List.filter_congr fun f hf => ?_
  obtain ⟨i, hi, rfl⟩ := List.mem_map.1 hf
  have hi := List.mem_range.1 hi
  rw [h.has (first + i) (by omega) (by omega)]
theorem drop (h : Slots S size first L) (p : Nat → Bool) : Slots (dropS S size ((L.map (·.1)).filter p)) size first (L.filter fun q => !p q.1) := by
  have hin : ∀ f ∈ (L.map (·.1)).filter p, first ≤ f ∧ f < first + size := fun f hf => by
    obtain ⟨q, hq, rfl⟩ := List.mem_map.1 (List.mem_filter.1 hf).1
    exact ⟨(h.isin q hq).1, (h.isin q hq).2.1⟩
  have hmem : ∀ f, f ∈ (L.map (·.1)).filter p ↔ (lookL L f).isSome = true ∧ p f = true := fun f => by
    rw [List.mem_filter, List.mem_map]
    constructor
    · rintro ⟨⟨q, hq, rfl⟩, hp⟩
      exact ⟨by rw [mem_lookL h.asc (x := q.2) hq]; rfl, hp⟩
    · rintro ⟨hs, hp⟩
      obtain ⟨x, hx⟩ := Option.isSome_iff_exists.1 hs
      exact ⟨⟨_, lookL_mem hx, rfl⟩, hp⟩
  refine ⟨by rw [dropS_len, h.slen], h.pos, asc_filter h.asc _, fun q hq => h.isin q (List.mem_filter.1 hq).1, fun f x hf => ?_, fun f h1 h2 h3 hf => ?_⟩
  · rw [lookL_filter (p := fun n => !p n)] at hf
    split at hf
    · rename_i hp
      have hi := h.isin _ (lookL_mem hf)
      rw [dropS_at S size first _ h.slen hin f ⟨hi.1, hi.2.1⟩, if_neg (fun c => by have := ((hmem f).1 c).2; simp [this] at hp)]
      exact h.some' f x hf
    · cases hf
  · rw [dropS_at S size first _ h.slen hin f ⟨h1, h2⟩]
    split
    · exact ⟨_, rfl⟩
    · rename_i hn
      rw [lookL_filter (p := fun n => !p n)] at hf
      split at hf
      · exact h.none' f h1 h2 h3 hf
      · rename_i hp
        rcases hl : lookL L f with _ | x
        · exact h.none' f h1 h2 h3 hl
        · exact absurd ((hmem f).2 ⟨by rw [hl]; rfl, by simpa using hp⟩) hn
theorem move (h : Slots S size first L) (n : Nat) (hn : first ≤ n) (hL : ∀ p ∈ L, n ≤ p.1) : Slots S size n L where
  slen := h.slen
  pos := h.pos
  asc := h.asc
  isin p hp := ⟨hL p hp, by have := h.isin p hp; omega, (h.isin p hp).2.2⟩
  some' := h.some'
  none' f h1 h2 h3 hf := by
    by_cases hlt : f < first + size
    · exact h.none' f (by omega) hlt h3 hf
    · have hp := h.pos
      have e := Nat.div_add_mod (f - first) size
      have hm := Nat.mod_lt (f - first) hp
      generalize hr : (f - first) % size = rr at *
      generalize (f - first) / size = d at *
      have hd : 0 < d := by
        rcases Nat.eq_zero_or_pos d with hd | hd
        · subst hd; rw [Nat.mul_zero] at e; omega
        · exact hd
      have hge : size * 1 ≤ size * d := Nat.mul_le_mul_left size hd
      rw [Nat.mul_one] at hge
      have hf0 : f = first + rr + size * d := by omega
      have hmod : f % size = (first + rr) % size := by rw [hf0, Nat.add_mul_mod_self_left]
      rw [hmod]
      refine h.none' (first + rr) (by omega) (by omega) (by omega) (lookL_none fun p hp' e' => ?_)
      have := hL p hp'
      omega
end Slots
end Go.Proofs.Ytdgbmnefpempaaa
