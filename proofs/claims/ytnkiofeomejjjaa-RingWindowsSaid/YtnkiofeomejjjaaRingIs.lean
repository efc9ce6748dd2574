/- The methods of a ring that holds a list. -/
import Derived.Test.YtnkiofeomejjjaaRing2
namespace Go.Proofs.Ytnkiofeomejjjaa
open Go.RowKit
/-- the ring in block r, its array in block B, has room for so many, and holds L -/
def IsRing (w : World) (r B size : Nat) (L : List Int) : Prop := ∃ A first, RingAt w r B size A first L.length ∧ Holds A first size L
variable {w : World} {r B size : Nat} {L : List Int}
theorem IsRing.keeps {w' : World} {S : Nat → Prop} (h : IsRing w r B size L) (hk : Keeps S w w') (hr : ¬ S r) (hB : ¬ S B) : IsRing w' r B size L := by
  obtain ⟨A, f, h1, h2⟩ := h
  exact ⟨A, f, h1.keeps hk hr hB, h2⟩
theorem IsRing.le (h : IsRing w r B size L) : L.length ≤ size ∧ 1 ≤ size ∧ size ≤ 4096 ∧ r < w.heap.size ∧ B < w.heap.size ∧ r ≠ B := by
  obtain ⟨A, f, h1, h2⟩ := h
  exact ⟨h1.cnt, h1.pos, h1.most, blk_lt h1.head, blk_lt h1.body, h1.ne⟩
theorem is_Len (h : IsRing w r B size L) : Calls Try.prog 15 #[.pointer (some ⟨r, 0, none⟩)] w fun e w' => e = .returned (.int .i64 L.length) ∧ w = w' := by
  obtain ⟨A, f, h1, h2⟩ := h
  exact ring_Len h1
theorem is_Room (h : IsRing w r B size L) : Calls Try.prog 16 #[.pointer (some ⟨r, 0, none⟩)] w fun e w' => e = .returned (.int .i64 ((size - L.length : Nat) : Int)) ∧ ∃ m, w' = w.drewN m := by
  obtain ⟨A, f, h1, h2⟩ := h
  exact ring_Room h1
theorem is_At (h : IsRing w r B size L) (i : Nat) (x : Int) (hx : x = i) (v : Int) (hv : L[i]? = some v) :
    Calls Try.prog 17 #[.pointer (some ⟨r, 0, none⟩), .int .i64 x] w fun e w' => e = .returned (.tuple #[(Value.int .i64 v), .bool true]) ∧ ∃ m, w' = w.drewN m := by
  obtain ⟨A, f, h1, h2⟩ := h
  have hi := (List.getElem?_eq_some_iff.1 hv).1
  exact ring_At h1 i _ x hx hi rfl v ((h2 i hi).trans hv)
theorem is_At_no (h : IsRing w r B size L) (x : Int) (hx : x < 0 ∨ (L.length : Int) ≤ x) :
    Calls Try.prog 17 #[.pointer (some ⟨r, 0, none⟩), .int .i64 x] w fun e w' => e = .returned (.tuple #[(Value.int .i64 0), .bool false]) ∧ w = w' := by
  obtain ⟨A, f, h1, h2⟩ := h
  exact ring_At_no h1 x hx
theorem is_Last (h : IsRing w r B size L) (v : Int) (hv : L[L.length - 1]? = some v) (hn : 0 < L.length) :
    Calls Try.prog 18 #[.pointer (some ⟨r, 0, none⟩)] w fun e w' => e = .returned (.tuple #[(Value.int .i64 v), .bool true]) ∧ ∃ m, w' = w.drewN m := by
  obtain ⟨A, f, h1, h2⟩ := h
  exact ring_Last h1 h2 hn v hv
theorem is_Last_none (h : IsRing w r B size ([] : List Int)) :
    Calls Try.prog 18 #[.pointer (some ⟨r, 0, none⟩)] w fun e w' => e = .returned (.tuple #[(Value.int .i64 0), .bool false]) ∧ w = w' := by
  obtain ⟨A, f, h1, h2⟩ := h
  exact ring_Last_none h1
theorem is_Push (h : IsRing w r B size L) (hn : L.length < size) (v : Int) :
    Calls Try.prog 9 #[.pointer (some ⟨r, 0, none⟩), (Value.int .i64 v)] w fun e w' => e = .returned (.int .i64 0) ∧ IsRing w' r B size (L ++ [v]) ∧ Keeps (fun b => b = r ∨ b = B) w w' := by
  obtain ⟨A, f, h1, h2⟩ := h
  refine (ring_Push h1 hn _ rfl v).mono ?_
  rintro e w' ⟨rfl, h3, h4⟩
  exact ⟨rfl, ⟨_, f, by simpa using h3, h2.push h1.fst h1.alen hn v⟩, h4⟩
theorem is_Push_full (h : IsRing w r B size L) (hn : L.length = size) (v : Int) :
    Calls Try.prog 9 #[.pointer (some ⟨r, 0, none⟩), (Value.int .i64 v)] w fun e w' => e = .returned (.int .i64 8) ∧ IsRing w' r B size L ∧ Keeps (fun b => b = r ∨ b = B) w w' := by
  obtain ⟨A, f, h1, h2⟩ := h
  refine (ring_Push_full h1 hn v).mono ?_
  rintro e w' ⟨rfl, m, rfl⟩
  exact ⟨rfl, ⟨_, f, h1.drew m, h2⟩, (Keeps.refl _ w).drewN m⟩
theorem is_Pop {v : Int} (h : IsRing w r B size (v :: L)) :
    Calls Try.prog 10 #[.pointer (some ⟨r, 0, none⟩)] w fun e w' => e = .returned (.tuple #[(Value.int .i64 v), .bool true]) ∧ IsRing w' r B size L ∧ Keeps (fun b => b = r ∨ b = B) w w' := by
  obtain ⟨A, f, h1, h2⟩ := h
  have h0 := h2 0 (by simp)
  rw [Nat.add_zero, Nat.mod_eq_of_lt h1.fst] at h0
  refine (ring_Pop h1 (by simp) _ rfl v (by simpa using h0)).mono ?_
  rintro e w' ⟨rfl, h3, h4⟩
  exact ⟨rfl, ⟨_, _, by simpa using h3, h2.pop h1.fst h1.cnt (by simp) _⟩, h4⟩
theorem is_Pop_none (h : IsRing w r B size ([] : List Int)) :
    Calls Try.prog 10 #[.pointer (some ⟨r, 0, none⟩)] w fun e w' => e = .returned (.tuple #[(Value.int .i64 0), .bool false]) ∧ w = w' := by
  obtain ⟨A, f, h1, h2⟩ := h
  exact ring_Pop_none h1
theorem is_Take (h : IsRing w r B size L) (i : Nat) (x : Int) (hx : x = i) (v : Int) (hv : L[i]? = some v) :
    Calls Try.prog 29 #[.pointer (some ⟨r, 0, none⟩), .int .i64 x] w fun e w' => e = .returned (.tuple #[(Value.int .i64 v), .bool true]) ∧ IsRing w' r B size (L.eraseIdx i) ∧ Keeps (fun b => b = r ∨ b = B) w w' := by
  obtain ⟨A, f, h1, h2⟩ := h
  have hi := (List.getElem?_eq_some_iff.1 hv).1
  refine (ring_Take h1 h2 i x hx hi v hv).mono ?_
  rintro e w' ⟨rfl, hk, A', h3, h4⟩
  exact ⟨rfl, ⟨A', f, by rw [List.length_eraseIdx_of_lt hi]; exact h3, h4⟩, hk⟩
theorem is_Take_no (h : IsRing w r B size L) (x : Int) (hx : x < 0 ∨ (L.length : Int) ≤ x) :
    Calls Try.prog 29 #[.pointer (some ⟨r, 0, none⟩), .int .i64 x] w fun e w' => e = .returned (.tuple #[(Value.int .i64 0), .bool false]) ∧ w = w' := by
  obtain ⟨A, f, h1, h2⟩ := h
  exact ring_Take_no h1 x hx
theorem is_List (h : IsRing w r B size L) :
    Calls Try.prog 12 #[.pointer (some ⟨r, 0, none⟩)] w fun e w' => ∃ a cap, e = .returned (.slice a L.length cap) ∧ Vals w' 1 a L.length cap (L.map fun x => (Value.int .i64 x)) ∧ (∀ x, a = some x → w.heap.size ≤ x.block) ∧ Below w.heap.size w w' := by
  obtain ⟨A, f, h1, h2⟩ := h
  exact ring_List h1 h2
theorem is_New (size : Nat) (h1 : 1 ≤ size) (h2 : size ≤ 4096) (w : World) :
    Calls Try.prog 8 #[.int .i64 size] w fun e w' => e = .returned (.tuple #[.pointer (some ⟨w.heap.size + 1, 0, none⟩), .int .i64 0]) ∧ IsRing w' (w.heap.size + 1) w.heap.size size ([] : List Int) ∧ Below w.heap.size w w' := by
  refine (ring_New size h1 h2 w).mono ?_
  rintro e w' ⟨rfl, h3, h4⟩
  exact ⟨rfl, ⟨_, 0, h3, fun t ht => absurd ht (Nat.not_lt_zero _)⟩, h4⟩
theorem is_New2 (size : Nat) (h1 : 1 ≤ size) (h2 : size ≤ 4096) (w : World) :
    Calls Try.prog 8 #[.int .i64 size] w fun e w' => e = .returned (.tuple #[.pointer (some ⟨w.heap.size + 1, 0, none⟩), .int .i64 0]) ∧ IsRing w' (w.heap.size + 1) w.heap.size size ([] : List Int) ∧ Below w.heap.size w w' ∧ w'.heap.size = w.heap.size + 2 := by
  refine (ring_New2 size h1 h2 w).mono ?_
  rintro e w' ⟨rfl, h3, h4⟩
  exact ⟨rfl, ⟨_, 0, h3, fun t ht => absurd ht (Nat.not_lt_zero _)⟩, h4⟩
end Go.Proofs.Ytnkiofeomejjjaa
