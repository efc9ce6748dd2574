/- What the methods of a cable return, and what they leave in memory. -/
import Derived.Test.YtdgbmnefpempaaaRingIs
import Derived.Test.YtdgbmnefpempaaaRingNil
namespace Go.Proofs.Ytdgbmnefpempaaa
open Go.RowKit
/-- what flies to both ends, and how many were lost -/
structure CS where
  a : List ByteArray
  b : List ByteArray
  lost : Int
def CS.get (s : CS) (to : Int) : List ByteArray := if to = 0 then s.a else s.b
def CS.put (s : CS) (to : Int) (L : List ByteArray) : CS := if to = 0 then { s with a := L } else { s with b := L }
def okTo (to : Int) : Prop := to = 0 ∨ to = 1
instance (to : Int) : Decidable (okTo to) := by unfold okTo; infer_instance
def endR (c : Nat) (to : Int) : Nat := if to = 0 then c + 2 else c + 4
def endB (c : Nat) (to : Int) : Nat := if to = 0 then c + 1 else c + 3
/-- the blocks of a cable -/
def ofCable (c : Nat) (b : Nat) : Prop := c ≤ b ∧ b ≤ c + 4
structure IsCable (w : World) (c most : Nat) (s : CS) : Prop where
  head : w.heap[c]? = some (.cells #[.pointer (some ⟨c + 2, 0, none⟩), .pointer (some ⟨c + 4, 0, none⟩), .int .i64 s.lost] 63 (0, 0))
  ra : IsRing w (c + 2) (c + 1) most s.a
  rb : IsRing w (c + 4) (c + 3) most s.b
theorem IsCable.keeps {w w' : World} {c most : Nat} {s : CS} {S : Nat → Prop} (h : IsCable w c most s) (hk : Keeps S w w') (hs : ∀ b, ofCable c b → ¬ S b) : IsCable w' c most s :=
  ⟨hk.heap h.head (hs c ⟨by omega, by omega⟩), h.ra.keeps hk (hs _ ⟨by omega, by omega⟩) (hs _ ⟨by omega, by omega⟩), h.rb.keeps hk (hs _ ⟨by omega, by omega⟩) (hs _ ⟨by omega, by omega⟩)⟩
section
variable {w w' : World} {c most : Nat} {s : CS}
theorem IsCable.ring (h : IsCable w c most s) (to : Int) : IsRing w (endR c to) (endB c to) most (s.get to) := by
  unfold endR endB CS.get
  split
  · exact h.ra
  · exact h.rb
theorem IsCable.put (h : IsCable w c most s) (to : Int) {L : List ByteArray} (hr : IsRing w' (endR c to) (endB c to) most L) (hk : Keeps (fun b => b = endR c to ∨ b = endB c to) w w') : IsCable w' c most (s.put to L) := by
  unfold endR endB at hr hk
  unfold CS.put
  split
  · rename_i e
    simp only [e, if_true] at hr hk
    exact ⟨hk.heap h.head (by omega), hr, h.rb.keeps hk (by omega) (by omega)⟩
  · rename_i e
    simp only [e, if_false] at hr hk
    exact ⟨hk.heap h.head (by omega), h.ra.keeps hk (by omega) (by omega), hr⟩
theorem end_of (c : Nat) (to : Int) (b : Nat) (h : b = endR c to ∨ b = endB c to) : ofCable c b := by
  unfold endR endB at h
  unfold ofCable
  split at h <;> omega
theorem cable_end (h : IsCable w c most s) (to : Int) (ht : okTo to) :
    Calls Try.prog 30 #[.pointer (some ⟨c, 0, none⟩), .int .i64 to] w fun e w' => e = .returned (.pointer (some ⟨endR c to, 0, none⟩)) ∧ w = w' := by
  have c0 : w.cell? ⟨c, 0, none⟩ = some (.pointer (some ⟨c + 2, 0, none⟩)) := blk_cell h.head rfl
  have c1 : w.cell? ⟨c, 1, none⟩ = some (.pointer (some ⟨c + 4, 0, none⟩)) := blk_cell h.head rfl
  rcases ht with rfl | rfl
  · go_enter Try.func30, Try.ntmps30
    go_wp2
    go_ret
    exact ⟨rfl, rfl⟩
  · go_enter Try.func30, Try.ntmps30
    go_wp2
    go_ret
    exact ⟨rfl, rfl⟩
theorem cable_end_no (c : Nat) (to : Int) (ht : ¬ okTo to) (w : World) :
    Calls Try.prog 30 #[.pointer (some ⟨c, 0, none⟩), .int .i64 to] w fun e w' => e = .returned (.pointer none) ∧ w = w' := by
  unfold okTo at ht
  by_cases h0 : to < 0
  · clear ht
    go_enter Try.func30, Try.ntmps30
    go_wp2
    go_ret
    exact ⟨rfl, rfl⟩
  · have h1 : 2 ≤ to := by omega
    clear ht
    go_enter Try.func30, Try.ntmps30
    go_wp2
    go_ret
    exact ⟨rfl, rfl⟩
theorem cable_end_nil (to : Int) (w : World) :
    Calls Try.prog 30 #[.pointer none, .int .i64 to] w fun e w' => e = .returned (.pointer none) ∧ w = w' := by
  go_enter Try.func30, Try.ntmps30
  go_wp2
  go_ret
  exact ⟨rfl, rfl⟩
/-- the i-th one of those that fly to an end -/
def copyC (s : CS) (to i : Int) : Option ByteArray := if okTo to ∧ 0 ≤ i then (s.get to)[i.toNat]? else none
def takeC (s : CS) (to i : Int) : CS := if okTo to ∧ 0 ≤ i then s.put to ((s.get to).eraseIdx i.toNat) else s
def strV (o : Option ByteArray) : Value := .string (o.getD ByteArray.empty)
theorem CS.put_get (s : CS) (to : Int) : s.put to (s.get to) = s := by unfold CS.put CS.get; split <;> rfl
theorem copyC_no {to i : Int} (ht : okTo to) (h : i < 0 ∨ ((s.get to).length : Int) ≤ i) : copyC s to i = none ∧ takeC s to i = s := by
  unfold copyC takeC
  by_cases h0 : 0 ≤ i
  · have : (s.get to).length ≤ i.toNat := by omega
    rw [if_pos ⟨ht, h0⟩, if_pos ⟨ht, h0⟩, List.eraseIdx_of_length_le this, CS.put_get]
    exact ⟨by simpa using this, rfl⟩
  · rw [if_neg (fun h => h0 h.2), if_neg (fun h => h0 h.2)]
    exact ⟨rfl, rfl⟩
theorem cable_Copy (h : IsCable w c most s) (to i : Int) :
    Calls Try.prog 12 #[.pointer (some ⟨c, 0, none⟩), .int .i64 to, .int .i64 i] w fun e w' => e = .returned (.tuple #[strV (copyC s to i), .bool (copyC s to i).isSome]) ∧ ∃ q, w' = w.drewN q := by
  by_cases ht : okTo to
  · by_cases hi : 0 ≤ i ∧ i < (s.get to).length
    · obtain ⟨k, rfl⟩ := Int.eq_ofNat_of_zero_le hi.1
      have hk : k < (s.get to).length := by omega
      have hcp : copyC s to k = some (s.get to)[k] := by unfold copyC; rw [if_pos ⟨ht, hi.1⟩]; simp [hk]
      rw [hcp]
      have hv := hid (show (s.get to)[k]? = some (s.get to)[k] by simp)
      clear hi hcp
      go_enter Try.func12, Try.ntmps12
      go_wp2_with fail
      refine (cable_end h to ht).mono ?_
      rintro e w' ⟨rfl, rfl⟩
      go_wp2_with fail
      refine (is_At (h.ring to) k _ rfl _ hv.out).mono ?_
      rintro e w' ⟨rfl, q, rfl⟩
      go_wp2
      go_ret2
      exact ⟨rfl, _, rfl⟩
    · have hno : i < 0 ∨ ((s.get to).length : Int) ≤ i := by omega
      rw [(copyC_no ht hno).1]
      clear hi
      go_enter Try.func12, Try.ntmps12
      go_wp2_with fail
      refine (cable_end h to ht).mono ?_
      rintro e w' ⟨rfl, rfl⟩
      go_wp2_with fail
      refine (is_At_no (h.ring to) i hno).mono ?_
      rintro e w' ⟨rfl, rfl⟩
      go_wp2
      go_ret2
      exact ⟨rfl, 0, rfl⟩
  · have hcp : copyC s to i = none := by unfold copyC; rw [if_neg (fun h => ht h.1)]
    rw [hcp]
    clear hcp
    go_enter Try.func12, Try.ntmps12
    go_wp2_with fail
    refine (cable_end_no c to ht w).mono ?_
    rintro e w' ⟨rfl, rfl⟩
    go_wp2_with fail
    refine (nil_At i w).mono ?_
    rintro e w' ⟨rfl, rfl⟩
    go_wp2
    go_ret2
    exact ⟨rfl, 0, rfl⟩
theorem cable_Take (h : IsCable w c most s) (to i : Int) :
    Calls Try.prog 11 #[.pointer (some ⟨c, 0, none⟩), .int .i64 to, .int .i64 i] w fun e w' => e = .returned (.tuple #[strV (copyC s to i), .bool (copyC s to i).isSome]) ∧ IsCable w' c most (takeC s to i) ∧ Keeps (ofCable c) w w' := by
  by_cases ht : okTo to
  · by_cases hi : 0 ≤ i ∧ i < (s.get to).length
    · obtain ⟨k, rfl⟩ := Int.eq_ofNat_of_zero_le hi.1
      have hk : k < (s.get to).length := by omega
      have hcp : copyC s to k = some (s.get to)[k] := by unfold copyC; rw [if_pos ⟨ht, hi.1⟩]; simp [hk]
      have htk : takeC s to k = s.put to ((s.get to).eraseIdx k) := by unfold takeC; rw [if_pos ⟨ht, hi.1⟩]; rfl
      rw [hcp, htk]
      have hv := hid (show (s.get to)[k]? = some (s.get to)[k] by simp)
      clear hi hcp htk
      go_enter Try.func11, Try.ntmps11
      go_wp2_with fail
      refine (cable_end h to ht).mono ?_
      rintro e w' ⟨rfl, rfl⟩
      go_wp2_with fail
      refine (is_Take (h.ring to) k _ rfl _ hv.out).mono ?_
      rintro e w' ⟨rfl, hr, hk⟩
      go_wp2
      go_ret2
      exact ⟨rfl, h.put to hr hk, hk.mono (fun b _ hb => end_of c to b hb)⟩
    · have hno : i < 0 ∨ ((s.get to).length : Int) ≤ i := by omega
      rw [(copyC_no ht hno).1, (copyC_no ht hno).2]
      clear hi
      go_enter Try.func11, Try.ntmps11
      go_wp2_with fail
      refine (cable_end h to ht).mono ?_
      rintro e w' ⟨rfl, rfl⟩
      go_wp2_with fail
      refine (is_Take_no (h.ring to) i hno).mono ?_
      rintro e w' ⟨rfl, rfl⟩
      go_wp2
      go_ret2
      exact ⟨rfl, h, Keeps.refl _ _⟩
  · have hcp : copyC s to i = none := by unfold copyC; rw [if_neg (fun h => ht h.1)]
    have htk : takeC s to i = s := by unfold takeC; rw [if_neg (fun h => ht h.1)]
    rw [hcp, htk]
    clear hcp htk
    go_enter Try.func11, Try.ntmps11
    go_wp2_with fail
    refine (cable_end_no c to ht w).mono ?_
    rintro e w' ⟨rfl, rfl⟩
    go_wp2_with fail
    refine (nil_Take i w).mono ?_
    rintro e w' ⟨rfl, rfl⟩
    go_wp2
    go_ret2
    exact ⟨rfl, h, Keeps.refl _ _⟩
def lenC (s : CS) (to : Int) : Int := if okTo to then ((s.get to).length : Int) else 0
theorem cable_Flying (h : IsCable w c most s) (to : Int) :
    Calls Try.prog 16 #[.pointer (some ⟨c, 0, none⟩), .int .i64 to] w fun e w' => e = .returned (.int .i64 (lenC s to)) ∧ w = w' := by
  unfold lenC
  by_cases ht : okTo to
  · rw [if_pos ht]
    go_enter Try.func16, Try.ntmps16
    go_wp2_with fail
    refine (cable_end h to ht).mono ?_
    rintro e w' ⟨rfl, rfl⟩
    go_wp2_with fail
    refine (is_Len (h.ring to)).mono ?_
    rintro e w' ⟨rfl, rfl⟩
    go_wp2
    go_ret
    exact ⟨rfl, rfl⟩
  · rw [if_neg ht]
    go_enter Try.func16, Try.ntmps16
    go_wp2_with fail
    refine (cable_end_no c to ht w).mono ?_
    rintro e w' ⟨rfl, rfl⟩
    go_wp2_with fail
    refine (nil_Len w).mono ?_
    rintro e w' ⟨rfl, rfl⟩
    go_wp2
    go_ret
    exact ⟨rfl, rfl⟩
theorem cable_Lost (h : IsCable w c most s) : Calls Try.prog 15 #[.pointer (some ⟨c, 0, none⟩)] w fun e w' => e = .returned (.int .i64 s.lost) ∧ w = w' := by
  have c2 : w.cell? ⟨c, 2, none⟩ = some (.int .i64 s.lost) := blk_cell h.head rfl
  go_enter Try.func15, Try.ntmps15
  go_wp2
  go_ret
  exact ⟨rfl, rfl⟩
theorem IsCable.setLost (h : IsCable w c most s) (n : Int) : IsCable (w.setCell ⟨c, 2, none⟩ (.int .i64 n)) c most { s with lost := n } :=
  ⟨by simpa using blk_set h.head 2 (.int .i64 n), h.ra.keeps (S := fun b => b = c) ((Keeps.refl (fun b => b = c) w).setCell (p := ⟨c, 2, none⟩) rfl _) (by omega) (by omega), h.rb.keeps (S := fun b => b = c) ((Keeps.refl (fun b => b = c) w).setCell (p := ⟨c, 2, none⟩) rfl _) (by omega) (by omega)⟩
def dropC (s : CS) (to i : Int) : CS := if (copyC s to i).isSome then { takeC s to i with lost := s.lost + 1 } else s
theorem takeC_lost (s : CS) (to i : Int) : (takeC s to i).lost = s.lost := by unfold takeC CS.put; split <;> (try split) <;> rfl
theorem takeC_none {to i : Int} (h : copyC s to i = none) : takeC s to i = s := by
  unfold copyC at h
  unfold takeC
  split
  · rename_i hc
    rw [if_pos hc] at h
    rw [List.eraseIdx_of_length_le (by simpa using h), CS.put_get]
  · rfl
theorem cable_Drop (h : IsCable w c most s) (hl : 0 ≤ s.lost ∧ s.lost ≤ 1000000) (to i : Int) :
    Calls Try.prog 13 #[.pointer (some ⟨c, 0, none⟩), .int .i64 to, .int .i64 i] w fun e w' => e = .returned (.bool (copyC s to i).isSome) ∧ IsCable w' c most (dropC s to i) ∧ Keeps (ofCable c) w w' := by
  have hT := hid (cable_Take h to i)
  have hlo := takeC_lost s to i
  unfold dropC
  cases hc : (copyC s to i) with
  | none =>
    have htn := takeC_none hc
    rw [hc, htn] at hT
    clear hc htn hlo
    go_enter Try.func13, Try.ntmps13
    go_wp2_with fail
    refine hT.out.mono ?_
    rintro e w2 ⟨rfl, h2, k2⟩
    go_wp2
    go_ret
    exact ⟨rfl, h2, k2⟩
  | some v =>
    rw [hc] at hT
    clear hc
    go_enter Try.func13, Try.ntmps13
    go_wp2_with fail
    refine hT.out.mono ?_
    rintro e w2 ⟨rfl, h2, k2⟩
    have c2 : w2.cell? ⟨c, 2, none⟩ = some (.int .i64 s.lost) := by rw [← hlo]; exact blk_cell h2.head rfl
    have f2 := blk_free h2.head 2
    clear hlo
    go_wp2
    go_ret
    exact ⟨rfl, h2.setLost _, k2.setCell (p := ⟨c, 2, none⟩) ⟨by simp, by simp⟩ _⟩
end
end Go.Proofs.Ytdgbmnefpempaaa
