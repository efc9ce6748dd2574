/- What was sent to each end: two rows of the call's own, behind an array of two. -/
import Derived.Test.YtdgbmnefpempaaaDoes2
import Derived.Test.YtdgbmnefpempaaaStage
namespace Go.Proofs.Ytdgbmnefpempaaa
open Go.RowKit
theorem IsCable.drewN {w : World} {c most : Nat} {s : CS} (h : IsCable w c most s) (n : Nat) : IsCable (w.drewN n) c most s := h.keeps ((Keeps.refl (fun _ => False) w).drewN n) (fun _ _ => id)
theorem drop_of_none {s : CS} {to i : Int} (h : copyC s to i = none) : dropC s to i = s := by unfold dropC; rw [h]; rfl
theorem drop_lost {s : CS} {to i : Int} {v : ByteArray} (h : copyC s to i = some v) : (dropC s to i).lost = s.lost + 1 := by unfold dropC; rw [h]; rfl
/-- a text is one of those of a list -/
def found (v : ByteArray) (L : List ByteArray) : Bool := L.any fun y => y.toList == v.toList
theorem found_succ (v : ByteArray) (L : List ByteArray) (j : Nat) (h : j < L.length) : found v (L.take (j + 1)) = (found v (L.take j) || (L[j].toList == v.toList)) := by
  unfold found
  rw [List.take_succ_eq_append_getElem h, List.any_append]
  simp only [List.any_cons, List.any_nil, Bool.or_false]
theorem found_mem {v : ByteArray} {L : List ByteArray} (h : v ∈ L) : found v L = true := List.any_eq_true.2 ⟨v, h, by simp⟩
structure SentAt (w : World) (D : Nat) (t : CS) (va vb : Value) : Prop where
  head : w.heap[D]? = some (.cells #[va, vb] 29 (0, 0))
  oa : w.ownsRow (D + 1) 9 1 va t.a.length (strs t.a)
  ob : w.ownsRow (D + 1) 9 1 vb t.b.length (strs t.b)
  ne : ∀ b, va.ownBlock = some b → vb.ownBlock ≠ some b
def Sent (w : World) (D : Nat) (t : CS) : Prop := ∃ va vb, SentAt w D t va vb
section
variable {w w' w1 : World} {D : Nat} {t : CS}
theorem SentAt.keeps {va vb : Value} {S : Nat → Prop} (h : SentAt w D t va vb) (hk : Keeps S w w') (hs : ∀ b, D ≤ b → b < w.heap.size → ¬ S b) : SentAt w' D t va vb :=
  ⟨hk.heap h.head (hs D (Nat.le_refl _) (blk_lt h.head)), own_keeps h.oa hk (fun b hb => hs b (by have := (h.oa.lt b hb).1; omega) (h.oa.lt b hb).2), own_keeps h.ob hk (fun b hb => hs b (by have := (h.ob.lt b hb).1; omega) (h.ob.lt b hb).2), h.ne⟩
theorem Sent.keeps {S : Nat → Prop} (h : Sent w D t) (hk : Keeps S w w') (hs : ∀ b, D ≤ b → b < w.heap.size → ¬ S b) : Sent w' D t := by
  obtain ⟨va, vb, h⟩ := h
  exact ⟨va, vb, h.keeps hk hs⟩
theorem Sent.lt (h : Sent w D t) : D < w.heap.size := by
  obtain ⟨va, vb, h⟩ := h
  exact blk_lt h.head
theorem Sent.lost (h : Sent w D t) (n : Int) : Sent w D { t with lost := n } := by
  obtain ⟨va, vb, h⟩ := h
  exact ⟨va, vb, h.head, h.oa, h.ob, h.ne⟩
/-- what the row of an end is -/
structure SideIs (w : World) (D : Nat) (t : CS) (to : Int) (v : Value) : Prop where
  row : ∀ b, v.ownBlock = some b → D + 1 ≤ b ∧ b < w.heap.size
  cell : w.cell? ⟨D, to.toNat, none⟩ = some v
  free : w.frozen? ⟨D, to.toNat, none⟩ = false
  own : w.ownsRow (D + 1) 9 1 v (t.get to).length (strs (t.get to))
  push : ∀ (w1 : World) (v1 : Value) (L : List ByteArray), Keeps (fun b => v.ownBlock = some b ∨ b < D) w w1 → w1.ownsRow (D + 1) 9 1 v1 L.length (strs L) → (v1.ownBlock = v.ownBlock ∨ ∃ b, v1.ownBlock = some b ∧ w.heap.size ≤ b) →
    Sent (w1.setCell ⟨D, to.toNat, none⟩ v1) D (t.put to L)
theorem Sent.side (h : Sent w D t) (to : Int) (ht : okTo to) : ∃ v, SideIs w D t to v := by
  obtain ⟨va, vb, h⟩ := h
  rcases ht with rfl | rfl
  · refine ⟨va, h.oa.lt, blk_cell h.head rfl, blk_free h.head 0, h.oa, fun w1 v1 L hk hown hat => ?_⟩
    have lD := blk_lt h.head
    have hD : ¬ (va.ownBlock = some D ∨ D < D) := fun e => by rcases e with e | e; (have := (h.oa.lt D e).1); all_goals omega
    have h1 := hk.heap h.head hD
    have hkk := (Keeps.refl (fun b => b = D) w1).setCell (p := ⟨D, 0, none⟩) rfl v1
    have hb : ∀ b, vb.ownBlock = some b → ¬ va.ownBlock = some b := fun b e1 e2 => h.ne b e2 e1
    refine ⟨v1, vb, by simpa using blk_set h1 0 v1, own_keeps hown hkk (fun b hb e => by have := (hown.lt b hb).1; omega), own_keeps (own_keeps h.ob hk (fun b e => fun e2 => e2.elim (hb b e) (fun e3 => by have := (h.ob.lt b e).1; omega))) hkk (fun b hb e => by have := (h.ob.lt b hb).1; omega), fun b e1 e2 => ?_⟩
    rcases hat with e | ⟨b', e, hge⟩
    · exact hb b e2 (e ▸ e1)
    · have := (h.ob.lt b e2).2
      rw [e1] at e
      cases e
      omega
  · refine ⟨vb, h.ob.lt, blk_cell h.head rfl, blk_free h.head 1, h.ob, fun w1 v1 L hk hown hat => ?_⟩
    have lD := blk_lt h.head
    have hD : ¬ (vb.ownBlock = some D ∨ D < D) := fun e => by rcases e with e | e; (have := (h.ob.lt D e).1); all_goals omega
    have h1 := hk.heap h.head hD
    have hkk := (Keeps.refl (fun b => b = D) w1).setCell (p := ⟨D, 1, none⟩) rfl v1
    refine ⟨va, v1, by simpa using blk_set h1 1 v1, own_keeps (own_keeps h.oa hk (fun b e => fun e2 => e2.elim (h.ne b e) (fun e3 => by have := (h.oa.lt b e).1; omega))) hkk (fun b hb e => by have := (h.oa.lt b hb).1; omega), own_keeps hown hkk (fun b hb e => by have := (hown.lt b hb).1; omega), fun b e1 e2 => ?_⟩
    rcases hat with e | ⟨b', e, hge⟩
    · exact h.ne b e1 (e ▸ e2)
    · have := (h.oa.lt b e1).2
      rw [e2] at e
      cases e
      omega
theorem sendE_ok {to : Int} {x : ByteArray} (h : okTo to ∧ okText x) : sendE to x = 0 := by
  obtain ⟨h1, h2, h3⟩ := h
  unfold sendE
  rw [if_neg (fun h => h.elim (fun h => h h1) (fun h => by omega)), if_neg (by omega)]
theorem sendE_no {to : Int} {x : ByteArray} (h : ¬ (okTo to ∧ okText x)) : (sendE to x == 0) = false := by
  rw [beq_eq_false_iff_ne]
  unfold sendE
  split
  · omega
  · rename_i h1
    split
    · omega
    · refine absurd ⟨Classical.byContradiction fun h2 => h1 (.inl h2), Nat.pos_of_ne_zero fun h2 => h1 (.inr h2), by omega⟩ h
/-- nothing comes of nothing -/
structure Fair (s t : CS) (most : Nat) : Prop where
  sub : ∀ to v, v ∈ s.get to → v ∈ t.get to
  count : (t.total : Int) = t.lost + s.lost + s.total
theorem fair_new (most : Nat) : Fair ⟨[], [], 0⟩ ⟨[], [], 0⟩ most := by
  refine ⟨fun to v h => ?_, rfl⟩
  unfold CS.get at h
  split at h <;> cases h
theorem get_put (s : CS) (to : Int) (L : List ByteArray) (a : Int) (ht : okTo to) : (s.put to L).get a = if (a = 0 ↔ to = 0) then L else s.get a := by
  unfold CS.put CS.get
  rcases ht with rfl | rfl
  · by_cases h : a = 0 <;> simp [h]
  · by_cases h : a = 0 <;> simp [h]
theorem total_put (s : CS) (to : Int) (L : List ByteArray) : (s.put to L).total + (s.get to).length = s.total + L.length := by
  unfold CS.put CS.get CS.total
  split <;> simp <;> omega
variable {s : CS} {most : Nat}
theorem Fair.take (h : Fair s t most) {to i : Int} {v : ByteArray} (hc : copyC s to i = some v) : Fair (takeC s to i) { t with lost := t.lost + 1 } most ∧ v ∈ t.get to ∧ okTo to := by
  unfold copyC at hc
  split at hc
  · rename_i hh
    have hm := List.mem_of_getElem? hc
    refine ⟨⟨fun a v hv => ?_, ?_⟩, h.sub to v hm, hh.1⟩
    · unfold takeC at hv
      rw [if_pos hh, get_put s to _ a hh.1] at hv
      split at hv
      · rename_i he
        have h1 := h.sub to v (List.mem_of_mem_eraseIdx hv)
        have : t.get a = t.get to := by unfold CS.get; by_cases h0 : to = 0 <;> simp [h0] at he ⊢ <;> simp [he]
        show v ∈ t.get a
        rw [this]
        exact h1
      · exact h.sub a v hv
    · have ht2 : takeC s to i = s.put to ((s.get to).eraseIdx i.toNat) := by unfold takeC; rw [if_pos hh]
      have hlt : i.toNat < (s.get to).length := (List.getElem?_eq_some_iff.1 hc).1
      have h1 := total_put s to ((s.get to).eraseIdx i.toNat)
      rw [List.length_eraseIdx_of_lt hlt] at h1
      have h2 := h.count
      rw [takeC_lost, ht2]
      show (t.total : Int) = _
      show (t.total : Int) = t.lost + 1 + s.lost + _
      omega
  · cases hc
theorem Fair.drop (h : Fair s t most) {to i : Int} {v : ByteArray} (hc : copyC s to i = some v) : Fair (dropC s to i) t most := by
  obtain ⟨⟨h1, h2⟩, _⟩ := h.take hc
  unfold dropC
  rw [hc]
  refine ⟨fun a v hv => h1 a v hv, ?_⟩
  have h3 : (t.total : Int) = t.lost + 1 + (takeC s to i).lost + (takeC s to i).total := h2
  rw [takeC_lost] at h3
  show (t.total : Int) = t.lost + (s.lost + 1) + (takeC s to i).total
  omega
theorem Fair.cut (h : Fair s t most) : Fair ⟨[], [], s.lost + s.total⟩ t most := by
  refine ⟨fun a v hv => ?_, ?_⟩
  · unfold CS.get at hv
    split at hv <;> cases hv
  · have := h.count
    show (t.total : Int) = t.lost + (s.lost + s.total) + ((0 : Nat) : Int)
    omega
theorem Fair.send (h : Fair s t most) {to : Int} {x : ByteArray} (ht : okTo to) (hx : okText x) : Fair (sendC s most to x) (t.put to (t.get to ++ [x])) most := by
  have hsub : ∀ a v, v ∈ t.get a → v ∈ (t.put to (t.get to ++ [x])).get a := fun a v hv => by
    rw [get_put t to _ a ht]
    split
    · rename_i he
      have : t.get a = t.get to := by unfold CS.get; by_cases h0 : to = 0 <;> simp [h0] at he ⊢ <;> simp [he]
      rw [this] at hv
      exact List.mem_append_left _ hv
    · exact hv
  have h1 := total_put t to (t.get to ++ [x])
  have h2 := h.count
  rw [List.length_append, List.length_singleton] at h1
  unfold sendC
  rw [if_pos ⟨ht, hx⟩]
  split
  · refine ⟨fun a v hv => ?_, ?_⟩
    · rw [get_put s to _ a ht] at hv
      split at hv
      · rename_i he
        rcases List.mem_append.1 hv with hv | hv
        · have h3 := h.sub to v hv
          rw [get_put t to _ a ht, if_pos he]
          exact List.mem_append_left _ h3
        · rw [get_put t to _ a ht, if_pos he]
          exact List.mem_append_right _ hv
      · exact hsub a v (h.sub a v hv)
    · have h3 := total_put s to (s.get to ++ [x])
      rw [List.length_append, List.length_singleton] at h3
      rw [put_lost, put_lost]
      omega
  · refine ⟨fun a v hv => hsub a v (h.sub a v hv), ?_⟩
    rw [put_lost]
    show _ = t.lost + (s.lost + 1) + (s.total : Int)
    omega
end
end Go.Proofs.Ytdgbmnefpempaaa
