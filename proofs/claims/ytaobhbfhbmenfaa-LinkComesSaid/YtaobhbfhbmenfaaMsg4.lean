/- Whether a datagram may be, by the program. -/
import Derived.Test.YtaobhbfhbmenfaaMsg2
namespace Go.Proofs.Ytaobhbfhbmenfaa
open Go.RowKit
variable {w : World} {a : Option Addr} {c : Nat}
theorem IsBytes.none (w : World) : IsBytes w none 0 [] := ⟨Nat.le_refl _, Nat.zero_le _, .inl rfl⟩
theorem IsBytes.after {L : List UInt8} (h : IsBytes w a c L) (x : After w) : IsBytes x.to a c L :=
  h.keeps (S := fun _ => False) (Keeps.of_below x.below (fun k h1 h2 => by omega)) (fun _ _ _ => id)
theorem bare_bytes (m : Msg) (h : IsBytes w a c m.ins) : IsBytes w (bareA m a) (bareC m c) (bareM m).ins := by
  unfold bareA bareC bareM
  by_cases h3 : m.kind = 3
  · simp only [h3]; exact h
  · simp only [if_neg h3]; exact IsBytes.none w
theorem blk_cell' (w : World) (vs : Array Value) (t : TypeId) {k : Nat} {v : Value} (hv : vs[k]? = some v) : (w.alloc (.cells vs t)).cell? ⟨w.heap.size, k, none⟩ = some v := by
  unfold World.cell?
  rw [World.alloc_heap_new]
  exact hv
theorem right_yes4 {m : Msg} (h : RightP m) : Ending.returned (.bool true) = .returned (.bool (decide (RightP m))) := by rw [decide_eq_true h]
theorem right_no4 {m : Msg} (h : ¬ RightP m) : Ending.returned (.bool false) = .returned (.bool (decide (RightP m))) := by rw [decide_eq_false h]
set_option maxHeartbeats 4000000 in
theorem wire_RightM (m : Msg) (h : IsBytes w a c m.ins) :
    Calls Try.prog 50 #[(.agg #[.int .i64 m.kind, .int .u32 m.nonce, .int .u16 m.serial, .int .u16 m.ack, .slice a m.ins.length c, .int .u32 m.sum, .int .i64 m.lead])] w fun e w' => e = .returned (.bool (decide (RightP m))) ∧ Below w.heap.size w w' := by
  have hk : Keeps (fun _ => False) w (w.alloc (.cells #[.int .i64 m.kind, .int .u32 m.nonce, .int .u16 m.serial, .int .u16 m.ack, .slice a m.ins.length c, .int .u32 m.sum, .int .i64 m.lead] 49)) := (Keeps.refl _ w).alloc _
  have h1 := h.keeps hk (fun _ _ _ => id)
  have Hsame := hid (fun x : After (w.alloc (.cells #[.int .i64 m.kind, .int .u32 m.nonce, .int .u16 m.serial, .int .u16 m.ack, .slice a m.ins.length c, .int .u32 m.sum, .int .i64 m.lead] 49)) => wire_Same (a := m) (b := bareM m) (h1.after x) (bare_bytes m (h1.after x)))
  have Hfit := hid (fun x : After (w.alloc (.cells #[.int .i64 m.kind, .int .u32 m.nonce, .int .u16 m.serial, .int .u16 m.ack, .slice a m.ins.length c, .int .u32 m.sum, .int .i64 m.lead] 49)) => pack_Fits x.to a c m.ins (h1.after x))
  have hc : ∀ (k : Nat) (v : Value), (#[.int .i64 m.kind, .int .u32 m.nonce, .int .u16 m.serial, .int .u16 m.ack, .slice a m.ins.length c, .int .u32 m.sum, .int .i64 m.lead] : Array Value)[k]? = some v → ∀ x : After (w.alloc (.cells #[.int .i64 m.kind, .int .u32 m.nonce, .int .u16 m.serial, .int .u16 m.ack, .slice a m.ins.length c, .int .u32 m.sum, .int .i64 m.lead] 49)), x.to.cell? ⟨w.heap.size, k, none⟩ = some v := fun k v hv x =>
    (Keeps.of_below (S := fun _ => False) x.below (fun k h1 h2 => by omega)).cell (p := ⟨w.heap.size, k, none⟩) (blk_cell' w _ _ hv) id
  have c0 := hc 0 _ rfl
  have c1 := hc 1 _ rfl
  have c2 := hc 2 _ rfl
  have c3 := hc 3 _ rfl
  have c4 := hc 4 _ rfl
  have c5 := hc 5 _ rfl
  have c6 := hc 6 _ rfl
  have hR := hid (right_wire m)
  clear hc h h1 hk
  by_cases h1 : m.kind < 1
  · have Hno := hid (show ¬ RightP m from fun h => by have := h.1.1; omega)
    have hd1 : decide (m.kind < 1) = true := by simpa using h1
    go_enter Try.func50, Try.ntmps50
    go_wp2_with fail
    refine wp_region_after (by kernel_rfl) (by kernel_rfl) ?_
    repeat (go_big_quiet_step (first | (go_at_call 70; exact Calls.after_of (wire_bare m a c _)) | (go_at_call 69; exact Calls.after_of (Hsame.out _)) | (go_at_call 71; exact Calls.after_same (Hfit.out _))))
    refine wpQuiet_nil ?_
    intro _ hw2
    obtain ⟨x, hw3⟩ := hw2
    subst hw3
    go_wp2_with fail
    all_goals
      go_ret
      exact ⟨right_no4 Hno.out, ((Below.refl _ w).alloc (Nat.le_refl _) _).trans (x.below.mono (by simp))⟩
  have hd1 : decide (m.kind < 1) = false := by simpa using h1
  by_cases h2 : 7 < m.kind
  · have Hno := hid (show ¬ RightP m from fun h => by have := h.1.2; omega)
    have hd2 : decide (7 < m.kind) = true := by simpa using h2
    go_enter Try.func50, Try.ntmps50
    go_wp2_with fail
    refine wp_region_after (by kernel_rfl) (by kernel_rfl) ?_
    repeat (go_big_quiet_step (first | (go_at_call 70; exact Calls.after_of (wire_bare m a c _)) | (go_at_call 69; exact Calls.after_of (Hsame.out _)) | (go_at_call 71; exact Calls.after_same (Hfit.out _))))
    refine wpQuiet_nil ?_
    intro _ hw2
    obtain ⟨x, hw3⟩ := hw2
    subst hw3
    go_wp2_with fail
    all_goals
      go_ret
      exact ⟨right_no4 Hno.out, ((Below.refl _ w).alloc (Nat.le_refl _) _).trans (x.below.mono (by simp))⟩
  have hd2 : decide (7 < m.kind) = false := by simpa using h2
  by_cases hs : sameM m (bareM m) = true
  rotate_left
  · have hs' : sameM m (bareM m) = false := by simpa using hs
    have Hno := hid (show ¬ RightP m from fun h => hs ((hR.out.1 h).2.1))
    rw [hs'] at Hsame
    clear hs hs'
    go_enter Try.func50, Try.ntmps50
    go_wp2_with fail
    refine wp_region_after (by kernel_rfl) (by kernel_rfl) ?_
    repeat (go_big_quiet_step (first | (go_at_call 70; exact Calls.after_of (wire_bare m a c _)) | (go_at_call 69; exact Calls.after_of (Hsame.out _)) | (go_at_call 71; exact Calls.after_same (Hfit.out _))))
    refine wpQuiet_nil ?_
    intro _ hw2
    obtain ⟨x, hw3⟩ := hw2
    subst hw3
    go_wp2_with fail
    all_goals
      go_ret
      exact ⟨right_no4 Hno.out, ((Below.refl _ w).alloc (Nat.le_refl _) _).trans (x.below.mono (by simp))⟩
  rw [hs] at Hsame
  by_cases hf : fits m.ins = true
  rotate_left
  · have hf' : fits m.ins = false := by simpa using hf
    have Hno := hid (show ¬ RightP m from fun h => hf h.2.1)
    rw [hf'] at Hfit
    clear hf hf' hs
    go_enter Try.func50, Try.ntmps50
    go_wp2_with fail
    refine wp_region_after (by kernel_rfl) (by kernel_rfl) ?_
    repeat (go_big_quiet_step (first | (go_at_call 70; exact Calls.after_of (wire_bare m a c _)) | (go_at_call 69; exact Calls.after_of (Hsame.out _)) | (go_at_call 71; exact Calls.after_same (Hfit.out _))))
    refine wpQuiet_nil ?_
    intro _ hw2
    obtain ⟨x, hw3⟩ := hw2
    subst hw3
    go_wp2_with fail
    all_goals
      go_ret
      exact ⟨right_no4 Hno.out, ((Below.refl _ w).alloc (Nat.le_refl _) _).trans (x.below.mono (by simp))⟩
  rw [hf] at Hfit
  by_cases h3 : m.lead < -1000
  · have Hno := hid (show ¬ RightP m from fun h => by have := h.2.2.1.1; omega)
    clear hf hs
    go_enter Try.func50, Try.ntmps50
    go_wp2_with fail
    refine wp_region_after (by kernel_rfl) (by kernel_rfl) ?_
    repeat (go_big_quiet_step (first | (go_at_call 70; exact Calls.after_of (wire_bare m a c _)) | (go_at_call 69; exact Calls.after_of (Hsame.out _)) | (go_at_call 71; exact Calls.after_same (Hfit.out _))))
    refine wpQuiet_nil ?_
    intro _ hw2
    obtain ⟨x, hw3⟩ := hw2
    subst hw3
    go_wp2_with fail
    all_goals
      go_ret
      exact ⟨right_no4 Hno.out, ((Below.refl _ w).alloc (Nat.le_refl _) _).trans (x.below.mono (by simp))⟩
  by_cases h4 : 1000 < m.lead
  · have Hno := hid (show ¬ RightP m from fun h => by have := h.2.2.1.2; omega)
    clear hf hs
    go_enter Try.func50, Try.ntmps50
    go_wp2_with fail
    refine wp_region_after (by kernel_rfl) (by kernel_rfl) ?_
    repeat (go_big_quiet_step (first | (go_at_call 70; exact Calls.after_of (wire_bare m a c _)) | (go_at_call 69; exact Calls.after_of (Hsame.out _)) | (go_at_call 71; exact Calls.after_same (Hfit.out _))))
    refine wpQuiet_nil ?_
    intro _ hw2
    obtain ⟨x, hw3⟩ := hw2
    subst hw3
    go_wp2_with fail
    all_goals
      go_ret
      exact ⟨right_no4 Hno.out, ((Below.refl _ w).alloc (Nat.le_refl _) _).trans (x.below.mono (by simp))⟩
  by_cases h5 : m.kind = 3 ∧ m.ins.length = 0
  · have Hno := hid (show ¬ RightP m from fun h => by have := (h.2.2.2.2.2.2.1).2 h5.1; omega)
    have q3 : (m.kind != 3) = false := by simp [h5.1]
    have q4 : decide (0 < m.ins.length) = false := by simp [List.length_eq_zero_iff.1 h5.2]
    clear hf hs h5
    go_enter Try.func50, Try.ntmps50
    go_wp2_with fail
    refine wp_region_after (by kernel_rfl) (by kernel_rfl) ?_
    repeat (go_big_quiet_step (first | (go_at_call 70; exact Calls.after_of (wire_bare m a c _)) | (go_at_call 69; exact Calls.after_of (Hsame.out _)) | (go_at_call 71; exact Calls.after_same (Hfit.out _))))
    refine wpQuiet_nil ?_
    intro _ hw2
    obtain ⟨x, hw3⟩ := hw2
    subst hw3
    go_wp2_with fail
    all_goals
      go_ret
      exact ⟨right_no4 Hno.out, ((Below.refl _ w).alloc (Nat.le_refl _) _).trans (x.below.mono (by simp))⟩
  have Hy := hid (show RightP m from hR.out.2 ⟨⟨by omega, by omega⟩, hs, hf, ⟨by omega, by omega⟩, by omega⟩)
  clear hf hs
  by_cases h6 : m.kind = 3
  · have q3 : (m.kind != 3) = false := by simp [h6]
    have q4 : 0 < m.ins.length := by omega
    clear h5 h6
    go_enter Try.func50, Try.ntmps50
    go_wp2_with fail
    refine wp_region_after (by kernel_rfl) (by kernel_rfl) ?_
    repeat (go_big_quiet_step (first | (go_at_call 70; exact Calls.after_of (wire_bare m a c _)) | (go_at_call 69; exact Calls.after_of (Hsame.out _)) | (go_at_call 71; exact Calls.after_same (Hfit.out _))))
    refine wpQuiet_nil ?_
    intro _ hw2
    obtain ⟨x, hw3⟩ := hw2
    subst hw3
    go_wp2_with fail
    all_goals
      go_ret
      exact ⟨right_yes4 Hy.out, ((Below.refl _ w).alloc (Nat.le_refl _) _).trans (x.below.mono (by simp))⟩
  · have q3 : (m.kind != 3) = true := by simp [h6]
    clear h5 h6
    go_enter Try.func50, Try.ntmps50
    go_wp2_with fail
    refine wp_region_after (by kernel_rfl) (by kernel_rfl) ?_
    repeat (go_big_quiet_step (first | (go_at_call 70; exact Calls.after_of (wire_bare m a c _)) | (go_at_call 69; exact Calls.after_of (Hsame.out _)) | (go_at_call 71; exact Calls.after_same (Hfit.out _))))
    refine wpQuiet_nil ?_
    intro _ hw2
    obtain ⟨x, hw3⟩ := hw2
    subst hw3
    go_wp2_with fail
    all_goals
      go_ret
      exact ⟨right_yes4 Hy.out, ((Below.refl _ w).alloc (Nat.le_refl _) _).trans (x.below.mono (by simp))⟩
end Go.Proofs.Ytaobhbfhbmenfaa
