/- Whether a datagram may be, by the reference. -/
import Derived.Test.YtlneddmfcheaiaaMsg2
namespace Go.Proofs.Ytlneddmfcheaiaa
open Go.RowKit
variable {w : World} {a : Option Addr} {c : Nat}
theorem right_yes {m : Msg} (h : RightP m) : Ending.returned (.bool true) = .returned (.bool (decide (RightP m))) := by rw [decide_eq_true h]
theorem right_no {m : Msg} (h : ¬ RightP m) : Ending.returned (.bool false) = .returned (.bool (decide (RightP m))) := by rw [decide_eq_false h]
theorem right_mk {k n s ak u l : Int} {i : List UInt8} {len : Nat} (hf : fits i = true) (hl : i.length = len) (h1 : 1 ≤ k ∧ k ≤ 7) (h2 : -1000 ≤ l ∧ l ≤ 1000) (h3 : n = 0 ∨ k = 1 ∨ k = 2) (h4 : s = 0 ∨ k = 3 ∨ k = 4 ∨ k = 6) (h5 : ak = 0 ∨ k = 3 ∨ k = 5) (h6 : 0 < len ↔ k = 3) (h7 : u = 0 ∨ k = 4) (h8 : l = 0 ∨ k = 6) : RightP ⟨k, n, s, ak, i, u, l⟩ :=
  ⟨h1, hf, h2, h3, h4, h5, by subst hl; exact h6, h7, h8⟩
theorem right_un {k n s ak u l : Int} {i : List UInt8} {len : Nat} (hl : i.length = len) (h : RightP ⟨k, n, s, ak, i, u, l⟩) : (1 ≤ k ∧ k ≤ 7) ∧ (-1000 ≤ l ∧ l ≤ 1000) ∧ (n = 0 ∨ k = 1 ∨ k = 2) ∧ (s = 0 ∨ k = 3 ∨ k = 4 ∨ k = 6) ∧ (ak = 0 ∨ k = 3 ∨ k = 5) ∧ (0 < len ↔ k = 3) ∧ (u = 0 ∨ k = 4) ∧ (l = 0 ∨ k = 6) := by
  obtain ⟨h1, hf, h2, h3, h4, h5, h6, h7, h8⟩ := h
  subst hl
  exact ⟨h1, h2, h3, h4, h5, h6, h7, h8⟩
set_option maxRecDepth 10000 in
set_option maxHeartbeats 8000000 in
theorem ref_RightM (m : Msg) (h : IsBytes w a c m.ins) :
    Calls Try.prog 16 #[(.agg #[.int .i64 m.kind, .int .u32 m.nonce, .int .u16 m.serial, .int .u16 m.ack, .slice a m.ins.length c, .int .u32 m.sum, .int .i64 m.lead])] w fun e w' => e = .returned (.bool (decide (RightP m))) ∧ Below w.heap.size w w' := by
  obtain ⟨k, n, s, ak, i, u, l⟩ := m
  simp only at h ⊢
  have Hfit := hid (ref_Fits (w.alloc (.cells #[.int .i64 k, .int .u32 n, .int .u16 s, .int .u16 ak, .slice a i.length c, .int .u32 u, .int .i64 l] 26)) a c i (h.keeps ((Keeps.refl (fun _ => False) w).alloc _) (fun _ _ _ => id)))
  clear h
  obtain ⟨len, hlen⟩ : ∃ len, i.length = len := ⟨_, rfl⟩
  rw [hlen] at Hfit ⊢
  have Hlen := hid hlen
  clear hlen
  by_cases h1 : k < 1
  · have Hno := hid (show ¬ RightP ⟨k, n, s, ak, i, u, l⟩ from fun h => (by have := h.1.1; simp only at this; omega))
    go_enter Try.func16, Try.ntmps16
    go_wp2_with (go_at_call 48; refine Hfit.out.mono ?_; rintro e w' ⟨rfl, rfl⟩)
    go_ret
    exact ⟨right_no Hno.out, (Below.refl _ w).alloc (Nat.le_refl _) _⟩
  by_cases h2 : 7 < k
  · have Hno := hid (show ¬ RightP ⟨k, n, s, ak, i, u, l⟩ from fun h => (by have := h.1.2; simp only at this; omega))
    go_enter Try.func16, Try.ntmps16
    go_wp2_with (go_at_call 48; refine Hfit.out.mono ?_; rintro e w' ⟨rfl, rfl⟩)
    go_ret
    exact ⟨right_no Hno.out, (Below.refl _ w).alloc (Nat.le_refl _) _⟩
  by_cases hf : fits i = true
  rotate_left
  · have Hno := hid (show ¬ RightP ⟨k, n, s, ak, i, u, l⟩ from fun h => hf h.2.1)
    have hf' : fits i = false := by simpa using hf
    rw [hf'] at Hfit
    clear hf hf'
    go_enter Try.func16, Try.ntmps16
    go_wp2_with (go_at_call 48; refine Hfit.out.mono ?_; rintro e w' ⟨rfl, rfl⟩)
    go_ret
    exact ⟨right_no Hno.out, (Below.refl _ w).alloc (Nat.le_refl _) _⟩
  have Hf := hid hf
  rw [hf] at Hfit
  clear hf
  by_cases h3 : l < -1000
  · have Hno := hid (show ¬ RightP ⟨k, n, s, ak, i, u, l⟩ from fun h => (by have := h.2.2.1.1; simp only at this; omega))
    go_enter Try.func16, Try.ntmps16
    go_wp2_with (go_at_call 48; refine Hfit.out.mono ?_; rintro e w' ⟨rfl, rfl⟩)
    go_ret
    exact ⟨right_no Hno.out, (Below.refl _ w).alloc (Nat.le_refl _) _⟩
  by_cases h4 : 1000 < l
  · have Hno := hid (show ¬ RightP ⟨k, n, s, ak, i, u, l⟩ from fun h => (by have := h.2.2.1.2; simp only at this; omega))
    go_enter Try.func16, Try.ntmps16
    go_wp2_with (go_at_call 48; refine Hfit.out.mono ?_; rintro e w' ⟨rfl, rfl⟩)
    go_ret
    exact ⟨right_no Hno.out, (Below.refl _ w).alloc (Nat.le_refl _) _⟩
  by_cases k1 : k = 1
  · obtain rfl : k = 1 := by omega
    as_aux_lemma =>
      go_enter Try.func16, Try.ntmps16
      go_wp2_with (go_at_call 48; refine Hfit.out.mono ?_; rintro e w' ⟨rfl, rfl⟩)
      all_goals
        go_ret
        first
          | exact ⟨right_yes (right_mk Hf.out Hlen.out ⟨by omega, by omega⟩ ⟨by omega, by omega⟩ (by omega) (by omega) (by omega) (by omega) (by omega) (by omega)), (Below.refl _ w).alloc (Nat.le_refl _) _⟩
          | exact ⟨right_no (fun h => by obtain ⟨g1, g2, g3, g4, g5, g6, g7, g8⟩ := right_un Hlen.out h; omega), (Below.refl _ w).alloc (Nat.le_refl _) _⟩
          | exact ⟨ret_bool (by
              rw [Bool.eq_iff_iff]
              constructor
              · intro hb
                simp only [beq_iff_eq] at hb
                exact decide_eq_true (right_mk Hf.out Hlen.out ⟨by omega, by omega⟩ ⟨by omega, by omega⟩ (by omega) (by omega) (by omega) (by omega) (by omega) (by omega))
              · intro hb
                obtain ⟨g1, g2, g3, g4, g5, g6, g7, g8⟩ := right_un Hlen.out (of_decide_eq_true hb)
                simp only [beq_iff_eq]
                omega), (Below.refl _ w).alloc (Nat.le_refl _) _⟩
          | (trace_state; fail)
  by_cases k2 : k = 2
  · obtain rfl : k = 2 := by omega
    as_aux_lemma =>
      go_enter Try.func16, Try.ntmps16
      go_wp2_with (go_at_call 48; refine Hfit.out.mono ?_; rintro e w' ⟨rfl, rfl⟩)
      all_goals
        go_ret
        first
          | exact ⟨right_yes (right_mk Hf.out Hlen.out ⟨by omega, by omega⟩ ⟨by omega, by omega⟩ (by omega) (by omega) (by omega) (by omega) (by omega) (by omega)), (Below.refl _ w).alloc (Nat.le_refl _) _⟩
          | exact ⟨right_no (fun h => by obtain ⟨g1, g2, g3, g4, g5, g6, g7, g8⟩ := right_un Hlen.out h; omega), (Below.refl _ w).alloc (Nat.le_refl _) _⟩
          | exact ⟨ret_bool (by
              rw [Bool.eq_iff_iff]
              constructor
              · intro hb
                simp only [beq_iff_eq] at hb
                exact decide_eq_true (right_mk Hf.out Hlen.out ⟨by omega, by omega⟩ ⟨by omega, by omega⟩ (by omega) (by omega) (by omega) (by omega) (by omega) (by omega))
              · intro hb
                obtain ⟨g1, g2, g3, g4, g5, g6, g7, g8⟩ := right_un Hlen.out (of_decide_eq_true hb)
                simp only [beq_iff_eq]
                omega), (Below.refl _ w).alloc (Nat.le_refl _) _⟩
          | (trace_state; fail)
  by_cases k3 : k = 3
  · obtain rfl : k = 3 := by omega
    as_aux_lemma =>
      go_enter Try.func16, Try.ntmps16
      go_wp2_with (go_at_call 48; refine Hfit.out.mono ?_; rintro e w' ⟨rfl, rfl⟩)
      all_goals
        go_ret
        first
          | exact ⟨right_yes (right_mk Hf.out Hlen.out ⟨by omega, by omega⟩ ⟨by omega, by omega⟩ (by omega) (by omega) (by omega) (by omega) (by omega) (by omega)), (Below.refl _ w).alloc (Nat.le_refl _) _⟩
          | exact ⟨right_no (fun h => by obtain ⟨g1, g2, g3, g4, g5, g6, g7, g8⟩ := right_un Hlen.out h; omega), (Below.refl _ w).alloc (Nat.le_refl _) _⟩
          | exact ⟨ret_bool (by
              rw [Bool.eq_iff_iff]
              constructor
              · intro hb
                simp only [beq_iff_eq] at hb
                exact decide_eq_true (right_mk Hf.out Hlen.out ⟨by omega, by omega⟩ ⟨by omega, by omega⟩ (by omega) (by omega) (by omega) (by omega) (by omega) (by omega))
              · intro hb
                obtain ⟨g1, g2, g3, g4, g5, g6, g7, g8⟩ := right_un Hlen.out (of_decide_eq_true hb)
                simp only [beq_iff_eq]
                omega), (Below.refl _ w).alloc (Nat.le_refl _) _⟩
          | (trace_state; fail)
  by_cases k4 : k = 4
  · obtain rfl : k = 4 := by omega
    as_aux_lemma =>
      go_enter Try.func16, Try.ntmps16
      go_wp2_with (go_at_call 48; refine Hfit.out.mono ?_; rintro e w' ⟨rfl, rfl⟩)
      all_goals
        go_ret
        first
          | exact ⟨right_yes (right_mk Hf.out Hlen.out ⟨by omega, by omega⟩ ⟨by omega, by omega⟩ (by omega) (by omega) (by omega) (by omega) (by omega) (by omega)), (Below.refl _ w).alloc (Nat.le_refl _) _⟩
          | exact ⟨right_no (fun h => by obtain ⟨g1, g2, g3, g4, g5, g6, g7, g8⟩ := right_un Hlen.out h; omega), (Below.refl _ w).alloc (Nat.le_refl _) _⟩
          | exact ⟨ret_bool (by
              rw [Bool.eq_iff_iff]
              constructor
              · intro hb
                simp only [beq_iff_eq] at hb
                exact decide_eq_true (right_mk Hf.out Hlen.out ⟨by omega, by omega⟩ ⟨by omega, by omega⟩ (by omega) (by omega) (by omega) (by omega) (by omega) (by omega))
              · intro hb
                obtain ⟨g1, g2, g3, g4, g5, g6, g7, g8⟩ := right_un Hlen.out (of_decide_eq_true hb)
                simp only [beq_iff_eq]
                omega), (Below.refl _ w).alloc (Nat.le_refl _) _⟩
          | (trace_state; fail)
  by_cases k5 : k = 5
  · obtain rfl : k = 5 := by omega
    as_aux_lemma =>
      go_enter Try.func16, Try.ntmps16
      go_wp2_with (go_at_call 48; refine Hfit.out.mono ?_; rintro e w' ⟨rfl, rfl⟩)
      all_goals
        go_ret
        first
          | exact ⟨right_yes (right_mk Hf.out Hlen.out ⟨by omega, by omega⟩ ⟨by omega, by omega⟩ (by omega) (by omega) (by omega) (by omega) (by omega) (by omega)), (Below.refl _ w).alloc (Nat.le_refl _) _⟩
          | exact ⟨right_no (fun h => by obtain ⟨g1, g2, g3, g4, g5, g6, g7, g8⟩ := right_un Hlen.out h; omega), (Below.refl _ w).alloc (Nat.le_refl _) _⟩
          | exact ⟨ret_bool (by
              rw [Bool.eq_iff_iff]
              constructor
              · intro hb
                simp only [beq_iff_eq] at hb
                exact decide_eq_true (right_mk Hf.out Hlen.out ⟨by omega, by omega⟩ ⟨by omega, by omega⟩ (by omega) (by omega) (by omega) (by omega) (by omega) (by omega))
              · intro hb
                obtain ⟨g1, g2, g3, g4, g5, g6, g7, g8⟩ := right_un Hlen.out (of_decide_eq_true hb)
                simp only [beq_iff_eq]
                omega), (Below.refl _ w).alloc (Nat.le_refl _) _⟩
          | (trace_state; fail)
  by_cases k6 : k = 6
  · obtain rfl : k = 6 := by omega
    as_aux_lemma =>
      go_enter Try.func16, Try.ntmps16
      go_wp2_with (go_at_call 48; refine Hfit.out.mono ?_; rintro e w' ⟨rfl, rfl⟩)
      all_goals
        go_ret
        first
          | exact ⟨right_yes (right_mk Hf.out Hlen.out ⟨by omega, by omega⟩ ⟨by omega, by omega⟩ (by omega) (by omega) (by omega) (by omega) (by omega) (by omega)), (Below.refl _ w).alloc (Nat.le_refl _) _⟩
          | exact ⟨right_no (fun h => by obtain ⟨g1, g2, g3, g4, g5, g6, g7, g8⟩ := right_un Hlen.out h; omega), (Below.refl _ w).alloc (Nat.le_refl _) _⟩
          | exact ⟨ret_bool (by
              rw [Bool.eq_iff_iff]
              constructor
              · intro hb
                simp only [beq_iff_eq] at hb
                exact decide_eq_true (right_mk Hf.out Hlen.out ⟨by omega, by omega⟩ ⟨by omega, by omega⟩ (by omega) (by omega) (by omega) (by omega) (by omega) (by omega))
              · intro hb
                obtain ⟨g1, g2, g3, g4, g5, g6, g7, g8⟩ := right_un Hlen.out (of_decide_eq_true hb)
                simp only [beq_iff_eq]
                omega), (Below.refl _ w).alloc (Nat.le_refl _) _⟩
          | (trace_state; fail)
  · obtain rfl : k = 7 := by omega
    as_aux_lemma =>
      go_enter Try.func16, Try.ntmps16
      go_wp2_with (go_at_call 48; refine Hfit.out.mono ?_; rintro e w' ⟨rfl, rfl⟩)
      all_goals
        go_ret
        first
          | exact ⟨right_yes (right_mk Hf.out Hlen.out ⟨by omega, by omega⟩ ⟨by omega, by omega⟩ (by omega) (by omega) (by omega) (by omega) (by omega) (by omega)), (Below.refl _ w).alloc (Nat.le_refl _) _⟩
          | exact ⟨right_no (fun h => by obtain ⟨g1, g2, g3, g4, g5, g6, g7, g8⟩ := right_un Hlen.out h; omega), (Below.refl _ w).alloc (Nat.le_refl _) _⟩
          | exact ⟨ret_bool (by
              rw [Bool.eq_iff_iff]
              constructor
              · intro hb
                simp only [beq_iff_eq] at hb
                exact decide_eq_true (right_mk Hf.out Hlen.out ⟨by omega, by omega⟩ ⟨by omega, by omega⟩ (by omega) (by omega) (by omega) (by omega) (by omega) (by omega))
              · intro hb
                obtain ⟨g1, g2, g3, g4, g5, g6, g7, g8⟩ := right_un Hlen.out (of_decide_eq_true hb)
                simp only [beq_iff_eq]
                omega), (Below.refl _ w).alloc (Nat.le_refl _) _⟩
          | (trace_state; fail)
end Go.Proofs.Ytlneddmfcheaiaa
