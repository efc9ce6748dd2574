/- What a datagram without more than its kind names is; whether one may be. -/
import Derived.Test.YtaobhbfhbmenfaaMsg
namespace Go.Proofs.Ytaobhbfhbmenfaa
open Go.RowKit
variable {w : World} {m : Msg} {a : Option Addr} {c : Nat}
def bareA (m : Msg) (a : Option Addr) : Option Addr := if m.kind = 3 then a else none
def bareC (m : Msg) (c : Nat) : Nat := if m.kind = 3 then c else 0
set_option maxHeartbeats 2000000 in
theorem wire_bare (m : Msg) (a : Option Addr) (c : Nat) (w : World) :
    Calls Try.prog 70 #[(.agg #[.int .i64 m.kind, .int .u32 m.nonce, .int .u16 m.serial, .int .u16 m.ack, .slice a m.ins.length c, .int .u32 m.sum, .int .i64 m.lead])] w fun e w' => e = .returned (.agg #[.int .i64 (bareM m).kind, .int .u32 (bareM m).nonce, .int .u16 (bareM m).serial, .int .u16 (bareM m).ack, .slice (bareA m a) (bareM m).ins.length (bareC m c), .int .u32 (bareM m).sum, .int .i64 (bareM m).lead]) ∧ Below w.heap.size w w' := by
  by_cases h0 : m.kind = 3
  · have hn : namesK m.kind = 14 := by simp [namesK, h0]
    have hb : bareM m = ⟨m.kind, 0, m.serial, m.ack, m.ins, 0, 0⟩ := by simp [bareM, h0]
    have ha : bareA m a = a := by simp [bareA, h0]
    have hc : bareC m c = c := by simp [bareC, h0]
    rw [hb, ha, hc]
    have Hn := hid hn
    clear hn hb ha hc h0
    go_enter Try.func70, Try.ntmps70
    go_wp2_with fail
    refine (wire_names _ _).mono ?_
    rintro e w' ⟨rfl, rfl⟩
    rw [Hn.out]
    go_wp2_with fail
    exact bodyPost_ret (v := .agg #[.int .i64 m.kind, .int .u32 0, .int .u16 m.serial, .int .u16 m.ack, .slice a m.ins.length c, .int .u32 0, .int .i64 0]) (by simp [results, Try.results70, go_sem]) rfl ⟨rfl, (((Below.refl _ w).alloc (Nat.le_refl _) _).alloc (by simp) _).alloc (by simp; omega) _⟩
  by_cases h1 : m.kind = 1 ∨ m.kind = 2
  · have hn : namesK m.kind = 1 := by rcases h1 with h | h <;> simp [namesK, h]
    have hb : bareM m = ⟨m.kind, m.nonce, 0, 0, [], 0, 0⟩ := by rcases h1 with h | h <;> simp [bareM, h]
    have ha : bareA m a = none := by simp [bareA, h0]
    have hc : bareC m c = 0 := by simp [bareC, h0]
    rw [hb, ha, hc]
    have Hn := hid hn
    clear hn hb ha hc h0 h1
    go_enter Try.func70, Try.ntmps70
    go_wp2_with fail
    refine (wire_names _ _).mono ?_
    rintro e w' ⟨rfl, rfl⟩
    rw [Hn.out]
    go_wp2_with fail
    exact bodyPost_ret (v := .agg #[.int .i64 m.kind, .int .u32 m.nonce, .int .u16 0, .int .u16 0, .slice none 0 0, .int .u32 0, .int .i64 0]) (by simp [results, Try.results70, go_sem]) rfl ⟨rfl, (((Below.refl _ w).alloc (Nat.le_refl _) _).alloc (by simp) _).alloc (by simp; omega) _⟩
  by_cases h2 : m.kind = 4
  · have hn : namesK m.kind = 18 := by simp [namesK, h2]
    have hb : bareM m = ⟨m.kind, 0, m.serial, 0, [], m.sum, 0⟩ := by simp [bareM, h2]
    have ha : bareA m a = none := by simp [bareA, h0]
    have hc : bareC m c = 0 := by simp [bareC, h0]
    rw [hb, ha, hc]
    have Hn := hid hn
    clear hn hb ha hc h0 h1 h2
    go_enter Try.func70, Try.ntmps70
    go_wp2_with fail
    refine (wire_names _ _).mono ?_
    rintro e w' ⟨rfl, rfl⟩
    rw [Hn.out]
    go_wp2_with fail
    exact bodyPost_ret (v := .agg #[.int .i64 m.kind, .int .u32 0, .int .u16 m.serial, .int .u16 0, .slice none 0 0, .int .u32 m.sum, .int .i64 0]) (by simp [results, Try.results70, go_sem]) rfl ⟨rfl, (((Below.refl _ w).alloc (Nat.le_refl _) _).alloc (by simp) _).alloc (by simp; omega) _⟩
  by_cases h3 : m.kind = 5
  · have hn : namesK m.kind = 4 := by simp [namesK, h3]
    have hb : bareM m = ⟨m.kind, 0, 0, m.ack, [], 0, 0⟩ := by simp [bareM, h3]
    have ha : bareA m a = none := by simp [bareA, h0]
    have hc : bareC m c = 0 := by simp [bareC, h0]
    rw [hb, ha, hc]
    have Hn := hid hn
    clear hn hb ha hc h0 h1 h2 h3
    go_enter Try.func70, Try.ntmps70
    go_wp2_with fail
    refine (wire_names _ _).mono ?_
    rintro e w' ⟨rfl, rfl⟩
    rw [Hn.out]
    go_wp2_with fail
    exact bodyPost_ret (v := .agg #[.int .i64 m.kind, .int .u32 0, .int .u16 0, .int .u16 m.ack, .slice none 0 0, .int .u32 0, .int .i64 0]) (by simp [results, Try.results70, go_sem]) rfl ⟨rfl, (((Below.refl _ w).alloc (Nat.le_refl _) _).alloc (by simp) _).alloc (by simp; omega) _⟩
  by_cases h4 : m.kind = 6
  · have hn : namesK m.kind = 34 := by simp [namesK, h4]
    have hb : bareM m = ⟨m.kind, 0, m.serial, 0, [], 0, m.lead⟩ := by simp [bareM, h4]
    have ha : bareA m a = none := by simp [bareA, h0]
    have hc : bareC m c = 0 := by simp [bareC, h0]
    rw [hb, ha, hc]
    have Hn := hid hn
    clear hn hb ha hc h0 h1 h2 h3 h4
    go_enter Try.func70, Try.ntmps70
    go_wp2_with fail
    refine (wire_names _ _).mono ?_
    rintro e w' ⟨rfl, rfl⟩
    rw [Hn.out]
    go_wp2_with fail
    exact bodyPost_ret (v := .agg #[.int .i64 m.kind, .int .u32 0, .int .u16 m.serial, .int .u16 0, .slice none 0 0, .int .u32 0, .int .i64 m.lead]) (by simp [results, Try.results70, go_sem]) rfl ⟨rfl, (((Below.refl _ w).alloc (Nat.le_refl _) _).alloc (by simp) _).alloc (by simp; omega) _⟩
  have hn : namesK m.kind = 0 := by simp [namesK, h0, h1, h2, h3, h4]
  have hb : bareM m = ⟨m.kind, 0, 0, 0, [], 0, 0⟩ := by simp [bareM, h0, h1, h2, h3, h4]
  have ha : bareA m a = none := by simp [bareA, h0]
  have hc : bareC m c = 0 := by simp [bareC, h0]
  rw [hb, ha, hc]
  have Hn := hid hn
  clear hn hb ha hc h0 h1 h2 h3 h4
  go_enter Try.func70, Try.ntmps70
  go_wp2_with fail
  refine (wire_names _ _).mono ?_
  rintro e w' ⟨rfl, rfl⟩
  rw [Hn.out]
  go_wp2_with fail
  exact bodyPost_ret (v := .agg #[.int .i64 m.kind, .int .u32 0, .int .u16 0, .int .u16 0, .slice none 0 0, .int .u32 0, .int .i64 0]) (by simp [results, Try.results70, go_sem]) rfl ⟨rfl, (((Below.refl _ w).alloc (Nat.le_refl _) _).alloc (by simp) _).alloc (by simp; omega) _⟩
end Go.Proofs.Ytaobhbfhbmenfaa
