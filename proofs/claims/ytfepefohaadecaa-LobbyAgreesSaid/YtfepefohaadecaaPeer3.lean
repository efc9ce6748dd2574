/- The smaller parts of a peer. -/
import Derived.Test.YtfepefohaadecaaPeer2
import Derived.Carry
namespace Go.Proofs.Ytfepefohaadecaa
open Go.RowKit
set_option maxRecDepth 100000
variable {w w' : World}
/-- a pointer, and no error -/
def Made (w : World) (e : Ending) (w' : World) : Prop := (∃ p, e = .returned (.tuple #[.pointer (some p), .int .i64 0])) ∧ Below w.heap.size w w'
def Made1 (w : World) (e : Ending) (w' : World) : Prop := (∃ p, e = .returned (.pointer (some p))) ∧ Below w.heap.size w w'
theorem info_u8' : (Try.prog.info? 5).map (fun i => (i.zero, i.size, i.bytes)) = some (some (.int .u8 0), 1, 1) := by kernel_rfl
theorem info_msg : ((Try.prog.info? 186).map fun i => (i.zero.map fun z => z.cells.size, i.size, i.bytes)) = some (some 7, 7, 56) := by kernel_rfl
theorem ringU_New (w : World) : Calls Try.prog 109 #[.int .i64 64] w (Made w) := by
  obtain ⟨i0, hi, hz0, hz1, hz2⟩ := info_parts info_u8'
  have hmk := run_make (P := Try.prog) w 53 5 i0 _ Try.underlying53 hi hz0 .i64 .i64 64 64 (by omega) (Int.le_refl _) (by rw [hz2]; omega) (by omega)
  rw [hz1] at hmk
  generalize madeCells _ _ = cs at *
  have hd : decide (1 ≤ (64 : Int) ∧ (64 : Int) ≤ 4096) = true := by decide
  clear hi hz0 hz1 hz2
  go_enter Try.func109, Try.ntmps109
  go_wp2_with fail
  refine (ring_may 64 w).mono ?_
  rintro e w' ⟨rfl, rfl⟩
  rw [hd]
  clear hd
  go_wp2
  go_ret2
  exact ⟨⟨_, rfl⟩, ((Below.refl _ w).alloc (Nat.le_refl _) _).alloc (by simp) _⟩
theorem ringM_New (w : World) : Calls Try.prog 110 #[.int .i64 8] w (Made w) := by
  obtain ⟨i0, hi, hz0, hz1, hz2⟩ : ∃ i, Try.prog.info? 186 = some i ∧ (i.zero.map fun z => z.cells.size) = some 7 ∧ i.size = 7 ∧ i.bytes = 56 := by
    have h := info_msg
    cases hh : Try.prog.info? 186 with
    | none => rw [hh] at h; cases h
    | some i => rw [hh] at h; simp only [Option.map_some, Option.some.injEq, Prod.mk.injEq] at h; exact ⟨i, rfl, h.1, h.2.1, h.2.2⟩
  obtain ⟨z, hz⟩ : ∃ z, i0.zero = some z := by
    cases hh : i0.zero with
    | none => rw [hh] at hz0; cases hz0
    | some z => exact ⟨z, rfl⟩
  have hmk := run_make (P := Try.prog) w 225 186 i0 z Try.underlying225 hi hz .i64 .i64 8 8 (by omega) (Int.le_refl _) (by rw [hz2]; omega) (by omega)
  rw [hz1] at hmk
  generalize madeCells _ _ = cs at *
  have hd : decide (1 ≤ (8 : Int) ∧ (8 : Int) ≤ 4096) = true := by decide
  clear hi hz0 hz1 hz2 hz
  go_enter Try.func110, Try.ntmps110
  go_wp2_with fail
  refine (ring_may 8 w).mono ?_
  rintro e w' ⟨rfl, rfl⟩
  rw [hd]
  clear hd
  go_wp2
  go_ret2
  exact ⟨⟨_, rfl⟩, ((Below.refl _ w).alloc (Nat.le_refl _) _).alloc (by simp) _⟩
theorem link_frame (f : Int) (h : 0 ≤ f ∧ f ≤ 1073741824) (w : World) : Calls Try.prog 108 #[.int .i64 f] w fun e w' => e = .returned (.bool true) ∧ w = w' := by
  obtain ⟨h1, h2⟩ := h
  go_enter Try.func108, Try.ntmps108
  go_wp2
  go_ret
  exact ⟨by simp, rfl⟩
theorem link_New (n : Int) (f : Int) (h : 0 ≤ f ∧ f ≤ 1073741824) (w : World) : Calls Try.prog 88 #[.int .u32 n, .int .i64 1, .int .i64 f] w (Made w) := by
  have hF := hid (fun W => link_frame f h W)
  clear h
  go_enter Try.func88, Try.ntmps88
  go_wp2_with fail
  refine (hF.out _).mono ?_
  rintro e w1 ⟨rfl, rfl⟩
  go_wp2_with fail
  refine (ringU_New _).mono ?_
  rintro e w1 ⟨⟨p, rfl⟩, hb1⟩
  go_wp2_with fail
  refine (ringM_New _).mono ?_
  rintro e w2 ⟨⟨q, rfl⟩, hb2⟩
  go_wp2_with fail
  go_ret2
  exact ⟨⟨_, rfl⟩, (bnext hb1 hb2).alloc (bnext hb1 hb2).size _⟩
theorem ledger_New (w : World) : Calls Try.prog 89 #[.int .i64 1] w (Made w) := by
  have hmm := @run_makeMap Try.prog
  go_enter Try.func89, Try.ntmps89
  go_wp2
  go_ret2
  exact ⟨⟨_, rfl⟩, (((Below.refl _ w).alloc (Nat.le_refl _) _).alloc (by simp) _).alloc (by simp; omega) _⟩
theorem mixer_New (w : World) : Calls Try.prog 90 #[.int .i64 1] w (Made w) := by
  go_enter Try.func90, Try.ntmps90
  go_wp2
  go_ret2
  exact ⟨⟨_, rfl⟩, (Below.refl _ w).alloc (Nat.le_refl _) _⟩
theorem feel_New (w : World) : Calls Try.prog 91 #[] w (Made1 w) := by
  go_enter Try.func91, Try.ntmps91
  go_wp2
  go_ret
  exact ⟨⟨_, rfl⟩, (Below.refl _ w).alloc (Nat.le_refl _) _⟩
theorem ease_New (w : World) : Calls Try.prog 92 #[] w (Made1 w) := by
  go_enter Try.func92, Try.ntmps92
  go_wp2
  go_ret
  exact ⟨⟨_, rfl⟩, (Below.refl _ w).alloc (Nat.le_refl _) _⟩
theorem core_may (s d n m : Int) (hd : 0 ≤ d ∧ d ≤ 8) (hn : 1 ≤ n ∧ n ≤ 16) (hm : m = 0 ∨ m = 1) (w : World) :
    Calls Try.prog 102 #[.agg #[.int .u32 s, .int .i64 d, .int .i64 n, .int .i64 m]] w fun e w' => e = .returned (.bool true) ∧ Below w.heap.size w w' := by
  obtain ⟨d1, d2⟩ := hd
  obtain ⟨n1, n2⟩ := hn
  rcases hm with rfl | rfl
  · go_enter Try.func102, Try.ntmps102
    go_wp2
    go_ret
    exact ⟨by simp, (Below.refl _ w).alloc (Nat.le_refl _) _⟩
  · go_enter Try.func102, Try.ntmps102
    go_wp2
    go_ret
    exact ⟨by simp, (Below.refl _ w).alloc (Nat.le_refl _) _⟩
end Go.Proofs.Ytfepefohaadecaa
