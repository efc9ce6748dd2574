/- The chapter's example; the law on a cable that is not there. -/
import Derived.Test.YtdgbmnefpempaaaCable5
import Derived.Test.YtdgbmnefpempaaaOpen
namespace Go.Proofs.Ytdgbmnefpempaaa
open Go.RowKit
theorem awake08 (w : World) :
    Calls Try.prog 8 #[] w fun e w' => e = .returned (.bool true) ∧ Below w.heap.size w w' := by
  go_enter Try.func8, Try.ntmps8
  go_wp2_with fail
  refine (cable_New 2 (by omega) (by omega) w).mono ?_
  rintro e w1 ⟨rfl, r1, b1⟩
  go_wp2_with fail
  refine (cable_Send r1 ⟨by decide, by decide⟩ 1 ⟨#[97]⟩ (by decide)).mono ?_
  rintro e w2 ⟨rfl, r2, k2⟩
  rw [show sendB ⟨[], [], 0⟩ 2 1 ⟨#[97]⟩ = true by decide, show sendE 1 ⟨#[97]⟩ = 0 by decide]
  rw [show sendC ⟨[], [], 0⟩ 2 1 ⟨#[97]⟩ = ⟨[], [⟨#[97]⟩], 0⟩ from rfl] at r2
  go_wp2_with fail
  refine (cable_Send r2 ⟨by decide, by decide⟩ 1 ⟨#[98]⟩ (by decide)).mono ?_
  rintro e w3 ⟨rfl, r3, k3⟩
  rw [show sendB ⟨[], [⟨#[97]⟩], 0⟩ 2 1 ⟨#[98]⟩ = true by decide, show sendE 1 ⟨#[98]⟩ = 0 by decide]
  rw [show sendC ⟨[], [⟨#[97]⟩], 0⟩ 2 1 ⟨#[98]⟩ = ⟨[], [⟨#[97]⟩, ⟨#[98]⟩], 0⟩ from rfl] at r3
  go_wp2_with fail
  refine (cable_Take r3 1 1).mono ?_
  rintro e w4 ⟨rfl, r4, k4⟩
  rw [show copyC ⟨[], [⟨#[97]⟩, ⟨#[98]⟩], 0⟩ 1 1 = some ⟨#[98]⟩ from rfl, show strV (some ⟨#[98]⟩) = .string ⟨#[98]⟩ from rfl, Option.isSome_some]
  go_wp2_with fail
  go_ret
  exact ⟨rfl, b1.trans (((k2.trans k3).trans k4).below b1.size (fun k h1 h2 => by have := h2.1; omega))⟩
theorem law_CableNil (kind to i at' b : Int) (s : ByteArray) (w : World) :
    Calls Try.prog 5 #[.agg #[.int .i64 kind, .int .i64 to, .int .i64 i, .string s, .int .i64 at', .int .u8 b]] w fun e w' => e = .returned (.bool true) ∧ Below w.heap.size w w' := by
  go_enter Try.func5, Try.ntmps5
  go_wp2_with fail
  refine (awake08 _).mono ?_
  rintro e w1 ⟨rfl, b1⟩
  have hB := (b1.block w.heap.size (by simp)).trans (blk_new w _)
  have x1 : w1.cell? ⟨w.heap.size, 1, none⟩ = some (.int .i64 to) := blk_cell hB rfl
  have x2 : w1.cell? ⟨w.heap.size, 2, none⟩ = some (.int .i64 i) := blk_cell hB rfl
  have x3 : w1.cell? ⟨w.heap.size, 3, none⟩ = some (.string s) := blk_cell hB rfl
  have x4 : w1.cell? ⟨w.heap.size, 4, none⟩ = some (.int .i64 at') := blk_cell hB rfl
  have x5 : w1.cell? ⟨w.heap.size, 5, none⟩ = some (.int .u8 b) := blk_cell hB rfl
  have hb := ((Below.refl w.heap.size w).alloc (Nat.le_refl _) _).trans (b1.mono (by simp))
  clear b1 hB
  go_wp2_with fail
  refine (nilC_Send to s w1).mono ?_
  rintro e w2 ⟨rfl, rfl⟩
  go_wp2_with fail
  refine (nilC_Take to i w1).mono ?_
  rintro e w2 ⟨rfl, rfl⟩
  go_wp2_with fail
  refine (nilC_Copy to i w1).mono ?_
  rintro e w2 ⟨rfl, rfl⟩
  go_wp2_with fail
  refine (nilC_Spoil to i at' b w1).mono ?_
  rintro e w2 ⟨rfl, rfl⟩
  go_wp2_with fail
  refine (nilC_Drop to i w1).mono ?_
  rintro e w2 ⟨rfl, rfl⟩
  go_wp2_with fail
  refine (nilC_Flying to w1).mono ?_
  rintro e w2 ⟨rfl, rfl⟩
  go_wp2_with fail
  refine (nilC_Lost w1).mono ?_
  rintro e w2 ⟨rfl, rfl⟩
  go_wp2_with fail
  refine (nilC_Cut w1).mono ?_
  rintro e w2 ⟨rfl, q, rfl⟩
  go_wp2_with fail
  go_ret
  exact ⟨rfl, below_drewN hb _⟩
end Go.Proofs.Ytdgbmnefpempaaa
