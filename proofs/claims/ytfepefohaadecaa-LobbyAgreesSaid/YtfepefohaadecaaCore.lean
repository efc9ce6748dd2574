/- core.New, at a config that may be. -/
import Derived.Test.YtfepefohaadecaaPeer3
import Derived.Test.YtfepefohaadecaaTree
import Derived.Deep.LoopGhost
namespace Go.Proofs.Ytfepefohaadecaa
open Go.RowKit
set_option maxRecDepth 100000
variable {w w' : World}
set_option maxHeartbeats 1600000 in
theorem core_New (s n m : Int) (dn : Nat) (hd : dn ≤ 8) (hn : 1 ≤ n ∧ n ≤ 16) (hm : m = 0 ∨ m = 1) (w : World) :
    Calls Try.prog 87 #[.agg #[.int .u32 s, .int .i64 dn, .int .i64 n, .int .i64 m]] w (Made w) := by
  have HM := hid (fun W => core_may s dn n m (by omega) hn hm W)
  have HBg := hid (fun W => game_Begin s W)
  clear hn hm
  go_enter Try.func87, Try.ntmps87
  go_wp2_with fail
  refine (HM.out _).mono ?_
  rintro e w1 ⟨rfl, hb1⟩
  have hc1 := (Keeps.of_below (S := fun _ => False) hb1 (fun k h1 h2 => by omega)).heap (blk_new w (.cells #[.int .u32 s, .int .i64 dn, .int .i64 n, .int .i64 m] 72)) id
  have hW1 : Below w.heap.size w w1 := ((Below.refl _ w).alloc (Nat.le_refl _) _).trans (hb1.mono (by simp))
  have hl1 : w.heap.size < w1.heap.size := blk_lt hc1
  clear hb1
  go_wp2_with fail
  refine (winS_Open 81 (by omega) (by omega) w1).mono ?_
  rintro e w2 ⟨rfl, ⟨cs, hS⟩, hb2, hs2⟩
  have hc2 := (Keeps.of_below (S := fun _ => False) hb2 (fun k h1 h2 => by omega)).heap hc1 id
  have hW2 := hW1.trans (hb2.mono hW1.size)
  have Hs2 := hid hs2
  have HS := hid hS
  clear hc1 hb2 hs2 hW1 hS
  have y0 := keptS_cell (S := fun _ => False) (w := w2.drew) (blk_cell hc2 (k := 0) rfl) id
  have y1 := keptS_cell (S := fun _ => False) (w := w2.drew) (blk_cell hc2 (k := 1) rfl) id
  have y2 := keptS_cell (S := fun _ => False) (w := w2.drew) (blk_cell hc2 (k := 2) rfl) id
  have y3 := keptS_cell (S := fun _ => False) (w := w2.drew) (blk_cell hc2 (k := 3) rfl) id
  go_wp2_with fail
  refine stages_start (by kernel_rfl) 8 rfl ?_
  refine stagek (fun _ => False) [0, 4] [1, 2, 3, 5, 6, 7] 0 rfl #[true, true, true, true, true, true, true, true] (by kernel_rfl) (by kernel_rfl) (fun _ _ _ d _ h => by cases d <;> exact h) ?_
  simp only [opsAt, List.map_cons, List.map_nil, List.getElem?_toArray, List.getElem?_cons_zero, List.getElem?_cons_succ, Option.getD_some]
  repeat (go_big_quiet_step (fail))
  refine wpQuiet_nil ?_
  refine links_cons (by first | rfl | simp [go_sem]) (fun K hK => ?_)
  go_simp
  refine (feed_New _).mono ?_
  rintro e w3 ⟨rfl, hF1, hb3, hs3⟩
  have hs3 : w3.heap.size = w2.heap.size + 5 := hs3
  have hF1 : FeedW w3 w2.heap.size 0 := hF1
  have hk3 : Keeps (fun _ => False) w2.drew w3 := Keeps.of_below hb3 (fun k h1 h2 => by omega)
  have Hs3 := hid hs3
  clear hs3 hb3
  refine hK _ _ (keptS (hk3)) ?_
  clear hK K
  try refine links_nil ?_
  refine links_cons (by first | rfl | simp [go_sem]) (fun K hK => ?_)
  go_simp
  refine (feed_New _).mono ?_
  rintro e w4 ⟨rfl, hF2, hb4, hs4⟩
  have hk34 : Keeps (fun _ => False) w3 w4 := Keeps.of_below hb4 (fun k h1 h2 => by omega)
  have hF1b := hF1.keeps hk34 (fun _ _ _ => id)
  have hk4 := hk3.trans hk34
  have Hs4 := hid hs4
  clear hF1 hk3 hk34 hs4 hb4
  refine hK _ _ (keptS (hk4)) ?_
  clear hK K
  try refine links_nil ?_
  refine links_cons (by first | rfl | simp [go_sem]) (fun K hK => ?_)
  go_simp
  refine hK _ _ (keptS (hk4)) ?_
  clear hK K
  try refine links_nil ?_
  refine links_cons (by first | rfl | simp [go_sem]) (fun K hK => ?_)
  go_simp
  refine hK _ _ (keptS (hk4)) ?_
  clear hK K
  try refine links_nil ?_
  refine links_cons (by first | rfl | simp [go_sem]) (fun K hK => ?_)
  go_simp
  refine hK _ _ (keptS (hk4.alloc _)) ?_
  clear hK K
  try refine links_nil ?_
  refine links_cons (by first | rfl | simp [go_sem]) (fun K hK => ?_)
  go_simp
  refine hK _ _ (keptS (hk4.alloc _)) ?_
  clear hK K
  try refine links_nil ?_
  refine stages_end (by kernel_rfl) ?_
  clear y0 y1 y2 y3
  have hk24 : Keeps (fun _ => False) w2 w4 := ⟨hk4.os, hk4.tape, hk4.output, hk4.size, hk4.block⟩
  have hD : w3.heap.size = w2.heap.size + 5 := Hs3.out
  have hE : w4.heap.size = w3.heap.size + 5 := Hs4.out
  rw [hD] at hF2 hE
  have hc4 := blk_alloc (hk24.heap hc2 id) (.cells #[.int .u32 s, .int .i64 dn, .int .i64 n, .int .i64 m, .pointer (some ⟨w2.heap.size + 4, 0, none⟩), .pointer (some ⟨w3.heap.size + 4, 0, none⟩), .pointer (some ⟨w1.heap.size + 1, 0, none⟩), .int .i64 0] 175)
  have hcore := blk_new w4 (.cells #[.int .u32 s, .int .i64 dn, .int .i64 n, .int .i64 m, .pointer (some ⟨w2.heap.size + 4, 0, none⟩), .pointer (some ⟨w3.heap.size + 4, 0, none⟩), .pointer (some ⟨w1.heap.size + 1, 0, none⟩), .int .i64 0] 175)
  have hk5 : Keeps (fun _ => False) w2 (w4.alloc (.cells #[.int .u32 s, .int .i64 dn, .int .i64 n, .int .i64 m, .pointer (some ⟨w2.heap.size + 4, 0, none⟩), .pointer (some ⟨w3.heap.size + 4, 0, none⟩), .pointer (some ⟨w1.heap.size + 1, 0, none⟩), .int .i64 0] 175)) := hk24.alloc _
  have hS5 := HS.out.keeps hk5 id id
  have hW5 := hW2.trans (hk5.below hW2.size (fun k h1 h2 => h2))
  have hF1c := hF1b.keeps ((Keeps.refl (fun _ => False) w4).alloc (.cells #[.int .u32 s, .int .i64 dn, .int .i64 n, .int .i64 m, .pointer (some ⟨w2.heap.size + 4, 0, none⟩), .pointer (some ⟨w3.heap.size + 4, 0, none⟩), .pointer (some ⟨w1.heap.size + 1, 0, none⟩), .int .i64 0] 175)) (fun _ _ _ => id)
  have hF2c := hF2.keeps ((Keeps.refl (fun _ => False) w4).alloc (.cells #[.int .u32 s, .int .i64 dn, .int .i64 n, .int .i64 m, .pointer (some ⟨w2.heap.size + 4, 0, none⟩), .pointer (some ⟨w3.heap.size + 4, 0, none⟩), .pointer (some ⟨w1.heap.size + 1, 0, none⟩), .int .i64 0] 175)) (fun _ _ _ => id)
  rw [hD] at hc4 hcore hk5 hS5 hW5 hF1c hF2c
  try rw [hD]
  generalize w4.alloc (.cells #[.int .u32 s, .int .i64 dn, .int .i64 n, .int .i64 m, .pointer (some ⟨w2.heap.size + 4, 0, none⟩), .pointer (some ⟨w2.heap.size + 5 + 4, 0, none⟩), .pointer (some ⟨w1.heap.size + 1, 0, none⟩), .int .i64 0] 175) = w5 at *
  have hA : w2.heap.size = w1.heap.size + 2 := Hs2.out
  have hlD : w1.heap.size + 2 ≤ w2.heap.size := by omega
  generalize hBc : w4.heap.size = Bc at *
  have hlE : w2.heap.size + 10 ≤ Bc := by omega
  clear hk4 hk24 hF1b hF2 hD hE hA Hs2 Hs3 Hs4 HS hW2 hc2 hk5 hBc
  generalize w2.heap.size = D at *
  generalize w1.heap.size = B1 at *
  have x0 := blk_cell hc4 (k := 0) rfl
  have x1 := blk_cell hc4 (k := 1) rfl
  have HcC := hid hcore
  have Hc4 := hid hc4
  clear hc4 hcore
  go_wp2_with fail
  clear x0 x1
  go_loopw [29] (fun iv wr => ∃ k : Nat, k ≤ dn ∧ iv = .int .i64 k ∧ FeedW wr D k ∧ FeedW wr (D + 5) k ∧ Keeps (fun b => D ≤ b ∧ b < D + 10) w5 wr) (fun iv _ => dn - (intOf iv).toNat)
  case atStart => exact ⟨0, Nat.zero_le _, rfl, hF1c, hF2c, Keeps.refl _ _⟩
  case round =>
    obtain ⟨k, hk, rfl, hG1, hG2, hkr⟩ := hrel
    clear hF1c hF2c
    by_cases hlt : k < dn
    · have hcr := hkr.heap HcC.out (by omega)
      have q4 := blk_cell hcr (k := 4) rfl
      have q5 := blk_cell hcr (k := 5) rfl
      have i0 : ∀ w, (Instr.index 173 (.agg #[.pointer (some ⟨D + 4, 0, none⟩), .pointer (some ⟨D + 5 + 4, 0, none⟩)]) (.int .i64 0)).run Try.prog w = .ok (.pointer (some ⟨D + 4, 0, none⟩)) w := fun _ => by kernel_rfl
      have i1 : ∀ w, (Instr.index 173 (.agg #[.pointer (some ⟨D + 4, 0, none⟩), .pointer (some ⟨D + 5 + 4, 0, none⟩)]) (.int .i64 1)).run Try.prog w = .ok (.pointer (some ⟨D + 5 + 4, 0, none⟩)) w := fun _ => by kernel_rfl
      clear hcr
      go_wp2_with fail
      obtain ⟨wo, hwo⟩ : ∃ wo : World, wo = wr := ⟨_, rfl⟩
      subst hwo
      go_loopw [36] (fun jv wi => ∃ j : Nat, j ≤ 2 ∧ jv = .int .i64 j ∧ FeedW wi D (k + min j 1) ∧ FeedW wi (D + 5) (k + (j - 1)) ∧ Keeps (fun b => D ≤ b ∧ b < D + 10) w5 wi) (fun jv _ => 2 - (intOf jv).toNat)
      case atStart => exact ⟨0, by omega, rfl, hG1, hG2, hkr⟩
      case round =>
        obtain ⟨j, hj, rfl, hI1, hI2, hki⟩ := hrel
        clear hG1 hG2 hkr
        rcases (show j = 0 ∨ j = 1 ∨ j = 2 by omega) with rfl | rfl | rfl
        · have hP := hid (feed_Put (D := D) k (k : Int) rfl hI1 (by omega))
          clear hI1
          go_wp2_with fail
          refine hP.out.mono ?_
          rintro e w8 ⟨⟨v, rfl⟩, h1, hk8⟩
          have h2 := hI2.keeps hk8 (fun b _ _ h => by omega)
          have hk9 := hki.trans (hk8.mono (T := fun b => D ≤ b ∧ b < D + 10) (fun b _ h => by omega))
          clear hI2 hk8 hki hP
          go_wp2_with fail
          go_roundw
          case rel => exact ⟨1, by omega, rfl, h1, h2, hk9⟩
          case measure => simp [intOf]
        · have hP := hid (feed_Put (D := D + 5) k (k : Int) rfl hI2 (by omega))
          clear hI2
          go_wp2_with fail
          refine hP.out.mono ?_
          rintro e w8 ⟨⟨v, rfl⟩, h2, hk8⟩
          have h1 := hI1.keeps hk8 (fun b _ _ h => by omega)
          have hk9 := hki.trans (hk8.mono (T := fun b => D ≤ b ∧ b < D + 10) (fun b _ h => by omega))
          clear hI1 hk8 hki hP
          go_wp2_with fail
          go_roundw
          case rel => exact ⟨2, by omega, rfl, h1, h2, hk9⟩
          case measure => simp [intOf]
        · go_wp2_with fail
          go_roundw
          case rel => exact ⟨k + 1, by omega, by go_num, hI1, hI2, hki⟩
          case measure => simp [intOf]; omega
    · obtain rfl : k = dn := by omega
      have hcc := hkr.heap Hc4.out (by omega)
      have z0 := blk_cell hcc (k := 0) rfl
      have hSr := hS5.keeps hkr (by omega) (by omega)
      have hWr := hW5.trans (hkr.below hW5.size (fun b h1 h2 => by omega))
      clear hcc
      go_wp2_with fail
      refine (HBg.out _).mono ?_
      rintro e w8 ⟨rfl, hb8⟩
      have hS8 := hSr.keeps (Keeps.of_below (S := fun _ => False) hb8 (fun k h1 h2 => by omega)) id id
      have hW8 := hWr.trans (hb8.mono hWr.size)
      have hP := hid (winS_Put hS8 (beginC s) (beginC_size s) (beginC_one s))
      generalize beginC s = bc at *
      clear hSr hWr hS8 hb8
      go_wp2_with fail
      refine hP.out.mono ?_
      rintro e w9 ⟨rfl, hk9⟩
      have hW9 := hW8.trans (hk9.below hW8.size (fun b h1 h2 => by omega))
      clear hP hk9
      go_wp2_with fail
      go_ret2
      exact ⟨⟨_, rfl⟩, hW9⟩
end Go.Proofs.Ytfepefohaadecaa
