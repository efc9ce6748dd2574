/- game: whether a state may be. -/
import Derived.Test.YtfepefohaadecaaPly
namespace Go.Proofs.Ytfepefohaadecaa
open Go.RowKit
set_option maxRecDepth 10000
variable {w : World}
def shoAt (v : Nat → Int) (j : Nat) : Bool := shoOk (v (24 + 6 * j)) (v (25 + 6 * j)) (v (26 + 6 * j)) (v (27 + 6 * j)) (v (28 + 6 * j)) (v (29 + 6 * j))
def plyAt (v : Nat → Int) (o : Nat) : Bool := plyOk (v (o + 4)) (v (o + 5)) (v (o + 6)) (v (o + 7)) (v (o + 8)) (v (o + 9)) (v o) (v (o + 1))
def shosOk (v : Nat → Int) : Nat → Bool
  | 0 => true
  | j + 1 => shosOk v j && shoAt v j
/-- may a state be -/
def rightS (v : Nat → Int) : Bool := shosOk v 6 && (plyAt v 4 && (plyAt v 14 && (inR (v 0) 0 1073741824 && (inR (v 2) 0 1073741824 && inR (v 3) 1 600))))
theorem shosOk_false {v : Nat → Int} {j : Nat} (h : shoAt v j = false) (hj : j < 6) : shosOk v 6 = false := by
  have : ∀ k, j + 1 + k ≤ 6 → shosOk v (j + 1 + k) = false := by
    intro k
    induction k with
    | zero => intro _; simp [shosOk, h]
    | succ k ih => intro hk; rw [show j + 1 + (k + 1) = (j + 1 + k) + 1 by omega]; simp [shosOk, ih (by omega)]
  have := this (6 - (j + 1)) (by omega)
  rwa [show j + 1 + (6 - (j + 1)) = 6 by omega] at this
def plyC (v : Nat → Int) (o : Nat) : Array Value := #[.int .i32 (v o), .int .i32 (v (o + 1)), .int .i32 (v (o + 2)), .int .i32 (v (o + 3)), .int .i64 (v (o + 4)), .int .i64 (v (o + 5)), .int .i64 (v (o + 6)), .int .i64 (v (o + 7)), .int .i64 (v (o + 8)), .int .i64 (v (o + 9))]
theorem ply_sub (v : Nat → Int) (o : Nat) (ho : o = 4 ∨ o = 14) (j : Nat) (x : Value) (hj : (plyC v o)[j]? = some x) : (mkC v)[o + j]? = some x := by
  have h : j < 10 := (Array.getElem?_eq_some_iff.1 hj).1
  rw [mkC_get _ (by omega)]
  rcases ho with rfl | rfl
  all_goals
    match j, h with
    | 0, _ => exact hj
    | 1, _ => exact hj
    | 2, _ => exact hj
    | 3, _ => exact hj
    | 4, _ => exact hj
    | 5, _ => exact hj
    | 6, _ => exact hj
    | 7, _ => exact hj
    | 8, _ => exact hj
    | 9, _ => exact hj
theorem run_load_ply (v : Nat → Int) (o : Nat) (ho : o = 4 ∨ o = 14) (B : Nat) (w : World) (t : TypeId) (hB : w.heap[B]? = some (.cells (mkC v) t (0, 0))) : (Instr.loadAt 27 (.pointer (some ⟨B, o, none⟩))).run Try.prog w = .ok (.agg (plyC v o)) w :=
  run_load_agg 27 10 B o (plyC v o) (mkC v) t Try.isAgg27 Try.sizeOf27 rfl hB (ply_sub v o ho)
structure Rgt (w wr : World) (v : Nat → Int) (B : Nat) (j : Nat) : Prop where
  blk : wr.heap[B]? = some (.cells (mkC v) 33 (0, 0))
  bel : Below w.heap.size w wr
  ok : shosOk v j = true
set_option maxHeartbeats 1000000 in
theorem gm_Right (v : Nat → Int) (w : World) : Calls Try.prog 39 #[.agg (mkC v)] w fun e w' => e = .returned (.bool (rightS v)) ∧ Below w.heap.size w w' := by
  go_enter Try.func39, Try.ntmps39
  have hB := blk_new w (.cells (mkC v) 33)
  have hb := (Below.refl w.heap.size w).alloc (Nat.le_refl _) (.cells (mkC v) 33)
  have hload := run_load_shos v w.heap.size _ _ hB
  have hR := hid (show Rgt w (w.alloc (.cells (mkC v) 33)) v w.heap.size 0 from ⟨hB, hb, rfl⟩)
  clear hb
  go_wp2_with (refine wpList_run_load hload rfl rfl rfl ?_)
  clear hload
  generalize w.alloc (.cells (mkC v) 33) = w0 at *
  generalize hBe : w.heap.size = B at *
  clear hB
  go_loopw [7] (fun i wr => ∃ j : Nat, j ≤ 6 ∧ i = .int .i64 j ∧ Hid (Rgt w wr v B j)) (fun i _ => 6 - (intOf i).toNat)
  case atStart => exact ⟨0, by omega, rfl, hR⟩
  case round =>
    obtain ⟨j, hj, rfl, hC⟩ := hrel
    obtain ⟨wo, rfl⟩ : ∃ wo : World, wo = wr := ⟨_, rfl⟩
    clear hR
    by_cases hlt : (j : Int) < 6
    · have hI := run_index_sho v j (by omega)
      unfold shoC at hI
      have hG := fun W => gm_shot (v (24 + 6 * j)) (v (25 + 6 * j)) (v (26 + 6 * j)) (v (27 + 6 * j)) (v (28 + 6 * j)) (v (29 + 6 * j)) W
      rw [show shoOk (v (24 + 6 * j)) (v (25 + 6 * j)) (v (26 + 6 * j)) (v (27 + 6 * j)) (v (28 + 6 * j)) (v (29 + 6 * j)) = shoAt v j from rfl] at hG
      go_wp2_with fail
      refine (hG _).mono ?_
      rintro e w1 ⟨rfl, hb1⟩
      have hk1 : Keeps (fun _ => False) wo w1 := ((Keeps.refl _ wo).alloc _).then_below hb1
      clear hb1 hG hI
      cases hs : shoAt v j
      · have hf := shosOk_false hs (by omega)
        have hbe := hC.out.bel.trans (hk1.below hC.out.bel.size (fun k _ x => x))
        go_wp2_with fail
        go_ret
        exact ⟨by simp [rightS, hf], hbe⟩
      · go_wp2_with fail
        go_roundw
        case rel => 
          exact ⟨j + 1, by omega, by go_num, ⟨hk1.heap hC.out.blk id, hC.out.bel.trans (hk1.below hC.out.bel.size (fun k _ x => x)), by simp [shosOk, hC.out.ok, hs]⟩⟩
        case measure => simp [intOf]; omega
    · obtain rfl : j = 6 := by omega
      obtain ⟨h1, h2, h3⟩ := hC.out
      clear hC
      have hP0 := fun W => gm_player (v 4) (v 5) (v 6) (v 7) (v 8) (v 9) (v 10) (v 11) (v 12) (v 13) W
      have hP1 := fun W => gm_player (v 14) (v 15) (v 16) (v 17) (v 18) (v 19) (v 20) (v 21) (v 22) (v 23) W
      rw [show plyOk (v 8) (v 9) (v 10) (v 11) (v 12) (v 13) (v 4) (v 5) = plyAt v 4 from rfl] at hP0
      rw [show plyOk (v 18) (v 19) (v 20) (v 21) (v 22) (v 23) (v 14) (v 15) = plyAt v 14 from rfl] at hP1
      have hW0 := fun W => gm_within (v 0) 0 1073741824 W
      have hW2 := fun W => gm_within (v 2) 0 1073741824 W
      have hW3 := fun W => gm_within (v 3) 1 600 W
      rw [show (decide (0 ≤ v 0) && decide (v 0 ≤ 1073741824)) = inR (v 0) 0 1073741824 from rfl] at hW0
      rw [show (decide (0 ≤ v 2) && decide (v 2 ≤ 1073741824)) = inR (v 2) 0 1073741824 from rfl] at hW2
      rw [show (decide (1 ≤ v 3) && decide (v 3 ≤ 600)) = inR (v 3) 1 600 from rfl] at hW3
      have hr : rightS v = (plyAt v 4 && (plyAt v 14 && (inR (v 0) 0 1073741824 && (inR (v 2) 0 1073741824 && inR (v 3) 1 600)))) := by simp [rightS, h3]
      generalize plyAt v 4 = c1 at *
      generalize plyAt v 14 = c2 at *
      generalize inR (v 0) 0 1073741824 = c3 at *
      generalize inR (v 2) 0 1073741824 = c4 at *
      generalize inR (v 3) 1 600 = c5 at *
      have Hr := hid hr
      clear hr h3
      have y4 : wo.cell? ⟨B, 4, none⟩ = some (.int .i32 (v 4)) := blk_cell h1 (mkC_get v (o := 4) (by omega))
      have y5 : wo.cell? ⟨B, 5, none⟩ = some (.int .i32 (v 5)) := blk_cell h1 (mkC_get v (o := 5) (by omega))
      have y6 : wo.cell? ⟨B, 6, none⟩ = some (.int .i32 (v 6)) := blk_cell h1 (mkC_get v (o := 6) (by omega))
      have y7 : wo.cell? ⟨B, 7, none⟩ = some (.int .i32 (v 7)) := blk_cell h1 (mkC_get v (o := 7) (by omega))
      have y8 : wo.cell? ⟨B, 8, none⟩ = some (.int .i64 (v 8)) := blk_cell h1 (mkC_get v (o := 8) (by omega))
      have y9 : wo.cell? ⟨B, 9, none⟩ = some (.int .i64 (v 9)) := blk_cell h1 (mkC_get v (o := 9) (by omega))
      have y10 : wo.cell? ⟨B, 10, none⟩ = some (.int .i64 (v 10)) := blk_cell h1 (mkC_get v (o := 10) (by omega))
      have y11 : wo.cell? ⟨B, 11, none⟩ = some (.int .i64 (v 11)) := blk_cell h1 (mkC_get v (o := 11) (by omega))
      have y12 : wo.cell? ⟨B, 12, none⟩ = some (.int .i64 (v 12)) := blk_cell h1 (mkC_get v (o := 12) (by omega))
      have y13 : wo.cell? ⟨B, 13, none⟩ = some (.int .i64 (v 13)) := blk_cell h1 (mkC_get v (o := 13) (by omega))
      go_wp2_with fail
      refine (hP0 _).mono ?_
      rintro e w1 ⟨rfl, hb1⟩
      have hk1 := (Keeps.refl (fun _ => False) wo).then_below hb1
      have g1 := hk1.heap h1 id
      have hbe := h2.trans (hk1.below h2.size (fun k _ x => x))
      clear y4 y5 y6 y7 y8 y9 y10 y11 y12 y13
      clear h1 h2 hP0 hb1 hk1
      cases c1
      · go_wp2_with fail
        go_ret
        exact ⟨by rw [Hr.out]; first | rfl | simp, hbe⟩
      have y14 : w1.cell? ⟨B, 14, none⟩ = some (.int .i32 (v 14)) := blk_cell g1 (mkC_get v (o := 14) (by omega))
      have y15 : w1.cell? ⟨B, 15, none⟩ = some (.int .i32 (v 15)) := blk_cell g1 (mkC_get v (o := 15) (by omega))
      have y16 : w1.cell? ⟨B, 16, none⟩ = some (.int .i32 (v 16)) := blk_cell g1 (mkC_get v (o := 16) (by omega))
      have y17 : w1.cell? ⟨B, 17, none⟩ = some (.int .i32 (v 17)) := blk_cell g1 (mkC_get v (o := 17) (by omega))
      have y18 : w1.cell? ⟨B, 18, none⟩ = some (.int .i64 (v 18)) := blk_cell g1 (mkC_get v (o := 18) (by omega))
      have y19 : w1.cell? ⟨B, 19, none⟩ = some (.int .i64 (v 19)) := blk_cell g1 (mkC_get v (o := 19) (by omega))
      have y20 : w1.cell? ⟨B, 20, none⟩ = some (.int .i64 (v 20)) := blk_cell g1 (mkC_get v (o := 20) (by omega))
      have y21 : w1.cell? ⟨B, 21, none⟩ = some (.int .i64 (v 21)) := blk_cell g1 (mkC_get v (o := 21) (by omega))
      have y22 : w1.cell? ⟨B, 22, none⟩ = some (.int .i64 (v 22)) := blk_cell g1 (mkC_get v (o := 22) (by omega))
      have y23 : w1.cell? ⟨B, 23, none⟩ = some (.int .i64 (v 23)) := blk_cell g1 (mkC_get v (o := 23) (by omega))
      go_wp2_with fail
      refine (hP1 _).mono ?_
      rintro e w2 ⟨rfl, hb1⟩
      have hk1 := (Keeps.refl (fun _ => False) w1).then_below hb1
      have g2 := hk1.heap g1 id
      have hbf := hbe.trans (hk1.below hbe.size (fun k _ x => x))
      clear y14 y15 y16 y17 y18 y19 y20 y21 y22 y23
      clear g1 hbe hP1 hb1 hk1
      cases c2
      · go_wp2_with fail
        go_ret
        exact ⟨by rw [Hr.out]; first | rfl | simp, hbf⟩
      have y0 : w2.cell? ⟨B, 0, none⟩ = some (.int .i64 (v 0)) := blk_cell g2 (mkC_get v (o := 0) (by omega))
      have y2 : w2.cell? ⟨B, 2, none⟩ = some (.int .i64 (v 2)) := blk_cell g2 (mkC_get v (o := 2) (by omega))
      have y3 : w2.cell? ⟨B, 3, none⟩ = some (.int .i64 (v 3)) := blk_cell g2 (mkC_get v (o := 3) (by omega))
      go_wp2_with fail
      refine (hW0 _).mono ?_
      rintro e _ ⟨rfl, rfl⟩
      cases c3
      · go_wp2_with fail
        go_ret
        exact ⟨by rw [Hr.out]; first | rfl | simp, hbf⟩
      go_wp2_with fail
      refine (hW2 _).mono ?_
      rintro e _ ⟨rfl, rfl⟩
      cases c4
      · go_wp2_with fail
        go_ret
        exact ⟨by rw [Hr.out]; first | rfl | simp, hbf⟩
      go_wp2_with fail
      refine (hW3 _).mono ?_
      rintro e _ ⟨rfl, rfl⟩
      cases c5
      · go_wp2_with fail
        go_ret
        exact ⟨by rw [Hr.out]; first | rfl | simp, hbf⟩
      go_wp2_with fail
      go_ret
      exact ⟨by rw [Hr.out]; first | rfl | simp, hbf⟩
end Go.Proofs.Ytfepefohaadecaa
