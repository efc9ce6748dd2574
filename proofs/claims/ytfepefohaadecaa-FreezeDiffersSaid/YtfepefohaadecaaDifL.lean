/- The law FreezeDiffers. -/
import Derived.Test.YtfepefohaadecaaBgn
import Derived.Test.YtfepefohaadecaaDifP
namespace Go.Proofs.Ytfepefohaadecaa
open Go.RowKit
set_option maxRecDepth 10000
variable {w : World}
theorem wpList_run_loadg {P : Program} {o : Oper} {a : Act} {Q : Exit → Act → World → Prop} {ops : Array Oper} {rest : List Oper} {w w' : World} {v p : Value} {T : TypeId} {x : Operand} (hrun : (Instr.loadAt T p).run P w = .ok v w') (hw : Region.wanted o (yielded ops a.tmps) = true) (ho : o.op = .load T x) (hx : a.eval x = p) (h : wpList P ops Q rest (a.put o.dst v) w') : wpList P ops Q (o :: rest) a w := by
  unfold wpList
  rw [if_pos hw]
  exact .inl (wp_run_load ho hx hrun h)
theorem st_guard : Try.prog.eqGuardType Try.prog.depth 33 = false := by kernel_rfl
theorem guard_state (x y : Operand) (c d : Array Value) (w : World) : (eqGuard .eql 33 x y (.agg c) (.agg d)).run Try.prog w = .ok () w := by
  unfold eqGuard
  simp [Sem.run_bind, Sem.run_pure, go_sem]
theorem wpList_run_opg {P : Program} {o : Oper} {a : Act} {Q : Exit → Act → World → Prop} {ops : Array Oper} {rest : List Oper} {w w' : World} {v u1 u2 : Value} {T T2 : TypeId} {x y : Operand} {b : BinOp} (hg : (eqGuard b T x y u1 u2).run P w = .ok () w) (hrun : (binOp b T u1 u2).run P w = .ok v w') (hw : Region.wanted o (yielded ops a.tmps) = true) (ho : o.op = .binOp b T x y T2) (hx : a.eval x = u1) (hy : a.eval y = u2) (h : wpList P ops Q rest (a.put o.dst v) w') : wpList P ops Q (o :: rest) a w := by
  unfold wpList
  rw [if_pos hw]
  refine .inl ?_
  unfold Oper.wp execOp
  simp only [ho, hx, hy, Sem.run_bind, hg, hrun, Result.andThen_ok, Sem.run_pure]
  exact h
set_option maxHeartbeats 4000000 in
theorem law_FreezeDiffers (a b : Nat → Int) (ha : WfL a) (hb : WfL b) (h0 : ∀ j, 60 ≤ j → a j = b j) (w : World) : Calls Try.prog 3 #[.agg (mkC a), .agg (mkC b)] w fun e w' =>
    e = .returned (.bool true) ∧ Below w.heap.size w w' := by
  have hB := blk_alloc (blk_new w (.cells (mkC a) 33)) (.cells (mkC b) 33)
  have hC := blk_new (w.alloc (.cells (mkC a) 33)) (.cells (mkC b) 33)
  have hbe : Below w.heap.size w ((w.alloc (.cells (mkC a) 33)).alloc (.cells (mkC b) 33)) := ((Below.refl w.heap.size w).alloc (Nat.le_refl _) _).alloc (by simp) _
  have e4 := eql_ply4 a b ha hb
  have e5 := eql_ply14 a b ha hb
  have e6 := eql_shos a b ha hb
  simp only [World.size_alloc] at hC
  go_enter Try.func3, Try.ntmps3
  go_wp2_with fail
  generalize (w.alloc (.cells (mkC a) 33)).alloc (.cells (mkC b) 33) = w0 at *
  generalize hBe : w.heap.size = B at *
  refine (awake13 _).mono ?_
  rintro e w1 ⟨rfl, hb1⟩
  have k1 := Keeps.of_below (S := fun _ => False) hb1 (fun k h1 h2 => by omega)
  have hB := k1.heap hB id
  have hC := k1.heap hC id
  have hbe := hbe.trans (hb1.mono (by have := hbe.size; omega))
  clear hb1 k1
  have hN := blk_new w1 (.cells nmC 9)
  have hB := blk_alloc hB (.cells nmC 9)
  have hC := blk_alloc hC (.cells nmC 9)
  have hbe := hbe.alloc (by have := hbe.size; omega) (.cells nmC 9)
  unfold nmC at hN hB hC hbe
  unfold nmB at hN hB hC hbe
  go_wp2_with fail
  generalize w1.alloc (.cells #[.string ⟨#[102, 114, 97, 109, 101]⟩, .string ⟨#[100, 105, 99, 101]⟩, .string ⟨#[114, 111, 117, 110, 100]⟩, .string ⟨#[108, 101, 102, 116]⟩, .string ⟨#[111, 110, 101]⟩, .string ⟨#[116, 119, 111]⟩, .string ⟨#[115, 104, 111, 116, 115]⟩] 9) = w2 at *
  generalize w1.heap.size = N at *
  have a0 := keptS_cell (S := fun _ => False) (w := w2.drew) (blk_cell hB (mkC_get a (o := 0) (by omega))) id
  have a1 := keptS_cell (S := fun _ => False) (w := w2.drew) (blk_cell hB (mkC_get a (o := 1) (by omega))) id
  have a2 := keptS_cell (S := fun _ => False) (w := w2.drew) (blk_cell hB (mkC_get a (o := 2) (by omega))) id
  have a3 := keptS_cell (S := fun _ => False) (w := w2.drew) (blk_cell hB (mkC_get a (o := 3) (by omega))) id
  have b0 := keptS_cell (S := fun _ => False) (w := w2.drew) (blk_cell hC (mkC_get b (o := 0) (by omega))) id
  have b1 := keptS_cell (S := fun _ => False) (w := w2.drew) (blk_cell hC (mkC_get b (o := 1) (by omega))) id
  have b2 := keptS_cell (S := fun _ => False) (w := w2.drew) (blk_cell hC (mkC_get b (o := 2) (by omega))) id
  have b3 := keptS_cell (S := fun _ => False) (w := w2.drew) (blk_cell hC (mkC_get b (o := 3) (by omega))) id
  have l4 := cls_load (S := fun _ => False) (w0 := w2.drew) hB id (fun W h => run_load_ply a 4 (.inl rfl) B W _ h)
  have l5 := cls_load (S := fun _ => False) (w0 := w2.drew) hB id (fun W h => run_load_ply a 14 (.inr rfl) B W _ h)
  have l6 := cls_load (S := fun _ => False) (w0 := w2.drew) hB id (fun W h => run_load_shos a B W _ h)
  have m4 := cls_load (S := fun _ => False) (w0 := w2.drew) hC id (fun W h => run_load_ply b 4 (.inl rfl) (B + 1) W _ h)
  have m5 := cls_load (S := fun _ => False) (w0 := w2.drew) hC id (fun W h => run_load_ply b 14 (.inr rfl) (B + 1) W _ h)
  have m6 := cls_load (S := fun _ => False) (w0 := w2.drew) hC id (fun W h => run_load_shos b (B + 1) W _ h)
  refine stages_start (by kernel_rfl) 41 rfl ?_
  refine stagek (fun _ => False) [0, 1, 2, 3, 4, 5, 6, 7, 8, 9, 10, 11, 12, 13, 14, 15, 16, 17, 18, 19, 20, 21, 22, 23, 24, 25, 26, 27, 28, 29, 30, 31, 32, 33, 34, 35, 36, 37, 38] [39, 40] 0 rfl #[true, true, true, true, true, true, true, true, true, true, true, true, true, true, true, true, true, true, true, true, true, true, true, true, true, true, true, true, true, true, true, true, true, true, true, true, true, true, true, true, true] (by kernel_rfl) (by kernel_rfl) (fun _ _ _ d _ h => by cases d <;> exact h) ?_
  simp only [opsAt, List.map_cons, List.map_nil, List.getElem?_toArray, List.getElem?_cons_zero, List.getElem?_cons_succ, Option.getD_some]
  repeat (first | (first | (refine wpQuiet_run_load l4 rfl rfl rfl ?_; simp only [Act.put, List.setIfInBounds_toArray, List.set_cons_succ, List.set_cons_zero]) | (refine wpQuiet_run_load l5 rfl rfl rfl ?_; simp only [Act.put, List.setIfInBounds_toArray, List.set_cons_succ, List.set_cons_zero]) | (refine wpQuiet_run_load l6 rfl rfl rfl ?_; simp only [Act.put, List.setIfInBounds_toArray, List.set_cons_succ, List.set_cons_zero]) | (refine wpQuiet_run_load m4 rfl rfl rfl ?_; simp only [Act.put, List.setIfInBounds_toArray, List.set_cons_succ, List.set_cons_zero]) | (refine wpQuiet_run_load m5 rfl rfl rfl ?_; simp only [Act.put, List.setIfInBounds_toArray, List.set_cons_succ, List.set_cons_zero]) | (refine wpQuiet_run_load m6 rfl rfl rfl ?_; simp only [Act.put, List.setIfInBounds_toArray, List.set_cons_succ, List.set_cons_zero])) | go_big_quiet_step (fail))
  refine wpQuiet_nil ?_
  have hkd : Keeps (fun _ => False) w2 (w2.alloc (.cells #[.bool (a 0 == b 0), .bool (a 1 == b 1), .bool (a 2 == b 2), .bool (a 3 == b 3), .bool (decide (sameN a b 4 10)), .bool (decide (sameN a b 14 10)), .bool (decide (sameN a b 24 36))] 4)).drew := ((Keeps.refl _ w2).alloc _).drew
  refine links_cons (by first | rfl | simp [go_sem]) (fun K hK => ?_)
  go_simp
  refine hK _ _ (keptS (keeps_drew hkd)) ?_
  clear hK K
  try refine links_nil ?_
  refine links_cons (by first | rfl | simp [go_sem]) (fun K hK => ?_)
  go_simp
  refine hK _ _ (keptS (keeps_drew hkd)) ?_
  clear hK K
  try refine links_nil ?_
  refine stages_end (by kernel_rfl) ?_
  clear a0 a1 a2 a3 b0 b1 b2 b3 l4 l5 l6 m4 m5 m6 e4 e5 e6
  have hS : (w2.alloc (.cells #[.bool (a 0 == b 0), .bool (a 1 == b 1), .bool (a 2 == b 2), .bool (a 3 == b 3), .bool (decide (sameN a b 4 10)), .bool (decide (sameN a b 14 10)), .bool (decide (sameN a b 24 36))] 4)).drew.heap[w2.heap.size]? = some (.cells (flB (flg a b)) 4 (0, 0)) := blk_new w2 _
  have hN : (w2.alloc (.cells #[.bool (a 0 == b 0), .bool (a 1 == b 1), .bool (a 2 == b 2), .bool (a 3 == b 3), .bool (decide (sameN a b 4 10)), .bool (decide (sameN a b 14 10)), .bool (decide (sameN a b 24 36))] 4)).drew.heap[N]? = some (.cells nmC 9 (0, 0)) := hkd.heap hN id
  have hB := hkd.heap hB id
  have hC := hkd.heap hC id
  have hbe := hbe.trans ((hkd.below (Nat.le_refl _) (fun k h1 h2 => h2)).mono (by have := hbe.size; omega))
  clear hkd
  generalize (w2.alloc (.cells #[.bool (a 0 == b 0), .bool (a 1 == b 1), .bool (a 2 == b 2), .bool (a 3 == b 3), .bool (decide (sameN a b 4 10)), .bool (decide (sameN a b 14 10)), .bool (decide (sameN a b 24 36))] 4)).drew = w3 at *
  generalize w2.heap.size = M at *
  have lA := run_load_state a B w3 _ hB
  have lB := run_load_state b (B + 1) w3 _ hC
  go_wp2_with (first | (refine wpList_run_load lA rfl rfl rfl ?_) | (refine wpList_run_load lB rfl rfl rfl ?_))
  refine (fz_Differ a b ha hb _).mono ?_
  rintro e w4 ⟨⟨A, cap, rfl, hV⟩, hb4⟩
  have k4 := Keeps.of_below (S := fun _ => False) hb4 (fun k h1 h2 => by omega)
  have hN := k4.heap hN id
  have hS := k4.heap hS id
  have hB := k4.heap hB id
  have hC := k4.heap hC id
  have hbe := hbe.trans (hb4.mono (by have := hbe.size; omega))
  have hA := flg_all a b
  generalize hf : flg a b = f at *
  have hlen := difN_len f
  have hat := difN_at f
  generalize hD : difN f 7 = D at *
  have HB := hid hB
  have HC := hid hC
  have HN := hid hN
  have HS := hid hS
  have HV := hid hV
  have HD := hid hD
  have hbe4 := hbe
  rw [← hBe] at hbe4
  have hsz := hbe4.size
  clear lA lB hb4 k4 hB hC hN hS hV hbe hf hD
  go_wp2_with fail
  go_loopw [8, 9] (fun n i wr => ∃ k : Nat, k ≤ 7 ∧ n = .int .i64 (difN f k).length ∧ i = .int .i64 k ∧ Keeps (fun _ => False) w4 wr) (fun _ i _ => 7 - (intOf i).toNat)
  case atStart => exact ⟨0, Nat.zero_le _, rfl, rfl, Keeps.refl _ _⟩
  case round =>
    obtain ⟨k, hk, rfl, rfl, hkr⟩ := hrel
    by_cases hlt : k < 7
    · obtain ⟨c0, c1⟩ := nmC_get f k hlt
      have y0 := blk_cell (hkr.heap HN.out id) c0
      have y1 := blk_cell (hkr.heap HS.out id) c1
      have hs : difN f (k + 1) = difN f k ++ if f k then [] else [k] := rfl
      have hle := hlen k
      clear c0 c1
      cases hc : f k
      · rw [hc] at y1 hs
        have hnl : (difN f (k + 1)).length = (difN f k).length + 1 := by rw [hs]; simp
        have h1 := hat k hlt hc
        have h2 : (difN f k).length < D.length := by
          by_cases e : (difN f k).length < D.length
          · exact e
          · rw [List.getElem?_eq_none (by omega)] at h1; cases h1
        obtain ⟨ab, ao, rfl, hcl⟩ := (HV.out).at' (by omega)
        have y2 := hkr.cell (hcl (difN f k).length (.string (nmB k)) (by unfold nmsV; rw [List.getElem?_map, h1]; rfl)) id
        clear h1 hs hc hcl
        have Hn := hid hnl
        clear hnl
        generalize nmB k = nm at *
        generalize (difN f k).length = n at *
        go_wp2_with fail
        have hd : decide ((n : Int) ≥ D.length) = false := by simp; omega
        go_quiet (fail)
        go_wp2_with fail
        go_roundw
        case rel => exact ⟨k + 1, by omega, by rw [Hn.out]; go_num, by go_num, hkr.drewN nq⟩
        case measure => simp [intOf]; omega
      · rw [hc] at y1 hs
        have hs : difN f (k + 1) = difN f k := by simpa using hs
        have Hs := hid hs
        clear hs hc
        go_wp2_with fail
        go_roundw
        case rel => exact ⟨k + 1, by omega, by rw [Hs.out], by go_num, hkr⟩
        case measure => simp [intOf]; omega
    · obtain rfl : k = 7 := by omega
      rw [HD.out]
      have lA := run_load_state a B wr _ (hkr.heap HB.out id)
      go_wp2_with (refine wpList_run_load lA rfl rfl rfl ?_)
      have hPa := fun W => fz_Pack a (wfS_of ha) W
      have hPb := fun W => fz_Pack b (wfS_of hb) W
      have hfin : (if rightS a = true then (0 : Int) else 1) ≠ 0 ∨ (if rightS b = true then (0 : Int) else 1) ≠ 0 ∨ ((if rightS a = true then (⟨(packS a).toArray⟩ : ByteArray) else ByteArray.empty) = (if rightS b = true then (⟨(packS b).toArray⟩ : ByteArray) else ByteArray.empty) ↔ sameN a b 0 60) := by
        cases ra : rightS a
        · exact .inl (by simp)
        · cases rb : rightS b
          · exact .inr (.inl (by simp))
          · refine .inr (.inr ?_)
            rw [if_pos rfl, if_pos rfl, ← packs_iff (wfS_of ha) (wfS_of hb) h0 ra rb]
            exact ⟨fun h => by simpa using congrArg (fun x => x.data.toList) h, fun h => by rw [h]⟩
      generalize (if rightS a = true then (⟨(packS a).toArray⟩ : ByteArray) else ByteArray.empty) = X at *
      generalize (if rightS b = true then (⟨(packS b).toArray⟩ : ByteArray) else ByteArray.empty) = Y at *
      generalize (if rightS a = true then (0 : Int) else 1) = E at *
      generalize (if rightS b = true then (0 : Int) else 1) = F at *
      refine (hPa _).mono ?_
      rintro e w5 ⟨rfl, hb5⟩
      have k5 := hkr.trans (Keeps.of_below (S := fun _ => False) hb5 (fun k h1 h2 => by omega))
      clear lA hPa
      have lB := run_load_state b (B + 1) w5 _ (k5.heap HC.out id)
      go_wp2_with (refine wpList_run_load lB rfl rfl rfl ?_)
      refine (hPb _).mono ?_
      rintro e w6 ⟨rfl, hb6⟩
      have k6 := k5.trans (Keeps.of_below (S := fun _ => False) hb6 (fun k h1 h2 => by omega))
      clear lB hPb
      have lA := run_load_state a B w6 _ (k6.heap HB.out id)
      have lB := run_load_state b (B + 1) w6 _ (k6.heap HC.out id)
      have hbf := hbe4.trans ((k6.below (B := w.heap.size) (by omega) (fun k h1 h2 => h2)))
      have e7 := eql_state a b ha hb w6
      clear hb5 k5 hb6 k6 hkr HB HC HN HS HV
      have q0 : sameN a b 0 60 ∨ ((D.length : Int) == 0) = false ∧ ¬ sameN a b 0 60 := by
        by_cases hs : sameN a b 0 60
        · exact .inl hs
        · refine .inr ⟨?_, hs⟩
          rw [beq_eq_false_iff_ne]
          intro hh
          exact hs (hA.1 (List.eq_nil_of_length_eq_zero (by omega)))
      by_cases h1 : E = 0
      · subst h1
        by_cases h2 : F = 0
        · subst h2
          have h : X = Y ↔ sameN a b 0 60 := (hfin.resolve_left (fun h => h rfl)).resolve_left (fun h => h rfl)
          clear hfin
          rcases q0 with hs | ⟨q0, hs⟩
          · have q3 : (X.toList == Y.toList) = true := by rw [h.2 hs]; simp
            clear h
            rw [decide_eq_true hs] at e7
            rw [hA.2 hs]
            go_wp2_with (first | (refine wpList_run_loadg lA (by first | rfl | simp [go_sem]) rfl rfl ?_) | (refine wpList_run_loadg lB (by first | rfl | simp [go_sem]) rfl rfl ?_) | (refine wpList_run_opg (guard_state _ _ _ _ _) e7 (by first | rfl | simp [go_sem]) rfl rfl rfl ?_))
            go_ret
            exact ⟨rfl, hbf⟩
          · have h := fun e => hs (h.1 e)
            have q3 : (X.toList == Y.toList) = false := by
              rw [beq_eq_false_iff_ne]
              intro h'
              rw [ByteArray.toList_eq, ByteArray.toList_eq] at h'
              exact h (ByteArray.ext (Array.ext' h'))
            clear h
            rw [decide_eq_false hs] at e7
            go_wp2_with (first | (refine wpList_run_loadg lA (by first | rfl | simp [go_sem]) rfl rfl ?_) | (refine wpList_run_loadg lB (by first | rfl | simp [go_sem]) rfl rfl ?_) | (refine wpList_run_opg (guard_state _ _ _ _ _) e7 (by first | rfl | simp [go_sem]) rfl rfl rfl ?_))
            go_ret
            exact ⟨rfl, hbf⟩
        · have q2 : (F != 0) = true := by simpa using h2
          clear h2 hfin
          rcases q0 with hs | ⟨q0, hs⟩
          · rw [decide_eq_true hs] at e7
            rw [hA.2 hs]
            go_wp2_with (first | (refine wpList_run_loadg lA (by first | rfl | simp [go_sem]) rfl rfl ?_) | (refine wpList_run_loadg lB (by first | rfl | simp [go_sem]) rfl rfl ?_) | (refine wpList_run_opg (guard_state _ _ _ _ _) e7 (by first | rfl | simp [go_sem]) rfl rfl rfl ?_))
            go_ret
            exact ⟨rfl, hbf⟩
          · rw [decide_eq_false hs] at e7
            go_wp2_with (first | (refine wpList_run_loadg lA (by first | rfl | simp [go_sem]) rfl rfl ?_) | (refine wpList_run_loadg lB (by first | rfl | simp [go_sem]) rfl rfl ?_) | (refine wpList_run_opg (guard_state _ _ _ _ _) e7 (by first | rfl | simp [go_sem]) rfl rfl rfl ?_))
            go_ret
            exact ⟨rfl, hbf⟩
      · have q1 : (E != 0) = true := by simpa using h1
        clear h1 hfin
        rcases q0 with hs | ⟨q0, hs⟩
        · rw [decide_eq_true hs] at e7
          rw [hA.2 hs]
          go_wp2_with (first | (refine wpList_run_loadg lA (by first | rfl | simp [go_sem]) rfl rfl ?_) | (refine wpList_run_loadg lB (by first | rfl | simp [go_sem]) rfl rfl ?_) | (refine wpList_run_opg (guard_state _ _ _ _ _) e7 (by first | rfl | simp [go_sem]) rfl rfl rfl ?_))
          go_ret
          exact ⟨rfl, hbf⟩
        · rw [decide_eq_false hs] at e7
          go_wp2_with (first | (refine wpList_run_loadg lA (by first | rfl | simp [go_sem]) rfl rfl ?_) | (refine wpList_run_loadg lB (by first | rfl | simp [go_sem]) rfl rfl ?_) | (refine wpList_run_opg (guard_state _ _ _ _ _) e7 (by first | rfl | simp [go_sem]) rfl rfl rfl ?_))
          go_ret
          exact ⟨rfl, hbf⟩
end Go.Proofs.Ytfepefohaadecaa
