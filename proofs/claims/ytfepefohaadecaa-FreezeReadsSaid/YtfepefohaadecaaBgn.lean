/- The beginning of a game, by the document; the freeze laws' example. -/
import Derived.Test.YtfepefohaadecaaDif
import Derived.Test.YtfepefohaadecaaPck
namespace Go.Proofs.Ytfepefohaadecaa
open Go.RowKit
set_option maxRecDepth 10000
variable {w : World}
theorem wrap32_of (n : Int) (h : -2147483648 ≤ n ∧ n ≤ 2147483647) : IntKind.i32.wrap n = n := by rw [IntKind.wrap_i32]; omega
theorem rf_Vec (x y : Int) (hx : -1000 ≤ x ∧ x ≤ 1000) (hy : -1000 ≤ y ∧ y ≤ 1000) (w : World) : Calls Try.prog 73 #[.int .i64 x, .int .i64 y] w fun e w' => e = .returned (.agg #[.int .i32 (x * 65536), .int .i32 (y * 65536)]) ∧ Below w.heap.size w w' := by
  have e1 : IntKind.i64.wrap (x * 65536) = x * 65536 := IntWalk.i64_in _ (by omega)
  have e2 : IntKind.i64.wrap (y * 65536) = y * 65536 := IntWalk.i64_in _ (by omega)
  have e3 := wrap32_of (x * 65536) (by omega)
  have e4 := wrap32_of (y * 65536) (by omega)
  have hload := box_load _ _ _ _ (blk_new w (.cells #[.int .i32 (x * 65536), .int .i32 (y * 65536)] 25)) 2 rfl
  go_enter Try.func73, Try.ntmps73
  go_wp2
  refine bodyPost_ret (v := .agg #[.int .i32 (x * 65536), .int .i32 (y * 65536)]) (by simp [results, Try.results73, asAddr, loadVar, loadCells, Try.isAgg25, Try.sizeOf25, hload]) rfl ?_
  exact ⟨rfl, (((Below.refl _ w).alloc (Nat.le_refl _) _))⟩
theorem splice_all (cur c : Array Value) (h : c.size = cur.size) : spliceA cur 0 c = c := by
  apply Array.ext_getElem?
  intro k
  rw [splice_get _ _ _ (by omega)]
  split
  · simp
  · rename_i hh
    rw [Array.getElem?_eq_none (by omega), Array.getElem?_eq_none (by omega)]
theorem setRow_at (w : World) (b : Nat) (cs c : Array Value) (t : TypeId) (hB : w.heap[b]? = some (.cells cs t (0, 0))) : (w.setRow b c).heap[b]? = some (.cells c t (0, 0)) := by
  have hlt := blk_lt hB
  have h' : w.heap[b] = .cells cs t (0, 0) := by simpa [Array.getElem?_eq_getElem hlt] using hB
  show (w.heap.modify b _)[b]? = _
  rw [Array.getElem?_eq_getElem (by simpa using hlt), Array.getElem_modify_self, h']
/-- a whole struct stored, then returned -/
theorem store_all (w : World) (T : TypeId) (k b : Nat) (c cur : Array Value) (hz : ∀ w, (Go.sizeOf T).run Try.prog w = .ok k w) (hc : c.size = k) (hcur : cur.size = k)
    (hB : w.heap[b]? = some (.cells cur T (0, 0))) (h1 : c.toList.all (fun v => v.oneCell') = true) :
    (Instr.storeAt T (.pointer (some ⟨b, 0, none⟩)) (.agg c)).run Try.prog w = .ok () (w.setRow b c) ∧ (loadCellsFrom ⟨b, 0, none⟩ 0 k #[]).run Try.prog (w.setRow b c) = .ok c (w.setRow b c) ∧ Keeps (fun x => x = b) w (w.setRow b c) := by
  have h := run_store_agg (P := Try.prog) T k b 0 c cur T hz hc hB (by omega) (List.all_eq_true.1 h1)
  rw [splice_all cur c (by omega)] at h
  exact ⟨h, box_load _ _ _ _ (setRow_at w b cur c T hB) k hc, keeps_setRow w b c⟩
def freV (x f : Int) : Array Value := #[.int .i32 x, .int .i32 0, .int .i32 0, .int .i32 0, .int .i64 f, .int .i64 3, .int .i64 0, .int .i64 0, .int .i64 0, .int .i64 0]
theorem freV_one (x f : Int) : (freV x f).toList.all (fun v => v.oneCell') = true := by kernel_rfl
theorem rf_Fresh0 (w : World) : Calls Try.prog 66 #[.int .i64 0] w fun e w' => e = .returned (.agg (freV (-2097152) 0)) ∧ Below w.heap.size w w' := by
  have hV := fun W => rf_Vec (-32) 0 (by omega) (by omega) W
  have hZ := blk_new w (.cells #[.int .i32 0, .int .i32 0, .int .i32 0, .int .i32 0, .int .i64 0, .int .i64 0, .int .i64 0, .int .i64 0, .int .i64 0, .int .i64 0] 27)
  have hk0 := (Keeps.refl (fun _ => False) w).alloc (.cells #[.int .i32 0, .int .i32 0, .int .i32 0, .int .i32 0, .int .i64 0, .int .i64 0, .int .i64 0, .int .i64 0, .int .i64 0, .int .i64 0] 27)
  go_enter Try.func66, Try.ntmps66
  go_wp2_with fail
  generalize w.alloc (.cells #[.int .i32 0, .int .i32 0, .int .i32 0, .int .i32 0, .int .i64 0, .int .i64 0, .int .i64 0, .int .i64 0, .int .i64 0, .int .i64 0] 27) = w0 at *
  refine (hV _).mono ?_
  rintro e w1 ⟨rfl, hb1⟩
  have hk1 := hk0.then_below hb1
  have hZ1 := ((Keeps.refl (fun _ => False) w0).then_below hb1).heap hZ id
  obtain ⟨hst, hload, hk2⟩ := store_all w1 27 10 w.heap.size (freV ((-32) * 65536) 0) _ Try.sizeOf27 rfl rfl hZ1 (freV_one _ _)
  have hbf : Below w.heap.size w (w1.setRow w.heap.size (freV ((-32) * 65536) 0)) := ((hk1.mono fun _ _ x => x.elim).trans hk2).below (Nat.le_refl _) (fun k h1 h2 => by omega)
  generalize w1.setRow w.heap.size (freV ((-32) * 65536) 0) = w2 at *
  unfold freV at hst
  clear hZ hk0 hb1 hZ1 hk1 hk2
  go_wp2_with (refine wpList_run_store hst rfl rfl rfl rfl ?_)
  refine bodyPost_ret (v := .agg (freV ((-32) * 65536) 0)) (by simp [results, Act.put, Try.results66, asAddr, loadVar, loadCells, Try.isAgg27, Try.sizeOf27, hload]) rfl ?_
  exact ⟨rfl, hbf⟩
theorem rf_Fresh1 (w : World) : Calls Try.prog 66 #[.int .i64 1] w fun e w' => e = .returned (.agg (freV 2097152 32768)) ∧ Below w.heap.size w w' := by
  have hV := fun W => rf_Vec 32 0 (by omega) (by omega) W
  have hZ := blk_new w (.cells #[.int .i32 0, .int .i32 0, .int .i32 0, .int .i32 0, .int .i64 0, .int .i64 0, .int .i64 0, .int .i64 0, .int .i64 0, .int .i64 0] 27)
  have hk0 := (Keeps.refl (fun _ => False) w).alloc (.cells #[.int .i32 0, .int .i32 0, .int .i32 0, .int .i32 0, .int .i64 0, .int .i64 0, .int .i64 0, .int .i64 0, .int .i64 0, .int .i64 0] 27)
  go_enter Try.func66, Try.ntmps66
  go_wp2_with fail
  generalize w.alloc (.cells #[.int .i32 0, .int .i32 0, .int .i32 0, .int .i32 0, .int .i64 0, .int .i64 0, .int .i64 0, .int .i64 0, .int .i64 0, .int .i64 0] 27) = w0 at *
  refine (hV _).mono ?_
  rintro e w1 ⟨rfl, hb1⟩
  have hk1 := hk0.then_below hb1
  have hZ1 := ((Keeps.refl (fun _ => False) w0).then_below hb1).heap hZ id
  obtain ⟨hst, hload, hk2⟩ := store_all w1 27 10 w.heap.size (freV (32 * 65536) 32768) _ Try.sizeOf27 rfl rfl hZ1 (freV_one _ _)
  have hbf : Below w.heap.size w (w1.setRow w.heap.size (freV (32 * 65536) 32768)) := ((hk1.mono fun _ _ x => x.elim).trans hk2).below (Nat.le_refl _) (fun k h1 h2 => by omega)
  generalize w1.setRow w.heap.size (freV (32 * 65536) 32768) = w2 at *
  unfold freV at hst
  clear hZ hk0 hb1 hZ1 hk1 hk2
  go_wp2_with (refine wpList_run_store hst rfl rfl rfl rfl ?_)
  refine bodyPost_ret (v := .agg (freV (32 * 65536) 32768)) (by simp [results, Act.put, Try.results66, asAddr, loadVar, loadCells, Try.isAgg27, Try.sizeOf27, hload]) rfl ?_
  exact ⟨rfl, hbf⟩
/-- a state as a game begins -/
def bgnV (seed : Int) (j : Nat) : Int := if j = 1 then seed else if j = 3 then 600 else if j = 4 then -2097152 else if j = 9 then 3 else if j = 14 then 2097152 else if j = 18 then 32768 else if j = 19 then 3 else 0
theorem run_alloc_state (w : World) : (Instr.alloc 33 true (.tuple #[])).run Try.prog w = .ok (.pointer (some ⟨w.heap.size, 0, none⟩)) (w.alloc (.cells (mkC fun _ => 0) 33)) := by kernel_rfl
theorem run_build_two (w : World) : (Instr.build 28 #[(0, .agg (freV (-2097152) 0)), (1, .agg (freV 2097152 32768))]).run Try.prog w = .ok (.agg (freV (-2097152) 0 ++ freV 2097152 32768)) w := by kernel_rfl
theorem run_build_begin (seed : Int) (w : World) : (Instr.build 33 #[(1, .int .u32 seed), (3, .int .i64 600), (4, .agg (freV (-2097152) 0 ++ freV 2097152 32768))]).run Try.prog w = .ok (.agg (mkC (bgnV seed))) w := by kernel_rfl
theorem mkC_one (v : Nat → Int) : (mkC v).toList.all (fun v => v.oneCell') = true := by kernel_rfl
section
variable {P : Program} {o : Oper} {a : Act} {K : Act → World → Prop} {Q : Exit → Act → World → Prop} {ops : Array Oper} {rest : List Oper} {w' : World} {v p : Value}
theorem wpList_run_alloc {T : TypeId} (hrun : (Instr.alloc T true (.tuple #[])).run P w = .ok v w') (hgd : o.guard = none) (ho : o.op = .alloc T) (h : wpList P ops Q rest (a.put o.dst v) w') : wpList P ops Q (o :: rest) a w :=
  wpList_plain hgd fun _ hK => by
    unfold Oper.wp execOp
    simp only [ho, Sem.run_bind, hrun, Result.andThen_ok, Sem.run_pure]
    exact hK _ _ h
theorem wpList_run_build3 {T : TypeId} {i j k : Nat} {x y z : Operand} {u u' u'' : Value} (hrun : (Instr.build T #[(i, u), (j, u'), (k, u'')]).run P w = .ok v w') (hgd : o.guard = none) (ho : o.op = .build T #[(i, x), (j, y), (k, z)]) (hx : a.eval x = u) (hy : a.eval y = u') (hz : a.eval z = u'') (h : wpList P ops Q rest (a.put o.dst v) w') : wpList P ops Q (o :: rest) a w :=
  wpList_run_build hrun hgd ho (by simp [hx, hy, hz]) h
end
theorem rf_Begin (seed : Int) (w : World) : Calls Try.prog 38 #[.int .u32 seed] w fun e w' => e = .returned (.agg (mkC (bgnV seed))) ∧ Below w.heap.size w w' := by
  have hal := run_alloc_state w
  have hk0 := (Keeps.refl (fun _ => False) w).alloc (.cells (mkC fun _ => 0) 33)
  have hZ := blk_new w (.cells (mkC fun _ => 0) 33)
  have hT := run_build_two
  have hS := run_build_begin seed
  generalize freV (-2097152) 0 ++ freV 2097152 32768 = pl at *
  go_enter Try.func38, Try.ntmps38
  go_wp2_with (refine wpList_run_alloc hal rfl rfl ?_)
  generalize w.alloc (.cells (mkC fun _ => 0) 33) = w0 at *
  refine (rf_Fresh0 _).mono ?_
  rintro e w1 ⟨rfl, hb1⟩
  go_wp2_with fail
  refine (rf_Fresh1 _).mono ?_
  rintro e w2 ⟨rfl, hb2⟩
  have hk2 := (hk0.then_below hb1).then_below hb2
  have hZ2 := (((Keeps.refl (fun _ => False) w0).then_below hb1).then_below hb2).heap hZ id
  obtain ⟨hst, hload, hk3⟩ := store_all w2 33 60 w.heap.size (mkC (bgnV seed)) _ Try.sizeOf33 (mkC_size _) (mkC_size _) hZ2 (mkC_one _)
  have hbf : Below w.heap.size w (w2.setRow w.heap.size (mkC (bgnV seed))) := ((hk2.mono fun _ _ x => x.elim).trans hk3).below (Nat.le_refl _) (fun k h1 h2 => by omega)
  generalize w2.setRow w.heap.size (mkC (bgnV seed)) = w3 at *
  clear hZ hk0 hb1 hb2 hZ2 hk2 hk3 hal
  go_wp2_with (first | (refine wpList_run_build2 (hT _) rfl rfl rfl rfl ?_) | (refine wpList_run_build3 (hS _) rfl rfl rfl rfl rfl ?_) | (refine wpList_run_store hst rfl rfl rfl rfl ?_))
  refine bodyPost_ret (v := .agg (mkC (bgnV seed))) (by simp [results, Try.results38, Act.put, asAddr, loadVar, loadCells, Try.isAgg33, Try.sizeOf33, hload]) rfl ?_
  exact ⟨rfl, hbf⟩
theorem bgn_wf (seed : Int) (h : 0 ≤ seed ∧ seed ≤ 4294967295) : WfL (bgnV seed) := by
  intro j hj
  by_cases e : j = 1
  · subst e
    show (decide (0 ≤ seed) && decide (seed ≤ 4294967295)) = true
    simp [h]
  · have : bgnV seed j = bgnV 0 j := by unfold bgnV; rw [if_neg e, if_neg e]
    rw [this]
    have : ∀ j : Fin 60, (Lit.int (kindAt j.val) (bgnV 0 j.val)).wf = true := by decide
    exact this ⟨j, hj⟩
theorem kind_cases (j : Nat) : kindAt j = .u32 ∨ kindAt j = .i64 ∨ kindAt j = .i32 := by
  unfold kindAt
  split
  · exact .inl rfl
  · split
    · exact .inr (.inl rfl)
    · split <;> split <;> first | exact .inr (.inl rfl) | exact .inr (.inr rfl)
theorem wfS_of {v : Nat → Int} (h : WfL v) : WfS v := by
  intro j hj
  have h1 := h j hj
  rcases kind_cases j with e | e | e <;> rw [e] at h1 ⊢
  · have h2 : (decide (0 ≤ v j) && decide (v j ≤ 4294967295)) = true := h1
    simpa [fitsI] using h2
  · have h2 : (decide (-9223372036854775808 ≤ v j) && decide (v j ≤ 9223372036854775807)) = true := h1
    simpa [fitsI] using h2
  · have h2 : (decide (-2147483648 ≤ v j) && decide (v j ≤ 2147483647)) = true := h1
    simpa [fitsI] using h2
theorem bgn_right : rightS (bgnV 7) = true := by decide
theorem bgn_diff : difN (flg (bgnV 7) (bgnV 8)) 7 = [1] := by decide
theorem awake13 (w : World) : Calls Try.prog 10 #[] w fun e w' => e = .returned (.bool true) ∧ Below w.heap.size w w' := by
  have hB := fun seed W => rf_Begin seed W
  have hD := fun W => fz_Differ (bgnV 7) (bgnV 8) (bgn_wf 7 (by omega)) (bgn_wf 8 (by omega)) W
  rw [bgn_diff] at hD
  have hP := fun W => fz_Pack (bgnV 7) (wfS_of (bgn_wf 7 (by omega))) W
  rw [bgn_right] at hP
  simp only [if_true] at hP
  have hone := mkC_one (bgnV 7)
  go_enter Try.func10, Try.ntmps10
  go_wp2_with fail
  refine (hB 7 _).mono ?_
  rintro e w1 ⟨rfl, hb1⟩
  have hal := run_alloc_state w1
  have hk1 := (Keeps.of_below (S := fun _ => False) hb1 (fun k h1 h2 => by omega)).alloc (.cells (mkC fun _ => 0) 33)
  have hZ1 := blk_new w1 (.cells (mkC fun _ => 0) 33)
  obtain ⟨hst, _, hk2⟩ := store_all (w1.alloc (.cells (mkC fun _ => 0) 33)) 33 60 w1.heap.size (mkC (bgnV 7)) _ Try.sizeOf33 (mkC_size _) (mkC_size _) hZ1 (mkC_one _)
  have hA := setRow_at (w1.alloc (.cells (mkC fun _ => 0) 33)) w1.heap.size _ (mkC (bgnV 7)) 33 hZ1
  have hle := hb1.size
  have hbf := ((hk1.mono fun _ _ x => x.elim).trans hk2).below (B := w.heap.size) (Nat.le_refl _) (fun k h1 h2 => by omega)
  clear hb1 hk1 hZ1 hk2
  generalize w1.alloc (.cells (mkC fun _ => 0) 33) = w2 at *
  generalize w2.setRow w1.heap.size (mkC (bgnV 7)) = w3 at *
  generalize w1.heap.size = B at *
  generalize hvs : bgnV 7 = v7 at *
  generalize hvt : bgnV 8 = v8 at *
  go_wp2_with (first | (refine wpList_run_alloc hal rfl rfl ?_) | (refine wpList_run_store hst rfl rfl rfl rfl ?_))
  have l0 := cls_load (S := fun _ => False) (w0 := w3.drew) hA id (fun W h => run_load_state v7 B W _ h)
  have hB8 := hB 8
  rw [hvt] at hB8
  refine stages_start (by kernel_rfl) 4 rfl ?_
  refine stagek (fun _ => False) [0] [1, 2, 3] 0 rfl #[true, true, true, true] (by kernel_rfl) (by kernel_rfl) (fun _ _ _ d _ h => by cases d <;> exact h) ?_
  simp only [opsAt, List.map_cons, List.map_nil, List.getElem?_toArray, List.getElem?_cons_zero, List.getElem?_cons_succ, Option.getD_some]
  repeat (first | (refine wpQuiet_run_load l0 rfl rfl rfl ?_; simp only [Act.put, List.setIfInBounds_toArray, List.set_cons_succ, List.set_cons_zero]) | go_big_quiet_step (fail))
  refine wpQuiet_nil ?_
  refine links_cons (by first | rfl | simp [go_sem]) (fun K hK => ?_)
  go_simp
  refine (hB8 _).mono ?_
  rintro e w4 ⟨rfl, hb4⟩
  have k4 : Keeps (fun _ => False) w3.drew w4 := Keeps.of_below hb4 (fun k h1 h2 => by omega)
  refine hK _ _ (keptS (k4)) ?_
  clear hK K
  try refine links_nil ?_
  refine links_cons (by first | rfl | simp [go_sem]) (fun K hK => ?_)
  go_simp
  refine (hD _).mono ?_
  rintro e w5 ⟨⟨A, cap, rfl, hV⟩, hb5⟩
  have k5 : Keeps (fun _ => False) w3.drew w5 := k4.trans (Keeps.of_below hb5 (fun k h1 h2 => by omega))
  refine hK _ _ (keptS (k5)) ?_
  clear hK K
  try refine links_nil ?_
  refine links_cons (by first | rfl | simp [go_sem]) (fun K hK => ?_)
  go_simp
  refine hK _ _ (keptS (k5)) ?_
  clear hK K
  try refine links_nil ?_
  refine stages_end (by kernel_rfl) ?_
  have k6 := (Keeps.refl (fun _ => False) w3).drew.trans k5
  have hA5 := k6.heap hA id
  have hb6 := hbf.trans ((k6.below (Nat.le_refl _) (fun k h1 h2 => h2)).mono hbf.size)
  have hl5 := run_load_state v7 B w5 _ hA5
  clear l0 hst hal hB hB8 hD hb4 hb5 k4 k5 k6
  go_wp2_with (refine wpList_run_load hl5 rfl rfl rfl ?_)
  refine (hP _).mono ?_
  rintro e w6 ⟨rfl, hb7⟩
  obtain ⟨ab, ao, rfl, hc⟩ := hV.at' (by decide)
  have y0 : w6.cell? ⟨ab, ao, none⟩ = some (.string ⟨#[100, 105, 99, 101]⟩) := (Keeps.of_below (S := fun _ => False) hb7 (fun k h1 h2 => by omega)).cell (hc 0 (.string ⟨#[100, 105, 99, 101]⟩) rfl) id
  clear hV hc hP
  go_wp2_with fail
  go_ret
  exact ⟨rfl, hb6.trans (hb7.mono hb6.size)⟩
end Go.Proofs.Ytfepefohaadecaa
