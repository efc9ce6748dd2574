/- The beginning of a game; the smaller parts of a peer. -/
import Derived.Test.YtfepefohaadecaaPeer
namespace Go.Proofs.Ytfepefohaadecaa
open Go.RowKit
set_option maxRecDepth 100000
variable {w w' : World}
/-- a state as a game begins -/
def beginC (seed : Int) : Array Value := #[.int .i64 0, .int .u32 seed, .int .i64 0, .int .i64 600] ++ freshC (-2097152) 0 ++ freshC 2097152 32768 ++
  (((List.replicate 6 [Value.int .i32 0, .int .i32 0, .int .i32 0, .int .i32 0, .int .i64 0, .int .i64 0]).flatten).toArray)
theorem beginC_size (seed : Int) : (beginC seed).size = 60 := by kernel_rfl
theorem beginC_all (seed : Int) : (beginC seed).toList.all (fun v => v.oneCell') = true := by kernel_rfl
theorem beginC_one (seed : Int) : ∀ v ∈ (beginC seed).toList, v.oneCell' = true := List.all_eq_true.1 (beginC_all seed)
theorem run_build_two (w : World) : (Instr.build 28 #[(0, .agg (freshC (-2097152) 0)), (1, .agg (freshC 2097152 32768))]).run Try.prog w = .ok (.agg (freshC (-2097152) 0 ++ freshC 2097152 32768)) w := by kernel_rfl
theorem run_build_begin (seed : Int) (w : World) : (Instr.build 33 #[(1, .int .u32 seed), (3, .int .i64 600), (4, .agg (freshC (-2097152) 0 ++ freshC 2097152 32768))]).run Try.prog w = .ok (.agg (beginC seed)) w := by kernel_rfl
theorem run_loadFrom {P : Program} (w : World) (b : Nat) (c : Array Value) (t : TypeId) (hB : w.heap[b]? = some (.cells c t (0, 0))) (k : Nat) (hk : c.size = k) : (loadCellsFrom ⟨b, 0, none⟩ 0 k #[]).run P w = .ok c w := by
  have h := run_loadCells_list (P := P) w ⟨b, 0, none⟩ c.toList (fun j v hj => by
    rw [addr_add, Nat.zero_add]
    exact blk_cell hB (by simpa using hj))
  simp only [Array.length_toList, Array.toArray_toList, hk, loadCells] at h
  exact h
theorem splice_all (cur c : Array Value) (h : c.size = cur.size) : spliceA cur 0 c = c := by
  apply Array.ext_getElem?
  intro k
  rw [splice_get _ _ _ (by omega)]
  split
  · simp
  · rename_i hh
    rw [Array.getElem?_eq_none (by omega), Array.getElem?_eq_none (by omega)]
def zeroS : Array Value := #[.int .i64 0, .int .u32 0, .int .i64 0, .int .i64 0] ++ ((List.replicate 2 [Value.int .i32 0, .int .i32 0, .int .i32 0, .int .i32 0, .int .i64 0, .int .i64 0, .int .i64 0, .int .i64 0, .int .i64 0, .int .i64 0]).flatten).toArray ++
  (((List.replicate 6 [Value.int .i32 0, .int .i32 0, .int .i32 0, .int .i32 0, .int .i64 0, .int .i64 0]).flatten).toArray)
theorem zeroS_size : zeroS.size = 60 := by kernel_rfl
theorem run_alloc_state (w : World) : (Instr.alloc 33 true (.tuple #[])).run Try.prog w = .ok (.pointer (some ⟨w.heap.size, 0, none⟩)) (w.alloc (.cells zeroS 33)) := by kernel_rfl
section
variable {P : Program} {o : Oper} {a : Act} {K : Act → World → Prop} {Q : Exit → Act → World → Prop} {ops : Array Oper} {rest : List Oper} {v p : Value}
theorem wpList_run_alloc {T : TypeId} (hrun : (Instr.alloc T true (.tuple #[])).run P w = .ok v w') (hgd : o.guard = none) (ho : o.op = .alloc T) (h : wpList P ops Q rest (a.put o.dst v) w') : wpList P ops Q (o :: rest) a w :=
  wpList_plain hgd fun _ hK => by
    unfold Oper.wp execOp
    simp only [ho, Sem.run_bind, hrun, Result.andThen_ok, Sem.run_pure]
    exact hK _ _ h
theorem wpList_run_build3 {T : TypeId} {i j k : Nat} {x y z : Operand} {u u' u'' : Value} (hrun : (Instr.build T #[(i, u), (j, u'), (k, u'')]).run P w = .ok v w') (hgd : o.guard = none) (ho : o.op = .build T #[(i, x), (j, y), (k, z)]) (hx : a.eval x = u) (hy : a.eval y = u') (hz : a.eval z = u'') (h : wpList P ops Q rest (a.put o.dst v) w') : wpList P ops Q (o :: rest) a w :=
  wpList_run_build hrun hgd ho (by simp [hx, hy, hz]) h
end
set_option maxHeartbeats 1000000 in
theorem game_Begin (seed : Int) (w : World) : Calls Try.prog 107 #[.int .u32 seed] w fun e w' => e = .returned (.agg (beginC seed)) ∧ Below w.heap.size w w' := by
  have hal := run_alloc_state w
  have hb1 : Below w.heap.size w (w.alloc (.cells zeroS 33)) := (Below.refl _ w).alloc (Nat.le_refl _) _
  have hB1 := blk_new w (.cells zeroS 33)
  have hT := run_build_two
  have hS := run_build_begin seed
  have hsz := beginC_size seed
  have hone := beginC_one seed
  have hzs := zeroS_size
  generalize zeroS = zs at *
  generalize freshC (-2097152) 0 ++ freshC 2097152 32768 = pl at *
  generalize beginC seed = c at *
  have Hsz := hid hsz
  have Hzs := hid hzs
  have Hone := hid hone
  clear hsz hzs hone
  go_enter Try.func107, Try.ntmps107
  go_wp2_with (refine wpList_run_alloc hal rfl rfl ?_)
  generalize w.alloc (.cells zs 33) = w0 at *
  refine (game_fresh0 _).mono ?_
  rintro e w1 ⟨rfl, hb2⟩
  have k2 : Keeps (fun _ => False) w0 w1 := Keeps.of_below hb2 (fun k h1 h2 => by omega)
  go_wp2_with fail
  refine (game_fresh1 _).mono ?_
  rintro e w2 ⟨rfl, hb3⟩
  have k3 : Keeps (fun _ => False) w1 w2 := Keeps.of_below hb3 (fun k h1 h2 => by omega)
  have hB2 := k3.heap (k2.heap hB1 id) id
  have hbw := (hb1.trans (hb2.mono hb1.size)).trans (hb3.mono (hb1.trans (hb2.mono hb1.size)).size)
  have hst := run_store_agg (P := Try.prog) 33 60 w.heap.size 0 c zs _ Try.sizeOf33 Hsz.out hB2 (by rw [Hzs.out]; omega) Hone.out
  have hB3 := setRow_heap w2 w.heap.size zs (spliceA zs 0 c) _ (0, 0) hB2
  rw [splice_all zs c (by rw [Hsz.out, Hzs.out])] at hst hB3
  have hk := keeps_setRow w2 w.heap.size c
  generalize w2.setRow w.heap.size c = w3 at *
  have hbf := hbw.trans (hk.below hbw.size (fun k h1 h2 => by omega))
  have hload := run_loadFrom (P := Try.prog) w3 w.heap.size c _ hB3 60 Hsz.out
  clear hB1 hB2 hB3 hal hb1 hb2 hb3 k2 k3 hbw hk
  go_wp2_with (first | (refine wpList_run_build2 (hT _) rfl rfl rfl rfl ?_) | (refine wpList_run_build3 (hS _) rfl rfl rfl rfl rfl ?_) | (refine wpList_run_store hst rfl rfl rfl rfl ?_))
  refine bodyPost_ret (v := .agg c) (by simp [results, Try.results107, Act.put, asAddr, loadVar, loadCells, Try.isAgg33, Try.sizeOf33, hload]) rfl ?_
  exact ⟨rfl, hbf⟩
end Go.Proofs.Ytfepefohaadecaa
