/- The law FreezeReads. -/
import Derived.Test.YtfepefohaadecaaRUA
namespace Go.Proofs.Ytfepefohaadecaa
open Go.RowKit
set_option maxRecDepth 10000
variable {w : World}
theorem neq_same (v : Nat → Int) (hv : WfL v) (w : World) : (binOp .neq 33 (.agg (mkC v)) (.agg (mkC v))).run Try.prog w = .ok (.bool false) w := by
  obtain ⟨r, hr, hi⟩ := run_equalIn_deep (10000 - 10) 10 33 key_state w 8 8 (.agg (mkC v)) (.agg (mkC v)) _ _ (form_state v) (form_state v) (lits_state v hv) (lits_state v hv)
  rw [show 10000 - 10 + 10 = 10000 from rfl] at hr
  rw [run_neq_struct, hr, Result.andThen_ok]
  congr 2
  rw [hi.2 rfl]
  rfl
theorem guard_neq (x y : Operand) (c d : Array Value) (w : World) : (eqGuard .neq 33 x y (.agg c) (.agg d)).run Try.prog w = .ok () w := by
  unfold eqGuard
  simp [Sem.run_bind, Sem.run_pure, go_sem]
theorem wfL_of {v : Nat → Int} (h : WfS v) : WfL v := by
  intro j hj
  have h1 := h j hj
  rcases kind_cases j with e | e | e <;> rw [e] at h1 ⊢
  · have h2 : 0 ≤ v j ∧ v j ≤ 4294967295 := h1
    show (decide (0 ≤ v j) && decide (v j ≤ 4294967295)) = true
    simp [h2]
  · have h2 : -9223372036854775808 ≤ v j ∧ v j ≤ 9223372036854775807 := h1
    show (decide (-9223372036854775808 ≤ v j) && decide (v j ≤ 9223372036854775807)) = true
    simp [h2]
  · have h2 : -2147483648 ≤ v j ∧ v j ≤ 2147483647 := h1
    show (decide (-2147483648 ≤ v j) && decide (v j ≤ 2147483647)) = true
    simp [h2]
theorem step_out {σ : Type} (c : Codec σ) (p : σ × (Nat → Int)) (o j : Nat) (h : j ≠ o) : (c.step p o).2 j = p.2 j := by
  unfold Codec.step
  split <;> simp [updI, h]
theorem steps_out {σ : Type} (c : Codec σ) (j : Nat) : ∀ (L : List Nat) (p : σ × (Nat → Int)), (∀ o ∈ L, j ≠ o) → (c.steps p L).2 j = p.2 j
  | [], _, _ => rfl
  | o :: L, p, h => by
    show (c.steps (c.step p o) L).2 j = _
    rw [steps_out c j L _ (fun x hx => h x (by simp [hx])), step_out c p o j (h o (by simp))]
theorem loop_out {σ : Type} (c : Codec σ) (y : Int) (p : σ × (Nat → Int)) (j : Nat) (hj : 60 ≤ j) : ∀ k, k ≤ 6 → (shoLoop c y p k).2 j = p.2 j
  | 0, _ => rfl
  | k + 1, hk => by
    unfold shoLoop
    split
    · rw [steps_out c j _ _ (fun o ho => by have := shot_in k (by omega) o ho; omega), loop_out c y p j hj k (by omega)]
    · exact loop_out c y p j hj k (by omega)
theorem stateF_out {σ : Type} (c : Codec σ) (p : σ × (Nat → Int)) (j : Nat) (hj : 60 ≤ j) : (stateF c p).2 j = p.2 j := by
  unfold stateF
  rw [loop_out c _ _ j hj 6 (Nat.le_refl _)]
  exact steps_out c j _ p (fun o ho => by have := ply_in o ho; omega)
theorem readS_eq (t : ByteArray) : readS t = stateF (rdC 0) ((t, false), zeroV) := rfl
theorem read_out (t : ByteArray) (j : Nat) (hj : 60 ≤ j) : (readS t).2 j = 0 := by
  rw [readS_eq, stateF_out _ _ j hj]
  rfl
theorem unp_out (t : ByteArray) (j : Nat) (hj : 60 ≤ j) : unpV t j = 0 := by
  have h := read_out t j hj
  have e : unpV t = if unpOk t then (readS t).2 else zeroV := rfl
  rw [e]
  generalize (readS t).2 = f at *
  split
  · exact h
  · rfl
set_option maxHeartbeats 1000000 in
theorem law_FreezeReads (t : ByteArray) (ht : t.size ≤ maxLen) (w : World) : Calls Try.prog 4 #[.string t] w fun e w' =>
    e = .returned (.bool true) ∧ Below w.heap.size w w' := by
  by_cases hl : 1000 < t.size
  · have hl' : (1000 : Int) < (t.size : Int) := by omega
    go_enter Try.func4, Try.ntmps4
    go_wp2_with fail
    refine (awake13 _).mono ?_
    rintro e w1 ⟨rfl, hb1⟩
    go_wp2_with fail
    go_ret
    exact ⟨rfl, hb1⟩
  · have hl' : ¬ (1000 : Int) < (t.size : Int) := by omega
    have hU := fun W => fz_Unpack t ht W
    have hV := fun W => rf_Unpack t (by omega) W
    have ho := unp_out t
    have hX := unp_ref t
    have hT := @unp_told t
    generalize unpV t = v at *
    generalize unpOk t = ok at *
    go_enter Try.func4, Try.ntmps4
    go_wp2_with fail
    refine (awake13 _).mono ?_
    rintro e w1 ⟨rfl, hb1⟩
    go_wp2_with fail
    refine (hU _).mono ?_
    rintro e w2 ⟨rfl, hW, hb2⟩
    have hbe := hb1.trans (hb2.mono hb1.size)
    have hb2s := hbe.size
    have hL := wfL_of hW
    have hP := fun W => fz_Pack v hW W
    have ne := neq_same v hL
    rw [hX hW ho] at hV
    simp only at hV
    clear hX ho hU hb1 hb2
    cases ok
    · clear hP hT
      simp only [Bool.false_eq_true, if_false]
      have hZ := blk_new w2 (.cells (mkC fun _ => 0) 33)
      have hbe := hbe.alloc hbe.size (.cells (mkC fun _ => 0) 33)
      obtain ⟨hst, _, hk3⟩ := store_all (w2.alloc (.cells (mkC fun _ => 0) 33)) 33 60 w2.heap.size (mkC v) _ Try.sizeOf33 (mkC_size _) (mkC_size _) hZ (mkC_one _)
      have hB := setRow_at (w2.alloc (.cells (mkC fun _ => 0) 33)) w2.heap.size _ (mkC v) 33 hZ
      have hsz := hbe.size
      have hbe := hbe.trans (hk3.below hbe.size (fun k h1 h2 => by have := hb2s; omega))
      generalize (w2.alloc (.cells (mkC fun _ => 0) 33)).setRow w2.heap.size (mkC v) = w3 at *
      go_wp2_with (first | (refine wpList_run_alloc (run_alloc_state _) rfl rfl ?_) | (refine wpList_run_store hst rfl rfl rfl rfl ?_))
      refine (hV _).mono ?_
      rintro e w4 ⟨rfl, hb4⟩
      have k4 := Keeps.of_below (S := fun _ => False) hb4 (fun k h1 h2 => by omega)
      have hB := k4.heap hB id
      have hbe := hbe.trans (hb4.mono hbe.size)
      clear hst hk3 hZ k4 hb4 hV hsz
      have hZ := blk_new w4 (.cells (mkC fun _ => 0) 33)
      have hlt := blk_lt hB
      have hB := blk_alloc hB (.cells (mkC fun _ => 0) 33)
      have hb4s := hbe.size
      have hbe := hbe.alloc hbe.size (.cells (mkC fun _ => 0) 33)
      obtain ⟨hst, _, hk5⟩ := store_all (w4.alloc (.cells (mkC fun _ => 0) 33)) 33 60 w4.heap.size (mkC v) _ Try.sizeOf33 (mkC_size _) (mkC_size _) hZ (mkC_one _)
      have hC := setRow_at (w4.alloc (.cells (mkC fun _ => 0) 33)) w4.heap.size _ (mkC v) 33 hZ
      have hB := hk5.heap hB (by omega)
      have hbe := hbe.trans (hk5.below hbe.size (fun k h1 h2 => by omega))
      generalize (w4.alloc (.cells (mkC fun _ => 0) 33)).setRow w4.heap.size (mkC v) = w5 at *
      have lA := run_load_state v w2.heap.size w5 _ hB
      have lB := run_load_state v w4.heap.size w5 _ hC
      have ne5 := ne w5
      go_wp2_with (first | (refine wpList_run_alloc (run_alloc_state _) rfl rfl ?_) | (refine wpList_run_store hst rfl rfl rfl rfl ?_) | (refine wpList_run_load lA rfl rfl rfl ?_) | (refine wpList_run_load lB rfl rfl rfl ?_) | (refine wpList_run_loadg lA (by first | rfl | simp [go_sem]) rfl rfl ?_) | (refine wpList_run_opg (guard_neq _ _ _ _ _) ne5 (by first | rfl | simp [go_sem]) rfl rfl rfl ?_))
      go_ret
      exact ⟨rfl, hbe⟩
    · obtain ⟨t1, t2⟩ := hT rfl
      clear hT
      rw [t1] at hP
      simp only [↓reduceIte] at hP ⊢
      have q3 : ((⟨(packS v).toArray⟩ : ByteArray).toList == t.toList) = true := by rw [beq_iff_eq, ByteArray.toList_eq, ByteArray.toList_eq, t2]
      generalize (⟨(packS v).toArray⟩ : ByteArray) = X at *
      clear t1 t2
      have hZ := blk_new w2 (.cells (mkC fun _ => 0) 33)
      have hbe := hbe.alloc hbe.size (.cells (mkC fun _ => 0) 33)
      obtain ⟨hst, _, hk3⟩ := store_all (w2.alloc (.cells (mkC fun _ => 0) 33)) 33 60 w2.heap.size (mkC v) _ Try.sizeOf33 (mkC_size _) (mkC_size _) hZ (mkC_one _)
      have hB := setRow_at (w2.alloc (.cells (mkC fun _ => 0) 33)) w2.heap.size _ (mkC v) 33 hZ
      have hsz := hbe.size
      have hbe := hbe.trans (hk3.below hbe.size (fun k h1 h2 => by have := hb2s; omega))
      generalize (w2.alloc (.cells (mkC fun _ => 0) 33)).setRow w2.heap.size (mkC v) = w3 at *
      go_wp2_with (first | (refine wpList_run_alloc (run_alloc_state _) rfl rfl ?_) | (refine wpList_run_store hst rfl rfl rfl rfl ?_))
      refine (hV _).mono ?_
      rintro e w4 ⟨rfl, hb4⟩
      have k4 := Keeps.of_below (S := fun _ => False) hb4 (fun k h1 h2 => by omega)
      have hB := k4.heap hB id
      have hbe := hbe.trans (hb4.mono hbe.size)
      clear hst hk3 hZ k4 hb4 hV hsz
      have hZ := blk_new w4 (.cells (mkC fun _ => 0) 33)
      have hlt := blk_lt hB
      have hB := blk_alloc hB (.cells (mkC fun _ => 0) 33)
      have hb4s := hbe.size
      have hbe := hbe.alloc hbe.size (.cells (mkC fun _ => 0) 33)
      obtain ⟨hst, _, hk5⟩ := store_all (w4.alloc (.cells (mkC fun _ => 0) 33)) 33 60 w4.heap.size (mkC v) _ Try.sizeOf33 (mkC_size _) (mkC_size _) hZ (mkC_one _)
      have hC := setRow_at (w4.alloc (.cells (mkC fun _ => 0) 33)) w4.heap.size _ (mkC v) 33 hZ
      have hB := hk5.heap hB (by omega)
      have hbe := hbe.trans (hk5.below hbe.size (fun k h1 h2 => by omega))
      generalize (w4.alloc (.cells (mkC fun _ => 0) 33)).setRow w4.heap.size (mkC v) = w5 at *
      have lA := run_load_state v w2.heap.size w5 _ hB
      have lB := run_load_state v w4.heap.size w5 _ hC
      have ne5 := ne w5
      go_wp2_with (first | (refine wpList_run_alloc (run_alloc_state _) rfl rfl ?_) | (refine wpList_run_store hst rfl rfl rfl rfl ?_) | (refine wpList_run_load lA rfl rfl rfl ?_) | (refine wpList_run_load lB rfl rfl rfl ?_) | (refine wpList_run_loadg lA (by first | rfl | simp [go_sem]) rfl rfl ?_) | (refine wpList_run_opg (guard_neq _ _ _ _ _) ne5 (by first | rfl | simp [go_sem]) rfl rfl rfl ?_))
      refine (hP _).mono ?_
      rintro e w6 ⟨rfl, hb6⟩
      have hbe := hbe.trans (hb6.mono hbe.size)
      clear lA lB hst ne5 hB hC
      go_wp2_with fail
      go_ret
      exact ⟨rfl, hbe⟩
end Go.Proofs.Ytfepefohaadecaa
