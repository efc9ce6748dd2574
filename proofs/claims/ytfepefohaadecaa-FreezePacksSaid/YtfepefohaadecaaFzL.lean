/- The law FreezePacks. -/
import Derived.Test.YtfepefohaadecaaRPkA
import Derived.Test.YtfepefohaadecaaRRgt3
namespace Go.Proofs.Ytfepefohaadecaa
open Go.RowKit
set_option maxRecDepth 10000
variable {w : World}
set_option maxHeartbeats 1000000 in
theorem law_FreezePacks (v : Nat → Int) (hv : WfL v) (hz : ∀ j, 60 ≤ j → v j = 0) (w : World) : Calls Try.prog 5 #[.agg (mkC v)] w fun e w' =>
    e = .returned (.bool true) ∧ Below w.heap.size w w' := by
  have hw := wfS_of hv
  have hB := blk_new w (.cells (mkC v) 33)
  have hbe := (Below.refl w.heap.size w).alloc (Nat.le_refl _) (.cells (mkC v) 33)
  have hP := fun W => fz_Pack v hw W
  have hS := fun W => fz_Sum v hw W
  have hR := fun W => rf_Right v W
  cases hr : rightS v
  · rw [hr] at hP hS hR
    simp only [Bool.false_eq_true, if_false] at hP hS
    go_enter Try.func5, Try.ntmps5
    go_wp2_with fail
    generalize w.alloc (.cells (mkC v) 33) = w0 at *
    refine (awake13 _).mono ?_
    rintro e w1 ⟨rfl, hb1⟩
    have k1 := Keeps.of_below (S := fun _ => False) hb1 (fun k h1 h2 => by omega)
    have hB := k1.heap hB id
    have hbe := hbe.trans (hb1.mono hbe.size)
    clear hb1 k1
    have lA := run_load_state v w.heap.size w1 _ hB
    go_wp2_with (refine wpList_run_load lA rfl rfl rfl ?_)
    refine (hP _).mono ?_
    rintro e w2 ⟨rfl, hb2⟩
    have k2 := Keeps.of_below (S := fun _ => False) hb2 (fun k h1 h2 => by omega)
    have hB := k2.heap hB id
    have hbe := hbe.trans (hb2.mono hbe.size)
    clear hb2 k2 lA hP
    have lA := run_load_state v w.heap.size w2 _ hB
    go_wp2_with (refine wpList_run_load lA rfl rfl rfl ?_)
    refine (hS _).mono ?_
    rintro e w3 ⟨rfl, hb3⟩
    have k3 := Keeps.of_below (S := fun _ => False) hb3 (fun k h1 h2 => by omega)
    have hB := k3.heap hB id
    have hbe := hbe.trans (hb3.mono hbe.size)
    clear hb3 k3 lA hS
    have lA := run_load_state v w.heap.size w3 _ hB
    go_wp2_with (refine wpList_run_load lA rfl rfl rfl ?_)
    refine (hR _).mono ?_
    rintro e w4 ⟨rfl, hb4⟩
    have k4 := Keeps.of_below (S := fun _ => False) hb4 (fun k h1 h2 => by omega)
    have hB := k4.heap hB id
    have hbe := hbe.trans (hb4.mono hbe.size)
    clear hb4 k4 lA hR
    go_wp2_with fail
    go_ret
    exact ⟨rfl, hbe⟩
  · rw [hr] at hP hS hR
    simp only [↓reduceIte] at hP hS
    obtain ⟨u1, u2⟩ := unp_right hw hr hz
    have hl := packS_len (tame_of hw hr)
    have hU := fun W => fz_Unpack (mkB (packS v)) (by show (packS v).toArray.size ≤ _; unfold maxLen; simp; omega) W
    rw [u1, u2] at hU
    simp only [↓reduceIte] at hU
    have hQ := fun W => rf_Pack v hw hr W
    have hT := fun W => rf_Sum v hw hr W
    have e7 := fun W => eql_state v v hv hv W
    rw [decide_eq_true (show sameN v v 0 60 from fun _ _ => rfl)] at e7
    have q3 : ((⟨(packS v).toArray⟩ : ByteArray).toList == (⟨(packS v).toArray⟩ : ByteArray).toList) = true := by simp
    rw [show mkB (packS v) = ⟨(packS v).toArray⟩ from rfl] at hU
    generalize more 1 (packS v) = M at *
    generalize (⟨(packS v).toArray⟩ : ByteArray) = X at *
    clear u1 u2 hl
    go_enter Try.func5, Try.ntmps5
    go_wp2_with fail
    generalize w.alloc (.cells (mkC v) 33) = w0 at *
    refine (awake13 _).mono ?_
    rintro e w1 ⟨rfl, hb1⟩
    have k1 := Keeps.of_below (S := fun _ => False) hb1 (fun k h1 h2 => by omega)
    have hB := k1.heap hB id
    have hbe := hbe.trans (hb1.mono hbe.size)
    clear hb1 k1
    have lA := run_load_state v w.heap.size w1 _ hB
    go_wp2_with (refine wpList_run_load lA rfl rfl rfl ?_)
    refine (hP _).mono ?_
    rintro e w2 ⟨rfl, hb2⟩
    have k2 := Keeps.of_below (S := fun _ => False) hb2 (fun k h1 h2 => by omega)
    have hB := k2.heap hB id
    have hbe := hbe.trans (hb2.mono hbe.size)
    clear hb2 k2 lA hP
    have lA := run_load_state v w.heap.size w2 _ hB
    go_wp2_with (refine wpList_run_load lA rfl rfl rfl ?_)
    refine (hS _).mono ?_
    rintro e w3 ⟨rfl, hb3⟩
    have k3 := Keeps.of_below (S := fun _ => False) hb3 (fun k h1 h2 => by omega)
    have hB := k3.heap hB id
    have hbe := hbe.trans (hb3.mono hbe.size)
    clear hb3 k3 lA hS
    have lA := run_load_state v w.heap.size w3 _ hB
    go_wp2_with (refine wpList_run_load lA rfl rfl rfl ?_)
    refine (hR _).mono ?_
    rintro e w4 ⟨rfl, hb4⟩
    have k4 := Keeps.of_below (S := fun _ => False) hb4 (fun k h1 h2 => by omega)
    have hB := k4.heap hB id
    have hbe := hbe.trans (hb4.mono hbe.size)
    clear hb4 k4 lA hR
    go_wp2_with fail
    refine (hU _).mono ?_
    rintro e w5 ⟨rfl, _, hb5⟩
    have k5 := Keeps.of_below (S := fun _ => False) hb5 (fun k h1 h2 => by omega)
    have hB := k5.heap hB id
    have hbe := hbe.trans (hb5.mono hbe.size)
    clear hb5 k5 hU
    have hlt := blk_lt hB
    have hZ := blk_new w5 (.cells (mkC fun _ => 0) 33)
    have hB := blk_alloc hB (.cells (mkC fun _ => 0) 33)
    have hbe := hbe.alloc hbe.size (.cells (mkC fun _ => 0) 33)
    obtain ⟨hst, _, hk6⟩ := store_all (w5.alloc (.cells (mkC fun _ => 0) 33)) 33 60 w5.heap.size (mkC v) _ Try.sizeOf33 (mkC_size _) (mkC_size _) hZ (mkC_one _)
    have hC := setRow_at (w5.alloc (.cells (mkC fun _ => 0) 33)) w5.heap.size _ (mkC v) 33 hZ
    have hne : w.heap.size ≠ w5.heap.size := by omega
    have hB := hk6.heap hB hne
    have hbe := hbe.trans (hk6.below hbe.size (fun k h1 h2 => by omega))
    generalize (w5.alloc (.cells (mkC fun _ => 0) 33)).setRow w5.heap.size (mkC v) = w6 at *
    have lA := run_load_state v w.heap.size w6 _ hB
    go_wp2_with (first | (refine wpList_run_alloc (run_alloc_state _) rfl rfl ?_) | (refine wpList_run_store hst rfl rfl rfl rfl ?_) | (refine wpList_run_load lA rfl rfl rfl ?_))
    refine (hQ _).mono ?_
    rintro e w7 ⟨rfl, hb7⟩
    have k7 := Keeps.of_below (S := fun _ => False) hb7 (fun k h1 h2 => by omega)
    have hB := k7.heap hB id
    have hC := k7.heap hC id
    have hbe := hbe.trans (hb7.mono hbe.size)
    clear hb7 k7 lA hQ
    have lA := run_load_state v w.heap.size w7 _ hB
    go_wp2_with (refine wpList_run_loadg lA (by first | rfl | simp [go_sem]) rfl rfl ?_)
    refine (hT _).mono ?_
    rintro e w8 ⟨rfl, hb8⟩
    have k8 := Keeps.of_below (S := fun _ => False) hb8 (fun k h1 h2 => by omega)
    have hB := k8.heap hB id
    have hC := k8.heap hC id
    have hbe := hbe.trans (hb8.mono hbe.size)
    clear hb8 k8 lA hT
    have lA := run_load_state v w.heap.size w8 _ hB
    have lB := run_load_state v w5.heap.size w8 _ hC
    have e8 := e7 w8
    go_wp2_with (first | (refine wpList_run_loadg lB (by first | rfl | simp [go_sem]) rfl rfl ?_) | (refine wpList_run_loadg lA (by first | rfl | simp [go_sem]) rfl rfl ?_) | (refine wpList_run_opg (guard_state _ _ _ _ _) e8 (by first | rfl | simp [go_sem]) rfl rfl rfl ?_))
    go_ret
    exact ⟨rfl, hbe⟩
end Go.Proofs.Ytfepefohaadecaa
