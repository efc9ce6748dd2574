/- freeze.Unpack. -/
import Derived.Test.YtfepefohaadecaaRdc
import Derived.Test.YtfepefohaadecaaBgn
namespace Go.Proofs.Ytfepefohaadecaa
open Go.RowKit
set_option maxRecDepth 10000
variable {w : World}
/-- whether the read numbers are a state's that has these bytes -/
def unpOk (t : ByteArray) : Bool := ((!(readS t).1.2) && decide ((readS t).1.1.data.toList = [])) && (rightS (readS t).2 && decide (packS (readS t).2 = t.data.toList))
def unpV (t : ByteArray) : Nat → Int := if unpOk t then (readS t).2 else zeroV
theorem run_build_zero (w : World) : (Instr.build 33 #[]).run Try.prog w = .ok (.agg (mkC zeroV)) w := by kernel_rfl
theorem str_nil {R : ByteArray} (h : R.data.toList = []) : R = ⟨#[]⟩ := by
  apply ByteArray.ext
  apply Array.ext'
  simpa using h
theorem fz_Unpack (t : ByteArray) (hs : t.size ≤ maxLen) (w : World) : Calls Try.prog 13 #[.string t] w fun e w' =>
    e = .returned (.tuple #[.agg (mkC (unpV t)), .int .i64 (if unpOk t then 0 else 4)]) ∧ WfS (unpV t) ∧ Below w.heap.size w w' := by
  have hI := mkI_rd
  have hZ := run_build_zero
  have k1 := (((Keeps.refl (fun _ => False) w).alloc (.cells (mkC fun _ => 0) 33)).alloc (.cells #[.string t, .bool false] 89)).alloc (.cells (mkC fun _ => 0) 33)
  have r0 := blk_alloc (blk_alloc (blk_new w (.cells (mkC fun _ => 0) 33)) (.cells #[.string t, .bool false] 89)) (.cells (mkC fun _ => 0) 33)
  have r1 := blk_alloc (blk_new (w.alloc (.cells (mkC fun _ => 0) 33)) (.cells #[.string t, .bool false] 89)) (.cells (mkC fun _ => 0) 33)
  have r2 := blk_new ((w.alloc (.cells (mkC fun _ => 0) 33)).alloc (.cells #[.string t, .bool false] 89)) (.cells (mkC fun _ => 0) 33)
  simp only [World.size_alloc] at r1 r2
  have hVE : (unpOk t = true → unpV t = (readS t).2 ∧ (if unpOk t then (0 : Int) else 4) = 0) ∧ (unpOk t = false → unpV t = zeroV ∧ (if unpOk t then (0 : Int) else 4) = 4) :=
    ⟨fun h => ⟨by unfold unpV; rw [if_pos h], by rw [if_pos h]⟩, fun h => ⟨by unfold unpV; rw [if_neg (by rw [h]; simp)], by rw [if_neg (by rw [h]; simp)]⟩⟩
  generalize unpV t = V at *
  generalize (if unpOk t then (0 : Int) else 4) = E at *
  have hO : unpOk t = (((!(readS t).1.2) && decide ((readS t).1.1.data.toList = [])) && (rightS (readS t).2 && decide (packS (readS t).2 = t.data.toList))) := rfl
  generalize unpOk t = ok at *
  go_enter Try.func13, Try.ntmps13
  go_wp2_with (refine wpList_run_alloc (run_alloc_state _) rfl rfl ?_)
  generalize ((w.alloc (.cells (mkC fun _ => 0) 33)).alloc (.cells #[.string t, .bool false] 89)).alloc (.cells (mkC fun _ => 0) 33) = w1 at *
  have hlt := blk_lt r2
  have hFr : Fr (rdC (w.heap.size + 1)) w1 (w.heap.size + 1 + 1) ((t, false), zeroV) (0 + 61) :=
    ⟨⟨r1, hs⟩, r2, by show w.heap.size + 1 + 1 ≠ w.heap.size + 1; omega, fun j hj => ⟨zero_fits _, fun _ => trivial⟩⟩
  refine (fr_state (rdC_right _) w1 hFr).mono ?_
  rintro e w2 ⟨rfl, hF, hk2⟩
  rw [rd_state] at hF
  have hbe : Below w.heap.size w w2 := ((k1.mono (T := fun k => k = w.heap.size + 1 ∨ k = w.heap.size + 1 + 1) fun _ _ x => x.elim).trans (hk2.mono fun _ _ x => x)).below (Nat.le_refl _) (fun k h1 h2 => by omega)
  have r0 := hk2.heap r0 (fun h => h.elim (fun (h : w.heap.size = w.heap.size + 1) => by omega) (fun h => by omega))
  obtain ⟨⟨⟨R, bad⟩, v⟩, hq⟩ : ∃ q, readS t = q := ⟨_, rfl⟩
  have hq' : stateF (rdC 0) ((t, false), zeroV) = ((R, bad), v) := hq
  rw [hq'] at hF
  rw [hq] at hVE hO
  simp only at hVE hO
  have hw : WfS v := fun j hj => (hF.fit j hj).1
  have hR : w2.heap[w.heap.size + 1]? = some (.cells #[.string R, .bool bad] 89 (0, 0)) := hF.st.1
  have hB : w2.heap[w.heap.size + 1 + 1]? = some (.cells (mkC v) 33 (0, 0)) := hF.blk
  have y0 : w2.cell? ⟨w.heap.size + 1, 0, none⟩ = some (.string R) := blk_cell hR rfl
  have y1 : w2.cell? ⟨w.heap.size + 1, 1, none⟩ = some (.bool bad) := blk_cell hR rfl
  clear hFr hF hk2 hq hq' r1 r2 k1
  have hsz := hbe.size
  have HVE := hid hVE
  have HO := hid hO
  clear hVE hO
  cases bad
  · by_cases hR0 : R.data.toList = []
    · have := str_nil hR0
      subst this
      have hl := run_load_state v _ _ _ hB
      have hP := fun W => fz_Pack v hw W
      cases hr : rightS v
      · obtain ⟨rfl, rfl⟩ := HVE.out.2 (by rw [HO.out, hr]; simp)
        rw [hr] at hP
        simp only [Bool.false_eq_true, if_false] at hP
        clear HVE HO
        go_wp2_with (refine wpList_run_load hl rfl rfl rfl ?_)
        refine (hP _).mono ?_
        rintro e w3 ⟨rfl, hb3⟩
        have r0 := (Keeps.of_below (S := fun _ => False) hb3 (fun k h1 h2 => by omega)).heap r0 id
        have hbe := hbe.trans (hb3.mono hsz)
        obtain ⟨hst, hload, hk9⟩ := store_all w3 33 60 w.heap.size (mkC zeroV) _ Try.sizeOf33 (mkC_size _) (mkC_size _) r0 (mkC_one _)
        have hbf : Below w.heap.size w ((w3).setRow w.heap.size (mkC zeroV)) := (hbe.trans ((hk9.below (B := w.heap.size) hbe.size (fun k h1 h2 => by omega))))
        generalize (w3).setRow w.heap.size (mkC zeroV) = w9 at *
        go_wp2_with (first | (refine wpList_run_build (hZ _) rfl rfl (by simp) ?_) | (refine wpList_run_store hst rfl rfl rfl rfl ?_))
        refine bodyPost_ret (v := .tuple #[.agg (mkC zeroV), .int .i64 4]) (by simp [results, Try.results13, asAddr, loadVar, loadCells, Try.isAgg33, Try.sizeOf33, hload]) rfl ?_
        exact ⟨rfl, fun j hj => zero_fits _, hbf⟩
      · rw [hr] at hP
        simp only [if_true] at hP
        by_cases he : packS v = t.data.toList
        · have q3 : ((⟨(packS v).toArray⟩ : ByteArray).toList == t.toList) = true := by rw [beq_iff_eq, ByteArray.toList_eq, ByteArray.toList_eq, he]
          obtain ⟨hv1, rfl⟩ := HVE.out.1 (by rw [HO.out, hr, decide_eq_true he]; simp)
          have hv2 : v = V := hv1.symm
          subst hv2
          clear hv1
          clear HVE HO he
          generalize (⟨(packS v).toArray⟩ : ByteArray) = X at *
          go_wp2_with (refine wpList_run_load hl rfl rfl rfl ?_)
          refine (hP _).mono ?_
          rintro e w3 ⟨rfl, hb3⟩
          have k3 := Keeps.of_below (S := fun _ => False) hb3 (fun k h1 h2 => by omega)
          have r0 := k3.heap r0 id
          have hl3 := run_load_state v _ _ _ (k3.heap hB id)
          have hbe := hbe.trans (hb3.mono hsz)
          obtain ⟨hst, hload, hk9⟩ := store_all w3 33 60 w.heap.size (mkC v) _ Try.sizeOf33 (mkC_size _) (mkC_size _) r0 (mkC_one _)
          have hbf : Below w.heap.size w (w3.setRow w.heap.size (mkC v)) := (hbe.trans ((hk9.below (B := w.heap.size) hbe.size (fun k h1 h2 => by omega))))
          generalize w3.setRow w.heap.size (mkC v) = w9 at *
          go_wp2_with (first | (refine wpList_run_load hl3 rfl rfl rfl ?_) | (refine wpList_run_store hst rfl rfl rfl rfl ?_))
          refine bodyPost_ret (v := .tuple #[.agg (mkC v), .int .i64 0]) (by simp [results, Try.results13, asAddr, loadVar, loadCells, Try.isAgg33, Try.sizeOf33, hload]) rfl ?_
          exact ⟨rfl, hw, hbf⟩
        · have q3 : ((⟨(packS v).toArray⟩ : ByteArray).toList == t.toList) = false := by
            rw [beq_eq_false_iff_ne]
            intro h'
            rw [ByteArray.toList_eq, ByteArray.toList_eq] at h'
            exact he h'
          obtain ⟨rfl, rfl⟩ := HVE.out.2 (by rw [HO.out, hr, decide_eq_false he]; simp)
          clear HVE HO he
          generalize (⟨(packS v).toArray⟩ : ByteArray) = X at *
          go_wp2_with (refine wpList_run_load hl rfl rfl rfl ?_)
          refine (hP _).mono ?_
          rintro e w3 ⟨rfl, hb3⟩
          have r0 := (Keeps.of_below (S := fun _ => False) hb3 (fun k h1 h2 => by omega)).heap r0 id
          have hbe := hbe.trans (hb3.mono hsz)
          obtain ⟨hst, hload, hk9⟩ := store_all w3 33 60 w.heap.size (mkC zeroV) _ Try.sizeOf33 (mkC_size _) (mkC_size _) r0 (mkC_one _)
          have hbf : Below w.heap.size w ((w3).setRow w.heap.size (mkC zeroV)) := (hbe.trans ((hk9.below (B := w.heap.size) hbe.size (fun k h1 h2 => by omega))))
          generalize (w3).setRow w.heap.size (mkC zeroV) = w9 at *
          go_wp2_with (first | (refine wpList_run_build (hZ _) rfl rfl (by simp) ?_) | (refine wpList_run_store hst rfl rfl rfl rfl ?_))
          refine bodyPost_ret (v := .tuple #[.agg (mkC zeroV), .int .i64 4]) (by simp [results, Try.results13, asAddr, loadVar, loadCells, Try.isAgg33, Try.sizeOf33, hload]) rfl ?_
          exact ⟨rfl, fun j hj => zero_fits _, hbf⟩
    · obtain ⟨rfl, rfl⟩ := HVE.out.2 (by rw [HO.out, decide_eq_false hR0]; simp)
      have hne : R.toList.isEmpty = false := by rw [ByteArray.toList_eq]; simpa using hR0
      have hne2 : ¬ R.toList = [] := by rw [ByteArray.toList_eq]; exact hR0
      clear HVE HO hR0
      obtain ⟨hst, hload, hk9⟩ := store_all w2 33 60 w.heap.size (mkC zeroV) _ Try.sizeOf33 (mkC_size _) (mkC_size _) r0 (mkC_one _)
      have hbf : Below w.heap.size w ((w2).setRow w.heap.size (mkC zeroV)) := (hbe.trans ((hk9.below (B := w.heap.size) hbe.size (fun k h1 h2 => by omega))))
      generalize (w2).setRow w.heap.size (mkC zeroV) = w9 at *
      go_wp2_with (first | (refine wpList_run_build (hZ _) rfl rfl (by simp) ?_) | (refine wpList_run_store hst rfl rfl rfl rfl ?_))
      refine bodyPost_ret (v := .tuple #[.agg (mkC zeroV), .int .i64 4]) (by simp [results, Try.results13, asAddr, loadVar, loadCells, Try.isAgg33, Try.sizeOf33, hload]) rfl ?_
      exact ⟨rfl, fun j hj => zero_fits _, hbf⟩
  · obtain ⟨rfl, rfl⟩ := HVE.out.2 (by rw [HO.out]; simp)
    clear HVE HO
    obtain ⟨hst, hload, hk9⟩ := store_all w2 33 60 w.heap.size (mkC zeroV) _ Try.sizeOf33 (mkC_size _) (mkC_size _) r0 (mkC_one _)
    have hbf : Below w.heap.size w ((w2).setRow w.heap.size (mkC zeroV)) := (hbe.trans ((hk9.below (B := w.heap.size) hbe.size (fun k h1 h2 => by omega))))
    generalize (w2).setRow w.heap.size (mkC zeroV) = w9 at *
    go_wp2_with (first | (refine wpList_run_build (hZ _) rfl rfl (by simp) ?_) | (refine wpList_run_store hst rfl rfl rfl rfl ?_))
    refine bodyPost_ret (v := .tuple #[.agg (mkC zeroV), .int .i64 4]) (by simp [results, Try.results13, asAddr, loadVar, loadCells, Try.isAgg33, Try.sizeOf33, hload]) rfl ?_
    exact ⟨rfl, fun j hj => zero_fits _, hbf⟩
end Go.Proofs.Ytfepefohaadecaa
