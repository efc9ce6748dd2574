/- freeze.Pack. -/
import Derived.Test.YtfepefohaadecaaRgt
import Derived.Test.YtfepefohaadecaaFrz5
namespace Go.Proofs.Ytfepefohaadecaa
open Go.RowKit
set_option maxRecDepth 10000
variable {w : World}
/-- a state's numbers are of their kinds -/
def WfS (v : Nat → Int) : Prop := ∀ j, j < 60 → fitsI (kindAt j) (v j)
theorem run_load_state (v : Nat → Int) (B : Nat) (w : World) (t : TypeId) (hB : w.heap[B]? = some (.cells (mkC v) t (0, 0))) : (Instr.loadAt 33 (.pointer (some ⟨B, 0, none⟩))).run Try.prog w = .ok (.agg (mkC v)) w :=
  run_load_agg 33 60 B 0 (mkC v) (mkC v) t Try.isAgg33 Try.sizeOf33 (mkC_size v) hB (fun j x hj => by rw [Nat.zero_add]; exact hj)
theorem inR_pos {n a b : Int} (h : inR n a b = true) (ha : 0 ≤ a) : 0 ≤ n := by
  simp [inR] at h
  omega
theorem ply_pos {v : Nat → Int} {o : Nat} (h : plyAt v o = true) (j : Nat) (h1 : 4 ≤ j) (h2 : j < 10) : 0 ≤ v (o + j) := by
  simp only [plyAt, plyOk, Bool.and_eq_true] at h
  obtain ⟨a1, a2, a3, a4, a5, a6, _⟩ := h
  obtain rfl | rfl | rfl | rfl | rfl | rfl : j = 4 ∨ j = 5 ∨ j = 6 ∨ j = 7 ∨ j = 8 ∨ j = 9 := by omega
  · exact inR_pos a1 (by omega)
  · exact inR_pos a2 (by omega)
  · exact inR_pos a3 (by omega)
  · exact inR_pos a4 (by omega)
  · exact inR_pos a5 (by omega)
  · exact inR_pos a6 (by omega)
theorem shosOk_at {v : Nat → Int} {j : Nat} (h : shosOk v 6 = true) (hj : j < 6) : shoAt v j = true := by
  cases hs : shoAt v j with
  | true => rfl
  | false => rw [shosOk_false hs hj] at h; cases h
theorem sho_pos {v : Nat → Int} {j : Nat} (h : shoAt v j = true) (k : Nat) (h1 : 28 ≤ k) (h2 : k < 30) : 0 ≤ v (k + 6 * j) := by
  simp only [shoAt, shoOk, isNo, Bool.or_eq_true, Bool.and_eq_true, decide_eq_true_eq] at h
  obtain rfl | rfl : k = 28 ∨ k = 29 := by omega
  · rcases h with h | h
    · omega
    · exact inR_pos h.1 (by omega)
  · rcases h with h | h
    · omega
    · exact inR_pos h.2.1 (by omega)
theorem right_pos {v : Nat → Int} (hw : WfS v) (h : rightS v = true) (j : Nat) (hj : j < 60) (hk : kindAt j ≠ .i32) : 0 ≤ v j := by
  simp only [rightS, Bool.and_eq_true] at h
  obtain ⟨a1, a2, a3, a4, a5, a6⟩ := h
  by_cases h1 : j < 4
  · obtain rfl | rfl | rfl | rfl : j = 0 ∨ j = 1 ∨ j = 2 ∨ j = 3 := by omega
    · exact inR_pos a4 (by omega)
    · exact (hw 1 (by omega)).1
    · exact inR_pos a5 (by omega)
    · exact inR_pos a6 (by omega)
  · by_cases h2 : j < 24
    · have hq : 4 ≤ (j - 4) % 10 := by
        by_cases e : (j - 4) % 10 < 4
        · exact absurd (by unfold kindAt; rw [if_neg (by omega), if_neg h1, if_pos h2, if_pos e]) hk
        · omega
      rcases (show j - 4 < 10 ∨ 10 ≤ j - 4 by omega) with h3 | h3
      · have := ply_pos a2 (j - 4) (by omega) (by omega)
        rwa [show 4 + (j - 4) = j by omega] at this
      · have := ply_pos a3 (j - 14) (by omega) (by omega)
        rwa [show 14 + (j - 14) = j by omega] at this
    · have hq : 4 ≤ (j - 24) % 6 := by
        by_cases e : (j - 24) % 6 < 4
        · exact absurd (by unfold kindAt; rw [if_neg (by omega), if_neg h1, if_neg h2, if_pos e]) hk
        · omega
      have h3 := shosOk_at (j := (j - 24) / 6) a1 (by omega)
      have := sho_pos h3 (24 + (j - 24) % 6) (by omega) (by omega)
      rwa [show 24 + (j - 24) % 6 + 6 * ((j - 24) / 6) = j by omega] at this
theorem mkI_wr (x : Value) (w : World) : (Instr.makeInterface 82 x).run Try.prog w = .ok (.iface 82 x) w := run_makeInterface w 82 x (by kernel_rfl)
theorem fz_Pack (v : Nat → Int) (hv : WfS v) (w : World) : Calls Try.prog 12 #[.agg (mkC v)] w fun e w' =>
    e = .returned (.tuple #[.string (if rightS v then ⟨(packS v).toArray⟩ else ByteArray.empty), .int .i64 (if rightS v then 0 else 1)]) ∧ Below w.heap.size w w' := by
  have hB := blk_new w (.cells (mkC v) 33)
  have hb := (Below.refl w.heap.size w).alloc (Nat.le_refl _) (.cells (mkC v) 33)
  have hload := run_load_state v w.heap.size _ _ hB
  have hG := fun W => gm_Right v W
  have hI := mkI_wr
  have hp := right_pos hv
  cases hr : rightS v
  · rw [hr] at hG
    go_enter Try.func12, Try.ntmps12
    go_wp2_with (refine wpList_run_load hload rfl rfl rfl ?_)
    refine (hG _).mono ?_
    rintro e w1 ⟨rfl, hb1⟩
    have hbe := hb.trans (hb1.mono hb.size)
    go_wp2_with fail
    go_ret2
    exact ⟨rfl, hbe⟩
  · rw [hr] at hG
    go_enter Try.func12, Try.ntmps12
    go_wp2_with (refine wpList_run_load hload rfl rfl rfl ?_)
    refine (hG _).mono ?_
    rintro e w1 ⟨rfl, hb1⟩
    have hbe := hb.trans (hb1.mono hb.size)
    have hB1 := (Keeps.of_below (S := fun _ => False) hb1 (fun k h1 h2 => by omega)).heap hB id
    have hlt := blk_lt hB1
    have hFr : Fr (wrC w1.heap.size) (w1.alloc (.cells #[.string ⟨#[]⟩] 84)) w.heap.size ([], v) (0 + 61) :=
      ⟨⟨blk_new w1 (.cells #[.string ⟨#[]⟩] 84), by show 0 + 10 * (0 + 61) ≤ _; omega⟩, blk_alloc hB1 _, by show w.heap.size ≠ w1.heap.size; omega, fun j hj => ⟨hv j hj, fun hk => hp hr j hj hk⟩⟩
    have hS := fr_state (wrC_right w1.heap.size) _ hFr
    go_wp2_with fail
    refine hS.mono ?_
    rintro e w2 ⟨rfl, hF, hk⟩
    rw [wr_state _ v ((hv 1 (by omega)))] at hF
    have hr2 : w2.heap[w1.heap.size]? = some (.cells #[.string ⟨(packS v).toArray⟩] 84 (0, 0)) := hF.st.1
    have y0 := blk_cell hr2 (k := 0) rfl
    have hbf : Below w.heap.size w w2 := (hbe.alloc (by omega) _).trans (hk.below (B := w.heap.size) (by simp; omega) (fun k hk hx => by simp only [ofFr] at hx; rcases hx with hx | hx; (· have : k = w1.heap.size := hx; omega); (· omega)))
    go_wp2_with fail
    go_ret2
    exact ⟨rfl, hbf⟩
end Go.Proofs.Ytfepefohaadecaa
