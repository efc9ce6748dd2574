/- The document's Right, of a state. -/
import Derived.Test.YtfepefohaadecaaBgn
namespace Go.Proofs.Ytfepefohaadecaa
open Go.RowKit
set_option maxRecDepth 10000
variable {w : World}
theorem rf_Box (n : Int) (hn : 0 ≤ n ∧ n ≤ 1000) (w : World) : Calls Try.prog 45 #[.int .i64 n] w fun e w' => e = .returned (.agg #[.int .i32 (-n * 65536), .int .i32 (-n * 65536), .int .i32 (n * 65536), .int .i32 (n * 65536)]) ∧ Below w.heap.size w w' := by
  have hV1 := fun W => rf_Vec (-n) (-n) (by omega) (by omega) W
  have hV2 := fun W => rf_Vec n n (by omega) (by omega) W
  have hk0 := (Keeps.refl (fun _ => False) w).alloc (.cells #[.int .i32 0, .int .i32 0, .int .i32 0, .int .i32 0] 98)
  have hZ := blk_new w (.cells #[.int .i32 0, .int .i32 0, .int .i32 0, .int .i32 0] 98)
  go_enter Try.func45, Try.ntmps45
  go_wp2_with fail
  generalize w.alloc (.cells #[.int .i32 0, .int .i32 0, .int .i32 0, .int .i32 0] 98) = w0 at *
  refine (hV1 _).mono ?_
  rintro e w1 ⟨rfl, hb1⟩
  go_wp2_with fail
  refine (hV2 _).mono ?_
  rintro e w2 ⟨rfl, hb2⟩
  have hk2 := (hk0.then_below hb1).then_below hb2
  have hZ2 := (((Keeps.refl (fun _ => False) w0).then_below hb1).then_below hb2).heap hZ id
  obtain ⟨hst, hload, hk3⟩ := store_all w2 98 4 w.heap.size #[.int .i32 (-n * 65536), .int .i32 (-n * 65536), .int .i32 (n * 65536), .int .i32 (n * 65536)] _ Try.sizeOf98 rfl rfl hZ2 (by kernel_rfl)
  have hbf : Below w.heap.size w (w2.setRow w.heap.size #[.int .i32 (-n * 65536), .int .i32 (-n * 65536), .int .i32 (n * 65536), .int .i32 (n * 65536)]) := ((hk2.mono fun _ _ x => x.elim).trans hk3).below (Nat.le_refl _) (fun k h1 h2 => by omega)
  generalize w2.setRow w.heap.size #[.int .i32 (-n * 65536), .int .i32 (-n * 65536), .int .i32 (n * 65536), .int .i32 (n * 65536)] = w3 at *
  clear hZ hk0 hb1 hb2 hZ2 hk2 hk3 hV1 hV2
  go_wp2_with (refine wpList_run_store hst rfl rfl rfl rfl ?_)
  refine bodyPost_ret (v := .agg #[.int .i32 (-n * 65536), .int .i32 (-n * 65536), .int .i32 (n * 65536), .int .i32 (n * 65536)]) (by simp [results, Try.results45, Act.put, asAddr, loadVar, loadCells, Try.isAgg98, Try.sizeOf98, hload]) rfl ?_
  exact ⟨rfl, hbf⟩
theorem rf_Inside (a b c d x y : Int) (w : World) : Calls Try.prog 44 #[.agg #[.int .i32 a, .int .i32 b, .int .i32 c, .int .i32 d], .agg #[.int .i32 x, .int .i32 y]] w fun e w' => e = .returned (.bool (inB a b c d x y)) ∧ Below w.heap.size w w' := by
  by_cases h1 : a ≤ x
  · by_cases h2 : x ≤ c
    · by_cases h3 : b ≤ y
      · by_cases h4 : y ≤ d
        · rw [show inB a b c d x y = true by simp [inB, h1, h2, h3, h4]]
          go_enter Try.func44, Try.ntmps44
          go_wp2
          go_ret
          exact ⟨by first | rfl | (simp; omega), ((Below.refl _ w).alloc (Nat.le_refl _) _).alloc (by simp) _⟩
        · rw [show inB a b c d x y = false by simp [inB, h4]]
          go_enter Try.func44, Try.ntmps44
          go_wp2
          go_ret
          exact ⟨by first | rfl | (simp; omega), ((Below.refl _ w).alloc (Nat.le_refl _) _).alloc (by simp) _⟩
      · rw [show inB a b c d x y = false by simp [inB, h3]]
        go_enter Try.func44, Try.ntmps44
        go_wp2
        go_ret
        exact ⟨by first | rfl | (simp; omega), ((Below.refl _ w).alloc (Nat.le_refl _) _).alloc (by simp) _⟩
    · rw [show inB a b c d x y = false by simp [inB, h2]]
      go_enter Try.func44, Try.ntmps44
      go_wp2
      go_ret
      exact ⟨by first | rfl | (simp; omega), ((Below.refl _ w).alloc (Nat.le_refl _) _).alloc (by simp) _⟩
  · rw [show inB a b c d x y = false by simp [inB, h1]]
    go_enter Try.func44, Try.ntmps44
    go_wp2
    go_ret
    exact ⟨by first | rfl | (simp; omega), ((Below.refl _ w).alloc (Nat.le_refl _) _).alloc (by simp) _⟩
def shoC6 (v : Nat → Int) (j : Nat) : Array Value := #[.int .i32 (v (24 + 6 * j)), .int .i32 (v (25 + 6 * j)), .int .i32 (v (26 + 6 * j)), .int .i32 (v (27 + 6 * j)), .int .i64 (v (28 + 6 * j)), .int .i64 (v (29 + 6 * j))]
theorem sho_sub (v : Nat → Int) (j : Nat) (hj : j < 6) (k : Nat) (x : Value) (hk : (shoC6 v j)[k]? = some x) : (mkC v)[24 + j * 6 + k]? = some x := by
  have h : k < 6 := (Array.getElem?_eq_some_iff.1 hk).1
  rw [mkC_get _ (by omega)]
  obtain ⟨k0, k1, k2, k3, k4, k5⟩ := shot_kinds j hj
  match k, h with
  | 0, _ => rw [show 24 + j * 6 + 0 = 24 + 6 * j by omega, k0]; exact hk
  | 1, _ => rw [show 24 + j * 6 + 1 = 24 + 6 * j + 1 by omega, k1, show 24 + 6 * j + 1 = 25 + 6 * j by omega]; exact hk
  | 2, _ => rw [show 24 + j * 6 + 2 = 24 + 6 * j + 2 by omega, k2, show 24 + 6 * j + 2 = 26 + 6 * j by omega]; exact hk
  | 3, _ => rw [show 24 + j * 6 + 3 = 24 + 6 * j + 3 by omega, k3, show 24 + 6 * j + 3 = 27 + 6 * j by omega]; exact hk
  | 4, _ => rw [show 24 + j * 6 + 4 = 24 + 6 * j + 4 by omega, k4, show 24 + 6 * j + 4 = 28 + 6 * j by omega]; exact hk
  | 5, _ => rw [show 24 + j * 6 + 5 = 24 + 6 * j + 5 by omega, k5, show 24 + 6 * j + 5 = 29 + 6 * j by omega]; exact hk
theorem run_load_sho1 (v : Nat → Int) (j : Nat) (hj : j < 6) (B : Nat) (w : World) (t : TypeId) (hB : w.heap[B]? = some (.cells (mkC v) t (0, 0))) : (Instr.loadAt 30 (.pointer (some ⟨B, 24 + j * 6, none⟩))).run Try.prog w = .ok (.agg (shoC6 v j)) w :=
  run_load_agg 30 6 B (24 + j * 6) (shoC6 v j) (mkC v) t Try.isAgg30 Try.sizeOf30 rfl hB (sho_sub v j hj)
theorem plyC_one (v : Nat → Int) (o : Nat) : (plyC v o).toList.all (fun v => v.oneCell') = true := by kernel_rfl
theorem shoC_one (v : Nat → Int) (j : Nat) : (shoC6 v j).toList.all (fun v => v.oneCell') = true := by kernel_rfl
end Go.Proofs.Ytfepefohaadecaa
