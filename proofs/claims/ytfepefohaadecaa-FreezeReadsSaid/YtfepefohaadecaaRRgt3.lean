/- The document's Right: a player. -/
import Derived.Test.YtfepefohaadecaaRRgt
import Derived.Test.YtfepefohaadecaaOrg
namespace Go.Proofs.Ytfepefohaadecaa
open Go.RowKit
set_option maxRecDepth 10000
variable {w : World}
theorem inR_lo {n a b : Int} (h : n < a) : inR n a b = false := by
  unfold inR
  rw [decide_eq_false (by omega), Bool.false_and]
theorem inR_hi {n a b : Int} (h : b < n) : inR n a b = false := by
  unfold inR
  rw [decide_eq_false (p := n ≤ b) (by omega), Bool.and_false]
theorem inR_ok {n a b : Int} (h : ¬ n < a) (h2 : ¬ b < n) : inR n a b = true := by
  unfold inR
  rw [decide_eq_true (by omega), decide_eq_true (by omega), Bool.and_true]
def plysOk (v : Nat → Int) : Nat → Bool
  | 0 => true
  | j + 1 => plysOk v j && plyAt v (4 + j * 10)
theorem right_eq (v : Nat → Int) : rightS v = (plysOk v 2 && (shosOk v 6 && (inR (v 0) 0 1073741824 && (inR (v 2) 0 1073741824 && inR (v 3) 1 600)))) := by
  show (shosOk v 6 && (plyAt v 4 && (plyAt v 14 && _))) = ((true && plyAt v 4) && plyAt v 14 && (shosOk v 6 && _))
  cases shosOk v 6 <;> cases plyAt v 4 <;> cases plyAt v 14 <;> simp
theorem ply_bad {v : Nat → Int} {j : Nat} (h : plyAt v (4 + j * 10) = false) (hj : j < 2) : rightS v = false := by
  have : plysOk v 2 = false := by
    show ((true && plyAt v (4 + 0 * 10)) && plyAt v (4 + 1 * 10)) = false
    obtain rfl | rfl : j = 0 ∨ j = 1 := by omega
    · rw [h]; rfl
    · rw [h, Bool.and_false]
  rw [right_eq, this, Bool.false_and]
theorem sho_bad {v : Nat → Int} {j : Nat} (h : shoAt v j = false) (hj : j < 6) : rightS v = false := by
  rw [right_eq, shosOk_false h hj, Bool.false_and, Bool.and_false]
theorem inR_not (n a b : Int) : inR n a b = !(decide (n < a) || decide (b < n)) := by
  unfold inR
  by_cases h1 : n < a <;> by_cases h2 : b < n <;> simp [h1, h2] <;> omega
theorem ply_bads (f hp co wi dn sc x y : Int) : plyOk f hp co wi dn sc x y = !(((((((((((((decide (f < 0) || decide (65535 < f)) || decide (hp < 0)) || decide (3 < hp)) || decide (co < 0)) || decide (8 < co)) || decide (wi < 0)) || decide (20 < wi)) || decide (dn < 0)) || decide (30 < dn)) || decide (sc < 0)) || decide (2 < sc)) || (!inB (-3932160) (-3932160) 3932160 3932160 x y)) || (decide (0 < hp) != (dn == 0))) := by
  unfold plyOk
  simp only [inR_not, Bool.not_or, Bool.not_not, Bool.and_assoc, gt_iff_lt]
  congr
  cases decide (0 < hp) <;> by_cases h : dn = 0 <;> simp [h]
theorem sho_bads (x y u v ow li : Int) (h : isNo x y u v ow li = false) : shoOk x y u v ow li = !((((decide (ow < 1) || decide (2 < ow)) || decide (li < 1)) || decide (40 < li)) || (!inB (-4194304) (-4194304) 4194304 4194304 x y)) := by
  unfold shoOk
  simp only [h, inR_not, Bool.not_or, Bool.not_not, Bool.and_assoc, Bool.false_or]
/-- a round's end, whichever it is -/
structure RrSt (w0 wr : World) (v : Nat → Int) (B : Nat) : Prop where
  blk : wr.heap[B]? = some (.cells (mkC v) 33 (0, 0))
  bel : Below w0.heap.size w0 wr
theorem RrSt.keep {w0 wr w' : World} {v : Nat → Int} {B : Nat} (h : RrSt w0 wr v B) (hk : Keeps (fun _ => False) wr w') : RrSt w0 w' v B := ⟨hk.heap h.blk id, h.bel.trans (hk.below h.bel.size (fun _ _ x => x))⟩
set_option maxHeartbeats 2000000 in
theorem rf_Right (v : Nat → Int) (w : World) : Calls Try.prog 16 #[.agg (mkC v)] w fun e w' => e = .returned (.bool (rightS v)) ∧ Below w.heap.size w w' := by
  have hS0 : RrSt w (w.alloc (.cells (mkC v) 33)) v w.heap.size := ⟨blk_new w _, (Below.refl _ w).alloc (Nat.le_refl _) _⟩
  have hR : rightS v = false → rightS v = false := id
  have hT : rightS v = rightS v := rfl
  generalize hr : rightS v = R at *
  have hR : rightS v = false → R = false := fun h => by rw [← hr, h]
  have HR := hid hR
  have HT := hid hr
  clear hR hT hr
  go_enter Try.func16, Try.ntmps16
  go_wp2_with fail
  generalize w.alloc (.cells (mkC v) 33) = w0 at *
  have HS0 := hid hS0
  clear hS0
  generalize hB : w.heap.size = B at *
  go_loopw [3] (fun i wr => ∃ k : Nat, k ≤ 2 ∧ i = .int .i64 k ∧ plysOk v k = true ∧ Hid (RrSt w wr v B)) (fun i _ => 2 - (intOf i).toNat)
  case atStart => exact ⟨0, by omega, rfl, rfl, HS0⟩
  case round =>
    obtain ⟨i, hi, rfl, hp0, HSr⟩ := hrel
    obtain ⟨wo, rfl⟩ : ∃ wo : World, wo = wr := ⟨_, rfl⟩
    clear HS0
    by_cases hlt : i < 2
    · have hload := run_load_ply v (4 + i * 10) (by omega) B wo _ HSr.out.blk
      have hZ := blk_new wo (.cells #[.int .i32 0, .int .i32 0, .int .i32 0, .int .i32 0, .int .i64 0, .int .i64 0, .int .i64 0, .int .i64 0, .int .i64 0, .int .i64 0] 27)
      obtain ⟨hst, _, hk2⟩ := store_all (wo.alloc (.cells #[.int .i32 0, .int .i32 0, .int .i32 0, .int .i32 0, .int .i64 0, .int .i64 0, .int .i64 0, .int .i64 0, .int .i64 0, .int .i64 0] 27)) 27 10 wo.heap.size (plyC v (4 + i * 10)) _ Try.sizeOf27 rfl rfl hZ (plyC_one _ _)
      have hC2 := setRow_at (wo.alloc (.cells #[.int .i32 0, .int .i32 0, .int .i32 0, .int .i32 0, .int .i64 0, .int .i64 0, .int .i64 0, .int .i64 0, .int .i64 0, .int .i64 0] 27)) wo.heap.size _ (plyC v (4 + i * 10)) 27 hZ
      have HS := hid (HSr.out.keep (keeps_past ((Keeps.refl (fun _ => False) wo).alloc (.cells #[.int .i32 0, .int .i32 0, .int .i32 0, .int .i32 0, .int .i64 0, .int .i64 0, .int .i64 0, .int .i64 0, .int .i64 0, .int .i64 0] 27)) hk2 (fun k hk e => by omega)))
      have hrest : plysOk v (i + 1) = (plysOk v i && plyAt v (4 + i * 10)) := rfl
      generalize (wo.alloc (.cells #[.int .i32 0, .int .i32 0, .int .i32 0, .int .i32 0, .int .i64 0, .int .i64 0, .int .i64 0, .int .i64 0, .int .i64 0, .int .i64 0] 27)).setRow wo.heap.size (plyC v (4 + i * 10)) = w2 at *
      have hBox := fun W => rf_Box 60 (by omega) W
      have hIns := fun W => rf_Inside (-60 * 65536) (-60 * 65536) (60 * 65536) (60 * 65536) (v (4 + i * 10)) (v (4 + i * 10 + 1)) W
      clear hZ hk2 HSr
      unfold plyC at hload hst hC2
      have hpl : plyAt v (4 + i * 10) = plyOk (v (4 + i * 10 + 4)) (v (4 + i * 10 + 5)) (v (4 + i * 10 + 6)) (v (4 + i * 10 + 7)) (v (4 + i * 10 + 8)) (v (4 + i * 10 + 9)) (v (4 + i * 10)) (v (4 + i * 10 + 1)) := rfl
      generalize v (4 + i * 10 + 4) = f at *
      generalize v (4 + i * 10 + 5) = hp at *
      generalize v (4 + i * 10 + 6) = co at *
      generalize v (4 + i * 10 + 7) = wi at *
      generalize v (4 + i * 10 + 8) = dn at *
      generalize v (4 + i * 10 + 9) = sc at *
      generalize v (4 + i * 10) = x at *
      generalize v (4 + i * 10 + 1) = y at *
      generalize v (4 + i * 10 + 2) = u at *
      generalize v (4 + i * 10 + 3) = q at *
      clear hrest
      have z0 := after_cell (show w2.cell? ⟨wo.heap.size, 0, none⟩ = some (.int .i32 x) from blk_cell hC2 rfl)
      have z1 := after_cell (show w2.cell? ⟨wo.heap.size, 1, none⟩ = some (.int .i32 y) from blk_cell hC2 rfl)
      have z2 := after_cell (show w2.cell? ⟨wo.heap.size, 2, none⟩ = some (.int .i32 u) from blk_cell hC2 rfl)
      have z3 := after_cell (show w2.cell? ⟨wo.heap.size, 3, none⟩ = some (.int .i32 q) from blk_cell hC2 rfl)
      have z4 := after_cell (show w2.cell? ⟨wo.heap.size, 4, none⟩ = some (.int .i64 f) from blk_cell hC2 rfl)
      have z5 := after_cell (show w2.cell? ⟨wo.heap.size, 5, none⟩ = some (.int .i64 hp) from blk_cell hC2 rfl)
      have z6 := after_cell (show w2.cell? ⟨wo.heap.size, 6, none⟩ = some (.int .i64 co) from blk_cell hC2 rfl)
      have z7 := after_cell (show w2.cell? ⟨wo.heap.size, 7, none⟩ = some (.int .i64 wi) from blk_cell hC2 rfl)
      have z8 := after_cell (show w2.cell? ⟨wo.heap.size, 8, none⟩ = some (.int .i64 dn) from blk_cell hC2 rfl)
      have z9 := after_cell (show w2.cell? ⟨wo.heap.size, 9, none⟩ = some (.int .i64 sc) from blk_cell hC2 rfl)
      have hbad := ply_bad (v := v) (j := i)
      have hpb := ply_bads f hp co wi dn sc x y
      rw [← hpl] at hpb
      clear hpl
      rw [show inB (-60 * 65536) (-60 * 65536) (60 * 65536) (60 * 65536) x y = inB (-3932160) (-3932160) 3932160 3932160 x y from rfl] at hIns
      generalize inB (-3932160) (-3932160) 3932160 3932160 x y = ib at *
      have Hpb := hid hpb
      have Hbad := hid hbad
      have Hp0 := hid hp0
      clear hpb hbad hp0
      go_wp2_with (first | (refine wpList_run_load hload rfl rfl rfl ?_) | (refine wpList_run_store hst rfl rfl rfl rfl ?_))
      try simp only [Act.put]
      refine wp_region_after (by kernel_rfl) (by kernel_rfl) ?_
      try simp only [List.append_eq, List.cons_append, List.nil_append]
      repeat (go_big_quiet_step (fail))
      generalize hb1 : decide (f < 0) = b1
      have Hb1 := hid hb1
      clear hb1
      refine or_3 (b := b1) (decide (65535 < f)) ?_ rfl ?_ ?_ ?_ ?_ (fun x1' x2' x3' => ?_)
      · intro _ _ _; simp only [Act.put, List.setIfInBounds_toArray, List.set_cons_succ, List.set_cons_zero]; rfl
      · intro _ _ _; simp only [Act.put, List.setIfInBounds_toArray, List.set_cons_succ, List.set_cons_zero]; rfl
      · intro _ _ _; simp only [Act.put, List.setIfInBounds_toArray, List.set_cons_succ, List.set_cons_zero]; rfl
      · intro hb Q' hq
        subst hb
        simp only [Act.put, List.setIfInBounds_toArray, List.set_cons_succ, List.set_cons_zero] at hq
        repeat (go_big_quiet_step (fail))
        refine wpQuiet_nil ?_
        exact hq
      · intro hb Q' hq
        subst hb
        simp only [Act.put, List.setIfInBounds_toArray, List.set_cons_succ, List.set_cons_zero] at hq
        repeat (go_big_quiet_step (fail))
        refine wpQuiet_nil ?_
        exact hq _ _
      simp only [Act.put, List.setIfInBounds_toArray, List.set_cons_succ, List.set_cons_zero]
      generalize hb2 : (b1 || decide (65535 < f)) = b2
      have Hb2 := hid hb2
      clear hb2
      repeat (go_big_quiet_step (fail))
      refine or_3 (b := b2) (decide (hp < 0)) ?_ rfl ?_ ?_ ?_ ?_ (fun x1' x2' x3' => ?_)
      · intro _ _ _; simp only [Act.put, List.setIfInBounds_toArray, List.set_cons_succ, List.set_cons_zero]; rfl
      · intro _ _ _; simp only [Act.put, List.setIfInBounds_toArray, List.set_cons_succ, List.set_cons_zero]; rfl
      · intro _ _ _; simp only [Act.put, List.setIfInBounds_toArray, List.set_cons_succ, List.set_cons_zero]; rfl
      · intro hb Q' hq
        subst hb
        simp only [Act.put, List.setIfInBounds_toArray, List.set_cons_succ, List.set_cons_zero] at hq
        repeat (go_big_quiet_step (fail))
        refine wpQuiet_nil ?_
        exact hq
      · intro hb Q' hq
        subst hb
        simp only [Act.put, List.setIfInBounds_toArray, List.set_cons_succ, List.set_cons_zero] at hq
        repeat (go_big_quiet_step (fail))
        refine wpQuiet_nil ?_
        exact hq _ _
      simp only [Act.put, List.setIfInBounds_toArray, List.set_cons_succ, List.set_cons_zero]
      generalize hb3 : (b2 || decide (hp < 0)) = b3
      have Hb3 := hid hb3
      clear hb3
      repeat (go_big_quiet_step (fail))
      refine or_3 (b := b3) (decide (3 < hp)) ?_ rfl ?_ ?_ ?_ ?_ (fun x1' x2' x3' => ?_)
      · intro _ _ _; simp only [Act.put, List.setIfInBounds_toArray, List.set_cons_succ, List.set_cons_zero]; rfl
      · intro _ _ _; simp only [Act.put, List.setIfInBounds_toArray, List.set_cons_succ, List.set_cons_zero]; rfl
      · intro _ _ _; simp only [Act.put, List.setIfInBounds_toArray, List.set_cons_succ, List.set_cons_zero]; rfl
      · intro hb Q' hq
        subst hb
        simp only [Act.put, List.setIfInBounds_toArray, List.set_cons_succ, List.set_cons_zero] at hq
        repeat (go_big_quiet_step (fail))
        refine wpQuiet_nil ?_
        exact hq
      · intro hb Q' hq
        subst hb
        simp only [Act.put, List.setIfInBounds_toArray, List.set_cons_succ, List.set_cons_zero] at hq
        repeat (go_big_quiet_step (fail))
        refine wpQuiet_nil ?_
        exact hq _ _
      simp only [Act.put, List.setIfInBounds_toArray, List.set_cons_succ, List.set_cons_zero]
      generalize hb4 : (b3 || decide (3 < hp)) = b4
      have Hb4 := hid hb4
      clear hb4
      repeat (go_big_quiet_step (fail))
      refine or_3 (b := b4) (decide (co < 0)) ?_ rfl ?_ ?_ ?_ ?_ (fun x1' x2' x3' => ?_)
      · intro _ _ _; simp only [Act.put, List.setIfInBounds_toArray, List.set_cons_succ, List.set_cons_zero]; rfl
      · intro _ _ _; simp only [Act.put, List.setIfInBounds_toArray, List.set_cons_succ, List.set_cons_zero]; rfl
      · intro _ _ _; simp only [Act.put, List.setIfInBounds_toArray, List.set_cons_succ, List.set_cons_zero]; rfl
      · intro hb Q' hq
        subst hb
        simp only [Act.put, List.setIfInBounds_toArray, List.set_cons_succ, List.set_cons_zero] at hq
        repeat (go_big_quiet_step (fail))
        refine wpQuiet_nil ?_
        exact hq
      · intro hb Q' hq
        subst hb
        simp only [Act.put, List.setIfInBounds_toArray, List.set_cons_succ, List.set_cons_zero] at hq
        repeat (go_big_quiet_step (fail))
        refine wpQuiet_nil ?_
        exact hq _ _
      simp only [Act.put, List.setIfInBounds_toArray, List.set_cons_succ, List.set_cons_zero]
      generalize hb5 : (b4 || decide (co < 0)) = b5
      have Hb5 := hid hb5
      clear hb5
      repeat (go_big_quiet_step (fail))
      refine or_3 (b := b5) (decide (8 < co)) ?_ rfl ?_ ?_ ?_ ?_ (fun x1' x2' x3' => ?_)
      · intro _ _ _; simp only [Act.put, List.setIfInBounds_toArray, List.set_cons_succ, List.set_cons_zero]; rfl
      · intro _ _ _; simp only [Act.put, List.setIfInBounds_toArray, List.set_cons_succ, List.set_cons_zero]; rfl
      · intro _ _ _; simp only [Act.put, List.setIfInBounds_toArray, List.set_cons_succ, List.set_cons_zero]; rfl
      · intro hb Q' hq
        subst hb
        simp only [Act.put, List.setIfInBounds_toArray, List.set_cons_succ, List.set_cons_zero] at hq
        repeat (go_big_quiet_step (fail))
        refine wpQuiet_nil ?_
        exact hq
      · intro hb Q' hq
        subst hb
        simp only [Act.put, List.setIfInBounds_toArray, List.set_cons_succ, List.set_cons_zero] at hq
        repeat (go_big_quiet_step (fail))
        refine wpQuiet_nil ?_
        exact hq _ _
      simp only [Act.put, List.setIfInBounds_toArray, List.set_cons_succ, List.set_cons_zero]
      generalize hb6 : (b5 || decide (8 < co)) = b6
      have Hb6 := hid hb6
      clear hb6
      repeat (go_big_quiet_step (fail))
      refine or_3 (b := b6) (decide (wi < 0)) ?_ rfl ?_ ?_ ?_ ?_ (fun x1' x2' x3' => ?_)
      · intro _ _ _; simp only [Act.put, List.setIfInBounds_toArray, List.set_cons_succ, List.set_cons_zero]; rfl
      · intro _ _ _; simp only [Act.put, List.setIfInBounds_toArray, List.set_cons_succ, List.set_cons_zero]; rfl
      · intro _ _ _; simp only [Act.put, List.setIfInBounds_toArray, List.set_cons_succ, List.set_cons_zero]; rfl
      · intro hb Q' hq
        subst hb
        simp only [Act.put, List.setIfInBounds_toArray, List.set_cons_succ, List.set_cons_zero] at hq
        repeat (go_big_quiet_step (fail))
        refine wpQuiet_nil ?_
        exact hq
      · intro hb Q' hq
        subst hb
        simp only [Act.put, List.setIfInBounds_toArray, List.set_cons_succ, List.set_cons_zero] at hq
        repeat (go_big_quiet_step (fail))
        refine wpQuiet_nil ?_
        exact hq _ _
      simp only [Act.put, List.setIfInBounds_toArray, List.set_cons_succ, List.set_cons_zero]
      generalize hb7 : (b6 || decide (wi < 0)) = b7
      have Hb7 := hid hb7
      clear hb7
      repeat (go_big_quiet_step (fail))
      refine or_3 (b := b7) (decide (20 < wi)) ?_ rfl ?_ ?_ ?_ ?_ (fun x1' x2' x3' => ?_)
      · intro _ _ _; simp only [Act.put, List.setIfInBounds_toArray, List.set_cons_succ, List.set_cons_zero]; rfl
      · intro _ _ _; simp only [Act.put, List.setIfInBounds_toArray, List.set_cons_succ, List.set_cons_zero]; rfl
      · intro _ _ _; simp only [Act.put, List.setIfInBounds_toArray, List.set_cons_succ, List.set_cons_zero]; rfl
      · intro hb Q' hq
        subst hb
        simp only [Act.put, List.setIfInBounds_toArray, List.set_cons_succ, List.set_cons_zero] at hq
        repeat (go_big_quiet_step (fail))
        refine wpQuiet_nil ?_
        exact hq
      · intro hb Q' hq
        subst hb
        simp only [Act.put, List.setIfInBounds_toArray, List.set_cons_succ, List.set_cons_zero] at hq
        repeat (go_big_quiet_step (fail))
        refine wpQuiet_nil ?_
        exact hq _ _
      simp only [Act.put, List.setIfInBounds_toArray, List.set_cons_succ, List.set_cons_zero]
      generalize hb8 : (b7 || decide (20 < wi)) = b8
      have Hb8 := hid hb8
      clear hb8
      repeat (go_big_quiet_step (fail))
      refine or_3 (b := b8) (decide (dn < 0)) ?_ rfl ?_ ?_ ?_ ?_ (fun x1' x2' x3' => ?_)
      · intro _ _ _; simp only [Act.put, List.setIfInBounds_toArray, List.set_cons_succ, List.set_cons_zero]; rfl
      · intro _ _ _; simp only [Act.put, List.setIfInBounds_toArray, List.set_cons_succ, List.set_cons_zero]; rfl
      · intro _ _ _; simp only [Act.put, List.setIfInBounds_toArray, List.set_cons_succ, List.set_cons_zero]; rfl
      · intro hb Q' hq
        subst hb
        simp only [Act.put, List.setIfInBounds_toArray, List.set_cons_succ, List.set_cons_zero] at hq
        repeat (go_big_quiet_step (fail))
        refine wpQuiet_nil ?_
        exact hq
      · intro hb Q' hq
        subst hb
        simp only [Act.put, List.setIfInBounds_toArray, List.set_cons_succ, List.set_cons_zero] at hq
        repeat (go_big_quiet_step (fail))
        refine wpQuiet_nil ?_
        exact hq _ _
      simp only [Act.put, List.setIfInBounds_toArray, List.set_cons_succ, List.set_cons_zero]
      generalize hb9 : (b8 || decide (dn < 0)) = b9
      have Hb9 := hid hb9
      clear hb9
      repeat (go_big_quiet_step (fail))
      refine or_3 (b := b9) (decide (30 < dn)) ?_ rfl ?_ ?_ ?_ ?_ (fun x1' x2' x3' => ?_)
      · intro _ _ _; simp only [Act.put, List.setIfInBounds_toArray, List.set_cons_succ, List.set_cons_zero]; rfl
      · intro _ _ _; simp only [Act.put, List.setIfInBounds_toArray, List.set_cons_succ, List.set_cons_zero]; rfl
      · intro _ _ _; simp only [Act.put, List.setIfInBounds_toArray, List.set_cons_succ, List.set_cons_zero]; rfl
      · intro hb Q' hq
        subst hb
        simp only [Act.put, List.setIfInBounds_toArray, List.set_cons_succ, List.set_cons_zero] at hq
        repeat (go_big_quiet_step (fail))
        refine wpQuiet_nil ?_
        exact hq
      · intro hb Q' hq
        subst hb
        simp only [Act.put, List.setIfInBounds_toArray, List.set_cons_succ, List.set_cons_zero] at hq
        repeat (go_big_quiet_step (fail))
        refine wpQuiet_nil ?_
        exact hq _ _
      simp only [Act.put, List.setIfInBounds_toArray, List.set_cons_succ, List.set_cons_zero]
      generalize hb10 : (b9 || decide (30 < dn)) = b10
      have Hb10 := hid hb10
      clear hb10
      repeat (go_big_quiet_step (fail))
      refine or_3 (b := b10) (decide (sc < 0)) ?_ rfl ?_ ?_ ?_ ?_ (fun x1' x2' x3' => ?_)
      · intro _ _ _; simp only [Act.put, List.setIfInBounds_toArray, List.set_cons_succ, List.set_cons_zero]; rfl
      · intro _ _ _; simp only [Act.put, List.setIfInBounds_toArray, List.set_cons_succ, List.set_cons_zero]; rfl
      · intro _ _ _; simp only [Act.put, List.setIfInBounds_toArray, List.set_cons_succ, List.set_cons_zero]; rfl
      · intro hb Q' hq
        subst hb
        simp only [Act.put, List.setIfInBounds_toArray, List.set_cons_succ, List.set_cons_zero] at hq
        repeat (go_big_quiet_step (fail))
        refine wpQuiet_nil ?_
        exact hq
      · intro hb Q' hq
        subst hb
        simp only [Act.put, List.setIfInBounds_toArray, List.set_cons_succ, List.set_cons_zero] at hq
        repeat (go_big_quiet_step (fail))
        refine wpQuiet_nil ?_
        exact hq _ _
      simp only [Act.put, List.setIfInBounds_toArray, List.set_cons_succ, List.set_cons_zero]
      generalize hb11 : (b10 || decide (sc < 0)) = b11
      have Hb11 := hid hb11
      clear hb11
      repeat (go_big_quiet_step (fail))
      refine or_3 (b := b11) (decide (2 < sc)) ?_ rfl ?_ ?_ ?_ ?_ (fun x1' x2' x3' => ?_)
      · intro _ _ _; simp only [Act.put, List.setIfInBounds_toArray, List.set_cons_succ, List.set_cons_zero]; rfl
      · intro _ _ _; simp only [Act.put, List.setIfInBounds_toArray, List.set_cons_succ, List.set_cons_zero]; rfl
      · intro _ _ _; simp only [Act.put, List.setIfInBounds_toArray, List.set_cons_succ, List.set_cons_zero]; rfl
      · intro hb Q' hq
        subst hb
        simp only [Act.put, List.setIfInBounds_toArray, List.set_cons_succ, List.set_cons_zero] at hq
        repeat (go_big_quiet_step (fail))
        refine wpQuiet_nil ?_
        exact hq
      · intro hb Q' hq
        subst hb
        simp only [Act.put, List.setIfInBounds_toArray, List.set_cons_succ, List.set_cons_zero] at hq
        repeat (go_big_quiet_step (fail))
        refine wpQuiet_nil ?_
        exact hq _ _
      simp only [Act.put, List.setIfInBounds_toArray, List.set_cons_succ, List.set_cons_zero]
      generalize hb12 : (b11 || decide (2 < sc)) = b12
      have Hb12 := hid hb12
      clear hb12
      repeat (go_big_quiet_step (fail))
      refine or_5 (b := b12) ((!ib)) ?_ rfl ?_ ?_ ?_ ?_ (fun x1' x2' x3' x4' x5' => ?_)
      · intro _ _ _ _ _; simp only [Act.put, List.setIfInBounds_toArray, List.set_cons_succ, List.set_cons_zero]; rfl
      · intro _ _ _ _ _; simp only [Act.put, List.setIfInBounds_toArray, List.set_cons_succ, List.set_cons_zero]; rfl
      · intro _ _ _ _ _; simp only [Act.put, List.setIfInBounds_toArray, List.set_cons_succ, List.set_cons_zero]; rfl
      · intro hb Q' hq
        subst hb
        simp only [Act.put, List.setIfInBounds_toArray, List.set_cons_succ, List.set_cons_zero] at hq
        repeat (go_big_quiet_step (fail))
        refine wpQuiet_nil ?_
        exact hq
      · intro hb Q' hq
        subst hb
        simp only [Act.put, List.setIfInBounds_toArray, List.set_cons_succ, List.set_cons_zero] at hq
        repeat (go_big_quiet_step (first | (go_at_call 45; exact Calls.after_of (hBox _)) | (go_at_call 44; exact Calls.after_of (hIns _))))
        refine wpQuiet_nil ?_
        exact hq _ _ _ _
      simp only [Act.put, List.setIfInBounds_toArray, List.set_cons_succ, List.set_cons_zero]
      generalize hb13 : (b12 || (!ib)) = b13
      have Hb13 := hid hb13
      clear hb13
      repeat (go_big_quiet_step (fail))
      refine or_7 (b := b13) ((decide (0 < hp) != (dn == 0))) ?_ rfl ?_ ?_ ?_ ?_ (fun x1' x2' x3' x4' x5' x6' x7' => ?_)
      · intro _ _ _ _ _ _ _; simp only [Act.put, List.setIfInBounds_toArray, List.set_cons_succ, List.set_cons_zero]; rfl
      · intro _ _ _ _ _ _ _; simp only [Act.put, List.setIfInBounds_toArray, List.set_cons_succ, List.set_cons_zero]; rfl
      · intro _ _ _ _ _ _ _; simp only [Act.put, List.setIfInBounds_toArray, List.set_cons_succ, List.set_cons_zero]; rfl
      · intro hb Q' hq
        subst hb
        simp only [Act.put, List.setIfInBounds_toArray, List.set_cons_succ, List.set_cons_zero] at hq
        repeat (go_big_quiet_step (fail))
        refine wpQuiet_nil ?_
        exact hq
      · intro hb Q' hq
        subst hb
        simp only [Act.put, List.setIfInBounds_toArray, List.set_cons_succ, List.set_cons_zero] at hq
        repeat (go_big_quiet_step (fail))
        refine wpQuiet_nil ?_
        exact hq _ _ _ _ _ _
      simp only [Act.put, List.setIfInBounds_toArray, List.set_cons_succ, List.set_cons_zero]
      generalize hb14 : (b13 || (decide (0 < hp) != (dn == 0))) = b14
      have Hb14 := hid hb14
      clear hb14
      repeat (go_big_quiet_step (fail))
      refine wpQuiet_nil ?_
      intro _ hw2
      obtain ⟨x2, hw3⟩ := hw2
      subst hw3
      have HS2 := hid (HS.out.keep (Keeps.of_below (S := fun _ => False) x2.below (fun k h1 h2 => by omega)))
      have hfin : plyAt v (4 + i * 10) = !b14 := by rw [Hpb.out, ← Hb14.out, ← Hb13.out, ← Hb12.out, ← Hb11.out, ← Hb10.out, ← Hb9.out, ← Hb8.out, ← Hb7.out, ← Hb6.out, ← Hb5.out, ← Hb4.out, ← Hb3.out, ← Hb2.out, ← Hb1.out]
      have HF := hid hfin
      clear hfin
      cases b14
      · have Hyes := hid (show plysOk v (i + 1) = true by show (plysOk v i && plyAt v (4 + i * 10)) = true; rw [Hp0.out, HF.out]; rfl)
        go_wp2_with fail
        go_roundw
        case rel => exact ⟨i + 1, by omega, by go_num, Hyes.out, HS2⟩
        case measure => simp [intOf]; omega
      · have hbad := Hbad.out (by rw [HF.out]; rfl) (by omega)
        have HE := hid (HR.out hbad)
        clear hbad
        go_wp2_with fail
        go_ret
        exact ⟨by rw [HE.out]; rfl, by first | exact HS2.out.bel | (rw [← hB]; exact HS2.out.bel)⟩
    · have hp2 : plysOk v 2 = true := by rw [show 2 = i by omega]; exact hp0
      have Hp0 := hid hp2
      clear hp0 hp2
      go_wp2_with fail
      go_loopw [5] (fun j wr => ∃ k : Nat, k ≤ 6 ∧ j = .int .i64 k ∧ shosOk v k = true ∧ Hid (RrSt w wr v B)) (fun j _ => 6 - (intOf j).toNat)
      case atStart => exact ⟨0, by omega, rfl, rfl, HSr⟩
      case round =>
        obtain ⟨j, hj, rfl, hs0, HSj⟩ := hrel
        clear HSr
        obtain ⟨wq, rfl⟩ : ∃ wq : World, wq = wr := ⟨_, rfl⟩
        by_cases hlt2 : j < 6
        · have hload := run_load_sho1 v j (by omega) B wq _ HSj.out.blk
          have hZ := blk_new wq (.cells #[.int .i32 0, .int .i32 0, .int .i32 0, .int .i32 0, .int .i64 0, .int .i64 0] 30)
          obtain ⟨hst, _, hk2⟩ := store_all (wq.alloc (.cells #[.int .i32 0, .int .i32 0, .int .i32 0, .int .i32 0, .int .i64 0, .int .i64 0] 30)) 30 6 wq.heap.size (shoC6 v j) _ Try.sizeOf30 rfl rfl hZ (shoC_one _ _)
          have hC2 := setRow_at (wq.alloc (.cells #[.int .i32 0, .int .i32 0, .int .i32 0, .int .i32 0, .int .i64 0, .int .i64 0] 30)) wq.heap.size _ (shoC6 v j) 30 hZ
          have HS := hid (HSj.out.keep (keeps_past ((Keeps.refl (fun _ => False) wq).alloc (.cells #[.int .i32 0, .int .i32 0, .int .i32 0, .int .i32 0, .int .i64 0, .int .i64 0] 30)) hk2 (fun k hk e => by omega)))
          have hrest : shosOk v (j + 1) = (shosOk v j && shoAt v j) := rfl
          generalize (wq.alloc (.cells #[.int .i32 0, .int .i32 0, .int .i32 0, .int .i32 0, .int .i64 0, .int .i64 0] 30)).setRow wq.heap.size (shoC6 v j) = w2 at *
          have hBox := fun W => rf_Box 64 (by omega) W
          have hIns := fun W => rf_Inside (-64 * 65536) (-64 * 65536) (64 * 65536) (64 * 65536) (v (24 + 6 * j)) (v (25 + 6 * j)) W
          clear hZ hk2 HSj
          unfold shoC6 at hload hst hC2
          have hsh : shoAt v j = shoOk (v (24 + 6 * j)) (v (25 + 6 * j)) (v (26 + 6 * j)) (v (27 + 6 * j)) (v (28 + 6 * j)) (v (29 + 6 * j)) := rfl
          generalize v (24 + 6 * j) = x at *
          generalize v (25 + 6 * j) = y at *
          generalize v (26 + 6 * j) = u at *
          generalize v (27 + 6 * j) = q at *
          generalize v (28 + 6 * j) = ow at *
          generalize v (29 + 6 * j) = li at *
          clear hrest
          have hcmp := fun W => sho_neq x y u q ow li W
          have z0 := after_cell (show w2.cell? ⟨wq.heap.size, 0, none⟩ = some (.int .i32 x) from blk_cell hC2 rfl)
          have z1 := after_cell (show w2.cell? ⟨wq.heap.size, 1, none⟩ = some (.int .i32 y) from blk_cell hC2 rfl)
          have z2 := after_cell (show w2.cell? ⟨wq.heap.size, 2, none⟩ = some (.int .i32 u) from blk_cell hC2 rfl)
          have z3 := after_cell (show w2.cell? ⟨wq.heap.size, 3, none⟩ = some (.int .i32 q) from blk_cell hC2 rfl)
          have z4 := after_cell (show w2.cell? ⟨wq.heap.size, 4, none⟩ = some (.int .i64 ow) from blk_cell hC2 rfl)
          have z5 := after_cell (show w2.cell? ⟨wq.heap.size, 5, none⟩ = some (.int .i64 li) from blk_cell hC2 rfl)
          have Hs0 := hid hs0
          clear hs0
          have hbad := sho_bad (v := v) (j := j)
          have Hbad := hid hbad
          have Hsh := hid hsh
          clear hbad hsh
          by_cases hz : x = 0 ∧ y = 0 ∧ u = 0 ∧ q = 0 ∧ ow = 0 ∧ li = 0
          · rw [decide_eq_false (not_not_intro hz)] at hcmp
            have hok : shoOk x y u q ow li = true := by simp only [shoOk, isNo, decide_eq_true hz, Bool.true_or]
            have Hyes := hid (show shosOk v (j + 1) = true by show (shosOk v j && shoAt v j) = true; rw [Hs0.out, Hsh.out, hok]; rfl)
            clear hz hok
            go_wp2_with (first | (refine wpList_run_load hload rfl rfl rfl ?_) | (refine wpList_run_store hst rfl rfl rfl rfl ?_))
            try simp only [Act.put]
            refine wp_region_after (by kernel_rfl) (by kernel_rfl) ?_
            try simp only [List.append_eq, List.cons_append, List.nil_append]
            repeat (go_big_quiet_step (fail))
            refine wpQuiet_nil ?_
            intro _ hw2
            obtain ⟨x2, hw3⟩ := hw2
            subst hw3
            have HS2 := hid (HS.out.keep (Keeps.of_below (S := fun _ => False) x2.below (fun k h1 h2 => by omega)))
            go_wp2_with fail
            go_roundw
            case rel => exact ⟨j + 1, by omega, by go_num, Hyes.out, HS2⟩
            case measure => simp [intOf]; omega
          · rw [decide_eq_true hz] at hcmp
            have hpb := sho_bads x y u q ow li (decide_eq_false hz)
            rw [← Hsh.out] at hpb
            rw [show inB (-64 * 65536) (-64 * 65536) (64 * 65536) (64 * 65536) x y = inB (-4194304) (-4194304) 4194304 4194304 x y from rfl] at hIns
            generalize inB (-4194304) (-4194304) 4194304 4194304 x y = ib at *
            have Hpb := hid hpb
            clear hpb hz
            go_wp2_with (first | (refine wpList_run_load hload rfl rfl rfl ?_) | (refine wpList_run_store hst rfl rfl rfl rfl ?_))
            try simp only [Act.put]
            refine wp_region_after (by kernel_rfl) (by kernel_rfl) ?_
            try simp only [List.append_eq, List.cons_append, List.nil_append]
            repeat (go_big_quiet_step (fail))
            generalize hb1 : decide (ow < 1) = b1
            have Hb1 := hid hb1
            clear hb1
            refine or_3 (b := b1) (decide (2 < ow)) ?_ rfl ?_ ?_ ?_ ?_ (fun x1' x2' x3' => ?_)
            · intro _ _ _; simp only [Act.put, List.setIfInBounds_toArray, List.set_cons_succ, List.set_cons_zero]; rfl
            · intro _ _ _; simp only [Act.put, List.setIfInBounds_toArray, List.set_cons_succ, List.set_cons_zero]; rfl
            · intro _ _ _; simp only [Act.put, List.setIfInBounds_toArray, List.set_cons_succ, List.set_cons_zero]; rfl
            · intro hb Q' hq
              subst hb
              simp only [Act.put, List.setIfInBounds_toArray, List.set_cons_succ, List.set_cons_zero] at hq
              repeat (go_big_quiet_step (fail))
              refine wpQuiet_nil ?_
              exact hq
            · intro hb Q' hq
              subst hb
              simp only [Act.put, List.setIfInBounds_toArray, List.set_cons_succ, List.set_cons_zero] at hq
              repeat (go_big_quiet_step (fail))
              refine wpQuiet_nil ?_
              exact hq _ _
            simp only [Act.put, List.setIfInBounds_toArray, List.set_cons_succ, List.set_cons_zero]
            generalize hb2 : (b1 || decide (2 < ow)) = b2
            have Hb2 := hid hb2
            clear hb2
            repeat (go_big_quiet_step (fail))
            refine or_3 (b := b2) (decide (li < 1)) ?_ rfl ?_ ?_ ?_ ?_ (fun x1' x2' x3' => ?_)
            · intro _ _ _; simp only [Act.put, List.setIfInBounds_toArray, List.set_cons_succ, List.set_cons_zero]; rfl
            · intro _ _ _; simp only [Act.put, List.setIfInBounds_toArray, List.set_cons_succ, List.set_cons_zero]; rfl
            · intro _ _ _; simp only [Act.put, List.setIfInBounds_toArray, List.set_cons_succ, List.set_cons_zero]; rfl
            · intro hb Q' hq
              subst hb
              simp only [Act.put, List.setIfInBounds_toArray, List.set_cons_succ, List.set_cons_zero] at hq
              repeat (go_big_quiet_step (fail))
              refine wpQuiet_nil ?_
              exact hq
            · intro hb Q' hq
              subst hb
              simp only [Act.put, List.setIfInBounds_toArray, List.set_cons_succ, List.set_cons_zero] at hq
              repeat (go_big_quiet_step (fail))
              refine wpQuiet_nil ?_
              exact hq _ _
            simp only [Act.put, List.setIfInBounds_toArray, List.set_cons_succ, List.set_cons_zero]
            generalize hb3 : (b2 || decide (li < 1)) = b3
            have Hb3 := hid hb3
            clear hb3
            repeat (go_big_quiet_step (fail))
            refine or_3 (b := b3) (decide (40 < li)) ?_ rfl ?_ ?_ ?_ ?_ (fun x1' x2' x3' => ?_)
            · intro _ _ _; simp only [Act.put, List.setIfInBounds_toArray, List.set_cons_succ, List.set_cons_zero]; rfl
            · intro _ _ _; simp only [Act.put, List.setIfInBounds_toArray, List.set_cons_succ, List.set_cons_zero]; rfl
            · intro _ _ _; simp only [Act.put, List.setIfInBounds_toArray, List.set_cons_succ, List.set_cons_zero]; rfl
            · intro hb Q' hq
              subst hb
              simp only [Act.put, List.setIfInBounds_toArray, List.set_cons_succ, List.set_cons_zero] at hq
              repeat (go_big_quiet_step (fail))
              refine wpQuiet_nil ?_
              exact hq
            · intro hb Q' hq
              subst hb
              simp only [Act.put, List.setIfInBounds_toArray, List.set_cons_succ, List.set_cons_zero] at hq
              repeat (go_big_quiet_step (fail))
              refine wpQuiet_nil ?_
              exact hq _ _
            simp only [Act.put, List.setIfInBounds_toArray, List.set_cons_succ, List.set_cons_zero]
            generalize hb4 : (b3 || decide (40 < li)) = b4
            have Hb4 := hid hb4
            clear hb4
            repeat (go_big_quiet_step (fail))
            refine or_5 (b := b4) ((!ib)) ?_ rfl ?_ ?_ ?_ ?_ (fun x1' x2' x3' x4' x5' => ?_)
            · intro _ _ _ _ _; simp only [Act.put, List.setIfInBounds_toArray, List.set_cons_succ, List.set_cons_zero]; rfl
            · intro _ _ _ _ _; simp only [Act.put, List.setIfInBounds_toArray, List.set_cons_succ, List.set_cons_zero]; rfl
            · intro _ _ _ _ _; simp only [Act.put, List.setIfInBounds_toArray, List.set_cons_succ, List.set_cons_zero]; rfl
            · intro hb Q' hq
              subst hb
              simp only [Act.put, List.setIfInBounds_toArray, List.set_cons_succ, List.set_cons_zero] at hq
              repeat (go_big_quiet_step (fail))
              refine wpQuiet_nil ?_
              exact hq
            · intro hb Q' hq
              subst hb
              simp only [Act.put, List.setIfInBounds_toArray, List.set_cons_succ, List.set_cons_zero] at hq
              repeat (go_big_quiet_step (first | (go_at_call 45; exact Calls.after_of (hBox _)) | (go_at_call 44; exact Calls.after_of (hIns _))))
              refine wpQuiet_nil ?_
              exact hq _ _ _ _
            simp only [Act.put, List.setIfInBounds_toArray, List.set_cons_succ, List.set_cons_zero]
            generalize hb5 : (b4 || (!ib)) = b5
            have Hb5 := hid hb5
            clear hb5
            repeat (go_big_quiet_step (fail))
            refine wpQuiet_nil ?_
            intro _ hw2
            obtain ⟨x2, hw3⟩ := hw2
            subst hw3
            have HS2 := hid (HS.out.keep (Keeps.of_below (S := fun _ => False) x2.below (fun k h1 h2 => by omega)))
            have hfin : shoAt v j = !b5 := by rw [Hpb.out, ← Hb5.out, ← Hb4.out, ← Hb3.out, ← Hb2.out, ← Hb1.out]
            have HF := hid hfin
            clear hfin
            cases b5
            · have Hyes := hid (show shosOk v (j + 1) = true by show (shosOk v j && shoAt v j) = true; rw [Hs0.out, HF.out]; rfl)
              go_wp2_with fail
              go_roundw
              case rel => exact ⟨j + 1, by omega, by go_num, Hyes.out, HS2⟩
              case measure => simp [intOf]; omega
            · have hbad := Hbad.out (by rw [HF.out]; rfl) (by omega)
              have HE := hid (HR.out hbad)
              clear hbad
              go_wp2_with fail
              go_ret
              exact ⟨by rw [HE.out]; rfl, by first | exact HS2.out.bel | (rw [← hB]; exact HS2.out.bel)⟩
        · obtain rfl : j = 6 := by omega
          have Hs0 := hid hs0
          clear hs0
          have y0 : wq.cell? ⟨B, 0, none⟩ = some (.int .i64 (v 0)) := blk_cell HSj.out.blk (mkC_get v (o := 0) (by omega))
          have y2 : wq.cell? ⟨B, 2, none⟩ = some (.int .i64 (v 2)) := blk_cell HSj.out.blk (mkC_get v (o := 2) (by omega))
          have y3 : wq.cell? ⟨B, 3, none⟩ = some (.int .i64 (v 3)) := blk_cell HSj.out.blk (mkC_get v (o := 3) (by omega))
          have hE : R = (inR (v 0) 0 1073741824 && (inR (v 2) 0 1073741824 && inR (v 3) 1 600)) := by rw [← HT.out, right_eq, Hp0.out, Hs0.out]; rfl
          have HE := hid hE
          clear hE
          generalize v 0 = a at *
          generalize v 2 = b at *
          generalize v 3 = c at *
          have hbel : Below B w wq := hB ▸ HSj.out.bel
          by_cases h1 : a < 0
          · go_wp2_with fail
            go_ret
            exact ⟨by rw [HE.out, inR_lo h1]; rfl, hbel⟩
          by_cases h2 : 1073741824 < a
          · go_wp2_with fail
            go_ret
            exact ⟨by rw [HE.out, inR_hi h2]; rfl, hbel⟩
          have Q1 := hid (inR_ok h1 h2)
          by_cases h3 : b < 0
          · go_wp2_with fail
            go_ret
            exact ⟨by rw [HE.out, Q1.out, inR_lo h3]; rfl, hbel⟩
          by_cases h4 : 1073741824 < b
          · go_wp2_with fail
            go_ret
            exact ⟨by rw [HE.out, Q1.out, inR_hi h4]; rfl, hbel⟩
          have Q2 := hid (inR_ok h3 h4)
          by_cases h5 : c < 1
          · go_wp2_with fail
            go_ret
            exact ⟨by rw [HE.out, Q1.out, Q2.out, inR_lo h5]; rfl, hbel⟩
          by_cases h6 : 600 < c
          · go_wp2_with fail
            go_ret
            exact ⟨by rw [HE.out, Q1.out, Q2.out, inR_hi h6]; exact ret_bool (decide_eq_false (by omega)), hbel⟩
          have Q3 := hid (inR_ok h5 h6)
          go_wp2_with fail
          go_ret
          exact ⟨by rw [HE.out, Q1.out, Q2.out, Q3.out]; first | rfl | exact ret_bool (decide_eq_true (by omega)), hbel⟩

end Go.Proofs.Ytfepefohaadecaa
