/- game: the box in which players are (3): a box with its walls further in. -/
import Derived.Test.YtfepefohaadecaaYard2
import Derived.Test.YtfepefohaadecaaTree
namespace Go.Proofs.Ytfepefohaadecaa
open Go.RowKit
set_option maxRecDepth 10000
variable {w : World}
theorem blk_store4' {w : World} {b : Nat} {t : TypeId} {c0 c1 c2 c3 : Value} (h : w.heap[b]? = some (.cells #[c0, c1, c2, c3] t (0, 0))) (v0 v1 v2 v3 : Value) :
    ((((w.setCell ⟨b, 0, none⟩ v0).setCell ⟨b, 1, none⟩ v1).setCell ⟨b, 2, none⟩ v2).setCell ⟨b, 3, none⟩ v3).heap[b]? = some (.cells #[v0, v1, v2, v3] t (0, 0)) := by
  have := blk_set (blk_set (blk_set (blk_set h 0 v0) 1 v1) 2 v2) 3 v3
  simpa using this
theorem keeps_store4 {S : Nat → Prop} {w0 w : World} {b : Nat} (h : Keeps S w0 w) (hb : S b) (v0 v1 v2 v3 : Value) :
    Keeps S w0 ((((w.setCell ⟨b, 0, none⟩ v0).setCell ⟨b, 1, none⟩ v1).setCell ⟨b, 2, none⟩ v2).setCell ⟨b, 3, none⟩ v3) :=
  (((h.setCell (p := ⟨b, 0, none⟩) hb v0).setCell (p := ⟨b, 1, none⟩) hb v1).setCell (p := ⟨b, 2, none⟩) hb v2).setCell (p := ⟨b, 3, none⟩) hb v3
theorem sh_Shrink (w : World) : Calls Try.prog 111 #[.agg #[.int .i32 (-4194304), .int .i32 (-4194304), .int .i32 4194304, .int .i32 4194304], .int .i32 262144] w fun e w' => e = .returned (.tuple #[.agg #[.int .i32 (-3932160), .int .i32 (-3932160), .int .i32 3932160, .int .i32 3932160], .bool true]) ∧ Below w.heap.size w w' := by
  have hA := fun W => sh_Add (-4194304) 262144 (-3932160) (fun w => fx_Add _ _ _ (by decide) (by decide) (by decide) (by decide) w) W
  have hS := fun W => sh_Sub 4194304 262144 3932160 (fun w => fx_Sub _ _ _ (by decide) (by decide) (by decide) (by decide) w) W
  have hR := fun W => sh_Right (-3932160) (-3932160) 3932160 3932160 (by decide) (by decide) W
  have b0 := blk_new w (.cells #[.int .i32 (-4194304), .int .i32 (-4194304), .int .i32 4194304, .int .i32 4194304] 98)
  have b1 := blk_alloc (blk_alloc b0 (.cells #[.int .i32 0, .int .i32 0, .int .i32 0, .int .i32 0] 98)) (.cells #[.int .i32 262144, .int .i32 262144] 25)
  have b2 := blk_alloc (blk_new (w.alloc (.cells #[.int .i32 (-4194304), .int .i32 (-4194304), .int .i32 4194304, .int .i32 4194304] 98)) (.cells #[.int .i32 0, .int .i32 0, .int .i32 0, .int .i32 0] 98)) (.cells #[.int .i32 262144, .int .i32 262144] 25)
  have b3 := blk_new ((w.alloc (.cells #[.int .i32 (-4194304), .int .i32 (-4194304), .int .i32 4194304, .int .i32 4194304] 98)).alloc (.cells #[.int .i32 0, .int .i32 0, .int .i32 0, .int .i32 0] 98)) (.cells #[.int .i32 262144, .int .i32 262144] 25)
  have hk0 := ((((Keeps.refl (fun _ => False) w).alloc (.cells #[.int .i32 (-4194304), .int .i32 (-4194304), .int .i32 4194304, .int .i32 4194304] 98)).alloc (.cells #[.int .i32 0, .int .i32 0, .int .i32 0, .int .i32 0] 98))).alloc (.cells #[.int .i32 262144, .int .i32 262144] 25)
  simp only [World.size_alloc] at b2 b3
  clear b0
  go_enter Try.func111, Try.ntmps111
  go_wp2_with fail
  generalize ((w.alloc (.cells #[.int .i32 (-4194304), .int .i32 (-4194304), .int .i32 4194304, .int .i32 4194304] 98)).alloc (.cells #[.int .i32 0, .int .i32 0, .int .i32 0, .int .i32 0] 98)).alloc (.cells #[.int .i32 262144, .int .i32 262144] 25) = w0 at *
  have y0 := keptS_cell (S := fun _ => False) (w := w0.drew) (blk_cell b1 (k := 0) rfl) id
  have y1 := keptS_cell (S := fun _ => False) (w := w0.drew) (blk_cell b1 (k := 1) rfl) id
  have y2 := keptS_cell (S := fun _ => False) (w := w0.drew) (blk_cell b1 (k := 2) rfl) id
  have y3 := keptS_cell (S := fun _ => False) (w := w0.drew) (blk_cell b1 (k := 3) rfl) id
  have y4 := keptS_cell (S := fun _ => False) (w := w0.drew) (blk_cell b3 (k := 0) rfl) id
  have y5 := keptS_cell (S := fun _ => False) (w := w0.drew) (blk_cell b3 (k := 1) rfl) id
  refine stages_start (by kernel_rfl) 11 rfl ?_
  refine staget (fun _ => False) [0, 1, 2, 4, 5, 6] [3, 7, 8, 9] 1 rfl #[true, true, true, true, true, true, true, true, true, true, false] #[true, true, true, false, true, true, true, false, false, false, false] (by kernel_rfl) (by kernel_rfl) (fun _ _ _ d _ h => by cases d <;> exact h) ?_
  simp only [opsAt, List.map_cons, List.map_nil, List.getElem?_toArray, List.getElem?_cons_zero, List.getElem?_cons_succ, Option.getD_some]
  repeat (go_big_quiet_step (fail))
  refine wpQuiet_nil ?_
  clear y0 y1 y2 y3 y4 y5
  have hkc : Keeps (fun _ => False) w0 w0.drew := (Keeps.refl _ w0).drew
  refine tree_two 3 9 #[true, true, true, true, true, true, true, false, false, false, false] #[true, true, true, false, true, true, true, false, false, true, false] (by kernel_rfl) (by kernel_rfl) (by kernel_rfl) (by kernel_rfl) (by kernel_rfl) (by kernel_rfl) (by kernel_rfl) (by simp only [opAt, List.getElem?_toArray, List.getElem?_cons_zero, List.getElem?_cons_succ, Option.getD_some]; first | rfl | simp [go_sem]) (by simp only [opAt, List.getElem?_toArray, List.getElem?_cons_zero, List.getElem?_cons_succ, Option.getD_some]; first | rfl | simp [go_sem]) (fun K hK => ?_) (fun K hK => ?_)
  all_goals simp only [opAt, List.getElem?_toArray, List.getElem?_cons_zero, List.getElem?_cons_succ, Option.getD_some]
  · go_simp
    refine (hA _).mono ?_
    rintro e w1 ⟨rfl, hbn⟩
    have hkn := (hkc : Keeps (fun _ => False) w0 w0.drew).then_below hbn
    refine hK _ _ (keeps_drew hkn) ?_
    clear hK K hkc hbn
    have hkc := hkn
    clear hkn
    try simp only [Act.put, List.setIfInBounds_toArray, List.set_cons_succ, List.set_cons_zero]
    refine tree_two 7 9 #[true, true, true, true, true, true, true, true, false, false, false] #[true, true, true, true, true, true, true, false, false, true, false] (by kernel_rfl) (by kernel_rfl) (by kernel_rfl) (by kernel_rfl) (by kernel_rfl) (by kernel_rfl) (by kernel_rfl) (by simp only [opAt, List.getElem?_toArray, List.getElem?_cons_zero, List.getElem?_cons_succ, Option.getD_some]; first | rfl | simp [go_sem]) (by simp only [opAt, List.getElem?_toArray, List.getElem?_cons_zero, List.getElem?_cons_succ, Option.getD_some]; first | rfl | simp [go_sem]) (fun K hK => ?_) (fun K hK => ?_)
    all_goals simp only [opAt, List.getElem?_toArray, List.getElem?_cons_zero, List.getElem?_cons_succ, Option.getD_some]
    · go_simp
      refine (hS _).mono ?_
      rintro e w2 ⟨rfl, hbn⟩
      have hkn := (hkc : Keeps (fun _ => False) w0 w1).then_below hbn
      refine hK _ _ (keeps_drew hkn) ?_
      clear hK K hkc hbn
      have hkc := hkn
      clear hkn
      try simp only [Act.put, List.setIfInBounds_toArray, List.set_cons_succ, List.set_cons_zero]
      refine tree_two 8 9 #[true, true, true, true, true, true, true, true, true, false, false] #[true, true, true, true, true, true, true, true, false, true, false] (by kernel_rfl) (by kernel_rfl) (by kernel_rfl) (by kernel_rfl) (by kernel_rfl) (by kernel_rfl) (by kernel_rfl) (by simp only [opAt, List.getElem?_toArray, List.getElem?_cons_zero, List.getElem?_cons_succ, Option.getD_some]; first | rfl | simp [go_sem]) (by simp only [opAt, List.getElem?_toArray, List.getElem?_cons_zero, List.getElem?_cons_succ, Option.getD_some]; first | rfl | simp [go_sem]) (fun K hK => ?_) (fun K hK => ?_)
      all_goals simp only [opAt, List.getElem?_toArray, List.getElem?_cons_zero, List.getElem?_cons_succ, Option.getD_some]
      · go_simp
        refine hK _ _ (keeps_drew hkc) ?_
        clear hK K
        try simp only [Act.put, List.setIfInBounds_toArray, List.set_cons_succ, List.set_cons_zero]
        refine tree_one 9 #[true, true, true, true, true, true, true, true, true, true, false] (by kernel_rfl) (by kernel_rfl) (by kernel_rfl) (by kernel_rfl) (by simp only [opAt, List.getElem?_toArray, List.getElem?_cons_zero, List.getElem?_cons_succ, Option.getD_some]; first | rfl | simp [go_sem]) (fun K hK => ?_)
        simp only [opAt, List.getElem?_toArray, List.getElem?_cons_zero, List.getElem?_cons_succ, Option.getD_some]
        go_simp
        have hZ := blk_new w2 (.cells #[.int .i32 0, .int .i32 0, .int .i32 0, .int .i32 0] 98)
        have hle := hkc.size
        have hkn := hkc.alloc (.cells #[.int .i32 0, .int .i32 0, .int .i32 0, .int .i32 0] 98)
        refine hK _ _ (keeps_drew hkn) ?_
        clear hK K hkc
        have hkc := hkn
        clear hkn
        try simp only [show ∀ W : World, W.drew.heap = W.heap from fun _ => rfl] at hZ hle hkc ⊢
        generalize (w2).alloc (.cells #[.int .i32 0, .int .i32 0, .int .i32 0, .int .i32 0] 98) = wn at *
        generalize (w2).heap.size = D at *
        try simp only [Act.put, List.setIfInBounds_toArray, List.set_cons_succ, List.set_cons_zero]
        refine tree_nil (by kernel_rfl) ?_
        try simp only [Act.put, List.setIfInBounds_toArray, List.set_cons_succ, List.set_cons_zero]
        have f0 := blk_free hZ 0
        have f1 := blk_free hZ 1
        have f2 := blk_free hZ 2
        have f3 := blk_free hZ 3
        have g0 := blk_cell hZ (k := 0) rfl
        have g1 := blk_cell hZ (k := 1) rfl
        have g2 := blk_cell hZ (k := 2) rfl
        have g3 := blk_cell hZ (k := 3) rfl
        refine stagek (fun _ => True) [] [10] 0 rfl #[true, true, true, true, true, true, true, true, true, true, true] (by kernel_rfl) (by kernel_rfl) (fun _ _ _ d _ h => by cases d <;> exact h) ?_
        simp only [opsAt, List.map_cons, List.map_nil, List.getElem?_toArray, List.getElem?_cons_zero, List.getElem?_cons_succ, Option.getD_some]
        repeat (go_big_quiet_step (fail))
        refine wpQuiet_nil ?_
        refine links_cons (by first | rfl | simp [go_sem]) (fun K hK => ?_)
        go_simp
        refine hK _ _ (keptS (keeps_store4 (Keeps.refl (fun _ => True) wn) trivial _ _ _ _)) ?_
        clear hK K
        refine links_nil ?_
        refine stages_end (by kernel_rfl) ?_
        have hB1 := hkc.heap b2 id
        have hl1 : w.heap.size + 1 < w0.heap.size := blk_lt b2
        have hne : w.heap.size + 1 ≠ D := by omega
        have hZ2 := blk_store4' hZ (.int .i32 (-3932160)) (.int .i32 (-3932160)) (.int .i32 3932160) (.int .i32 3932160)
        have hR2 := (((blk_other (blk_other (blk_other (blk_other hB1 hne _) hne _) hne _) hne _) : (((((wn).setCell ⟨D, 0, none⟩ (.int .i32 (-3932160))).setCell ⟨D, 1, none⟩ (.int .i32 (-3932160))).setCell ⟨D, 2, none⟩ (.int .i32 3932160)).setCell ⟨D, 3, none⟩ (.int .i32 3932160)).heap[w.heap.size + 1]? = some (.cells #[.int .i32 0, .int .i32 0, .int .i32 0, .int .i32 0] 98 (0, 0))))
        have hkk := keeps_store4 ((hk0.trans hkc).mono (T := fun k => k = D) (fun _ _ x => x.elim)) (b := D) rfl (.int .i32 (-3932160)) (.int .i32 (-3932160)) (.int .i32 3932160) (.int .i32 3932160)
        clear g0 g1 g2 g3 f0 f1 f2 f3 hZ hB1 hkc
        generalize ((((wn).setCell ⟨D, 0, none⟩ (.int .i32 (-3932160))).setCell ⟨D, 1, none⟩ (.int .i32 (-3932160))).setCell ⟨D, 2, none⟩ (.int .i32 3932160)).setCell ⟨D, 3, none⟩ (.int .i32 3932160) = w5 at *
        have g0 := blk_cell hZ2 (k := 0) rfl
        have g1 := blk_cell hZ2 (k := 1) rfl
        have g2 := blk_cell hZ2 (k := 2) rfl
        have g3 := blk_cell hZ2 (k := 3) rfl
        go_wp2_with fail
        refine (hR _).mono ?_
        rintro e w6 ⟨rfl, hb6⟩
        clear g0 g1 g2 g3
        have hk6 : Keeps (fun _ => False) w5 w6 := (Keeps.refl _ w5).then_below hb6
        have hZ6 := hk6.heap hZ2 id
        have hR6 := hk6.heap hR2 id
        have g0 := blk_cell hZ6 (k := 0) rfl
        have g1 := blk_cell hZ6 (k := 1) rfl
        have g2 := blk_cell hZ6 (k := 2) rfl
        have g3 := blk_cell hZ6 (k := 3) rfl
        have f0 := blk_free hR6 0
        have f1 := blk_free hR6 1
        have f2 := blk_free hR6 2
        have f3 := blk_free hR6 3
        have r0 := blk_cell hR6 (k := 0) rfl
        have r1 := blk_cell hR6 (k := 1) rfl
        have r2 := blk_cell hR6 (k := 2) rfl
        have r3 := blk_cell hR6 (k := 3) rfl
        go_wp2_with fail
        have hR7 := blk_store4' hR6 (.int .i32 (-3932160)) (.int .i32 (-3932160)) (.int .i32 3932160) (.int .i32 3932160)
        have d0 := blk_cell hR7 (k := 0) rfl
        have d1 := blk_cell hR7 (k := 1) rfl
        have d2 := blk_cell hR7 (k := 2) rfl
        have d3 := blk_cell hR7 (k := 3) rfl
        refine bodyPost_ret (v := .tuple #[.agg #[.int .i32 (-3932160), .int .i32 (-3932160), .int .i32 3932160, .int .i32 3932160], .bool true]) (by simp [results, Try.results111, go_sem, d0, d1, d2, d3]) rfl ?_
        refine ⟨rfl, (keeps_store4 ((hkk.then_below hb6).mono (T := fun k => k = D ∨ k = w.heap.size + 1) fun _ _ => Or.inl) (Or.inr rfl) _ _ _ _).below (Nat.le_refl _) (fun k hk => ?_)⟩
        have := hk0.size
        omega
      · go_simp
        have hZ := blk_new w2 (.cells #[.int .i32 0, .int .i32 0, .int .i32 0, .int .i32 0] 98)
        have hle := hkc.size
        have hkn := hkc.alloc (.cells #[.int .i32 0, .int .i32 0, .int .i32 0, .int .i32 0] 98)
        refine hK _ _ (keeps_drew hkn) ?_
        clear hK K hkc
        have hkc := hkn
        clear hkn
        try simp only [show ∀ W : World, W.drew.heap = W.heap from fun _ => rfl] at hZ hle hkc ⊢
        generalize (w2).alloc (.cells #[.int .i32 0, .int .i32 0, .int .i32 0, .int .i32 0] 98) = wn at *
        generalize (w2).heap.size = D at *
        try simp only [Act.put, List.setIfInBounds_toArray, List.set_cons_succ, List.set_cons_zero]
        refine tree_one 8 #[true, true, true, true, true, true, true, true, true, true, false] (by kernel_rfl) (by kernel_rfl) (by kernel_rfl) (by kernel_rfl) (by simp only [opAt, List.getElem?_toArray, List.getElem?_cons_zero, List.getElem?_cons_succ, Option.getD_some]; first | rfl | simp [go_sem]) (fun K hK => ?_)
        simp only [opAt, List.getElem?_toArray, List.getElem?_cons_zero, List.getElem?_cons_succ, Option.getD_some]
        go_simp
        refine hK _ _ (keeps_drew hkc) ?_
        clear hK K
        try simp only [Act.put, List.setIfInBounds_toArray, List.set_cons_succ, List.set_cons_zero]
        refine tree_nil (by kernel_rfl) ?_
        try simp only [Act.put, List.setIfInBounds_toArray, List.set_cons_succ, List.set_cons_zero]
        have f0 := blk_free hZ 0
        have f1 := blk_free hZ 1
        have f2 := blk_free hZ 2
        have f3 := blk_free hZ 3
        have g0 := blk_cell hZ (k := 0) rfl
        have g1 := blk_cell hZ (k := 1) rfl
        have g2 := blk_cell hZ (k := 2) rfl
        have g3 := blk_cell hZ (k := 3) rfl
        refine stagek (fun _ => True) [] [10] 0 rfl #[true, true, true, true, true, true, true, true, true, true, true] (by kernel_rfl) (by kernel_rfl) (fun _ _ _ d _ h => by cases d <;> exact h) ?_
        simp only [opsAt, List.map_cons, List.map_nil, List.getElem?_toArray, List.getElem?_cons_zero, List.getElem?_cons_succ, Option.getD_some]
        repeat (go_big_quiet_step (fail))
        refine wpQuiet_nil ?_
        refine links_cons (by first | rfl | simp [go_sem]) (fun K hK => ?_)
        go_simp
        refine hK _ _ (keptS (keeps_store4 (Keeps.refl (fun _ => True) wn) trivial _ _ _ _)) ?_
        clear hK K
        refine links_nil ?_
        refine stages_end (by kernel_rfl) ?_
        have hB1 := hkc.heap b2 id
        have hl1 : w.heap.size + 1 < w0.heap.size := blk_lt b2
        have hne : w.heap.size + 1 ≠ D := by omega
        have hZ2 := blk_store4' hZ (.int .i32 (-3932160)) (.int .i32 (-3932160)) (.int .i32 3932160) (.int .i32 3932160)
        have hR2 := (((blk_other (blk_other (blk_other (blk_other hB1 hne _) hne _) hne _) hne _) : (((((wn).setCell ⟨D, 0, none⟩ (.int .i32 (-3932160))).setCell ⟨D, 1, none⟩ (.int .i32 (-3932160))).setCell ⟨D, 2, none⟩ (.int .i32 3932160)).setCell ⟨D, 3, none⟩ (.int .i32 3932160)).heap[w.heap.size + 1]? = some (.cells #[.int .i32 0, .int .i32 0, .int .i32 0, .int .i32 0] 98 (0, 0))))
        have hkk := keeps_store4 ((hk0.trans hkc).mono (T := fun k => k = D) (fun _ _ x => x.elim)) (b := D) rfl (.int .i32 (-3932160)) (.int .i32 (-3932160)) (.int .i32 3932160) (.int .i32 3932160)
        clear g0 g1 g2 g3 f0 f1 f2 f3 hZ hB1 hkc
        generalize ((((wn).setCell ⟨D, 0, none⟩ (.int .i32 (-3932160))).setCell ⟨D, 1, none⟩ (.int .i32 (-3932160))).setCell ⟨D, 2, none⟩ (.int .i32 3932160)).setCell ⟨D, 3, none⟩ (.int .i32 3932160) = w5 at *
        have g0 := blk_cell hZ2 (k := 0) rfl
        have g1 := blk_cell hZ2 (k := 1) rfl
        have g2 := blk_cell hZ2 (k := 2) rfl
        have g3 := blk_cell hZ2 (k := 3) rfl
        go_wp2_with fail
        refine (hR _).mono ?_
        rintro e w6 ⟨rfl, hb6⟩
        clear g0 g1 g2 g3
        have hk6 : Keeps (fun _ => False) w5 w6 := (Keeps.refl _ w5).then_below hb6
        have hZ6 := hk6.heap hZ2 id
        have hR6 := hk6.heap hR2 id
        have g0 := blk_cell hZ6 (k := 0) rfl
        have g1 := blk_cell hZ6 (k := 1) rfl
        have g2 := blk_cell hZ6 (k := 2) rfl
        have g3 := blk_cell hZ6 (k := 3) rfl
        have f0 := blk_free hR6 0
        have f1 := blk_free hR6 1
        have f2 := blk_free hR6 2
        have f3 := blk_free hR6 3
        have r0 := blk_cell hR6 (k := 0) rfl
        have r1 := blk_cell hR6 (k := 1) rfl
        have r2 := blk_cell hR6 (k := 2) rfl
        have r3 := blk_cell hR6 (k := 3) rfl
        go_wp2_with fail
        have hR7 := blk_store4' hR6 (.int .i32 (-3932160)) (.int .i32 (-3932160)) (.int .i32 3932160) (.int .i32 3932160)
        have d0 := blk_cell hR7 (k := 0) rfl
        have d1 := blk_cell hR7 (k := 1) rfl
        have d2 := blk_cell hR7 (k := 2) rfl
        have d3 := blk_cell hR7 (k := 3) rfl
        refine bodyPost_ret (v := .tuple #[.agg #[.int .i32 (-3932160), .int .i32 (-3932160), .int .i32 3932160, .int .i32 3932160], .bool true]) (by simp [results, Try.results111, go_sem, d0, d1, d2, d3]) rfl ?_
        refine ⟨rfl, (keeps_store4 ((hkk.then_below hb6).mono (T := fun k => k = D ∨ k = w.heap.size + 1) fun _ _ => Or.inl) (Or.inr rfl) _ _ _ _).below (Nat.le_refl _) (fun k hk => ?_)⟩
        have := hk0.size
        omega
    · go_simp
      have hZ := blk_new w1 (.cells #[.int .i32 0, .int .i32 0, .int .i32 0, .int .i32 0] 98)
      have hle := hkc.size
      have hkn := hkc.alloc (.cells #[.int .i32 0, .int .i32 0, .int .i32 0, .int .i32 0] 98)
      refine hK _ _ (keeps_drew hkn) ?_
      clear hK K hkc
      have hkc := hkn
      clear hkn
      try simp only [show ∀ W : World, W.drew.heap = W.heap from fun _ => rfl] at hZ hle hkc ⊢
      generalize (w1).alloc (.cells #[.int .i32 0, .int .i32 0, .int .i32 0, .int .i32 0] 98) = wn at *
      generalize (w1).heap.size = D at *
      try simp only [Act.put, List.setIfInBounds_toArray, List.set_cons_succ, List.set_cons_zero]
      refine tree_one 7 #[true, true, true, true, true, true, true, true, false, true, false] (by kernel_rfl) (by kernel_rfl) (by kernel_rfl) (by kernel_rfl) (by simp only [opAt, List.getElem?_toArray, List.getElem?_cons_zero, List.getElem?_cons_succ, Option.getD_some]; first | rfl | simp [go_sem]) (fun K hK => ?_)
      simp only [opAt, List.getElem?_toArray, List.getElem?_cons_zero, List.getElem?_cons_succ, Option.getD_some]
      go_simp
      refine (hS _).mono ?_
      rintro e w2 ⟨rfl, hbn⟩
      have hkn := (hkc : Keeps (fun _ => False) w0 wn).then_below hbn
      have hz := (Keeps.of_below (S := fun _ => False) hbn (fun k h1 h2 => by omega)).heap hZ id
      refine hK _ _ (keeps_drew hkn) ?_
      clear hK K hkc hbn hZ
      have hkc := hkn
      have hZ := hz
      clear hkn hz
      try simp only [Act.put, List.setIfInBounds_toArray, List.set_cons_succ, List.set_cons_zero]
      refine tree_one 8 #[true, true, true, true, true, true, true, true, true, true, false] (by kernel_rfl) (by kernel_rfl) (by kernel_rfl) (by kernel_rfl) (by simp only [opAt, List.getElem?_toArray, List.getElem?_cons_zero, List.getElem?_cons_succ, Option.getD_some]; first | rfl | simp [go_sem]) (fun K hK => ?_)
      simp only [opAt, List.getElem?_toArray, List.getElem?_cons_zero, List.getElem?_cons_succ, Option.getD_some]
      go_simp
      refine hK _ _ (keeps_drew hkc) ?_
      clear hK K
      try simp only [Act.put, List.setIfInBounds_toArray, List.set_cons_succ, List.set_cons_zero]
      refine tree_nil (by kernel_rfl) ?_
      try simp only [Act.put, List.setIfInBounds_toArray, List.set_cons_succ, List.set_cons_zero]
      have f0 := blk_free hZ 0
      have f1 := blk_free hZ 1
      have f2 := blk_free hZ 2
      have f3 := blk_free hZ 3
      have g0 := blk_cell hZ (k := 0) rfl
      have g1 := blk_cell hZ (k := 1) rfl
      have g2 := blk_cell hZ (k := 2) rfl
      have g3 := blk_cell hZ (k := 3) rfl
      refine stagek (fun _ => True) [] [10] 0 rfl #[true, true, true, true, true, true, true, true, true, true, true] (by kernel_rfl) (by kernel_rfl) (fun _ _ _ d _ h => by cases d <;> exact h) ?_
      simp only [opsAt, List.map_cons, List.map_nil, List.getElem?_toArray, List.getElem?_cons_zero, List.getElem?_cons_succ, Option.getD_some]
      repeat (go_big_quiet_step (fail))
      refine wpQuiet_nil ?_
      refine links_cons (by first | rfl | simp [go_sem]) (fun K hK => ?_)
      go_simp
      refine hK _ _ (keptS (keeps_store4 (Keeps.refl (fun _ => True) w2) trivial _ _ _ _)) ?_
      clear hK K
      refine links_nil ?_
      refine stages_end (by kernel_rfl) ?_
      have hB1 := hkc.heap b2 id
      have hl1 : w.heap.size + 1 < w0.heap.size := blk_lt b2
      have hne : w.heap.size + 1 ≠ D := by omega
      have hZ2 := blk_store4' hZ (.int .i32 (-3932160)) (.int .i32 (-3932160)) (.int .i32 3932160) (.int .i32 3932160)
      have hR2 := (((blk_other (blk_other (blk_other (blk_other hB1 hne _) hne _) hne _) hne _) : (((((w2).setCell ⟨D, 0, none⟩ (.int .i32 (-3932160))).setCell ⟨D, 1, none⟩ (.int .i32 (-3932160))).setCell ⟨D, 2, none⟩ (.int .i32 3932160)).setCell ⟨D, 3, none⟩ (.int .i32 3932160)).heap[w.heap.size + 1]? = some (.cells #[.int .i32 0, .int .i32 0, .int .i32 0, .int .i32 0] 98 (0, 0))))
      have hkk := keeps_store4 ((hk0.trans hkc).mono (T := fun k => k = D) (fun _ _ x => x.elim)) (b := D) rfl (.int .i32 (-3932160)) (.int .i32 (-3932160)) (.int .i32 3932160) (.int .i32 3932160)
      clear g0 g1 g2 g3 f0 f1 f2 f3 hZ hB1 hkc
      generalize ((((w2).setCell ⟨D, 0, none⟩ (.int .i32 (-3932160))).setCell ⟨D, 1, none⟩ (.int .i32 (-3932160))).setCell ⟨D, 2, none⟩ (.int .i32 3932160)).setCell ⟨D, 3, none⟩ (.int .i32 3932160) = w5 at *
      have g0 := blk_cell hZ2 (k := 0) rfl
      have g1 := blk_cell hZ2 (k := 1) rfl
      have g2 := blk_cell hZ2 (k := 2) rfl
      have g3 := blk_cell hZ2 (k := 3) rfl
      go_wp2_with fail
      refine (hR _).mono ?_
      rintro e w6 ⟨rfl, hb6⟩
      clear g0 g1 g2 g3
      have hk6 : Keeps (fun _ => False) w5 w6 := (Keeps.refl _ w5).then_below hb6
      have hZ6 := hk6.heap hZ2 id
      have hR6 := hk6.heap hR2 id
      have g0 := blk_cell hZ6 (k := 0) rfl
      have g1 := blk_cell hZ6 (k := 1) rfl
      have g2 := blk_cell hZ6 (k := 2) rfl
      have g3 := blk_cell hZ6 (k := 3) rfl
      have f0 := blk_free hR6 0
      have f1 := blk_free hR6 1
      have f2 := blk_free hR6 2
      have f3 := blk_free hR6 3
      have r0 := blk_cell hR6 (k := 0) rfl
      have r1 := blk_cell hR6 (k := 1) rfl
      have r2 := blk_cell hR6 (k := 2) rfl
      have r3 := blk_cell hR6 (k := 3) rfl
      go_wp2_with fail
      have hR7 := blk_store4' hR6 (.int .i32 (-3932160)) (.int .i32 (-3932160)) (.int .i32 3932160) (.int .i32 3932160)
      have d0 := blk_cell hR7 (k := 0) rfl
      have d1 := blk_cell hR7 (k := 1) rfl
      have d2 := blk_cell hR7 (k := 2) rfl
      have d3 := blk_cell hR7 (k := 3) rfl
      refine bodyPost_ret (v := .tuple #[.agg #[.int .i32 (-3932160), .int .i32 (-3932160), .int .i32 3932160, .int .i32 3932160], .bool true]) (by simp [results, Try.results111, go_sem, d0, d1, d2, d3]) rfl ?_
      refine ⟨rfl, (keeps_store4 ((hkk.then_below hb6).mono (T := fun k => k = D ∨ k = w.heap.size + 1) fun _ _ => Or.inl) (Or.inr rfl) _ _ _ _).below (Nat.le_refl _) (fun k hk => ?_)⟩
      have := hk0.size
      omega
  · go_simp
    have hZ : (w0.alloc (.cells #[.int .i32 0, .int .i32 0, .int .i32 0, .int .i32 0] 98)).drew.heap[w0.heap.size]? = some (.cells #[.int .i32 0, .int .i32 0, .int .i32 0, .int .i32 0] 98 (0, 0)) := blk_new w0 (.cells #[.int .i32 0, .int .i32 0, .int .i32 0, .int .i32 0] 98)
    have hkn := ((Keeps.refl (fun _ => False) w0).alloc (.cells #[.int .i32 0, .int .i32 0, .int .i32 0, .int .i32 0] 98)).drew
    refine hK _ _ (keeps_drew hkn) ?_
    clear hK K hkc
    have hkc := hkn
    clear hkn
    obtain ⟨D, hD⟩ : ∃ D, D = w0.heap.size := ⟨_, rfl⟩
    have hle : w0.heap.size ≤ D := by omega
    rw [← hD] at hZ ⊢
    clear hD
    generalize (w0.alloc (.cells #[.int .i32 0, .int .i32 0, .int .i32 0, .int .i32 0] 98)).drew = wn at *
    try simp only [Act.put, List.setIfInBounds_toArray, List.set_cons_succ, List.set_cons_zero]
    refine tree_one 3 #[true, true, true, true, true, true, true, false, false, true, false] (by kernel_rfl) (by kernel_rfl) (by kernel_rfl) (by kernel_rfl) (by simp only [opAt, List.getElem?_toArray, List.getElem?_cons_zero, List.getElem?_cons_succ, Option.getD_some]; first | rfl | simp [go_sem]) (fun K hK => ?_)
    simp only [opAt, List.getElem?_toArray, List.getElem?_cons_zero, List.getElem?_cons_succ, Option.getD_some]
    go_simp
    refine (hA _).mono ?_
    rintro e w1 ⟨rfl, hbn⟩
    have hkn := (hkc : Keeps (fun _ => False) w0 wn).then_below hbn
    have hz := (Keeps.of_below (S := fun _ => False) hbn (fun k h1 h2 => by omega)).heap hZ id
    refine hK _ _ (keeps_drew hkn) ?_
    clear hK K hkc hbn hZ
    have hkc := hkn
    have hZ := hz
    clear hkn hz
    try simp only [Act.put, List.setIfInBounds_toArray, List.set_cons_succ, List.set_cons_zero]
    refine tree_one 7 #[true, true, true, true, true, true, true, true, false, true, false] (by kernel_rfl) (by kernel_rfl) (by kernel_rfl) (by kernel_rfl) (by simp only [opAt, List.getElem?_toArray, List.getElem?_cons_zero, List.getElem?_cons_succ, Option.getD_some]; first | rfl | simp [go_sem]) (fun K hK => ?_)
    simp only [opAt, List.getElem?_toArray, List.getElem?_cons_zero, List.getElem?_cons_succ, Option.getD_some]
    go_simp
    refine (hS _).mono ?_
    rintro e w2 ⟨rfl, hbn⟩
    have hkn := (hkc : Keeps (fun _ => False) w0 w1).then_below hbn
    have hz := (Keeps.of_below (S := fun _ => False) hbn (fun k h1 h2 => by omega)).heap hZ id
    refine hK _ _ (keeps_drew hkn) ?_
    clear hK K hkc hbn hZ
    have hkc := hkn
    have hZ := hz
    clear hkn hz
    try simp only [Act.put, List.setIfInBounds_toArray, List.set_cons_succ, List.set_cons_zero]
    refine tree_one 8 #[true, true, true, true, true, true, true, true, true, true, false] (by kernel_rfl) (by kernel_rfl) (by kernel_rfl) (by kernel_rfl) (by simp only [opAt, List.getElem?_toArray, List.getElem?_cons_zero, List.getElem?_cons_succ, Option.getD_some]; first | rfl | simp [go_sem]) (fun K hK => ?_)
    simp only [opAt, List.getElem?_toArray, List.getElem?_cons_zero, List.getElem?_cons_succ, Option.getD_some]
    go_simp
    refine hK _ _ (keeps_drew hkc) ?_
    clear hK K
    try simp only [Act.put, List.setIfInBounds_toArray, List.set_cons_succ, List.set_cons_zero]
    refine tree_nil (by kernel_rfl) ?_
    try simp only [Act.put, List.setIfInBounds_toArray, List.set_cons_succ, List.set_cons_zero]
    have f0 := blk_free hZ 0
    have f1 := blk_free hZ 1
    have f2 := blk_free hZ 2
    have f3 := blk_free hZ 3
    have g0 := blk_cell hZ (k := 0) rfl
    have g1 := blk_cell hZ (k := 1) rfl
    have g2 := blk_cell hZ (k := 2) rfl
    have g3 := blk_cell hZ (k := 3) rfl
    refine stagek (fun _ => True) [] [10] 0 rfl #[true, true, true, true, true, true, true, true, true, true, true] (by kernel_rfl) (by kernel_rfl) (fun _ _ _ d _ h => by cases d <;> exact h) ?_
    simp only [opsAt, List.map_cons, List.map_nil, List.getElem?_toArray, List.getElem?_cons_zero, List.getElem?_cons_succ, Option.getD_some]
    repeat (go_big_quiet_step (fail))
    refine wpQuiet_nil ?_
    refine links_cons (by first | rfl | simp [go_sem]) (fun K hK => ?_)
    go_simp
    refine hK _ _ (keptS (keeps_store4 (Keeps.refl (fun _ => True) w2) trivial _ _ _ _)) ?_
    clear hK K
    refine links_nil ?_
    refine stages_end (by kernel_rfl) ?_
    have hB1 := hkc.heap b2 id
    have hl1 : w.heap.size + 1 < w0.heap.size := blk_lt b2
    have hne : w.heap.size + 1 ≠ D := by omega
    have hZ2 := blk_store4' hZ (.int .i32 (-3932160)) (.int .i32 (-3932160)) (.int .i32 3932160) (.int .i32 3932160)
    have hR2 := (((blk_other (blk_other (blk_other (blk_other hB1 hne _) hne _) hne _) hne _) : (((((w2).setCell ⟨D, 0, none⟩ (.int .i32 (-3932160))).setCell ⟨D, 1, none⟩ (.int .i32 (-3932160))).setCell ⟨D, 2, none⟩ (.int .i32 3932160)).setCell ⟨D, 3, none⟩ (.int .i32 3932160)).heap[w.heap.size + 1]? = some (.cells #[.int .i32 0, .int .i32 0, .int .i32 0, .int .i32 0] 98 (0, 0))))
    have hkk := keeps_store4 ((hk0.trans hkc).mono (T := fun k => k = D) (fun _ _ x => x.elim)) (b := D) rfl (.int .i32 (-3932160)) (.int .i32 (-3932160)) (.int .i32 3932160) (.int .i32 3932160)
    clear g0 g1 g2 g3 f0 f1 f2 f3 hZ hB1 hkc
    generalize ((((w2).setCell ⟨D, 0, none⟩ (.int .i32 (-3932160))).setCell ⟨D, 1, none⟩ (.int .i32 (-3932160))).setCell ⟨D, 2, none⟩ (.int .i32 3932160)).setCell ⟨D, 3, none⟩ (.int .i32 3932160) = w5 at *
    have g0 := blk_cell hZ2 (k := 0) rfl
    have g1 := blk_cell hZ2 (k := 1) rfl
    have g2 := blk_cell hZ2 (k := 2) rfl
    have g3 := blk_cell hZ2 (k := 3) rfl
    go_wp2_with fail
    refine (hR _).mono ?_
    rintro e w6 ⟨rfl, hb6⟩
    clear g0 g1 g2 g3
    have hk6 : Keeps (fun _ => False) w5 w6 := (Keeps.refl _ w5).then_below hb6
    have hZ6 := hk6.heap hZ2 id
    have hR6 := hk6.heap hR2 id
    have g0 := blk_cell hZ6 (k := 0) rfl
    have g1 := blk_cell hZ6 (k := 1) rfl
    have g2 := blk_cell hZ6 (k := 2) rfl
    have g3 := blk_cell hZ6 (k := 3) rfl
    have f0 := blk_free hR6 0
    have f1 := blk_free hR6 1
    have f2 := blk_free hR6 2
    have f3 := blk_free hR6 3
    have r0 := blk_cell hR6 (k := 0) rfl
    have r1 := blk_cell hR6 (k := 1) rfl
    have r2 := blk_cell hR6 (k := 2) rfl
    have r3 := blk_cell hR6 (k := 3) rfl
    go_wp2_with fail
    have hR7 := blk_store4' hR6 (.int .i32 (-3932160)) (.int .i32 (-3932160)) (.int .i32 3932160) (.int .i32 3932160)
    have d0 := blk_cell hR7 (k := 0) rfl
    have d1 := blk_cell hR7 (k := 1) rfl
    have d2 := blk_cell hR7 (k := 2) rfl
    have d3 := blk_cell hR7 (k := 3) rfl
    refine bodyPost_ret (v := .tuple #[.agg #[.int .i32 (-3932160), .int .i32 (-3932160), .int .i32 3932160, .int .i32 3932160], .bool true]) (by simp [results, Try.results111, go_sem, d0, d1, d2, d3]) rfl ?_
    refine ⟨rfl, (keeps_store4 ((hkk.then_below hb6).mono (T := fun k => k = D ∨ k = w.heap.size + 1) fun _ _ => Or.inl) (Or.inr rfl) _ _ _ _).below (Nat.le_refl _) (fun k hk => ?_)⟩
    have := hk0.size
    omega
theorem gm_yard (w : World) : Calls Try.prog 95 #[] w fun e w' => e = .returned (.agg #[.int .i32 (-3932160), .int .i32 (-3932160), .int .i32 3932160, .int .i32 3932160]) ∧ Below w.heap.size w w' := by
  have hA := fun W => gm_arena W
  have hS := fun W => sh_Shrink W
  have hZ := blk_new w (.cells #[.int .i32 0, .int .i32 0, .int .i32 0, .int .i32 0] 98)
  have hk0 := (Keeps.refl (fun _ => False) w).alloc (.cells #[.int .i32 0, .int .i32 0, .int .i32 0, .int .i32 0] 98)
  go_enter Try.func95, Try.ntmps95
  go_wp2_with fail
  generalize w.alloc (.cells #[.int .i32 0, .int .i32 0, .int .i32 0, .int .i32 0] 98) = w0 at *
  refine (hA _).mono ?_
  rintro e w1 ⟨rfl, hb1⟩
  go_wp2_with fail
  refine (hS _).mono ?_
  rintro e w2 ⟨rfl, hb2⟩
  have hk2 := (hk0.then_below hb1).then_below hb2
  have hZ2 := (((Keeps.refl (fun _ => False) w0).then_below hb1).then_below hb2).heap hZ id
  clear hZ hk0 hb1 hb2
  have hZ3 := blk_alloc hZ2 (.cells #[.int .i32 (-3932160), .int .i32 (-3932160), .int .i32 3932160, .int .i32 3932160] 98)
  have f0 := blk_free hZ3 0
  have f1 := blk_free hZ3 1
  have f2 := blk_free hZ3 2
  have f3 := blk_free hZ3 3
  have r0 := blk_cell hZ3 (k := 0) rfl
  have r1 := blk_cell hZ3 (k := 1) rfl
  have r2 := blk_cell hZ3 (k := 2) rfl
  have r3 := blk_cell hZ3 (k := 3) rfl
  have hs := hk2.size
  go_wp2_with fail
  have hR7 := blk_store4' hZ3 (.int .i32 (-3932160)) (.int .i32 (-3932160)) (.int .i32 3932160) (.int .i32 3932160)
  have d0 := blk_cell hR7 (k := 0) rfl
  have d1 := blk_cell hR7 (k := 1) rfl
  have d2 := blk_cell hR7 (k := 2) rfl
  have d3 := blk_cell hR7 (k := 3) rfl
  refine bodyPost_ret (v := .agg #[.int .i32 (-3932160), .int .i32 (-3932160), .int .i32 3932160, .int .i32 3932160]) (by simp [results, Try.results95, go_sem, d0, d1, d2, d3]) rfl ?_
  refine ⟨rfl, (keeps_store4 (((hk2.alloc _)).mono (T := fun k => k = w.heap.size) fun _ _ x => x.elim) rfl _ _ _ _).below (Nat.le_refl _) (fun k hk => ?_)⟩
  omega
end Go.Proofs.Ytfepefohaadecaa
