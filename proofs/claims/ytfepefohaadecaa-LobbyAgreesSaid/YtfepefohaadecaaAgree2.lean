/- The reference's Agree. -/
import Derived.Test.YtfepefohaadecaaAgree1
import Derived.Test.YtfepefohaadecaaRefAt
namespace Go.Proofs.Ytfepefohaadecaa
open Go.RowKit
set_option maxRecDepth 100000
variable {w : World}

set_option maxHeartbeats 4000000 in
theorem ref_Agree (a b : Offer) (has : 0 ≤ a.s ∧ a.s < 4294967296) (hbs : 0 ≤ b.s ∧ b.s < 4294967296) {A : Option Addr} {cap : Nat} {L : List Int} (hv : Vals w 1 A L.length cap (intsL L)) (hmax : L.length ≤ 4096) :
    Calls Try.prog 36 #[(.agg #[.int .i64 a.r, .int .u32 a.s, .int .i64 a.ld, .int .i64 a.md, .int .i64 a.lw, .int .i64 a.mw]), (.agg #[.int .i64 b.r, .int .u32 b.s, .int .i64 b.ld, .int .i64 b.md, .int .i64 b.lw, .int .i64 b.mw]), .slice A L.length cap] w (AgrPost w (agrC a b L) (agrN a b L) (agrE a b L)) := by
  have HT := hid (fun W (hv : Vals W 1 A L.length cap (intsL L)) => ref_Trips hv)
  have hA := fun W => ref_RightO a W
  have hB := fun W => ref_RightO b W
  by_cases ra : RightO a
  · by_cases rb : RightO b
    · rw [decide_eq_true ra] at hA
      rw [decide_eq_true rb] at hB
      have HA := hid hA
      have HB := hid hB
      cases ht : tripsB L with
      | true =>
        rw [ht] at HT
        have hall : rightAll a b L := ⟨ra, rb, ht⟩
        unfold RightO at ra rb
        have K1 := hid (fun W => ref_Hold a.ld b.ld 99 (max a.ld b.ld) (by split <;> split <;> omega) W)
        have K2 := hid (fun W => ref_Hold a.md 0 b.md (min a.md b.md) (by split <;> split <;> omega) W)
        have K3 := hid (fun W => ref_Hold a.lw b.lw 99 (max a.lw b.lw) (by split <;> split <;> omega) W)
        have K4 := hid (fun W => ref_Hold a.mw 0 b.mw (min a.mw b.mw) (by split <;> split <;> omega) W)
        cases hg : agreeB a b with
        | true =>
          have e1 : agrC a b L = cfgV a b L := by unfold agrC; rw [if_pos ⟨hall, hg⟩]
          have e2 : agrN a b L = min a.r b.r := by unfold agrN; rw [if_pos ⟨hall, hg⟩]
          have e3 : agrE a b L = 0 := by unfold agrE; rw [if_pos hall, if_pos hg]
          rw [e1, e2, e3]
          unfold agreeB at hg
          rw [Bool.and_eq_true, decide_eq_true_eq, decide_eq_true_eq] at hg
          obtain ⟨hg1, hg2⟩ := hg
          have HD := hid (fun W (hv : Vals W 1 A L.length cap (intsL L)) => ref_Delay hv ht hmax)
          have HW := hid (fun W (hv : Vals W 1 A L.length cap (intsL L)) => ref_Window hv ht hmax)
          have HS1 := hid (fun W => ref_Seed a.s b.s has hbs W)
          have HS2 := hid (fun W => ref_Seed b.s a.s hbs has W)
          unfold cfgV
          generalize delayV L = d1 at *
          generalize windowV L = d2 at *
          have K5 := hid (fun W => ref_Hold d1 (max a.ld b.ld) (min a.md b.md) (max (max a.ld b.ld) (min d1 (min a.md b.md))) (by split <;> split <;> omega) W)
          have K6 := hid (fun W => ref_Hold d2 (max a.lw b.lw) (min a.mw b.mw) (max (max a.lw b.lw) (min d2 (min a.mw b.mw))) (by split <;> split <;> omega) W)
          have K7 := hid (fun W => ref_Hold a.r 0 b.r (min a.r b.r) (by split <;> split <;> omega) W)
          clear ra rb
          generalize hx1 : max (max a.ld b.ld) (min d1 (min a.md b.md)) = x1 at *
          generalize hx2 : max (max a.lw b.lw) (min d2 (min a.mw b.mw)) = x2 at *
          generalize hx3 : min a.r b.r = x3 at *
          generalize hm1 : max a.ld b.ld = m1 at *
          generalize hm2 : min a.md b.md = m2 at *
          generalize hm3 : max a.lw b.lw = m3 at *
          generalize hm4 : min a.mw b.mw = m4 at *
          clear hA hB ht hall e1 e2 e3 hx1 hx2 hx3 hm1 hm2 hm3 hm4 has hbs hmax
          by_cases hlt : a.s < b.s
          · rw [if_pos hlt, show max a.s b.s = b.s by omega, show min a.s b.s = a.s by omega]
            generalize seedV b.s a.s = sd at *
            generalize seedV a.s b.s = s0 at *
            go_enter Try.func36, Try.ntmps36
            go_wp2_with fail
            have hS : St w _ a b A cap L := St.start hv
            obtain ⟨w1, hw1⟩ : ∃ w1, ((w.alloc (.cells #[.int .i64 a.r, .int .u32 a.s, .int .i64 a.ld, .int .i64 a.md, .int .i64 a.lw, .int .i64 a.mw] 63)).alloc (.cells #[.int .i64 b.r, .int .u32 b.s, .int .i64 b.ld, .int .i64 b.md, .int .i64 b.lw, .int .i64 b.mw] 63)).alloc (.cells #[.int .u32 0, .int .i64 0, .int .i64 0, .int .i64 0] 72) = w1 := ⟨_, rfl⟩
            rw [hw1] at hS
            rw [hw1]
            clear hw1
            refine (HA.out _).mono ?_
            rintro e w2 ⟨rfl, hw9⟩
            have hb9 : Below w1.heap.size w1 w2 := hw9 ▸ (Below.refl _ _).alloc (Nat.le_refl _) _
            have hS := hS.keep hb9
            clear hw9 hb9
            have la := blk_lt hS.ha
            have lb := blk_lt hS.hb
            have lr := blk_lt hS.hres
            have a0 := blk_cell hS.ha (k := 0) rfl
            have a1 := blk_cell hS.ha (k := 1) rfl
            have a2 := blk_cell hS.ha (k := 2) rfl
            have a3 := blk_cell hS.ha (k := 3) rfl
            have a4 := blk_cell hS.ha (k := 4) rfl
            have a5 := blk_cell hS.ha (k := 5) rfl
            have b0 := blk_cell hS.hb (k := 0) rfl
            have b1 := blk_cell hS.hb (k := 1) rfl
            have b2 := blk_cell hS.hb (k := 2) rfl
            have b3 := blk_cell hS.hb (k := 3) rfl
            have b4 := blk_cell hS.hb (k := 4) rfl
            have b5 := blk_cell hS.hb (k := 5) rfl
            go_wp2_with fail
            refine (HB.out _).mono ?_
            rintro e w3 ⟨rfl, hw9⟩
            have hb9 : Below w2.heap.size w2 w3 := hw9 ▸ (Below.refl _ _).alloc (Nat.le_refl _) _
            have hS := hS.keep hb9
            clear hw9 hb9
            clear la lb lr a0 a1 a2 a3 a4 a5 b0 b1 b2 b3 b4 b5
            go_wp2_with fail
            refine (HT.out _ hS.vals).mono ?_
            rintro e w4 ⟨rfl, rfl⟩
            have la := blk_lt hS.ha
            have lb := blk_lt hS.hb
            have lr := blk_lt hS.hres
            have a0 := blk_cell hS.ha (k := 0) rfl
            have a1 := blk_cell hS.ha (k := 1) rfl
            have a2 := blk_cell hS.ha (k := 2) rfl
            have a3 := blk_cell hS.ha (k := 3) rfl
            have a4 := blk_cell hS.ha (k := 4) rfl
            have a5 := blk_cell hS.ha (k := 5) rfl
            have b0 := blk_cell hS.hb (k := 0) rfl
            have b1 := blk_cell hS.hb (k := 1) rfl
            have b2 := blk_cell hS.hb (k := 2) rfl
            have b3 := blk_cell hS.hb (k := 3) rfl
            have b4 := blk_cell hS.hb (k := 4) rfl
            have b5 := blk_cell hS.hb (k := 5) rfl
            go_wp2_with fail
            go_quiet ((go_at_call 63; first | (with_reducible exact Calls.quiet_of (quiet_s (K1.out _))) | (with_reducible exact quiet_d (quiet_s (K1.out _))) | (with_reducible exact Calls.quiet_of (quiet_s (K2.out _))) | (with_reducible exact quiet_d (quiet_s (K2.out _)))))
            clear la lb lr a0 a1 a2 a3 a4 a5 b0 b1 b2 b3 b4 b5
            have hS := hS.keep (below_dr _ nq)
            generalize World.drewN _ nq = w5 at *
            have la := blk_lt hS.ha
            have lb := blk_lt hS.hb
            have lr := blk_lt hS.hres
            have a0 := blk_cell hS.ha (k := 0) rfl
            have a1 := blk_cell hS.ha (k := 1) rfl
            have a2 := blk_cell hS.ha (k := 2) rfl
            have a3 := blk_cell hS.ha (k := 3) rfl
            have a4 := blk_cell hS.ha (k := 4) rfl
            have a5 := blk_cell hS.ha (k := 5) rfl
            have b0 := blk_cell hS.hb (k := 0) rfl
            have b1 := blk_cell hS.hb (k := 1) rfl
            have b2 := blk_cell hS.hb (k := 2) rfl
            have b3 := blk_cell hS.hb (k := 3) rfl
            have b4 := blk_cell hS.hb (k := 4) rfl
            have b5 := blk_cell hS.hb (k := 5) rfl
            go_wp2_with fail
            go_quiet ((go_at_call 63; first | (with_reducible exact Calls.quiet_of (quiet_s (K3.out _))) | (with_reducible exact quiet_d (quiet_s (K3.out _))) | (with_reducible exact Calls.quiet_of (quiet_s (K4.out _))) | (with_reducible exact quiet_d (quiet_s (K4.out _)))))
            clear la lb lr a0 a1 a2 a3 a4 a5 b0 b1 b2 b3 b4 b5
            have hS := hS.keep (below_dr _ nq)
            generalize World.drewN _ nq = w6 at *
            have la := blk_lt hS.ha
            have lb := blk_lt hS.hb
            have lr := blk_lt hS.hres
            have a0 := blk_cell hS.ha (k := 0) rfl
            have a1 := blk_cell hS.ha (k := 1) rfl
            have a2 := blk_cell hS.ha (k := 2) rfl
            have a3 := blk_cell hS.ha (k := 3) rfl
            have a4 := blk_cell hS.ha (k := 4) rfl
            have a5 := blk_cell hS.ha (k := 5) rfl
            have b0 := blk_cell hS.hb (k := 0) rfl
            have b1 := blk_cell hS.hb (k := 1) rfl
            have b2 := blk_cell hS.hb (k := 2) rfl
            have b3 := blk_cell hS.hb (k := 3) rfl
            have b4 := blk_cell hS.hb (k := 4) rfl
            have b5 := blk_cell hS.hb (k := 5) rfl
            go_wp2_with fail
            refine (HS1.out _).mono ?_
            rintro e w7 ⟨rfl, rfl⟩
            go_wp2_with fail
            refine (HD.out _ hS.vals).mono ?_
            rintro e w7 ⟨rfl, rfl⟩
            go_wp2_with fail
            refine (K5.out _).mono ?_
            rintro e w7 ⟨rfl, rfl⟩
            go_wp2_with fail
            refine (HW.out _ hS.vals).mono ?_
            rintro e w7 ⟨rfl, rfl⟩
            go_wp2_with fail
            refine (K6.out _).mono ?_
            rintro e w7 ⟨rfl, rfl⟩
            go_wp2_with fail
            refine (HS2.out _).mono ?_
            rintro e w8 ⟨rfl, rfl⟩
            go_wp2_with fail
            clear la lb lr a0 a1 a2 a3 a4 a5 b0 b1 b2 b3 b4 b5
            have hn : w.heap.size + 2 < w6.heap.size := blk_lt hS.hres
            have hb7 : Below w6.heap.size w6 (w6.alloc (.cells #[.int .u32 sd, .int .i64 x1, .int .i64 x2, .int .i64 1] 72)) := (Below.refl _ _).alloc (Nat.le_refl _) _
            have hS := hS.keep hb7
            have hC := blk_new w6 (.cells #[.int .u32 sd, .int .i64 x1, .int .i64 x2, .int .i64 1] 72)
            clear hb7
            generalize w6.alloc (.cells #[.int .u32 sd, .int .i64 x1, .int .i64 x2, .int .i64 1] 72) = w7 at *
            generalize w6.heap.size = B6 at *
            have y0 := keptS_cell (S := fun k => k = w.heap.size + 2) (w := w7.drew) (blk_cell hC (k := 0) rfl) (by simp; omega)
            have y1 := keptS_cell (S := fun k => k = w.heap.size + 2) (w := w7.drew) (blk_cell hC (k := 1) rfl) (by simp; omega)
            have y2 := keptS_cell (S := fun k => k = w.heap.size + 2) (w := w7.drew) (blk_cell hC (k := 2) rfl) (by simp; omega)
            have y3 := keptS_cell (S := fun k => k = w.heap.size + 2) (w := w7.drew) (blk_cell hC (k := 3) rfl) (by simp; omega)
            have y4 := keptS_cell (S := fun k => k = w.heap.size + 2) (w := w7.drew) (blk_cell hS.ha (k := 0) rfl) (by simp)
            have y5 := keptS_cell (S := fun k => k = w.heap.size + 2) (w := w7.drew) (blk_cell hS.hb (k := 0) rfl) (by simp)
            have r0 := blk_cell hS.hres (k := 0) rfl
            have r1 := blk_cell hS.hres (k := 1) rfl
            have r2 := blk_cell hS.hres (k := 2) rfl
            have r3 := blk_cell hS.hres (k := 3) rfl
            have f0 := blk_free hS.hres 0
            have f1 := blk_free hS.hres 1
            have f2 := blk_free hS.hres 2
            have f3 := blk_free hS.hres 3
            refine stages_start (by kernel_rfl) 9 rfl ?_
            refine stagek (fun k => k = w.heap.size + 2) [0, 1, 2, 3, 4] [5, 6, 7, 8] 0 rfl #[true, true, true, true, true, true, true, true, true] (by kernel_rfl) (by kernel_rfl) (fun _ _ _ d _ h => by cases d <;> exact h) ?_
            simp only [opsAt, List.map_cons, List.map_nil, List.getElem?_toArray, List.getElem?_cons_zero, List.getElem?_cons_succ, Option.getD_some]
            repeat (go_big_quiet_step (fail))
            refine wpQuiet_nil ?_
            refine links_cons (by first | rfl | simp [go_sem]) (fun K hK => ?_)
            go_simp
            refine (K7.out _).mono ?_
            rintro e w9 ⟨rfl, rfl⟩
            refine hK _ _ (keptS (Keeps.refl _ _)) ?_
            clear hK K
            try refine links_nil ?_
            refine links_cons (by first | rfl | simp [go_sem]) (fun K hK => ?_)
            go_simp
            refine hK _ _ (keptS ((((((Keeps.refl (fun k => k = w.heap.size + 2) _).setCell (p := ⟨w.heap.size + 2, 0, none⟩) rfl _).setCell (p := ⟨w.heap.size + 2, 1, none⟩) rfl _).setCell (p := ⟨w.heap.size + 2, 2, none⟩) rfl _).setCell (p := ⟨w.heap.size + 2, 3, none⟩) rfl _))) ?_
            clear hK K
            try refine links_nil ?_
            refine links_cons (by first | rfl | simp [go_sem]) (fun K hK => ?_)
            go_simp
            refine hK _ _ (keptS ((((((Keeps.refl (fun k => k = w.heap.size + 2) _).setCell (p := ⟨w.heap.size + 2, 0, none⟩) rfl _).setCell (p := ⟨w.heap.size + 2, 1, none⟩) rfl _).setCell (p := ⟨w.heap.size + 2, 2, none⟩) rfl _).setCell (p := ⟨w.heap.size + 2, 3, none⟩) rfl _))) ?_
            clear hK K
            try refine links_nil ?_
            refine links_cons (by first | rfl | simp [go_sem]) (fun K hK => ?_)
            go_simp
            refine hK _ _ (keptS ((((((Keeps.refl (fun k => k = w.heap.size + 2) _).setCell (p := ⟨w.heap.size + 2, 0, none⟩) rfl _).setCell (p := ⟨w.heap.size + 2, 1, none⟩) rfl _).setCell (p := ⟨w.heap.size + 2, 2, none⟩) rfl _).setCell (p := ⟨w.heap.size + 2, 3, none⟩) rfl _))) ?_
            clear hK K
            try refine links_nil ?_
            refine stages_end (by kernel_rfl) ?_
            go_wp2_with fail
            have hf := blk_store4 hS.hres (.int .u32 sd) (.int .i64 x1) (.int .i64 x2) (.int .i64 1)
            have d0 := blk_cell hf (k := 0) rfl
            have d1 := blk_cell hf (k := 1) rfl
            have d2 := blk_cell hf (k := 2) rfl
            have d3 := blk_cell hf (k := 3) rfl
            have hbl := below_store4 hS.bel (show w.heap.size ≤ w.heap.size + 2 by omega) (.int .u32 sd) (.int .i64 x1) (.int .i64 x2) (.int .i64 1)
            refine bodyPost_ret (v := .tuple #[.agg #[.int .u32 sd, .int .i64 x1, .int .i64 x2, .int .i64 1], .int .i64 x3, .int .i64 0]) (by simp [results, Try.results36, go_sem, d0, d1, d2, d3]) rfl ?_
            exact ⟨rfl, hbl.drew⟩
          · rw [if_neg hlt, show max a.s b.s = a.s by omega, show min a.s b.s = b.s by omega]
            generalize seedV a.s b.s = sd at *
            go_enter Try.func36, Try.ntmps36
            go_wp2_with fail
            have hS : St w _ a b A cap L := St.start hv
            obtain ⟨w1, hw1⟩ : ∃ w1, ((w.alloc (.cells #[.int .i64 a.r, .int .u32 a.s, .int .i64 a.ld, .int .i64 a.md, .int .i64 a.lw, .int .i64 a.mw] 63)).alloc (.cells #[.int .i64 b.r, .int .u32 b.s, .int .i64 b.ld, .int .i64 b.md, .int .i64 b.lw, .int .i64 b.mw] 63)).alloc (.cells #[.int .u32 0, .int .i64 0, .int .i64 0, .int .i64 0] 72) = w1 := ⟨_, rfl⟩
            rw [hw1] at hS
            rw [hw1]
            clear hw1
            refine (HA.out _).mono ?_
            rintro e w2 ⟨rfl, hw9⟩
            have hb9 : Below w1.heap.size w1 w2 := hw9 ▸ (Below.refl _ _).alloc (Nat.le_refl _) _
            have hS := hS.keep hb9
            clear hw9 hb9
            have la := blk_lt hS.ha
            have lb := blk_lt hS.hb
            have lr := blk_lt hS.hres
            have a0 := blk_cell hS.ha (k := 0) rfl
            have a1 := blk_cell hS.ha (k := 1) rfl
            have a2 := blk_cell hS.ha (k := 2) rfl
            have a3 := blk_cell hS.ha (k := 3) rfl
            have a4 := blk_cell hS.ha (k := 4) rfl
            have a5 := blk_cell hS.ha (k := 5) rfl
            have b0 := blk_cell hS.hb (k := 0) rfl
            have b1 := blk_cell hS.hb (k := 1) rfl
            have b2 := blk_cell hS.hb (k := 2) rfl
            have b3 := blk_cell hS.hb (k := 3) rfl
            have b4 := blk_cell hS.hb (k := 4) rfl
            have b5 := blk_cell hS.hb (k := 5) rfl
            go_wp2_with fail
            refine (HB.out _).mono ?_
            rintro e w3 ⟨rfl, hw9⟩
            have hb9 : Below w2.heap.size w2 w3 := hw9 ▸ (Below.refl _ _).alloc (Nat.le_refl _) _
            have hS := hS.keep hb9
            clear hw9 hb9
            clear la lb lr a0 a1 a2 a3 a4 a5 b0 b1 b2 b3 b4 b5
            go_wp2_with fail
            refine (HT.out _ hS.vals).mono ?_
            rintro e w4 ⟨rfl, rfl⟩
            have la := blk_lt hS.ha
            have lb := blk_lt hS.hb
            have lr := blk_lt hS.hres
            have a0 := blk_cell hS.ha (k := 0) rfl
            have a1 := blk_cell hS.ha (k := 1) rfl
            have a2 := blk_cell hS.ha (k := 2) rfl
            have a3 := blk_cell hS.ha (k := 3) rfl
            have a4 := blk_cell hS.ha (k := 4) rfl
            have a5 := blk_cell hS.ha (k := 5) rfl
            have b0 := blk_cell hS.hb (k := 0) rfl
            have b1 := blk_cell hS.hb (k := 1) rfl
            have b2 := blk_cell hS.hb (k := 2) rfl
            have b3 := blk_cell hS.hb (k := 3) rfl
            have b4 := blk_cell hS.hb (k := 4) rfl
            have b5 := blk_cell hS.hb (k := 5) rfl
            go_wp2_with fail
            go_quiet ((go_at_call 63; first | (with_reducible exact Calls.quiet_of (quiet_s (K1.out _))) | (with_reducible exact quiet_d (quiet_s (K1.out _))) | (with_reducible exact Calls.quiet_of (quiet_s (K2.out _))) | (with_reducible exact quiet_d (quiet_s (K2.out _)))))
            clear la lb lr a0 a1 a2 a3 a4 a5 b0 b1 b2 b3 b4 b5
            have hS := hS.keep (below_dr _ nq)
            generalize World.drewN _ nq = w5 at *
            have la := blk_lt hS.ha
            have lb := blk_lt hS.hb
            have lr := blk_lt hS.hres
            have a0 := blk_cell hS.ha (k := 0) rfl
            have a1 := blk_cell hS.ha (k := 1) rfl
            have a2 := blk_cell hS.ha (k := 2) rfl
            have a3 := blk_cell hS.ha (k := 3) rfl
            have a4 := blk_cell hS.ha (k := 4) rfl
            have a5 := blk_cell hS.ha (k := 5) rfl
            have b0 := blk_cell hS.hb (k := 0) rfl
            have b1 := blk_cell hS.hb (k := 1) rfl
            have b2 := blk_cell hS.hb (k := 2) rfl
            have b3 := blk_cell hS.hb (k := 3) rfl
            have b4 := blk_cell hS.hb (k := 4) rfl
            have b5 := blk_cell hS.hb (k := 5) rfl
            go_wp2_with fail
            go_quiet ((go_at_call 63; first | (with_reducible exact Calls.quiet_of (quiet_s (K3.out _))) | (with_reducible exact quiet_d (quiet_s (K3.out _))) | (with_reducible exact Calls.quiet_of (quiet_s (K4.out _))) | (with_reducible exact quiet_d (quiet_s (K4.out _)))))
            clear la lb lr a0 a1 a2 a3 a4 a5 b0 b1 b2 b3 b4 b5
            have hS := hS.keep (below_dr _ nq)
            generalize World.drewN _ nq = w6 at *
            have la := blk_lt hS.ha
            have lb := blk_lt hS.hb
            have lr := blk_lt hS.hres
            have a0 := blk_cell hS.ha (k := 0) rfl
            have a1 := blk_cell hS.ha (k := 1) rfl
            have a2 := blk_cell hS.ha (k := 2) rfl
            have a3 := blk_cell hS.ha (k := 3) rfl
            have a4 := blk_cell hS.ha (k := 4) rfl
            have a5 := blk_cell hS.ha (k := 5) rfl
            have b0 := blk_cell hS.hb (k := 0) rfl
            have b1 := blk_cell hS.hb (k := 1) rfl
            have b2 := blk_cell hS.hb (k := 2) rfl
            have b3 := blk_cell hS.hb (k := 3) rfl
            have b4 := blk_cell hS.hb (k := 4) rfl
            have b5 := blk_cell hS.hb (k := 5) rfl
            go_wp2_with fail
            refine (HS1.out _).mono ?_
            rintro e w7 ⟨rfl, rfl⟩
            go_wp2_with fail
            refine (HD.out _ hS.vals).mono ?_
            rintro e w7 ⟨rfl, rfl⟩
            go_wp2_with fail
            refine (K5.out _).mono ?_
            rintro e w7 ⟨rfl, rfl⟩
            go_wp2_with fail
            refine (HW.out _ hS.vals).mono ?_
            rintro e w7 ⟨rfl, rfl⟩
            go_wp2_with fail
            refine (K6.out _).mono ?_
            rintro e w7 ⟨rfl, rfl⟩
            go_wp2_with fail
            clear la lb lr a0 a1 a2 a3 a4 a5 b0 b1 b2 b3 b4 b5
            have hn : w.heap.size + 2 < w6.heap.size := blk_lt hS.hres
            have hb7 : Below w6.heap.size w6 (w6.alloc (.cells #[.int .u32 sd, .int .i64 x1, .int .i64 x2, .int .i64 0] 72)) := (Below.refl _ _).alloc (Nat.le_refl _) _
            have hS := hS.keep hb7
            have hC := blk_new w6 (.cells #[.int .u32 sd, .int .i64 x1, .int .i64 x2, .int .i64 0] 72)
            clear hb7
            generalize w6.alloc (.cells #[.int .u32 sd, .int .i64 x1, .int .i64 x2, .int .i64 0] 72) = w7 at *
            generalize w6.heap.size = B6 at *
            have y0 := keptS_cell (S := fun k => k = w.heap.size + 2) (w := w7.drew) (blk_cell hC (k := 0) rfl) (by simp; omega)
            have y1 := keptS_cell (S := fun k => k = w.heap.size + 2) (w := w7.drew) (blk_cell hC (k := 1) rfl) (by simp; omega)
            have y2 := keptS_cell (S := fun k => k = w.heap.size + 2) (w := w7.drew) (blk_cell hC (k := 2) rfl) (by simp; omega)
            have y3 := keptS_cell (S := fun k => k = w.heap.size + 2) (w := w7.drew) (blk_cell hC (k := 3) rfl) (by simp; omega)
            have y4 := keptS_cell (S := fun k => k = w.heap.size + 2) (w := w7.drew) (blk_cell hS.ha (k := 0) rfl) (by simp)
            have y5 := keptS_cell (S := fun k => k = w.heap.size + 2) (w := w7.drew) (blk_cell hS.hb (k := 0) rfl) (by simp)
            have r0 := blk_cell hS.hres (k := 0) rfl
            have r1 := blk_cell hS.hres (k := 1) rfl
            have r2 := blk_cell hS.hres (k := 2) rfl
            have r3 := blk_cell hS.hres (k := 3) rfl
            have f0 := blk_free hS.hres 0
            have f1 := blk_free hS.hres 1
            have f2 := blk_free hS.hres 2
            have f3 := blk_free hS.hres 3
            refine stages_start (by kernel_rfl) 9 rfl ?_
            refine stagek (fun k => k = w.heap.size + 2) [0, 1, 2, 3, 4] [5, 6, 7, 8] 0 rfl #[true, true, true, true, true, true, true, true, true] (by kernel_rfl) (by kernel_rfl) (fun _ _ _ d _ h => by cases d <;> exact h) ?_
            simp only [opsAt, List.map_cons, List.map_nil, List.getElem?_toArray, List.getElem?_cons_zero, List.getElem?_cons_succ, Option.getD_some]
            repeat (go_big_quiet_step (fail))
            refine wpQuiet_nil ?_
            refine links_cons (by first | rfl | simp [go_sem]) (fun K hK => ?_)
            go_simp
            refine (K7.out _).mono ?_
            rintro e w9 ⟨rfl, rfl⟩
            refine hK _ _ (keptS (Keeps.refl _ _)) ?_
            clear hK K
            try refine links_nil ?_
            refine links_cons (by first | rfl | simp [go_sem]) (fun K hK => ?_)
            go_simp
            refine hK _ _ (keptS ((((((Keeps.refl (fun k => k = w.heap.size + 2) _).setCell (p := ⟨w.heap.size + 2, 0, none⟩) rfl _).setCell (p := ⟨w.heap.size + 2, 1, none⟩) rfl _).setCell (p := ⟨w.heap.size + 2, 2, none⟩) rfl _).setCell (p := ⟨w.heap.size + 2, 3, none⟩) rfl _))) ?_
            clear hK K
            try refine links_nil ?_
            refine links_cons (by first | rfl | simp [go_sem]) (fun K hK => ?_)
            go_simp
            refine hK _ _ (keptS ((((((Keeps.refl (fun k => k = w.heap.size + 2) _).setCell (p := ⟨w.heap.size + 2, 0, none⟩) rfl _).setCell (p := ⟨w.heap.size + 2, 1, none⟩) rfl _).setCell (p := ⟨w.heap.size + 2, 2, none⟩) rfl _).setCell (p := ⟨w.heap.size + 2, 3, none⟩) rfl _))) ?_
            clear hK K
            try refine links_nil ?_
            refine links_cons (by first | rfl | simp [go_sem]) (fun K hK => ?_)
            go_simp
            refine hK _ _ (keptS ((((((Keeps.refl (fun k => k = w.heap.size + 2) _).setCell (p := ⟨w.heap.size + 2, 0, none⟩) rfl _).setCell (p := ⟨w.heap.size + 2, 1, none⟩) rfl _).setCell (p := ⟨w.heap.size + 2, 2, none⟩) rfl _).setCell (p := ⟨w.heap.size + 2, 3, none⟩) rfl _))) ?_
            clear hK K
            try refine links_nil ?_
            refine stages_end (by kernel_rfl) ?_
            go_wp2_with fail
            have hf := blk_store4 hS.hres (.int .u32 sd) (.int .i64 x1) (.int .i64 x2) (.int .i64 0)
            have d0 := blk_cell hf (k := 0) rfl
            have d1 := blk_cell hf (k := 1) rfl
            have d2 := blk_cell hf (k := 2) rfl
            have d3 := blk_cell hf (k := 3) rfl
            have hbl := below_store4 hS.bel (show w.heap.size ≤ w.heap.size + 2 by omega) (.int .u32 sd) (.int .i64 x1) (.int .i64 x2) (.int .i64 0)
            refine bodyPost_ret (v := .tuple #[.agg #[.int .u32 sd, .int .i64 x1, .int .i64 x2, .int .i64 0], .int .i64 x3, .int .i64 0]) (by simp [results, Try.results36, go_sem, d0, d1, d2, d3]) rfl ?_
            exact ⟨rfl, hbl.drew⟩
        | false =>
          have e1 : agrC a b L = Cfg.zero := by unfold agrC; rw [if_neg (fun h => by rw [hg] at h; cases h.2)]
          have e2 : agrN a b L = 0 := by unfold agrN; rw [if_neg (fun h => by rw [hg] at h; cases h.2)]
          have e3 : agrE a b L = 6 := by unfold agrE; rw [if_pos hall, hg]; rfl
          rw [e1, e2, e3]
          unfold agreeB at hg
          generalize hm1 : max a.ld b.ld = m1 at *
          generalize hm2 : min a.md b.md = m2 at *
          generalize hm3 : max a.lw b.lw = m3 at *
          generalize hm4 : min a.mw b.mw = m4 at *
          by_cases hg1 : m1 ≤ m2
          · have hg2 : m4 < m3 := by
              rw [Bool.and_eq_false_iff, decide_eq_false_iff_not, decide_eq_false_iff_not] at hg
              omega
            clear hA hB ra rb ht hall e1 e2 e3 hg hm1 hm2 hm3 hm4 has hbs hmax
            go_enter Try.func36, Try.ntmps36
            go_wp2_with fail
            have hS : St w _ a b A cap L := St.start hv
            obtain ⟨w1, hw1⟩ : ∃ w1, ((w.alloc (.cells #[.int .i64 a.r, .int .u32 a.s, .int .i64 a.ld, .int .i64 a.md, .int .i64 a.lw, .int .i64 a.mw] 63)).alloc (.cells #[.int .i64 b.r, .int .u32 b.s, .int .i64 b.ld, .int .i64 b.md, .int .i64 b.lw, .int .i64 b.mw] 63)).alloc (.cells #[.int .u32 0, .int .i64 0, .int .i64 0, .int .i64 0] 72) = w1 := ⟨_, rfl⟩
            rw [hw1] at hS
            rw [hw1]
            clear hw1
            refine (HA.out _).mono ?_
            rintro e w2 ⟨rfl, hw9⟩
            have hb9 : Below w1.heap.size w1 w2 := hw9 ▸ (Below.refl _ _).alloc (Nat.le_refl _) _
            have hS := hS.keep hb9
            clear hw9 hb9
            have la := blk_lt hS.ha
            have lb := blk_lt hS.hb
            have lr := blk_lt hS.hres
            have a0 := blk_cell hS.ha (k := 0) rfl
            have a1 := blk_cell hS.ha (k := 1) rfl
            have a2 := blk_cell hS.ha (k := 2) rfl
            have a3 := blk_cell hS.ha (k := 3) rfl
            have a4 := blk_cell hS.ha (k := 4) rfl
            have a5 := blk_cell hS.ha (k := 5) rfl
            have b0 := blk_cell hS.hb (k := 0) rfl
            have b1 := blk_cell hS.hb (k := 1) rfl
            have b2 := blk_cell hS.hb (k := 2) rfl
            have b3 := blk_cell hS.hb (k := 3) rfl
            have b4 := blk_cell hS.hb (k := 4) rfl
            have b5 := blk_cell hS.hb (k := 5) rfl
            go_wp2_with fail
            refine (HB.out _).mono ?_
            rintro e w3 ⟨rfl, hw9⟩
            have hb9 : Below w2.heap.size w2 w3 := hw9 ▸ (Below.refl _ _).alloc (Nat.le_refl _) _
            have hS := hS.keep hb9
            clear hw9 hb9
            clear la lb lr a0 a1 a2 a3 a4 a5 b0 b1 b2 b3 b4 b5
            go_wp2_with fail
            refine (HT.out _ hS.vals).mono ?_
            rintro e w4 ⟨rfl, rfl⟩
            have la := blk_lt hS.ha
            have lb := blk_lt hS.hb
            have lr := blk_lt hS.hres
            have a0 := blk_cell hS.ha (k := 0) rfl
            have a1 := blk_cell hS.ha (k := 1) rfl
            have a2 := blk_cell hS.ha (k := 2) rfl
            have a3 := blk_cell hS.ha (k := 3) rfl
            have a4 := blk_cell hS.ha (k := 4) rfl
            have a5 := blk_cell hS.ha (k := 5) rfl
            have b0 := blk_cell hS.hb (k := 0) rfl
            have b1 := blk_cell hS.hb (k := 1) rfl
            have b2 := blk_cell hS.hb (k := 2) rfl
            have b3 := blk_cell hS.hb (k := 3) rfl
            have b4 := blk_cell hS.hb (k := 4) rfl
            have b5 := blk_cell hS.hb (k := 5) rfl
            go_wp2_with fail
            go_quiet ((go_at_call 63; first | (with_reducible exact Calls.quiet_of (quiet_s (K1.out _))) | (with_reducible exact quiet_d (quiet_s (K1.out _))) | (with_reducible exact Calls.quiet_of (quiet_s (K2.out _))) | (with_reducible exact quiet_d (quiet_s (K2.out _)))))
            clear la lb lr a0 a1 a2 a3 a4 a5 b0 b1 b2 b3 b4 b5
            have hS := hS.keep (below_dr _ nq)
            generalize World.drewN _ nq = w5 at *
            have la := blk_lt hS.ha
            have lb := blk_lt hS.hb
            have lr := blk_lt hS.hres
            have a0 := blk_cell hS.ha (k := 0) rfl
            have a1 := blk_cell hS.ha (k := 1) rfl
            have a2 := blk_cell hS.ha (k := 2) rfl
            have a3 := blk_cell hS.ha (k := 3) rfl
            have a4 := blk_cell hS.ha (k := 4) rfl
            have a5 := blk_cell hS.ha (k := 5) rfl
            have b0 := blk_cell hS.hb (k := 0) rfl
            have b1 := blk_cell hS.hb (k := 1) rfl
            have b2 := blk_cell hS.hb (k := 2) rfl
            have b3 := blk_cell hS.hb (k := 3) rfl
            have b4 := blk_cell hS.hb (k := 4) rfl
            have b5 := blk_cell hS.hb (k := 5) rfl
            go_wp2_with fail
            go_quiet ((go_at_call 63; first | (with_reducible exact Calls.quiet_of (quiet_s (K3.out _))) | (with_reducible exact quiet_d (quiet_s (K3.out _))) | (with_reducible exact Calls.quiet_of (quiet_s (K4.out _))) | (with_reducible exact quiet_d (quiet_s (K4.out _)))))
            clear la lb lr a0 a1 a2 a3 a4 a5 b0 b1 b2 b3 b4 b5
            have hS := hS.keep (below_dr _ nq)
            generalize World.drewN _ nq = w6 at *
            have r0 := blk_cell hS.hres (k := 0) rfl
            have r1 := blk_cell hS.hres (k := 1) rfl
            have r2 := blk_cell hS.hres (k := 2) rfl
            have r3 := blk_cell hS.hres (k := 3) rfl
            have f0 := blk_free hS.hres 0
            have f1 := blk_free hS.hres 1
            have f2 := blk_free hS.hres 2
            have f3 := blk_free hS.hres 3
            go_wp2_with fail
            have hf := blk_store4 hS.hres (.int .u32 0) (.int .i64 0) (.int .i64 0) (.int .i64 0)
            have d0 := blk_cell hf (k := 0) rfl
            have d1 := blk_cell hf (k := 1) rfl
            have d2 := blk_cell hf (k := 2) rfl
            have d3 := blk_cell hf (k := 3) rfl
            have hbl := below_store4 hS.bel (show w.heap.size ≤ w.heap.size + 2 by omega) (.int .u32 0) (.int .i64 0) (.int .i64 0) (.int .i64 0)
            refine bodyPost_ret (v := .tuple #[.agg #[.int .u32 0, .int .i64 0, .int .i64 0, .int .i64 0], .int .i64 0, .int .i64 6]) (by simp [results, Try.results36, go_sem, d0, d1, d2, d3]) rfl ?_
            exact ⟨rfl, hbl⟩
          · have hg2 : m2 < m1 := by omega
            clear hA hB ra rb ht hall e1 e2 e3 hg hm1 hm2 hm3 hm4 has hbs hmax hg1
            go_enter Try.func36, Try.ntmps36
            go_wp2_with fail
            have hS : St w _ a b A cap L := St.start hv
            obtain ⟨w1, hw1⟩ : ∃ w1, ((w.alloc (.cells #[.int .i64 a.r, .int .u32 a.s, .int .i64 a.ld, .int .i64 a.md, .int .i64 a.lw, .int .i64 a.mw] 63)).alloc (.cells #[.int .i64 b.r, .int .u32 b.s, .int .i64 b.ld, .int .i64 b.md, .int .i64 b.lw, .int .i64 b.mw] 63)).alloc (.cells #[.int .u32 0, .int .i64 0, .int .i64 0, .int .i64 0] 72) = w1 := ⟨_, rfl⟩
            rw [hw1] at hS
            rw [hw1]
            clear hw1
            refine (HA.out _).mono ?_
            rintro e w2 ⟨rfl, hw9⟩
            have hb9 : Below w1.heap.size w1 w2 := hw9 ▸ (Below.refl _ _).alloc (Nat.le_refl _) _
            have hS := hS.keep hb9
            clear hw9 hb9
            have la := blk_lt hS.ha
            have lb := blk_lt hS.hb
            have lr := blk_lt hS.hres
            have a0 := blk_cell hS.ha (k := 0) rfl
            have a1 := blk_cell hS.ha (k := 1) rfl
            have a2 := blk_cell hS.ha (k := 2) rfl
            have a3 := blk_cell hS.ha (k := 3) rfl
            have a4 := blk_cell hS.ha (k := 4) rfl
            have a5 := blk_cell hS.ha (k := 5) rfl
            have b0 := blk_cell hS.hb (k := 0) rfl
            have b1 := blk_cell hS.hb (k := 1) rfl
            have b2 := blk_cell hS.hb (k := 2) rfl
            have b3 := blk_cell hS.hb (k := 3) rfl
            have b4 := blk_cell hS.hb (k := 4) rfl
            have b5 := blk_cell hS.hb (k := 5) rfl
            go_wp2_with fail
            refine (HB.out _).mono ?_
            rintro e w3 ⟨rfl, hw9⟩
            have hb9 : Below w2.heap.size w2 w3 := hw9 ▸ (Below.refl _ _).alloc (Nat.le_refl _) _
            have hS := hS.keep hb9
            clear hw9 hb9
            clear la lb lr a0 a1 a2 a3 a4 a5 b0 b1 b2 b3 b4 b5
            go_wp2_with fail
            refine (HT.out _ hS.vals).mono ?_
            rintro e w4 ⟨rfl, rfl⟩
            have la := blk_lt hS.ha
            have lb := blk_lt hS.hb
            have lr := blk_lt hS.hres
            have a0 := blk_cell hS.ha (k := 0) rfl
            have a1 := blk_cell hS.ha (k := 1) rfl
            have a2 := blk_cell hS.ha (k := 2) rfl
            have a3 := blk_cell hS.ha (k := 3) rfl
            have a4 := blk_cell hS.ha (k := 4) rfl
            have a5 := blk_cell hS.ha (k := 5) rfl
            have b0 := blk_cell hS.hb (k := 0) rfl
            have b1 := blk_cell hS.hb (k := 1) rfl
            have b2 := blk_cell hS.hb (k := 2) rfl
            have b3 := blk_cell hS.hb (k := 3) rfl
            have b4 := blk_cell hS.hb (k := 4) rfl
            have b5 := blk_cell hS.hb (k := 5) rfl
            go_wp2_with fail
            go_quiet ((go_at_call 63; first | (with_reducible exact Calls.quiet_of (quiet_s (K1.out _))) | (with_reducible exact quiet_d (quiet_s (K1.out _))) | (with_reducible exact Calls.quiet_of (quiet_s (K2.out _))) | (with_reducible exact quiet_d (quiet_s (K2.out _)))))
            clear la lb lr a0 a1 a2 a3 a4 a5 b0 b1 b2 b3 b4 b5
            have hS := hS.keep (below_dr _ nq)
            generalize World.drewN _ nq = w5 at *
            have la := blk_lt hS.ha
            have lb := blk_lt hS.hb
            have lr := blk_lt hS.hres
            have a0 := blk_cell hS.ha (k := 0) rfl
            have a1 := blk_cell hS.ha (k := 1) rfl
            have a2 := blk_cell hS.ha (k := 2) rfl
            have a3 := blk_cell hS.ha (k := 3) rfl
            have a4 := blk_cell hS.ha (k := 4) rfl
            have a5 := blk_cell hS.ha (k := 5) rfl
            have b0 := blk_cell hS.hb (k := 0) rfl
            have b1 := blk_cell hS.hb (k := 1) rfl
            have b2 := blk_cell hS.hb (k := 2) rfl
            have b3 := blk_cell hS.hb (k := 3) rfl
            have b4 := blk_cell hS.hb (k := 4) rfl
            have b5 := blk_cell hS.hb (k := 5) rfl
            go_wp2_with fail
            go_quiet ((go_at_call 63; first | (with_reducible exact Calls.quiet_of (quiet_s (K3.out _))) | (with_reducible exact quiet_d (quiet_s (K3.out _))) | (with_reducible exact Calls.quiet_of (quiet_s (K4.out _))) | (with_reducible exact quiet_d (quiet_s (K4.out _)))))
            clear la lb lr a0 a1 a2 a3 a4 a5 b0 b1 b2 b3 b4 b5
            have hS := hS.keep (below_dr _ nq)
            generalize World.drewN _ nq = w6 at *
            have r0 := blk_cell hS.hres (k := 0) rfl
            have r1 := blk_cell hS.hres (k := 1) rfl
            have r2 := blk_cell hS.hres (k := 2) rfl
            have r3 := blk_cell hS.hres (k := 3) rfl
            have f0 := blk_free hS.hres 0
            have f1 := blk_free hS.hres 1
            have f2 := blk_free hS.hres 2
            have f3 := blk_free hS.hres 3
            go_wp2_with fail
            have hf := blk_store4 hS.hres (.int .u32 0) (.int .i64 0) (.int .i64 0) (.int .i64 0)
            have d0 := blk_cell hf (k := 0) rfl
            have d1 := blk_cell hf (k := 1) rfl
            have d2 := blk_cell hf (k := 2) rfl
            have d3 := blk_cell hf (k := 3) rfl
            have hbl := below_store4 hS.bel (show w.heap.size ≤ w.heap.size + 2 by omega) (.int .u32 0) (.int .i64 0) (.int .i64 0) (.int .i64 0)
            refine bodyPost_ret (v := .tuple #[.agg #[.int .u32 0, .int .i64 0, .int .i64 0, .int .i64 0], .int .i64 0, .int .i64 6]) (by simp [results, Try.results36, go_sem, d0, d1, d2, d3]) rfl ?_
            exact ⟨rfl, hbl⟩
      | false =>
        have hno : ¬ rightAll a b L := fun h => by have := h.2.2; rw [ht] at this; cases this
        have e1 : agrC a b L = Cfg.zero := by unfold agrC; rw [if_neg (fun h => hno h.1)]
        have e2 : agrN a b L = 0 := by unfold agrN; rw [if_neg (fun h => hno h.1)]
        have e3 : agrE a b L = 1 := by unfold agrE; rw [if_neg hno]
        rw [e1, e2, e3]
        rw [ht] at HT
        clear hA hB ra rb hno e1 e2 e3 ht
        go_enter Try.func36, Try.ntmps36
        go_wp2_with fail
        have hS : St w _ a b A cap L := St.start hv
        obtain ⟨w1, hw1⟩ : ∃ w1, ((w.alloc (.cells #[.int .i64 a.r, .int .u32 a.s, .int .i64 a.ld, .int .i64 a.md, .int .i64 a.lw, .int .i64 a.mw] 63)).alloc (.cells #[.int .i64 b.r, .int .u32 b.s, .int .i64 b.ld, .int .i64 b.md, .int .i64 b.lw, .int .i64 b.mw] 63)).alloc (.cells #[.int .u32 0, .int .i64 0, .int .i64 0, .int .i64 0] 72) = w1 := ⟨_, rfl⟩
        rw [hw1] at hS
        rw [hw1]
        clear hw1
        refine (HA.out _).mono ?_
        rintro e w2 ⟨rfl, hw9⟩
        have hb9 : Below w1.heap.size w1 w2 := hw9 ▸ (Below.refl _ _).alloc (Nat.le_refl _) _
        have hS := hS.keep hb9
        clear hw9 hb9
        have la := blk_lt hS.ha
        have lb := blk_lt hS.hb
        have lr := blk_lt hS.hres
        have a0 := blk_cell hS.ha (k := 0) rfl
        have a1 := blk_cell hS.ha (k := 1) rfl
        have a2 := blk_cell hS.ha (k := 2) rfl
        have a3 := blk_cell hS.ha (k := 3) rfl
        have a4 := blk_cell hS.ha (k := 4) rfl
        have a5 := blk_cell hS.ha (k := 5) rfl
        have b0 := blk_cell hS.hb (k := 0) rfl
        have b1 := blk_cell hS.hb (k := 1) rfl
        have b2 := blk_cell hS.hb (k := 2) rfl
        have b3 := blk_cell hS.hb (k := 3) rfl
        have b4 := blk_cell hS.hb (k := 4) rfl
        have b5 := blk_cell hS.hb (k := 5) rfl
        go_wp2_with fail
        refine (HB.out _).mono ?_
        rintro e w3 ⟨rfl, hw9⟩
        have hb9 : Below w2.heap.size w2 w3 := hw9 ▸ (Below.refl _ _).alloc (Nat.le_refl _) _
        have hS := hS.keep hb9
        clear hw9 hb9
        clear la lb lr a0 a1 a2 a3 a4 a5 b0 b1 b2 b3 b4 b5
        go_wp2_with fail
        refine (HT.out _ hS.vals).mono ?_
        rintro e w4 ⟨rfl, rfl⟩
        have r0 := blk_cell hS.hres (k := 0) rfl
        have r1 := blk_cell hS.hres (k := 1) rfl
        have r2 := blk_cell hS.hres (k := 2) rfl
        have r3 := blk_cell hS.hres (k := 3) rfl
        have f0 := blk_free hS.hres 0
        have f1 := blk_free hS.hres 1
        have f2 := blk_free hS.hres 2
        have f3 := blk_free hS.hres 3
        go_wp2_with fail
        have hf := blk_store4 hS.hres (.int .u32 0) (.int .i64 0) (.int .i64 0) (.int .i64 0)
        have d0 := blk_cell hf (k := 0) rfl
        have d1 := blk_cell hf (k := 1) rfl
        have d2 := blk_cell hf (k := 2) rfl
        have d3 := blk_cell hf (k := 3) rfl
        have hbl := below_store4 hS.bel (show w.heap.size ≤ w.heap.size + 2 by omega) (.int .u32 0) (.int .i64 0) (.int .i64 0) (.int .i64 0)
        refine bodyPost_ret (v := .tuple #[.agg #[.int .u32 0, .int .i64 0, .int .i64 0, .int .i64 0], .int .i64 0, .int .i64 1]) (by simp [results, Try.results36, go_sem, d0, d1, d2, d3]) rfl ?_
        exact ⟨rfl, hbl⟩
    · have hno : ¬ rightAll a b L := fun h => rb h.2.1
      have e1 : agrC a b L = Cfg.zero := by unfold agrC; rw [if_neg (fun h => hno h.1)]
      have e2 : agrN a b L = 0 := by unfold agrN; rw [if_neg (fun h => hno h.1)]
      have e3 : agrE a b L = 1 := by unfold agrE; rw [if_neg hno]
      rw [e1, e2, e3]
      rw [decide_eq_true ra] at hA
      rw [decide_eq_false rb] at hB
      have HA := hid hA
      have HB := hid hB
      clear hA hB ra rb hno e1 e2 e3
      go_enter Try.func36, Try.ntmps36
      go_wp2_with fail
      have hS : St w _ a b A cap L := St.start hv
      obtain ⟨w1, hw1⟩ : ∃ w1, ((w.alloc (.cells #[.int .i64 a.r, .int .u32 a.s, .int .i64 a.ld, .int .i64 a.md, .int .i64 a.lw, .int .i64 a.mw] 63)).alloc (.cells #[.int .i64 b.r, .int .u32 b.s, .int .i64 b.ld, .int .i64 b.md, .int .i64 b.lw, .int .i64 b.mw] 63)).alloc (.cells #[.int .u32 0, .int .i64 0, .int .i64 0, .int .i64 0] 72) = w1 := ⟨_, rfl⟩
      rw [hw1] at hS
      rw [hw1]
      clear hw1
      refine (HA.out _).mono ?_
      rintro e w2 ⟨rfl, hw9⟩
      have hb9 : Below w1.heap.size w1 w2 := hw9 ▸ (Below.refl _ _).alloc (Nat.le_refl _) _
      have hS := hS.keep hb9
      clear hw9 hb9
      have la := blk_lt hS.ha
      have lb := blk_lt hS.hb
      have lr := blk_lt hS.hres
      have a0 := blk_cell hS.ha (k := 0) rfl
      have a1 := blk_cell hS.ha (k := 1) rfl
      have a2 := blk_cell hS.ha (k := 2) rfl
      have a3 := blk_cell hS.ha (k := 3) rfl
      have a4 := blk_cell hS.ha (k := 4) rfl
      have a5 := blk_cell hS.ha (k := 5) rfl
      have b0 := blk_cell hS.hb (k := 0) rfl
      have b1 := blk_cell hS.hb (k := 1) rfl
      have b2 := blk_cell hS.hb (k := 2) rfl
      have b3 := blk_cell hS.hb (k := 3) rfl
      have b4 := blk_cell hS.hb (k := 4) rfl
      have b5 := blk_cell hS.hb (k := 5) rfl
      go_wp2_with fail
      refine (HB.out _).mono ?_
      rintro e w3 ⟨rfl, hw9⟩
      have hb9 : Below w2.heap.size w2 w3 := hw9 ▸ (Below.refl _ _).alloc (Nat.le_refl _) _
      have hS := hS.keep hb9
      clear hw9 hb9
      clear la lb lr a0 a1 a2 a3 a4 a5 b0 b1 b2 b3 b4 b5
      have r0 := blk_cell hS.hres (k := 0) rfl
      have r1 := blk_cell hS.hres (k := 1) rfl
      have r2 := blk_cell hS.hres (k := 2) rfl
      have r3 := blk_cell hS.hres (k := 3) rfl
      have f0 := blk_free hS.hres 0
      have f1 := blk_free hS.hres 1
      have f2 := blk_free hS.hres 2
      have f3 := blk_free hS.hres 3
      go_wp2_with fail
      have hf := blk_store4 hS.hres (.int .u32 0) (.int .i64 0) (.int .i64 0) (.int .i64 0)
      have d0 := blk_cell hf (k := 0) rfl
      have d1 := blk_cell hf (k := 1) rfl
      have d2 := blk_cell hf (k := 2) rfl
      have d3 := blk_cell hf (k := 3) rfl
      have hbl := below_store4 hS.bel (show w.heap.size ≤ w.heap.size + 2 by omega) (.int .u32 0) (.int .i64 0) (.int .i64 0) (.int .i64 0)
      refine bodyPost_ret (v := .tuple #[.agg #[.int .u32 0, .int .i64 0, .int .i64 0, .int .i64 0], .int .i64 0, .int .i64 1]) (by simp [results, Try.results36, go_sem, d0, d1, d2, d3]) rfl ?_
      exact ⟨rfl, hbl⟩
  · have hno : ¬ rightAll a b L := fun h => ra h.1
    have e1 : agrC a b L = Cfg.zero := by unfold agrC; rw [if_neg (fun h => hno h.1)]
    have e2 : agrN a b L = 0 := by unfold agrN; rw [if_neg (fun h => hno h.1)]
    have e3 : agrE a b L = 1 := by unfold agrE; rw [if_neg hno]
    rw [e1, e2, e3]
    rw [decide_eq_false ra] at hA
    have HA := hid hA
    clear hA hB ra hno e1 e2 e3
    go_enter Try.func36, Try.ntmps36
    go_wp2_with fail
    have hS : St w _ a b A cap L := St.start hv
    obtain ⟨w1, hw1⟩ : ∃ w1, ((w.alloc (.cells #[.int .i64 a.r, .int .u32 a.s, .int .i64 a.ld, .int .i64 a.md, .int .i64 a.lw, .int .i64 a.mw] 63)).alloc (.cells #[.int .i64 b.r, .int .u32 b.s, .int .i64 b.ld, .int .i64 b.md, .int .i64 b.lw, .int .i64 b.mw] 63)).alloc (.cells #[.int .u32 0, .int .i64 0, .int .i64 0, .int .i64 0] 72) = w1 := ⟨_, rfl⟩
    rw [hw1] at hS
    rw [hw1]
    clear hw1
    refine (HA.out _).mono ?_
    rintro e w2 ⟨rfl, hw9⟩
    have hb9 : Below w1.heap.size w1 w2 := hw9 ▸ (Below.refl _ _).alloc (Nat.le_refl _) _
    have hS := hS.keep hb9
    clear hw9 hb9
    have r0 := blk_cell hS.hres (k := 0) rfl
    have r1 := blk_cell hS.hres (k := 1) rfl
    have r2 := blk_cell hS.hres (k := 2) rfl
    have r3 := blk_cell hS.hres (k := 3) rfl
    have f0 := blk_free hS.hres 0
    have f1 := blk_free hS.hres 1
    have f2 := blk_free hS.hres 2
    have f3 := blk_free hS.hres 3
    go_wp2_with fail
    have hf := blk_store4 hS.hres (.int .u32 0) (.int .i64 0) (.int .i64 0) (.int .i64 0)
    have d0 := blk_cell hf (k := 0) rfl
    have d1 := blk_cell hf (k := 1) rfl
    have d2 := blk_cell hf (k := 2) rfl
    have d3 := blk_cell hf (k := 3) rfl
    have hbl := below_store4 hS.bel (show w.heap.size ≤ w.heap.size + 2 by omega) (.int .u32 0) (.int .i64 0) (.int .i64 0) (.int .i64 0)
    refine bodyPost_ret (v := .tuple #[.agg #[.int .u32 0, .int .i64 0, .int .i64 0, .int .i64 0], .int .i64 0, .int .i64 1]) (by simp [results, Try.results36, go_sem, d0, d1, d2, d3]) rfl ?_
    exact ⟨rfl, hbl⟩
end Go.Proofs.Ytfepefohaadecaa
