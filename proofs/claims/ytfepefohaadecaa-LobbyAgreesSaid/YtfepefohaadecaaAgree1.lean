/- lobby.Agree. -/
import Derived.Test.YtfepefohaadecaaAgreeP
import Derived.Test.YtfepefohaadecaaTree
namespace Go.Proofs.Ytfepefohaadecaa
open Go.RowKit
set_option maxRecDepth 100000
variable {w : World}
theorem blk_store4 {w : World} {b : Nat} {t : TypeId} {c0 c1 c2 c3 : Value} (h : w.heap[b]? = some (.cells #[c0, c1, c2, c3] t (0, 0))) (v0 v1 v2 v3 : Value) :
    ((((w.setCell ⟨b, 0, none⟩ v0).setCell ⟨b, 1, none⟩ v1).setCell ⟨b, 2, none⟩ v2).setCell ⟨b, 3, none⟩ v3).heap[b]? = some (.cells #[v0, v1, v2, v3] t (0, 0)) := by
  have := blk_set (blk_set (blk_set (blk_set h 0 v0) 1 v1) 2 v2) 3 v3
  simpa using this
theorem below_store4 {B : Nat} {w0 w : World} {b : Nat} (h : Below B w0 w) (hb : B ≤ b) (v0 v1 v2 v3 : Value) :
    Below B w0 ((((w.setCell ⟨b, 0, none⟩ v0).setCell ⟨b, 1, none⟩ v1).setCell ⟨b, 2, none⟩ v2).setCell ⟨b, 3, none⟩ v3) :=
  (((h.setCell (p := ⟨b, 0, none⟩) hb v0).setCell (p := ⟨b, 1, none⟩) hb v1).setCell (p := ⟨b, 2, none⟩) hb v2).setCell (p := ⟨b, 3, none⟩) hb v3
/-- both offers, and the room for the result, in memory -/
structure St (w0 w : World) (a b : Offer) (A : Option Addr) (cap : Nat) (L : List Int) : Prop where
  ha : w.heap[w0.heap.size]? = some (.cells #[.int .i64 a.r, .int .u32 a.s, .int .i64 a.ld, .int .i64 a.md, .int .i64 a.lw, .int .i64 a.mw] 63)
  hb : w.heap[w0.heap.size + 1]? = some (.cells #[.int .i64 b.r, .int .u32 b.s, .int .i64 b.ld, .int .i64 b.md, .int .i64 b.lw, .int .i64 b.mw] 63)
  hres : w.heap[w0.heap.size + 2]? = some (.cells #[.int .u32 0, .int .i64 0, .int .i64 0, .int .i64 0] 72 (0, 0))
  bel : Below w0.heap.size w0 w
  vals : Vals w 1 A L.length cap (intsL L)
theorem St.start {a b : Offer} {A : Option Addr} {cap : Nat} {L : List Int} (hv : Vals w 1 A L.length cap (intsL L)) :
    St w (((w.alloc (.cells #[.int .i64 a.r, .int .u32 a.s, .int .i64 a.ld, .int .i64 a.md, .int .i64 a.lw, .int .i64 a.mw] 63)).alloc (.cells #[.int .i64 b.r, .int .u32 b.s, .int .i64 b.ld, .int .i64 b.md, .int .i64 b.lw, .int .i64 b.mw] 63)).alloc (.cells #[.int .u32 0, .int .i64 0, .int .i64 0, .int .i64 0] 72)) a b A cap L := by
  refine ⟨blk_alloc (blk_alloc (blk_new w _) _) _, ?_, ?_, (((Below.refl _ w).alloc (Nat.le_refl _) _).alloc (by simp) _).alloc (by simp; omega) _, hv.keeps ((((Keeps.refl (fun _ => False) w).alloc _).alloc _).alloc _) (fun _ _ _ => id)⟩
  · have := blk_alloc (blk_new (w.alloc (.cells #[.int .i64 a.r, .int .u32 a.s, .int .i64 a.ld, .int .i64 a.md, .int .i64 a.lw, .int .i64 a.mw] 63)) (.cells #[.int .i64 b.r, .int .u32 b.s, .int .i64 b.ld, .int .i64 b.md, .int .i64 b.lw, .int .i64 b.mw] 63)) (.cells #[.int .u32 0, .int .i64 0, .int .i64 0, .int .i64 0] 72)
    rw [World.size_alloc] at this
    exact this
  · have := blk_new ((w.alloc (.cells #[.int .i64 a.r, .int .u32 a.s, .int .i64 a.ld, .int .i64 a.md, .int .i64 a.lw, .int .i64 a.mw] 63)).alloc (.cells #[.int .i64 b.r, .int .u32 b.s, .int .i64 b.ld, .int .i64 b.md, .int .i64 b.lw, .int .i64 b.mw] 63)) (.cells #[.int .u32 0, .int .i64 0, .int .i64 0, .int .i64 0] 72)
    rw [World.size_alloc, World.size_alloc] at this
    exact this
theorem St.keep {w0 w1 w2 : World} {a b : Offer} {A : Option Addr} {cap : Nat} {L : List Int} (h : St w0 w1 a b A cap L) (hk : Below w1.heap.size w1 w2) : St w0 w2 a b A cap L := by
  have k : Keeps (fun _ => False) w1 w2 := Keeps.of_below hk (fun k h1 h2 => by omega)
  exact ⟨k.heap h.ha id, k.heap h.hb id, k.heap h.hres id, h.bel.trans (hk.mono h.bel.size), h.vals.keeps k (fun _ _ _ => id)⟩
def AgrPost (w : World) (c : Cfg) (n er : Int) (e : Ending) (w' : World) : Prop := e = .returned (.tuple #[(.agg #[.int .u32 c.seed, .int .i64 c.delay, .int .i64 c.window, .int .i64 c.me]), .int .i64 n, .int .i64 er]) ∧ Below w.heap.size w w'
set_option maxHeartbeats 4000000 in
theorem lob_Agree (a b : Offer) {A : Option Addr} {cap : Nat} {L : List Int} (hv : Vals w 1 A L.length cap (intsL L)) (hmax : L.length ≤ 4096) :
    Calls Try.prog 35 #[(.agg #[.int .i64 a.r, .int .u32 a.s, .int .i64 a.ld, .int .i64 a.md, .int .i64 a.lw, .int .i64 a.mw]), (.agg #[.int .i64 b.r, .int .u32 b.s, .int .i64 b.ld, .int .i64 b.md, .int .i64 b.lw, .int .i64 b.mw]), .slice A L.length cap] w (AgrPost w (agrC a b L) (agrN a b L) (agrE a b L)) := by
  have HD := hid (fun W (hv : Vals W 1 A L.length cap (intsL L)) => lob_Delay hv hmax)
  have HW := hid (fun W (hv : Vals W 1 A L.length cap (intsL L)) => lob_Window hv hmax)
  have hA := fun W => lob_Right a W
  have hB := fun W => lob_Right b W
  by_cases ra : RightO a
  · by_cases rb : RightO b
    · rw [decide_eq_true ra] at hA
      rw [decide_eq_true rb] at hB
      have HA := hid hA
      have HB := hid hB
      cases ht : tripsB L with
      | true =>
        simp only [ht, if_true] at HD HW
        have hall : rightAll a b L := ⟨ra, rb, ht⟩
        cases hg : agreeB a b with
        | true =>
          have e1 : agrC a b L = cfgV a b L := by unfold agrC; rw [if_pos ⟨hall, hg⟩]
          have e2 : agrN a b L = min a.r b.r := by unfold agrN; rw [if_pos ⟨hall, hg⟩]
          have e3 : agrE a b L = 0 := by unfold agrE; rw [if_pos hall, if_pos hg]
          rw [e1, e2, e3]
          unfold agreeB at hg
          rw [Bool.and_eq_true] at hg
          have H1 := hid (fun W => lob_both a.ld a.md b.ld b.md W)
          have H2 := hid (fun W => lob_both a.lw a.mw b.lw b.mw W)
          rw [hg.1] at H1
          rw [hg.2] at H2
          have HSd := hid (fun W => dice_Seed (max a.s b.s) (min a.s b.s) W)
          unfold cfgV
          generalize delayV L = d1 at *
          generalize windowV L = d2 at *
          generalize seedV (max a.s b.s) (min a.s b.s) = sd at *
          generalize hx1 : max (max a.ld b.ld) (min d1 (min a.md b.md)) = x1 at *
          generalize hx2 : max (max a.lw b.lw) (min d2 (min a.mw b.mw)) = x2 at *
          generalize hx3 : min a.r b.r = x3 at *
          clear hA hB ra rb ht hall e1 e2 e3 hg
          by_cases hlt : a.s < b.s
          · rw [if_pos hlt]
            go_enter Try.func35, Try.ntmps35
            go_wp2_with fail
            have hS : St w _ a b A cap L := St.start hv
            refine (HD.out _ hS.vals).mono ?_
            rintro e w1 ⟨rfl, hb1⟩
            have hS := hS.keep hb1
            clear hb1
            go_wp2_with fail
            refine (HW.out _ hS.vals).mono ?_
            rintro e w2 ⟨rfl, hb2⟩
            have hS := hS.keep hb2
            clear hb2
            have la := blk_lt hS.ha
            have lb := blk_lt hS.hb
            have lr := blk_lt hS.hres
            have a0 := blk_cell hS.ha (k := 0) rfl
            have a1 := blk_cell hS.ha (k := 1) rfl
            have a2 := blk_cell hS.ha (k := 2) rfl
            have a3 := blk_cell hS.ha (k := 3) rfl
            have a4 := blk_cell hS.ha (k := 4) rfl
            have a5 := blk_cell hS.ha (k := 5) rfl
            have b0 := blk_cell hS.hb (k := 0) rfl
            have b1 := blk_cell hS.hb (k := 1) rfl
            have b2 := blk_cell hS.hb (k := 2) rfl
            have b3 := blk_cell hS.hb (k := 3) rfl
            have b4 := blk_cell hS.hb (k := 4) rfl
            have b5 := blk_cell hS.hb (k := 5) rfl
            go_wp2_with fail
            refine (HA.out _).mono ?_
            rintro e w3 ⟨rfl, hw3⟩
            have hb3 : Below w2.heap.size w2 w3 := hw3 ▸ (Below.refl _ _).alloc (Nat.le_refl _) _
            have hS := hS.keep hb3
            clear hw3 hb3
            clear la lb lr a0 a1 a2 a3 a4 a5 b0 b1 b2 b3 b4 b5
            have la := blk_lt hS.ha
            have lb := blk_lt hS.hb
            have lr := blk_lt hS.hres
            have a0 := blk_cell hS.ha (k := 0) rfl
            have a1 := blk_cell hS.ha (k := 1) rfl
            have a2 := blk_cell hS.ha (k := 2) rfl
            have a3 := blk_cell hS.ha (k := 3) rfl
            have a4 := blk_cell hS.ha (k := 4) rfl
            have a5 := blk_cell hS.ha (k := 5) rfl
            have b0 := blk_cell hS.hb (k := 0) rfl
            have b1 := blk_cell hS.hb (k := 1) rfl
            have b2 := blk_cell hS.hb (k := 2) rfl
            have b3 := blk_cell hS.hb (k := 3) rfl
            have b4 := blk_cell hS.hb (k := 4) rfl
            have b5 := blk_cell hS.hb (k := 5) rfl
            go_wp2_with fail
            refine (HB.out _).mono ?_
            rintro e w4 ⟨rfl, hw4⟩
            have hb4 : Below w3.heap.size w3 w4 := hw4 ▸ (Below.refl _ _).alloc (Nat.le_refl _) _
            have hS := hS.keep hb4
            clear hw4 hb4
            clear la lb lr a0 a1 a2 a3 a4 a5 b0 b1 b2 b3 b4 b5
            have la := blk_lt hS.ha
            have lb := blk_lt hS.hb
            have lr := blk_lt hS.hres
            have a0 := blk_cell hS.ha (k := 0) rfl
            have a1 := blk_cell hS.ha (k := 1) rfl
            have a2 := blk_cell hS.ha (k := 2) rfl
            have a3 := blk_cell hS.ha (k := 3) rfl
            have a4 := blk_cell hS.ha (k := 4) rfl
            have a5 := blk_cell hS.ha (k := 5) rfl
            have b0 := blk_cell hS.hb (k := 0) rfl
            have b1 := blk_cell hS.hb (k := 1) rfl
            have b2 := blk_cell hS.hb (k := 2) rfl
            have b3 := blk_cell hS.hb (k := 3) rfl
            have b4 := blk_cell hS.hb (k := 4) rfl
            have b5 := blk_cell hS.hb (k := 5) rfl
            go_wp2_with fail
            refine (H1.out _).mono ?_
            rintro e w5 ⟨rfl, rfl⟩
            go_wp2_with fail
            refine (H2.out _).mono ?_
            rintro e w5 ⟨rfl, rfl⟩
            go_wp2_with fail
            refine (HSd.out _).mono ?_
            rintro e w6 ⟨rfl, hb6⟩
            clear la lb lr a0 a1 a2 a3 a4 a5 b0 b1 b2 b3 b4 b5
            have hS := hS.keep hb6
            clear hb6
            have la := blk_lt hS.ha
            have lb := blk_lt hS.hb
            have lr := blk_lt hS.hres
            have a0 := blk_cell hS.ha (k := 0) rfl
            have a1 := blk_cell hS.ha (k := 1) rfl
            have a2 := blk_cell hS.ha (k := 2) rfl
            have a3 := blk_cell hS.ha (k := 3) rfl
            have a4 := blk_cell hS.ha (k := 4) rfl
            have a5 := blk_cell hS.ha (k := 5) rfl
            have b0 := blk_cell hS.hb (k := 0) rfl
            have b1 := blk_cell hS.hb (k := 1) rfl
            have b2 := blk_cell hS.hb (k := 2) rfl
            have b3 := blk_cell hS.hb (k := 3) rfl
            have b4 := blk_cell hS.hb (k := 4) rfl
            have b5 := blk_cell hS.hb (k := 5) rfl
            have r0 := blk_cell hS.hres (k := 0) rfl
            have r1 := blk_cell hS.hres (k := 1) rfl
            have r2 := blk_cell hS.hres (k := 2) rfl
            have r3 := blk_cell hS.hres (k := 3) rfl
            have f0 := blk_free hS.hres 0
            have f1 := blk_free hS.hres 1
            have f2 := blk_free hS.hres 2
            have f3 := blk_free hS.hres 3
            go_wp2_with fail
            clear la lb lr a0 a1 a2 a3 a4 a5 b0 b1 b2 b3 b4 b5
            clear r0 r1 r2 r3 f0 f1 f2 f3
            have hn : w.heap.size + 2 < w6.heap.size := blk_lt hS.hres
            have hb7 : Below w6.heap.size w6 (w6.alloc (.cells #[.int .u32 sd, .int .i64 x1, .int .i64 x2, .int .i64 1] 72)) := (Below.refl _ _).alloc (Nat.le_refl _) _
            have hS := hS.keep hb7
            have hC := blk_new w6 (.cells #[.int .u32 sd, .int .i64 x1, .int .i64 x2, .int .i64 1] 72)
            clear hb7
            generalize w6.alloc (.cells #[.int .u32 sd, .int .i64 x1, .int .i64 x2, .int .i64 1] 72) = w7 at *
            generalize w6.heap.size = B6 at *
            have y0 := keptS_cell (S := fun k => k = w.heap.size + 2) (w := w7.drew) (blk_cell hC (k := 0) rfl) (by simp; omega)
            have y1 := keptS_cell (S := fun k => k = w.heap.size + 2) (w := w7.drew) (blk_cell hC (k := 1) rfl) (by simp; omega)
            have y2 := keptS_cell (S := fun k => k = w.heap.size + 2) (w := w7.drew) (blk_cell hC (k := 2) rfl) (by simp; omega)
            have y3 := keptS_cell (S := fun k => k = w.heap.size + 2) (w := w7.drew) (blk_cell hC (k := 3) rfl) (by simp; omega)
            have y4 := keptS_cell (S := fun k => k = w.heap.size + 2) (w := w7.drew) (blk_cell hS.ha (k := 0) rfl) (by simp)
            have y5 := keptS_cell (S := fun k => k = w.heap.size + 2) (w := w7.drew) (blk_cell hS.hb (k := 0) rfl) (by simp)
            have r0 := blk_cell hS.hres (k := 0) rfl
            have r1 := blk_cell hS.hres (k := 1) rfl
            have r2 := blk_cell hS.hres (k := 2) rfl
            have r3 := blk_cell hS.hres (k := 3) rfl
            have f0 := blk_free hS.hres 0
            have f1 := blk_free hS.hres 1
            have f2 := blk_free hS.hres 2
            have f3 := blk_free hS.hres 3
            refine stages_start (by kernel_rfl) 9 rfl ?_
            refine stagek (fun k => k = w.heap.size + 2) [0, 1, 2, 3, 4, 5] [6, 7, 8] 0 rfl #[true, true, true, true, true, true, true, true, true] (by kernel_rfl) (by kernel_rfl) (fun _ _ _ d _ h => by cases d <;> exact h) ?_
            simp only [opsAt, List.map_cons, List.map_nil, List.getElem?_toArray, List.getElem?_cons_zero, List.getElem?_cons_succ, Option.getD_some]
            repeat (go_big_quiet_step (fail))
            refine wpQuiet_nil ?_
            refine links_cons (by first | rfl | simp [go_sem]) (fun K hK => ?_)
            go_simp
            refine hK _ _ (keptS (((((Keeps.refl (fun k => k = w.heap.size + 2) _).setCell (p := ⟨w.heap.size + 2, 0, none⟩) rfl _).setCell (p := ⟨w.heap.size + 2, 1, none⟩) rfl _).setCell (p := ⟨w.heap.size + 2, 2, none⟩) rfl _).setCell (p := ⟨w.heap.size + 2, 3, none⟩) rfl _)) ?_
            clear hK K
            try refine links_nil ?_
            refine links_cons (by first | rfl | simp [go_sem]) (fun K hK => ?_)
            go_simp
            refine hK _ _ (keptS (((((Keeps.refl (fun k => k = w.heap.size + 2) _).setCell (p := ⟨w.heap.size + 2, 0, none⟩) rfl _).setCell (p := ⟨w.heap.size + 2, 1, none⟩) rfl _).setCell (p := ⟨w.heap.size + 2, 2, none⟩) rfl _).setCell (p := ⟨w.heap.size + 2, 3, none⟩) rfl _)) ?_
            clear hK K
            try refine links_nil ?_
            refine links_cons (by first | rfl | simp [go_sem]) (fun K hK => ?_)
            go_simp
            refine hK _ _ (keptS (((((Keeps.refl (fun k => k = w.heap.size + 2) _).setCell (p := ⟨w.heap.size + 2, 0, none⟩) rfl _).setCell (p := ⟨w.heap.size + 2, 1, none⟩) rfl _).setCell (p := ⟨w.heap.size + 2, 2, none⟩) rfl _).setCell (p := ⟨w.heap.size + 2, 3, none⟩) rfl _)) ?_
            clear hK K
            try refine links_nil ?_
            refine stages_end (by kernel_rfl) ?_
            go_wp2_with fail
            have hf := blk_store4 hS.hres (.int .u32 sd) (.int .i64 x1) (.int .i64 x2) (.int .i64 1)
            have d0 := blk_cell hf (k := 0) rfl
            have d1 := blk_cell hf (k := 1) rfl
            have d2 := blk_cell hf (k := 2) rfl
            have d3 := blk_cell hf (k := 3) rfl
            have hbl := below_store4 hS.bel (show w.heap.size ≤ w.heap.size + 2 by omega) (.int .u32 sd) (.int .i64 x1) (.int .i64 x2) (.int .i64 1)
            refine bodyPost_ret (v := .tuple #[.agg #[.int .u32 sd, .int .i64 x1, .int .i64 x2, .int .i64 1], .int .i64 x3, .int .i64 0]) (by simp [results, Try.results35, go_sem, d0, d1, d2, d3]) rfl ?_
            exact ⟨rfl, hbl.drew⟩
          · rw [if_neg hlt]
            go_enter Try.func35, Try.ntmps35
            go_wp2_with fail
            have hS : St w _ a b A cap L := St.start hv
            refine (HD.out _ hS.vals).mono ?_
            rintro e w1 ⟨rfl, hb1⟩
            have hS := hS.keep hb1
            clear hb1
            go_wp2_with fail
            refine (HW.out _ hS.vals).mono ?_
            rintro e w2 ⟨rfl, hb2⟩
            have hS := hS.keep hb2
            clear hb2
            have la := blk_lt hS.ha
            have lb := blk_lt hS.hb
            have lr := blk_lt hS.hres
            have a0 := blk_cell hS.ha (k := 0) rfl
            have a1 := blk_cell hS.ha (k := 1) rfl
            have a2 := blk_cell hS.ha (k := 2) rfl
            have a3 := blk_cell hS.ha (k := 3) rfl
            have a4 := blk_cell hS.ha (k := 4) rfl
            have a5 := blk_cell hS.ha (k := 5) rfl
            have b0 := blk_cell hS.hb (k := 0) rfl
            have b1 := blk_cell hS.hb (k := 1) rfl
            have b2 := blk_cell hS.hb (k := 2) rfl
            have b3 := blk_cell hS.hb (k := 3) rfl
            have b4 := blk_cell hS.hb (k := 4) rfl
            have b5 := blk_cell hS.hb (k := 5) rfl
            go_wp2_with fail
            refine (HA.out _).mono ?_
            rintro e w3 ⟨rfl, hw3⟩
            have hb3 : Below w2.heap.size w2 w3 := hw3 ▸ (Below.refl _ _).alloc (Nat.le_refl _) _
            have hS := hS.keep hb3
            clear hw3 hb3
            clear la lb lr a0 a1 a2 a3 a4 a5 b0 b1 b2 b3 b4 b5
            have la := blk_lt hS.ha
            have lb := blk_lt hS.hb
            have lr := blk_lt hS.hres
            have a0 := blk_cell hS.ha (k := 0) rfl
            have a1 := blk_cell hS.ha (k := 1) rfl
            have a2 := blk_cell hS.ha (k := 2) rfl
            have a3 := blk_cell hS.ha (k := 3) rfl
            have a4 := blk_cell hS.ha (k := 4) rfl
            have a5 := blk_cell hS.ha (k := 5) rfl
            have b0 := blk_cell hS.hb (k := 0) rfl
            have b1 := blk_cell hS.hb (k := 1) rfl
            have b2 := blk_cell hS.hb (k := 2) rfl
            have b3 := blk_cell hS.hb (k := 3) rfl
            have b4 := blk_cell hS.hb (k := 4) rfl
            have b5 := blk_cell hS.hb (k := 5) rfl
            go_wp2_with fail
            refine (HB.out _).mono ?_
            rintro e w4 ⟨rfl, hw4⟩
            have hb4 : Below w3.heap.size w3 w4 := hw4 ▸ (Below.refl _ _).alloc (Nat.le_refl _) _
            have hS := hS.keep hb4
            clear hw4 hb4
            clear la lb lr a0 a1 a2 a3 a4 a5 b0 b1 b2 b3 b4 b5
            have la := blk_lt hS.ha
            have lb := blk_lt hS.hb
            have lr := blk_lt hS.hres
            have a0 := blk_cell hS.ha (k := 0) rfl
            have a1 := blk_cell hS.ha (k := 1) rfl
            have a2 := blk_cell hS.ha (k := 2) rfl
            have a3 := blk_cell hS.ha (k := 3) rfl
            have a4 := blk_cell hS.ha (k := 4) rfl
            have a5 := blk_cell hS.ha (k := 5) rfl
            have b0 := blk_cell hS.hb (k := 0) rfl
            have b1 := blk_cell hS.hb (k := 1) rfl
            have b2 := blk_cell hS.hb (k := 2) rfl
            have b3 := blk_cell hS.hb (k := 3) rfl
            have b4 := blk_cell hS.hb (k := 4) rfl
            have b5 := blk_cell hS.hb (k := 5) rfl
            go_wp2_with fail
            refine (H1.out _).mono ?_
            rintro e w5 ⟨rfl, rfl⟩
            go_wp2_with fail
            refine (H2.out _).mono ?_
            rintro e w5 ⟨rfl, rfl⟩
            go_wp2_with fail
            refine (HSd.out _).mono ?_
            rintro e w6 ⟨rfl, hb6⟩
            clear la lb lr a0 a1 a2 a3 a4 a5 b0 b1 b2 b3 b4 b5
            have hS := hS.keep hb6
            clear hb6
            have la := blk_lt hS.ha
            have lb := blk_lt hS.hb
            have lr := blk_lt hS.hres
            have a0 := blk_cell hS.ha (k := 0) rfl
            have a1 := blk_cell hS.ha (k := 1) rfl
            have a2 := blk_cell hS.ha (k := 2) rfl
            have a3 := blk_cell hS.ha (k := 3) rfl
            have a4 := blk_cell hS.ha (k := 4) rfl
            have a5 := blk_cell hS.ha (k := 5) rfl
            have b0 := blk_cell hS.hb (k := 0) rfl
            have b1 := blk_cell hS.hb (k := 1) rfl
            have b2 := blk_cell hS.hb (k := 2) rfl
            have b3 := blk_cell hS.hb (k := 3) rfl
            have b4 := blk_cell hS.hb (k := 4) rfl
            have b5 := blk_cell hS.hb (k := 5) rfl
            have r0 := blk_cell hS.hres (k := 0) rfl
            have r1 := blk_cell hS.hres (k := 1) rfl
            have r2 := blk_cell hS.hres (k := 2) rfl
            have r3 := blk_cell hS.hres (k := 3) rfl
            have f0 := blk_free hS.hres 0
            have f1 := blk_free hS.hres 1
            have f2 := blk_free hS.hres 2
            have f3 := blk_free hS.hres 3
            go_wp2_with fail
            clear la lb lr a0 a1 a2 a3 a4 a5 b0 b1 b2 b3 b4 b5
            clear r0 r1 r2 r3 f0 f1 f2 f3
            have hn : w.heap.size + 2 < w6.heap.size := blk_lt hS.hres
            have hb7 : Below w6.heap.size w6 (w6.alloc (.cells #[.int .u32 sd, .int .i64 x1, .int .i64 x2, .int .i64 0] 72)) := (Below.refl _ _).alloc (Nat.le_refl _) _
            have hS := hS.keep hb7
            have hC := blk_new w6 (.cells #[.int .u32 sd, .int .i64 x1, .int .i64 x2, .int .i64 0] 72)
            clear hb7
            generalize w6.alloc (.cells #[.int .u32 sd, .int .i64 x1, .int .i64 x2, .int .i64 0] 72) = w7 at *
            generalize w6.heap.size = B6 at *
            have y0 := keptS_cell (S := fun k => k = w.heap.size + 2) (w := w7.drew) (blk_cell hC (k := 0) rfl) (by simp; omega)
            have y1 := keptS_cell (S := fun k => k = w.heap.size + 2) (w := w7.drew) (blk_cell hC (k := 1) rfl) (by simp; omega)
            have y2 := keptS_cell (S := fun k => k = w.heap.size + 2) (w := w7.drew) (blk_cell hC (k := 2) rfl) (by simp; omega)
            have y3 := keptS_cell (S := fun k => k = w.heap.size + 2) (w := w7.drew) (blk_cell hC (k := 3) rfl) (by simp; omega)
            have y4 := keptS_cell (S := fun k => k = w.heap.size + 2) (w := w7.drew) (blk_cell hS.ha (k := 0) rfl) (by simp)
            have y5 := keptS_cell (S := fun k => k = w.heap.size + 2) (w := w7.drew) (blk_cell hS.hb (k := 0) rfl) (by simp)
            have r0 := blk_cell hS.hres (k := 0) rfl
            have r1 := blk_cell hS.hres (k := 1) rfl
            have r2 := blk_cell hS.hres (k := 2) rfl
            have r3 := blk_cell hS.hres (k := 3) rfl
            have f0 := blk_free hS.hres 0
            have f1 := blk_free hS.hres 1
            have f2 := blk_free hS.hres 2
            have f3 := blk_free hS.hres 3
            refine stages_start (by kernel_rfl) 9 rfl ?_
            refine stagek (fun k => k = w.heap.size + 2) [0, 1, 2, 3, 4, 5] [6, 7, 8] 0 rfl #[true, true, true, true, true, true, true, true, true] (by kernel_rfl) (by kernel_rfl) (fun _ _ _ d _ h => by cases d <;> exact h) ?_
            simp only [opsAt, List.map_cons, List.map_nil, List.getElem?_toArray, List.getElem?_cons_zero, List.getElem?_cons_succ, Option.getD_some]
            repeat (go_big_quiet_step (fail))
            refine wpQuiet_nil ?_
            refine links_cons (by first | rfl | simp [go_sem]) (fun K hK => ?_)
            go_simp
            refine hK _ _ (keptS (((((Keeps.refl (fun k => k = w.heap.size + 2) _).setCell (p := ⟨w.heap.size + 2, 0, none⟩) rfl _).setCell (p := ⟨w.heap.size + 2, 1, none⟩) rfl _).setCell (p := ⟨w.heap.size + 2, 2, none⟩) rfl _).setCell (p := ⟨w.heap.size + 2, 3, none⟩) rfl _)) ?_
            clear hK K
            try refine links_nil ?_
            refine links_cons (by first | rfl | simp [go_sem]) (fun K hK => ?_)
            go_simp
            refine hK _ _ (keptS (((((Keeps.refl (fun k => k = w.heap.size + 2) _).setCell (p := ⟨w.heap.size + 2, 0, none⟩) rfl _).setCell (p := ⟨w.heap.size + 2, 1, none⟩) rfl _).setCell (p := ⟨w.heap.size + 2, 2, none⟩) rfl _).setCell (p := ⟨w.heap.size + 2, 3, none⟩) rfl _)) ?_
            clear hK K
            try refine links_nil ?_
            refine links_cons (by first | rfl | simp [go_sem]) (fun K hK => ?_)
            go_simp
            refine hK _ _ (keptS (((((Keeps.refl (fun k => k = w.heap.size + 2) _).setCell (p := ⟨w.heap.size + 2, 0, none⟩) rfl _).setCell (p := ⟨w.heap.size + 2, 1, none⟩) rfl _).setCell (p := ⟨w.heap.size + 2, 2, none⟩) rfl _).setCell (p := ⟨w.heap.size + 2, 3, none⟩) rfl _)) ?_
            clear hK K
            try refine links_nil ?_
            refine stages_end (by kernel_rfl) ?_
            go_wp2_with fail
            have hf := blk_store4 hS.hres (.int .u32 sd) (.int .i64 x1) (.int .i64 x2) (.int .i64 0)
            have d0 := blk_cell hf (k := 0) rfl
            have d1 := blk_cell hf (k := 1) rfl
            have d2 := blk_cell hf (k := 2) rfl
            have d3 := blk_cell hf (k := 3) rfl
            have hbl := below_store4 hS.bel (show w.heap.size ≤ w.heap.size + 2 by omega) (.int .u32 sd) (.int .i64 x1) (.int .i64 x2) (.int .i64 0)
            refine bodyPost_ret (v := .tuple #[.agg #[.int .u32 sd, .int .i64 x1, .int .i64 x2, .int .i64 0], .int .i64 x3, .int .i64 0]) (by simp [results, Try.results35, go_sem, d0, d1, d2, d3]) rfl ?_
            exact ⟨rfl, hbl.drew⟩
        | false =>
          have e1 : agrC a b L = Cfg.zero := by unfold agrC; rw [if_neg (fun h => by rw [hg] at h; cases h.2)]
          have e2 : agrN a b L = 0 := by unfold agrN; rw [if_neg (fun h => by rw [hg] at h; cases h.2)]
          have e3 : agrE a b L = 6 := by unfold agrE; rw [if_pos hall, hg]; rfl
          rw [e1, e2, e3]
          unfold agreeB at hg
          have H1 := hid (fun W => lob_both a.ld a.md b.ld b.md W)
          have H2 := hid (fun W => lob_both a.lw a.mw b.lw b.mw W)
          generalize delayV L = d1 at *
          generalize windowV L = d2 at *
          cases hg1 : decide (max a.ld b.ld ≤ min a.md b.md) with
          | false =>
            rw [hg1] at H1
            clear hA hB ra rb ht hall e1 e2 e3 hg hg1
            go_enter Try.func35, Try.ntmps35
            go_wp2_with fail
            have hS : St w _ a b A cap L := St.start hv
            refine (HD.out _ hS.vals).mono ?_
            rintro e w1 ⟨rfl, hb1⟩
            have hS := hS.keep hb1
            clear hb1
            go_wp2_with fail
            refine (HW.out _ hS.vals).mono ?_
            rintro e w2 ⟨rfl, hb2⟩
            have hS := hS.keep hb2
            clear hb2
            have la := blk_lt hS.ha
            have lb := blk_lt hS.hb
            have lr := blk_lt hS.hres
            have a0 := blk_cell hS.ha (k := 0) rfl
            have a1 := blk_cell hS.ha (k := 1) rfl
            have a2 := blk_cell hS.ha (k := 2) rfl
            have a3 := blk_cell hS.ha (k := 3) rfl
            have a4 := blk_cell hS.ha (k := 4) rfl
            have a5 := blk_cell hS.ha (k := 5) rfl
            have b0 := blk_cell hS.hb (k := 0) rfl
            have b1 := blk_cell hS.hb (k := 1) rfl
            have b2 := blk_cell hS.hb (k := 2) rfl
            have b3 := blk_cell hS.hb (k := 3) rfl
            have b4 := blk_cell hS.hb (k := 4) rfl
            have b5 := blk_cell hS.hb (k := 5) rfl
            go_wp2_with fail
            refine (HA.out _).mono ?_
            rintro e w3 ⟨rfl, hw3⟩
            have hb3 : Below w2.heap.size w2 w3 := hw3 ▸ (Below.refl _ _).alloc (Nat.le_refl _) _
            have hS := hS.keep hb3
            clear hw3 hb3
            clear la lb lr a0 a1 a2 a3 a4 a5 b0 b1 b2 b3 b4 b5
            have la := blk_lt hS.ha
            have lb := blk_lt hS.hb
            have lr := blk_lt hS.hres
            have a0 := blk_cell hS.ha (k := 0) rfl
            have a1 := blk_cell hS.ha (k := 1) rfl
            have a2 := blk_cell hS.ha (k := 2) rfl
            have a3 := blk_cell hS.ha (k := 3) rfl
            have a4 := blk_cell hS.ha (k := 4) rfl
            have a5 := blk_cell hS.ha (k := 5) rfl
            have b0 := blk_cell hS.hb (k := 0) rfl
            have b1 := blk_cell hS.hb (k := 1) rfl
            have b2 := blk_cell hS.hb (k := 2) rfl
            have b3 := blk_cell hS.hb (k := 3) rfl
            have b4 := blk_cell hS.hb (k := 4) rfl
            have b5 := blk_cell hS.hb (k := 5) rfl
            go_wp2_with fail
            refine (HB.out _).mono ?_
            rintro e w4 ⟨rfl, hw4⟩
            have hb4 : Below w3.heap.size w3 w4 := hw4 ▸ (Below.refl _ _).alloc (Nat.le_refl _) _
            have hS := hS.keep hb4
            clear hw4 hb4
            clear la lb lr a0 a1 a2 a3 a4 a5 b0 b1 b2 b3 b4 b5
            have la := blk_lt hS.ha
            have lb := blk_lt hS.hb
            have lr := blk_lt hS.hres
            have a0 := blk_cell hS.ha (k := 0) rfl
            have a1 := blk_cell hS.ha (k := 1) rfl
            have a2 := blk_cell hS.ha (k := 2) rfl
            have a3 := blk_cell hS.ha (k := 3) rfl
            have a4 := blk_cell hS.ha (k := 4) rfl
            have a5 := blk_cell hS.ha (k := 5) rfl
            have b0 := blk_cell hS.hb (k := 0) rfl
            have b1 := blk_cell hS.hb (k := 1) rfl
            have b2 := blk_cell hS.hb (k := 2) rfl
            have b3 := blk_cell hS.hb (k := 3) rfl
            have b4 := blk_cell hS.hb (k := 4) rfl
            have b5 := blk_cell hS.hb (k := 5) rfl
            go_wp2_with fail
            refine (H1.out _).mono ?_
            rintro e w5 ⟨rfl, rfl⟩
            go_wp2_with fail
            refine (H2.out _).mono ?_
            rintro e w5 ⟨rfl, rfl⟩
            have r0 := blk_cell hS.hres (k := 0) rfl
            have r1 := blk_cell hS.hres (k := 1) rfl
            have r2 := blk_cell hS.hres (k := 2) rfl
            have r3 := blk_cell hS.hres (k := 3) rfl
            have f0 := blk_free hS.hres 0
            have f1 := blk_free hS.hres 1
            have f2 := blk_free hS.hres 2
            have f3 := blk_free hS.hres 3
            go_wp2_with fail
            have hf := blk_store4 hS.hres (.int .u32 0) (.int .i64 0) (.int .i64 0) (.int .i64 0)
            have d0 := blk_cell hf (k := 0) rfl
            have d1 := blk_cell hf (k := 1) rfl
            have d2 := blk_cell hf (k := 2) rfl
            have d3 := blk_cell hf (k := 3) rfl
            have hbl := below_store4 hS.bel (show w.heap.size ≤ w.heap.size + 2 by omega) (.int .u32 0) (.int .i64 0) (.int .i64 0) (.int .i64 0)
            refine bodyPost_ret (v := .tuple #[.agg #[.int .u32 0, .int .i64 0, .int .i64 0, .int .i64 0], .int .i64 0, .int .i64 6]) (by simp [results, Try.results35, go_sem, d0, d1, d2, d3]) rfl ?_
            exact ⟨rfl, hbl⟩
          | true =>
            rw [hg1, Bool.true_and] at hg
            rw [hg1] at H1
            rw [hg] at H2
            clear hA hB ra rb ht hall e1 e2 e3 hg hg1
            go_enter Try.func35, Try.ntmps35
            go_wp2_with fail
            have hS : St w _ a b A cap L := St.start hv
            refine (HD.out _ hS.vals).mono ?_
            rintro e w1 ⟨rfl, hb1⟩
            have hS := hS.keep hb1
            clear hb1
            go_wp2_with fail
            refine (HW.out _ hS.vals).mono ?_
            rintro e w2 ⟨rfl, hb2⟩
            have hS := hS.keep hb2
            clear hb2
            have la := blk_lt hS.ha
            have lb := blk_lt hS.hb
            have lr := blk_lt hS.hres
            have a0 := blk_cell hS.ha (k := 0) rfl
            have a1 := blk_cell hS.ha (k := 1) rfl
            have a2 := blk_cell hS.ha (k := 2) rfl
            have a3 := blk_cell hS.ha (k := 3) rfl
            have a4 := blk_cell hS.ha (k := 4) rfl
            have a5 := blk_cell hS.ha (k := 5) rfl
            have b0 := blk_cell hS.hb (k := 0) rfl
            have b1 := blk_cell hS.hb (k := 1) rfl
            have b2 := blk_cell hS.hb (k := 2) rfl
            have b3 := blk_cell hS.hb (k := 3) rfl
            have b4 := blk_cell hS.hb (k := 4) rfl
            have b5 := blk_cell hS.hb (k := 5) rfl
            go_wp2_with fail
            refine (HA.out _).mono ?_
            rintro e w3 ⟨rfl, hw3⟩
            have hb3 : Below w2.heap.size w2 w3 := hw3 ▸ (Below.refl _ _).alloc (Nat.le_refl _) _
            have hS := hS.keep hb3
            clear hw3 hb3
            clear la lb lr a0 a1 a2 a3 a4 a5 b0 b1 b2 b3 b4 b5
            have la := blk_lt hS.ha
            have lb := blk_lt hS.hb
            have lr := blk_lt hS.hres
            have a0 := blk_cell hS.ha (k := 0) rfl
            have a1 := blk_cell hS.ha (k := 1) rfl
            have a2 := blk_cell hS.ha (k := 2) rfl
            have a3 := blk_cell hS.ha (k := 3) rfl
            have a4 := blk_cell hS.ha (k := 4) rfl
            have a5 := blk_cell hS.ha (k := 5) rfl
            have b0 := blk_cell hS.hb (k := 0) rfl
            have b1 := blk_cell hS.hb (k := 1) rfl
            have b2 := blk_cell hS.hb (k := 2) rfl
            have b3 := blk_cell hS.hb (k := 3) rfl
            have b4 := blk_cell hS.hb (k := 4) rfl
            have b5 := blk_cell hS.hb (k := 5) rfl
            go_wp2_with fail
            refine (HB.out _).mono ?_
            rintro e w4 ⟨rfl, hw4⟩
            have hb4 : Below w3.heap.size w3 w4 := hw4 ▸ (Below.refl _ _).alloc (Nat.le_refl _) _
            have hS := hS.keep hb4
            clear hw4 hb4
            clear la lb lr a0 a1 a2 a3 a4 a5 b0 b1 b2 b3 b4 b5
            have la := blk_lt hS.ha
            have lb := blk_lt hS.hb
            have lr := blk_lt hS.hres
            have a0 := blk_cell hS.ha (k := 0) rfl
            have a1 := blk_cell hS.ha (k := 1) rfl
            have a2 := blk_cell hS.ha (k := 2) rfl
            have a3 := blk_cell hS.ha (k := 3) rfl
            have a4 := blk_cell hS.ha (k := 4) rfl
            have a5 := blk_cell hS.ha (k := 5) rfl
            have b0 := blk_cell hS.hb (k := 0) rfl
            have b1 := blk_cell hS.hb (k := 1) rfl
            have b2 := blk_cell hS.hb (k := 2) rfl
            have b3 := blk_cell hS.hb (k := 3) rfl
            have b4 := blk_cell hS.hb (k := 4) rfl
            have b5 := blk_cell hS.hb (k := 5) rfl
            go_wp2_with fail
            refine (H1.out _).mono ?_
            rintro e w5 ⟨rfl, rfl⟩
            go_wp2_with fail
            refine (H2.out _).mono ?_
            rintro e w5 ⟨rfl, rfl⟩
            have r0 := blk_cell hS.hres (k := 0) rfl
            have r1 := blk_cell hS.hres (k := 1) rfl
            have r2 := blk_cell hS.hres (k := 2) rfl
            have r3 := blk_cell hS.hres (k := 3) rfl
            have f0 := blk_free hS.hres 0
            have f1 := blk_free hS.hres 1
            have f2 := blk_free hS.hres 2
            have f3 := blk_free hS.hres 3
            go_wp2_with fail
            have hf := blk_store4 hS.hres (.int .u32 0) (.int .i64 0) (.int .i64 0) (.int .i64 0)
            have d0 := blk_cell hf (k := 0) rfl
            have d1 := blk_cell hf (k := 1) rfl
            have d2 := blk_cell hf (k := 2) rfl
            have d3 := blk_cell hf (k := 3) rfl
            have hbl := below_store4 hS.bel (show w.heap.size ≤ w.heap.size + 2 by omega) (.int .u32 0) (.int .i64 0) (.int .i64 0) (.int .i64 0)
            refine bodyPost_ret (v := .tuple #[.agg #[.int .u32 0, .int .i64 0, .int .i64 0, .int .i64 0], .int .i64 0, .int .i64 6]) (by simp [results, Try.results35, go_sem, d0, d1, d2, d3]) rfl ?_
            exact ⟨rfl, hbl⟩
      | false =>
        have hno : ¬ rightAll a b L := fun h => by have := h.2.2; rw [ht] at this; cases this
        have e1 : agrC a b L = Cfg.zero := by unfold agrC; rw [if_neg (fun h => hno h.1)]
        have e2 : agrN a b L = 0 := by unfold agrN; rw [if_neg (fun h => hno h.1)]
        have e3 : agrE a b L = 1 := by unfold agrE; rw [if_neg hno]
        rw [e1, e2, e3]
        simp only [ht, Bool.false_eq_true, if_false] at HD HW
        clear hA hB ra rb hno e1 e2 e3 ht
        go_enter Try.func35, Try.ntmps35
        go_wp2_with fail
        have hS : St w _ a b A cap L := St.start hv
        refine (HD.out _ hS.vals).mono ?_
        rintro e w1 ⟨rfl, hb1⟩
        have hS := hS.keep hb1
        clear hb1
        go_wp2_with fail
        refine (HW.out _ hS.vals).mono ?_
        rintro e w2 ⟨rfl, hb2⟩
        have hS := hS.keep hb2
        clear hb2
        have la := blk_lt hS.ha
        have lb := blk_lt hS.hb
        have lr := blk_lt hS.hres
        have a0 := blk_cell hS.ha (k := 0) rfl
        have a1 := blk_cell hS.ha (k := 1) rfl
        have a2 := blk_cell hS.ha (k := 2) rfl
        have a3 := blk_cell hS.ha (k := 3) rfl
        have a4 := blk_cell hS.ha (k := 4) rfl
        have a5 := blk_cell hS.ha (k := 5) rfl
        have b0 := blk_cell hS.hb (k := 0) rfl
        have b1 := blk_cell hS.hb (k := 1) rfl
        have b2 := blk_cell hS.hb (k := 2) rfl
        have b3 := blk_cell hS.hb (k := 3) rfl
        have b4 := blk_cell hS.hb (k := 4) rfl
        have b5 := blk_cell hS.hb (k := 5) rfl
        go_wp2_with fail
        refine (HA.out _).mono ?_
        rintro e w3 ⟨rfl, hw3⟩
        have hb3 : Below w2.heap.size w2 w3 := hw3 ▸ (Below.refl _ _).alloc (Nat.le_refl _) _
        have hS := hS.keep hb3
        clear hw3 hb3
        clear la lb lr a0 a1 a2 a3 a4 a5 b0 b1 b2 b3 b4 b5
        have la := blk_lt hS.ha
        have lb := blk_lt hS.hb
        have lr := blk_lt hS.hres
        have a0 := blk_cell hS.ha (k := 0) rfl
        have a1 := blk_cell hS.ha (k := 1) rfl
        have a2 := blk_cell hS.ha (k := 2) rfl
        have a3 := blk_cell hS.ha (k := 3) rfl
        have a4 := blk_cell hS.ha (k := 4) rfl
        have a5 := blk_cell hS.ha (k := 5) rfl
        have b0 := blk_cell hS.hb (k := 0) rfl
        have b1 := blk_cell hS.hb (k := 1) rfl
        have b2 := blk_cell hS.hb (k := 2) rfl
        have b3 := blk_cell hS.hb (k := 3) rfl
        have b4 := blk_cell hS.hb (k := 4) rfl
        have b5 := blk_cell hS.hb (k := 5) rfl
        go_wp2_with fail
        refine (HB.out _).mono ?_
        rintro e w4 ⟨rfl, hw4⟩
        have hb4 : Below w3.heap.size w3 w4 := hw4 ▸ (Below.refl _ _).alloc (Nat.le_refl _) _
        have hS := hS.keep hb4
        clear hw4 hb4
        clear la lb lr a0 a1 a2 a3 a4 a5 b0 b1 b2 b3 b4 b5
        have r0 := blk_cell hS.hres (k := 0) rfl
        have r1 := blk_cell hS.hres (k := 1) rfl
        have r2 := blk_cell hS.hres (k := 2) rfl
        have r3 := blk_cell hS.hres (k := 3) rfl
        have f0 := blk_free hS.hres 0
        have f1 := blk_free hS.hres 1
        have f2 := blk_free hS.hres 2
        have f3 := blk_free hS.hres 3
        go_wp2_with fail
        have hf := blk_store4 hS.hres (.int .u32 0) (.int .i64 0) (.int .i64 0) (.int .i64 0)
        have d0 := blk_cell hf (k := 0) rfl
        have d1 := blk_cell hf (k := 1) rfl
        have d2 := blk_cell hf (k := 2) rfl
        have d3 := blk_cell hf (k := 3) rfl
        have hbl := below_store4 hS.bel (show w.heap.size ≤ w.heap.size + 2 by omega) (.int .u32 0) (.int .i64 0) (.int .i64 0) (.int .i64 0)
        refine bodyPost_ret (v := .tuple #[.agg #[.int .u32 0, .int .i64 0, .int .i64 0, .int .i64 0], .int .i64 0, .int .i64 1]) (by simp [results, Try.results35, go_sem, d0, d1, d2, d3]) rfl ?_
        exact ⟨rfl, hbl⟩
    · have hno : ¬ rightAll a b L := fun h => rb h.2.1
      have e1 : agrC a b L = Cfg.zero := by unfold agrC; rw [if_neg (fun h => hno h.1)]
      have e2 : agrN a b L = 0 := by unfold agrN; rw [if_neg (fun h => hno h.1)]
      have e3 : agrE a b L = 1 := by unfold agrE; rw [if_neg hno]
      rw [e1, e2, e3, decide_eq_true ra] at *
      rw [decide_eq_false rb] at hB
      have HA := hid hA
      have HB := hid hB
      clear hA hB ra rb hno e1 e2 e3
      generalize (if tripsB L = true then delayV L else 0) = x1 at HD
      generalize (if tripsB L = true then windowV L else 0) = x2 at HW
      generalize (if tripsB L = true then (0 : Int) else 1) = x3 at HD HW
      go_enter Try.func35, Try.ntmps35
      go_wp2_with fail
      have hS : St w _ a b A cap L := St.start hv
      refine (HD.out _ hS.vals).mono ?_
      rintro e w1 ⟨rfl, hb1⟩
      have hS := hS.keep hb1
      clear hb1
      go_wp2_with fail
      refine (HW.out _ hS.vals).mono ?_
      rintro e w2 ⟨rfl, hb2⟩
      have hS := hS.keep hb2
      clear hb2
      have la := blk_lt hS.ha
      have lb := blk_lt hS.hb
      have lr := blk_lt hS.hres
      have a0 := blk_cell hS.ha (k := 0) rfl
      have a1 := blk_cell hS.ha (k := 1) rfl
      have a2 := blk_cell hS.ha (k := 2) rfl
      have a3 := blk_cell hS.ha (k := 3) rfl
      have a4 := blk_cell hS.ha (k := 4) rfl
      have a5 := blk_cell hS.ha (k := 5) rfl
      have b0 := blk_cell hS.hb (k := 0) rfl
      have b1 := blk_cell hS.hb (k := 1) rfl
      have b2 := blk_cell hS.hb (k := 2) rfl
      have b3 := blk_cell hS.hb (k := 3) rfl
      have b4 := blk_cell hS.hb (k := 4) rfl
      have b5 := blk_cell hS.hb (k := 5) rfl
      go_wp2_with fail
      refine (HA.out _).mono ?_
      rintro e w3 ⟨rfl, hw3⟩
      have hb3 : Below w2.heap.size w2 w3 := hw3 ▸ (Below.refl _ _).alloc (Nat.le_refl _) _
      have hS := hS.keep hb3
      clear hw3 hb3
      clear la lb lr a0 a1 a2 a3 a4 a5 b0 b1 b2 b3 b4 b5
      have la := blk_lt hS.ha
      have lb := blk_lt hS.hb
      have lr := blk_lt hS.hres
      have a0 := blk_cell hS.ha (k := 0) rfl
      have a1 := blk_cell hS.ha (k := 1) rfl
      have a2 := blk_cell hS.ha (k := 2) rfl
      have a3 := blk_cell hS.ha (k := 3) rfl
      have a4 := blk_cell hS.ha (k := 4) rfl
      have a5 := blk_cell hS.ha (k := 5) rfl
      have b0 := blk_cell hS.hb (k := 0) rfl
      have b1 := blk_cell hS.hb (k := 1) rfl
      have b2 := blk_cell hS.hb (k := 2) rfl
      have b3 := blk_cell hS.hb (k := 3) rfl
      have b4 := blk_cell hS.hb (k := 4) rfl
      have b5 := blk_cell hS.hb (k := 5) rfl
      go_wp2_with fail
      refine (HB.out _).mono ?_
      rintro e w4 ⟨rfl, hw4⟩
      have hb4 : Below w3.heap.size w3 w4 := hw4 ▸ (Below.refl _ _).alloc (Nat.le_refl _) _
      have hS := hS.keep hb4
      clear hw4 hb4
      clear la lb lr a0 a1 a2 a3 a4 a5 b0 b1 b2 b3 b4 b5
      have r0 := blk_cell hS.hres (k := 0) rfl
      have r1 := blk_cell hS.hres (k := 1) rfl
      have r2 := blk_cell hS.hres (k := 2) rfl
      have r3 := blk_cell hS.hres (k := 3) rfl
      have f0 := blk_free hS.hres 0
      have f1 := blk_free hS.hres 1
      have f2 := blk_free hS.hres 2
      have f3 := blk_free hS.hres 3
      go_wp2_with fail
      have hf := blk_store4 hS.hres (.int .u32 0) (.int .i64 0) (.int .i64 0) (.int .i64 0)
      have d0 := blk_cell hf (k := 0) rfl
      have d1 := blk_cell hf (k := 1) rfl
      have d2 := blk_cell hf (k := 2) rfl
      have d3 := blk_cell hf (k := 3) rfl
      have hbl := below_store4 hS.bel (show w.heap.size ≤ w.heap.size + 2 by omega) (.int .u32 0) (.int .i64 0) (.int .i64 0) (.int .i64 0)
      refine bodyPost_ret (v := .tuple #[.agg #[.int .u32 0, .int .i64 0, .int .i64 0, .int .i64 0], .int .i64 0, .int .i64 1]) (by simp [results, Try.results35, go_sem, d0, d1, d2, d3]) rfl ?_
      exact ⟨rfl, hbl⟩
  · have hno : ¬ rightAll a b L := fun h => ra h.1
    have e1 : agrC a b L = Cfg.zero := by unfold agrC; rw [if_neg (fun h => hno h.1)]
    have e2 : agrN a b L = 0 := by unfold agrN; rw [if_neg (fun h => hno h.1)]
    have e3 : agrE a b L = 1 := by unfold agrE; rw [if_neg hno]
    rw [e1, e2, e3]
    rw [decide_eq_false ra] at hA
    have HA := hid hA
    clear hA hB ra hno e1 e2 e3
    generalize (if tripsB L = true then delayV L else 0) = x1 at HD
    generalize (if tripsB L = true then windowV L else 0) = x2 at HW
    generalize (if tripsB L = true then (0 : Int) else 1) = x3 at HD HW
    go_enter Try.func35, Try.ntmps35
    go_wp2_with fail
    have hS : St w _ a b A cap L := St.start hv
    refine (HD.out _ hS.vals).mono ?_
    rintro e w1 ⟨rfl, hb1⟩
    have hS := hS.keep hb1
    clear hb1
    go_wp2_with fail
    refine (HW.out _ hS.vals).mono ?_
    rintro e w2 ⟨rfl, hb2⟩
    have hS := hS.keep hb2
    clear hb2
    have la := blk_lt hS.ha
    have lb := blk_lt hS.hb
    have lr := blk_lt hS.hres
    have a0 := blk_cell hS.ha (k := 0) rfl
    have a1 := blk_cell hS.ha (k := 1) rfl
    have a2 := blk_cell hS.ha (k := 2) rfl
    have a3 := blk_cell hS.ha (k := 3) rfl
    have a4 := blk_cell hS.ha (k := 4) rfl
    have a5 := blk_cell hS.ha (k := 5) rfl
    have b0 := blk_cell hS.hb (k := 0) rfl
    have b1 := blk_cell hS.hb (k := 1) rfl
    have b2 := blk_cell hS.hb (k := 2) rfl
    have b3 := blk_cell hS.hb (k := 3) rfl
    have b4 := blk_cell hS.hb (k := 4) rfl
    have b5 := blk_cell hS.hb (k := 5) rfl
    go_wp2_with fail
    refine (HA.out _).mono ?_
    rintro e w3 ⟨rfl, hw3⟩
    have hb3 : Below w2.heap.size w2 w3 := hw3 ▸ (Below.refl _ _).alloc (Nat.le_refl _) _
    have hS := hS.keep hb3
    clear hw3 hb3
    clear la lb lr a0 a1 a2 a3 a4 a5 b0 b1 b2 b3 b4 b5
    have r0 := blk_cell hS.hres (k := 0) rfl
    have r1 := blk_cell hS.hres (k := 1) rfl
    have r2 := blk_cell hS.hres (k := 2) rfl
    have r3 := blk_cell hS.hres (k := 3) rfl
    have f0 := blk_free hS.hres 0
    have f1 := blk_free hS.hres 1
    have f2 := blk_free hS.hres 2
    have f3 := blk_free hS.hres 3
    go_wp2_with fail
    have hf := blk_store4 hS.hres (.int .u32 0) (.int .i64 0) (.int .i64 0) (.int .i64 0)
    have d0 := blk_cell hf (k := 0) rfl
    have d1 := blk_cell hf (k := 1) rfl
    have d2 := blk_cell hf (k := 2) rfl
    have d3 := blk_cell hf (k := 3) rfl
    have hbl := below_store4 hS.bel (show w.heap.size ≤ w.heap.size + 2 by omega) (.int .u32 0) (.int .i64 0) (.int .i64 0) (.int .i64 0)
    refine bodyPost_ret (v := .tuple #[.agg #[.int .u32 0, .int .i64 0, .int .i64 0, .int .i64 0], .int .i64 0, .int .i64 1]) (by simp [results, Try.results35, go_sem, d0, d1, d2, d3]) rfl ?_
    exact ⟨rfl, hbl⟩
end Go.Proofs.Ytfepefohaadecaa
