/- The law LobbyAgrees. -/
import Derived.Test.YtfepefohaadecaaAgree2
import Derived.Test.YtfepefohaadecaaMade
import Derived.Test.YtfepefohaadecaaOpen
import Derived.Laws.StructEq
namespace Go.Proofs.Ytfepefohaadecaa
open Go.RowKit
set_option maxRecDepth 100000
variable {w : World}
theorem cfg_same (c : Cfg) (w : World) : (Op.equalIn 10000 72 (.agg #[.int .u32 c.seed, .int .i64 c.delay, .int .i64 c.window, .int .i64 c.me]) (.agg #[.int .u32 c.seed, .int .i64 c.delay, .int .i64 c.window, .int .i64 c.me])).run Try.prog w = .ok true w := by
  have u3 := Try.underlying3
  have a3 := Try.isAgg3
  have z3 := Try.sizeOf3
  have u4 := Try.underlying22
  have a4 := Try.isAgg22
  have z4 := Try.sizeOf22
  have hS : Try.prog.underlying 72 = some (.struct (Try.prog.fieldsOf 72)) := by kernel_rfl
  have hp : Try.prog.stoodInHeld 72 = false := by kernel_rfl
  rw [show (10000 : Nat) = 9999 + 1 from rfl, run_equalIn_agg w 9999 72 _ _ hS hp]
  simp only [Program.fieldsOf, Try.underlying72]
  go_simp
theorem cfg_neq (c : Cfg) (w : World) : (binOp .neq 72 (.agg #[.int .u32 c.seed, .int .i64 c.delay, .int .i64 c.window, .int .i64 c.me]) (.agg #[.int .u32 c.seed, .int .i64 c.delay, .int .i64 c.window, .int .i64 c.me])).run Try.prog w = .ok (.bool false) w := by
  rw [run_neq_struct, cfg_same]
  rfl
theorem cfg_eql (w : World) : (binOp .eql 72 (.agg #[.int .u32 0, .int .i64 0, .int .i64 0, .int .i64 0]) (.agg #[.int .u32 0, .int .i64 0, .int .i64 0, .int .i64 0])).run Try.prog w = .ok (.bool true) w := by
  have h : (Op.equalIn 10000 72 (.agg #[.int .u32 0, .int .i64 0, .int .i64 0, .int .i64 0]) (.agg #[.int .u32 0, .int .i64 0, .int .i64 0, .int .i64 0])).run Try.prog w = .ok true w := cfg_same Cfg.zero w
  rw [run_eql_struct, h]
  rfl
theorem cfg_guard : Try.prog.eqGuardType Try.prog.depth 72 = false := by kernel_rfl
theorem agree_sym (a b : Offer) : agreeB b a = agreeB a b := by
  unfold agreeB
  rw [show max b.ld a.ld = max a.ld b.ld by omega, show min b.md a.md = min a.md b.md by omega, show max b.lw a.lw = max a.lw b.lw by omega, show min b.mw a.mw = min a.mw b.mw by omega]
theorem right_sym (a b : Offer) (L : List Int) : rightAll b a L ↔ rightAll a b L := by
  unfold rightAll
  exact ⟨fun ⟨h1, h2, h3⟩ => ⟨h2, h1, h3⟩, fun ⟨h1, h2, h3⟩ => ⟨h2, h1, h3⟩⟩
theorem cfg_sym (a b : Offer) (L : List Int) : cfgV b a L = ⟨(cfgV a b L).seed, (cfgV a b L).delay, (cfgV a b L).window, if b.s < a.s then 1 else 0⟩ := by
  unfold cfgV
  simp only
  rw [show max b.ld a.ld = max a.ld b.ld by omega, show min b.md a.md = min a.md b.md by omega, show max b.lw a.lw = max a.lw b.lw by omega, show min b.mw a.mw = min a.mw b.mw by omega, show max b.s a.s = max a.s b.s by omega, show min b.s a.s = min a.s b.s by omega]
structure LSt (w0 w : World) (a b : Offer) (A : Option Addr) (cap : Nat) (L : List Int) : Prop where
  ha : w.heap[w0.heap.size]? = some (.cells #[.int .i64 a.r, .int .u32 a.s, .int .i64 a.ld, .int .i64 a.md, .int .i64 a.lw, .int .i64 a.mw] 63)
  hb : w.heap[w0.heap.size + 1]? = some (.cells #[.int .i64 b.r, .int .u32 b.s, .int .i64 b.ld, .int .i64 b.md, .int .i64 b.lw, .int .i64 b.mw] 63)
  bel : Below w0.heap.size w0 w
  vals : Vals w 1 A L.length cap (intsL L)
theorem LSt.start {a b : Offer} {A : Option Addr} {cap : Nat} {L : List Int} (hv : Vals w 1 A L.length cap (intsL L)) : LSt w ((w.alloc (.cells #[.int .i64 a.r, .int .u32 a.s, .int .i64 a.ld, .int .i64 a.md, .int .i64 a.lw, .int .i64 a.mw] 63)).alloc (.cells #[.int .i64 b.r, .int .u32 b.s, .int .i64 b.ld, .int .i64 b.md, .int .i64 b.lw, .int .i64 b.mw] 63)) a b A cap L := by
  refine ⟨blk_alloc (blk_new w _) _, ?_, ((Below.refl _ w).alloc (Nat.le_refl _) _).alloc (by simp) _, hv.keeps (((Keeps.refl (fun _ => False) w).alloc _).alloc _) (fun _ _ _ => id)⟩
  have := blk_new (w.alloc (.cells #[.int .i64 a.r, .int .u32 a.s, .int .i64 a.ld, .int .i64 a.md, .int .i64 a.lw, .int .i64 a.mw] 63)) (.cells #[.int .i64 b.r, .int .u32 b.s, .int .i64 b.ld, .int .i64 b.md, .int .i64 b.lw, .int .i64 b.mw] 63)
  rw [World.size_alloc] at this
  exact this
theorem LSt.keep {w0 w1 w2 : World} {a b : Offer} {A : Option Addr} {cap : Nat} {L : List Int} (h : LSt w0 w1 a b A cap L) (hk : Below w1.heap.size w1 w2) : LSt w0 w2 a b A cap L := by
  have k : Keeps (fun _ => False) w1 w2 := Keeps.of_below hk (fun k h1 h2 => by omega)
  exact ⟨k.heap h.ha id, k.heap h.hb id, h.bel.trans (hk.mono h.bel.size), h.vals.keeps k (fun _ _ _ => id)⟩
theorem new_below (w : World) (o : Obj) : Below w.heap.size w (w.alloc o) := (Below.refl _ w).alloc (Nat.le_refl _) o
theorem kept_of {w w' : World} (h : Below w.heap.size w w') : Keeps (fun _ => False) w w' := Keeps.of_below h (fun k h1 h2 => by omega)
set_option maxHeartbeats 4000000 in
theorem law_LobbyAgrees (a b : Offer) (has : 0 ≤ a.s ∧ a.s < 4294967296) (hbs : 0 ≤ b.s ∧ b.s < 4294967296) {A : Option Addr} {cap : Nat} {L : List Int} (hv : Vals w 1 A L.length cap (intsL L)) :
    Calls Try.prog 9 #[(.agg #[.int .i64 a.r, .int .u32 a.s, .int .i64 a.ld, .int .i64 a.md, .int .i64 a.lw, .int .i64 a.mw]), (.agg #[.int .i64 b.r, .int .u32 b.s, .int .i64 b.ld, .int .i64 b.md, .int .i64 b.lw, .int .i64 b.mw]), .slice A L.length cap] w fun e w' => e = .returned (.bool true) ∧ Below w.heap.size w w' := by
  have hm := Nat.le_trans hv.2.1 hv.2.2.1
  unfold maxLen at hm
  by_cases h60 : 60 < L.length
  · go_enter Try.func9, Try.ntmps9
    go_wp2_with fail
    have hS : LSt w _ a b A cap L := LSt.start hv
    refine (awake35 _).mono ?_
    rintro e w1 ⟨rfl, hb1⟩
    have hS := hS.keep hb1
    clear hb1
    go_wp2_with fail
    go_ret
    exact ⟨rfl, hS.bel⟩
  have h60' : L.length ≤ 60 := by omega
  have hmx : L.length ≤ 4096 := by omega
  have HA := hid (fun W (hv : Vals W 1 A L.length cap (intsL L)) => lob_Agree a b hv hmx)
  have HB := hid (fun W (hv : Vals W 1 A L.length cap (intsL L)) => lob_Agree b a hv hmx)
  have HR := hid (fun W (hv : Vals W 1 A L.length cap (intsL L)) => ref_Agree a b has hbs hv hmx)
  have hgd := cfg_guard
  by_cases hok : rightAll a b L ∧ agreeB a b = true
  · obtain ⟨hall, hag⟩ := hok
    have hall2 := (right_sym a b L).2 hall
    have hag2 : agreeB b a = true := by rw [agree_sym]; exact hag
    have e1 : agrC a b L = cfgV a b L := by unfold agrC; rw [if_pos ⟨hall, hag⟩]
    have e2 : agrN a b L = min a.r b.r := by unfold agrN; rw [if_pos ⟨hall, hag⟩]
    have e3 : agrE a b L = 0 := by unfold agrE; rw [if_pos hall, if_pos hag]
    have e4 : agrC b a L = ⟨(cfgV a b L).seed, (cfgV a b L).delay, (cfgV a b L).window, if b.s < a.s then 1 else 0⟩ := by unfold agrC; rw [if_pos ⟨hall2, hag2⟩, cfg_sym]
    have e5 : agrN b a L = min a.r b.r := by unfold agrN; rw [if_pos ⟨hall2, hag2⟩]; omega
    have e6 : agrE b a L = 0 := by unfold agrE; rw [if_pos hall2, if_pos hag2]
    have hin : ∃ dn : Nat, (cfgV a b L).delay = dn ∧ dn ≤ 8 ∧ 1 ≤ (cfgV a b L).window ∧ (cfgV a b L).window ≤ 16 := by
      obtain ⟨ha, hb, _⟩ := hall
      unfold RightO at ha hb
      unfold agreeB at hag
      rw [Bool.and_eq_true, decide_eq_true_eq, decide_eq_true_eq] at hag
      refine ⟨(cfgV a b L).delay.toNat, ?_⟩
      unfold cfgV
      simp only
      generalize delayV L = d1
      generalize windowV L = d2
      omega
    obtain ⟨dn, hdn, hd8, hw1, hw2⟩ := hin
    have e7 : (cfgV a b L).me = if a.s < b.s then 1 else 0 := rfl
    rw [e1, e2, e3] at HA HR
    rw [e4, e5, e6] at HB
    generalize cfgV a b L = c at *
    obtain ⟨sd, dl, wn, me⟩ := c
    simp only at hdn hw1 hw2 e7 HA HB HR
    generalize min a.r b.r = n at *
    subst hdn
    have hPR := fun (hme : me = 0 ∨ me = 1) W => peer_Right sd wn me dn hd8 ⟨hw1, hw2⟩ hme W
    have hne := cfg_neq ⟨sd, dn, wn, me⟩
    simp only at hne
    clear e1 e2 e3 e4 e5 e6 hall hall2 hag hag2 h60 hm hmx has hbs
    rcases Int.lt_trichotomy a.s b.s with hlt | heq | hgt
    · rw [if_pos hlt] at e7
      rw [if_neg (by omega)] at HB
      subst e7
      have HPR := hid (hPR (.inr rfl))
      have hse : (a.s == b.s) = false := by rw [beq_eq_false_iff_ne]; omega
      clear hPR hlt
      go_enter Try.func9, Try.ntmps9
      go_wp2_with fail
      have hS : LSt w _ a b A cap L := LSt.start hv
      refine (awake35 _).mono ?_
      rintro e w1 ⟨rfl, hb1⟩
      have hS := hS.keep hb1
      clear hb1
      have la := blk_lt hS.ha
      have lb := blk_lt hS.hb
      have a0 := blk_cell hS.ha (k := 0) rfl
      have a1 := blk_cell hS.ha (k := 1) rfl
      have a2 := blk_cell hS.ha (k := 2) rfl
      have a3 := blk_cell hS.ha (k := 3) rfl
      have a4 := blk_cell hS.ha (k := 4) rfl
      have a5 := blk_cell hS.ha (k := 5) rfl
      have b0 := blk_cell hS.hb (k := 0) rfl
      have b1 := blk_cell hS.hb (k := 1) rfl
      have b2 := blk_cell hS.hb (k := 2) rfl
      have b3 := blk_cell hS.hb (k := 3) rfl
      have b4 := blk_cell hS.hb (k := 4) rfl
      have b5 := blk_cell hS.hb (k := 5) rfl
      go_wp2_with fail
      refine (HA.out _ hS.vals).mono ?_
      rintro e w2 ⟨rfl, hb2⟩
      clear la lb a0 a1 a2 a3 a4 a5 b0 b1 b2 b3 b4 b5
      have hS := hS.keep hb2
      clear hb2
      have la := blk_lt hS.ha
      have lb := blk_lt hS.hb
      have a0 := blk_cell hS.ha (k := 0) rfl
      have a1 := blk_cell hS.ha (k := 1) rfl
      have a2 := blk_cell hS.ha (k := 2) rfl
      have a3 := blk_cell hS.ha (k := 3) rfl
      have a4 := blk_cell hS.ha (k := 4) rfl
      have a5 := blk_cell hS.ha (k := 5) rfl
      have b0 := blk_cell hS.hb (k := 0) rfl
      have b1 := blk_cell hS.hb (k := 1) rfl
      have b2 := blk_cell hS.hb (k := 2) rfl
      have b3 := blk_cell hS.hb (k := 3) rfl
      have b4 := blk_cell hS.hb (k := 4) rfl
      have b5 := blk_cell hS.hb (k := 5) rfl
      go_wp2_with fail
      clear la lb a0 a1 a2 a3 a4 a5 b0 b1 b2 b3 b4 b5
      have hS := hS.keep (new_below w2 (.cells #[.int .u32 sd, .int .i64 dn, .int .i64 wn, .int .i64 1] 72))
      have hC := blk_new w2 (.cells #[.int .u32 sd, .int .i64 dn, .int .i64 wn, .int .i64 1] 72)
      generalize hB1 : w2.heap.size = B1 at *
      generalize w2.alloc (.cells #[.int .u32 sd, .int .i64 dn, .int .i64 wn, .int .i64 1] 72) = w3 at *
      clear hB1
      refine (HB.out _ hS.vals).mono ?_
      rintro e w4 ⟨rfl, hb4⟩
      have hS := hS.keep hb4
      have hC := (kept_of hb4).heap hC id
      clear hb4
      have la := blk_lt hS.ha
      have lb := blk_lt hS.hb
      have a0 := blk_cell hS.ha (k := 0) rfl
      have a1 := blk_cell hS.ha (k := 1) rfl
      have a2 := blk_cell hS.ha (k := 2) rfl
      have a3 := blk_cell hS.ha (k := 3) rfl
      have a4 := blk_cell hS.ha (k := 4) rfl
      have a5 := blk_cell hS.ha (k := 5) rfl
      have b0 := blk_cell hS.hb (k := 0) rfl
      have b1 := blk_cell hS.hb (k := 1) rfl
      have b2 := blk_cell hS.hb (k := 2) rfl
      have b3 := blk_cell hS.hb (k := 3) rfl
      have b4 := blk_cell hS.hb (k := 4) rfl
      have b5 := blk_cell hS.hb (k := 5) rfl
      go_wp2_with fail
      clear la lb a0 a1 a2 a3 a4 a5 b0 b1 b2 b3 b4 b5
      have hS := hS.keep (new_below w4 (.cells #[.int .u32 sd, .int .i64 dn, .int .i64 wn, .int .i64 0] 72))
      have hC := blk_alloc hC (.cells #[.int .u32 sd, .int .i64 dn, .int .i64 wn, .int .i64 0] 72)
      have hD := blk_new w4 (.cells #[.int .u32 sd, .int .i64 dn, .int .i64 wn, .int .i64 0] 72)
      generalize hB2 : w4.heap.size = B2 at *
      generalize w4.alloc (.cells #[.int .u32 sd, .int .i64 dn, .int .i64 wn, .int .i64 0] 72) = w5 at *
      clear hB2
      refine (HR.out _ hS.vals).mono ?_
      rintro e w6 ⟨rfl, hb6⟩
      have hS := hS.keep hb6
      have hC := (kept_of hb6).heap hC id
      have hD := (kept_of hb6).heap hD id
      clear hb6
      have la := blk_lt hS.ha
      have lb := blk_lt hS.hb
      have a0 := blk_cell hS.ha (k := 0) rfl
      have a1 := blk_cell hS.ha (k := 1) rfl
      have a2 := blk_cell hS.ha (k := 2) rfl
      have a3 := blk_cell hS.ha (k := 3) rfl
      have a4 := blk_cell hS.ha (k := 4) rfl
      have a5 := blk_cell hS.ha (k := 5) rfl
      have b0 := blk_cell hS.hb (k := 0) rfl
      have b1 := blk_cell hS.hb (k := 1) rfl
      have b2 := blk_cell hS.hb (k := 2) rfl
      have b3 := blk_cell hS.hb (k := 3) rfl
      have b4 := blk_cell hS.hb (k := 4) rfl
      have b5 := blk_cell hS.hb (k := 5) rfl
      have c0 := blk_cell hC (k := 0) rfl
      have c1 := blk_cell hC (k := 1) rfl
      have c2 := blk_cell hC (k := 2) rfl
      have c3 := blk_cell hC (k := 3) rfl
      have d0 := blk_cell hD (k := 0) rfl
      have d1 := blk_cell hD (k := 1) rfl
      have d2 := blk_cell hD (k := 2) rfl
      have d3 := blk_cell hD (k := 3) rfl
      have lC := blk_lt hC
      have lD := blk_lt hD
      go_wp2_with fail
      refine (HPR.out _).mono ?_
      rintro e w9 ⟨rfl, hb9⟩
      have hS := ((hS.keep (new_below _ _)).keep (new_below _ _)).keep hb9
      go_wp2_with fail
      go_ret
      exact ⟨rfl, hS.bel⟩
    · rw [if_neg (by omega)] at e7
      rw [if_neg (by omega)] at HB
      subst e7
      have HPR := hid (hPR (.inl rfl))
      have hse : (a.s == b.s) = true := by rw [beq_iff_eq]; omega
      clear hPR heq
      go_enter Try.func9, Try.ntmps9
      go_wp2_with fail
      have hS : LSt w _ a b A cap L := LSt.start hv
      refine (awake35 _).mono ?_
      rintro e w1 ⟨rfl, hb1⟩
      have hS := hS.keep hb1
      clear hb1
      have la := blk_lt hS.ha
      have lb := blk_lt hS.hb
      have a0 := blk_cell hS.ha (k := 0) rfl
      have a1 := blk_cell hS.ha (k := 1) rfl
      have a2 := blk_cell hS.ha (k := 2) rfl
      have a3 := blk_cell hS.ha (k := 3) rfl
      have a4 := blk_cell hS.ha (k := 4) rfl
      have a5 := blk_cell hS.ha (k := 5) rfl
      have b0 := blk_cell hS.hb (k := 0) rfl
      have b1 := blk_cell hS.hb (k := 1) rfl
      have b2 := blk_cell hS.hb (k := 2) rfl
      have b3 := blk_cell hS.hb (k := 3) rfl
      have b4 := blk_cell hS.hb (k := 4) rfl
      have b5 := blk_cell hS.hb (k := 5) rfl
      go_wp2_with fail
      refine (HA.out _ hS.vals).mono ?_
      rintro e w2 ⟨rfl, hb2⟩
      clear la lb a0 a1 a2 a3 a4 a5 b0 b1 b2 b3 b4 b5
      have hS := hS.keep hb2
      clear hb2
      have la := blk_lt hS.ha
      have lb := blk_lt hS.hb
      have a0 := blk_cell hS.ha (k := 0) rfl
      have a1 := blk_cell hS.ha (k := 1) rfl
      have a2 := blk_cell hS.ha (k := 2) rfl
      have a3 := blk_cell hS.ha (k := 3) rfl
      have a4 := blk_cell hS.ha (k := 4) rfl
      have a5 := blk_cell hS.ha (k := 5) rfl
      have b0 := blk_cell hS.hb (k := 0) rfl
      have b1 := blk_cell hS.hb (k := 1) rfl
      have b2 := blk_cell hS.hb (k := 2) rfl
      have b3 := blk_cell hS.hb (k := 3) rfl
      have b4 := blk_cell hS.hb (k := 4) rfl
      have b5 := blk_cell hS.hb (k := 5) rfl
      go_wp2_with fail
      clear la lb a0 a1 a2 a3 a4 a5 b0 b1 b2 b3 b4 b5
      have hS := hS.keep (new_below w2 (.cells #[.int .u32 sd, .int .i64 dn, .int .i64 wn, .int .i64 0] 72))
      have hC := blk_new w2 (.cells #[.int .u32 sd, .int .i64 dn, .int .i64 wn, .int .i64 0] 72)
      generalize hB1 : w2.heap.size = B1 at *
      generalize w2.alloc (.cells #[.int .u32 sd, .int .i64 dn, .int .i64 wn, .int .i64 0] 72) = w3 at *
      clear hB1
      refine (HB.out _ hS.vals).mono ?_
      rintro e w4 ⟨rfl, hb4⟩
      have hS := hS.keep hb4
      have hC := (kept_of hb4).heap hC id
      clear hb4
      have la := blk_lt hS.ha
      have lb := blk_lt hS.hb
      have a0 := blk_cell hS.ha (k := 0) rfl
      have a1 := blk_cell hS.ha (k := 1) rfl
      have a2 := blk_cell hS.ha (k := 2) rfl
      have a3 := blk_cell hS.ha (k := 3) rfl
      have a4 := blk_cell hS.ha (k := 4) rfl
      have a5 := blk_cell hS.ha (k := 5) rfl
      have b0 := blk_cell hS.hb (k := 0) rfl
      have b1 := blk_cell hS.hb (k := 1) rfl
      have b2 := blk_cell hS.hb (k := 2) rfl
      have b3 := blk_cell hS.hb (k := 3) rfl
      have b4 := blk_cell hS.hb (k := 4) rfl
      have b5 := blk_cell hS.hb (k := 5) rfl
      go_wp2_with fail
      clear la lb a0 a1 a2 a3 a4 a5 b0 b1 b2 b3 b4 b5
      have hS := hS.keep (new_below w4 (.cells #[.int .u32 sd, .int .i64 dn, .int .i64 wn, .int .i64 0] 72))
      have hC := blk_alloc hC (.cells #[.int .u32 sd, .int .i64 dn, .int .i64 wn, .int .i64 0] 72)
      have hD := blk_new w4 (.cells #[.int .u32 sd, .int .i64 dn, .int .i64 wn, .int .i64 0] 72)
      generalize hB2 : w4.heap.size = B2 at *
      generalize w4.alloc (.cells #[.int .u32 sd, .int .i64 dn, .int .i64 wn, .int .i64 0] 72) = w5 at *
      clear hB2
      refine (HR.out _ hS.vals).mono ?_
      rintro e w6 ⟨rfl, hb6⟩
      have hS := hS.keep hb6
      have hC := (kept_of hb6).heap hC id
      have hD := (kept_of hb6).heap hD id
      clear hb6
      have la := blk_lt hS.ha
      have lb := blk_lt hS.hb
      have a0 := blk_cell hS.ha (k := 0) rfl
      have a1 := blk_cell hS.ha (k := 1) rfl
      have a2 := blk_cell hS.ha (k := 2) rfl
      have a3 := blk_cell hS.ha (k := 3) rfl
      have a4 := blk_cell hS.ha (k := 4) rfl
      have a5 := blk_cell hS.ha (k := 5) rfl
      have b0 := blk_cell hS.hb (k := 0) rfl
      have b1 := blk_cell hS.hb (k := 1) rfl
      have b2 := blk_cell hS.hb (k := 2) rfl
      have b3 := blk_cell hS.hb (k := 3) rfl
      have b4 := blk_cell hS.hb (k := 4) rfl
      have b5 := blk_cell hS.hb (k := 5) rfl
      have c0 := blk_cell hC (k := 0) rfl
      have c1 := blk_cell hC (k := 1) rfl
      have c2 := blk_cell hC (k := 2) rfl
      have c3 := blk_cell hC (k := 3) rfl
      have d0 := blk_cell hD (k := 0) rfl
      have d1 := blk_cell hD (k := 1) rfl
      have d2 := blk_cell hD (k := 2) rfl
      have d3 := blk_cell hD (k := 3) rfl
      have lC := blk_lt hC
      have lD := blk_lt hD
      go_wp2_with fail
      refine (HPR.out _).mono ?_
      rintro e w9 ⟨rfl, hb9⟩
      have hS := ((hS.keep (new_below _ _)).keep (new_below _ _)).keep hb9
      go_wp2_with fail
      go_ret
      exact ⟨rfl, hS.bel⟩
    · rw [if_neg (by omega)] at e7
      rw [if_pos (by omega)] at HB
      subst e7
      have HPR := hid (hPR (.inl rfl))
      have hse : (a.s == b.s) = false := by rw [beq_eq_false_iff_ne]; omega
      clear hPR hgt
      go_enter Try.func9, Try.ntmps9
      go_wp2_with fail
      have hS : LSt w _ a b A cap L := LSt.start hv
      refine (awake35 _).mono ?_
      rintro e w1 ⟨rfl, hb1⟩
      have hS := hS.keep hb1
      clear hb1
      have la := blk_lt hS.ha
      have lb := blk_lt hS.hb
      have a0 := blk_cell hS.ha (k := 0) rfl
      have a1 := blk_cell hS.ha (k := 1) rfl
      have a2 := blk_cell hS.ha (k := 2) rfl
      have a3 := blk_cell hS.ha (k := 3) rfl
      have a4 := blk_cell hS.ha (k := 4) rfl
      have a5 := blk_cell hS.ha (k := 5) rfl
      have b0 := blk_cell hS.hb (k := 0) rfl
      have b1 := blk_cell hS.hb (k := 1) rfl
      have b2 := blk_cell hS.hb (k := 2) rfl
      have b3 := blk_cell hS.hb (k := 3) rfl
      have b4 := blk_cell hS.hb (k := 4) rfl
      have b5 := blk_cell hS.hb (k := 5) rfl
      go_wp2_with fail
      refine (HA.out _ hS.vals).mono ?_
      rintro e w2 ⟨rfl, hb2⟩
      clear la lb a0 a1 a2 a3 a4 a5 b0 b1 b2 b3 b4 b5
      have hS := hS.keep hb2
      clear hb2
      have la := blk_lt hS.ha
      have lb := blk_lt hS.hb
      have a0 := blk_cell hS.ha (k := 0) rfl
      have a1 := blk_cell hS.ha (k := 1) rfl
      have a2 := blk_cell hS.ha (k := 2) rfl
      have a3 := blk_cell hS.ha (k := 3) rfl
      have a4 := blk_cell hS.ha (k := 4) rfl
      have a5 := blk_cell hS.ha (k := 5) rfl
      have b0 := blk_cell hS.hb (k := 0) rfl
      have b1 := blk_cell hS.hb (k := 1) rfl
      have b2 := blk_cell hS.hb (k := 2) rfl
      have b3 := blk_cell hS.hb (k := 3) rfl
      have b4 := blk_cell hS.hb (k := 4) rfl
      have b5 := blk_cell hS.hb (k := 5) rfl
      go_wp2_with fail
      clear la lb a0 a1 a2 a3 a4 a5 b0 b1 b2 b3 b4 b5
      have hS := hS.keep (new_below w2 (.cells #[.int .u32 sd, .int .i64 dn, .int .i64 wn, .int .i64 0] 72))
      have hC := blk_new w2 (.cells #[.int .u32 sd, .int .i64 dn, .int .i64 wn, .int .i64 0] 72)
      generalize hB1 : w2.heap.size = B1 at *
      generalize w2.alloc (.cells #[.int .u32 sd, .int .i64 dn, .int .i64 wn, .int .i64 0] 72) = w3 at *
      clear hB1
      refine (HB.out _ hS.vals).mono ?_
      rintro e w4 ⟨rfl, hb4⟩
      have hS := hS.keep hb4
      have hC := (kept_of hb4).heap hC id
      clear hb4
      have la := blk_lt hS.ha
      have lb := blk_lt hS.hb
      have a0 := blk_cell hS.ha (k := 0) rfl
      have a1 := blk_cell hS.ha (k := 1) rfl
      have a2 := blk_cell hS.ha (k := 2) rfl
      have a3 := blk_cell hS.ha (k := 3) rfl
      have a4 := blk_cell hS.ha (k := 4) rfl
      have a5 := blk_cell hS.ha (k := 5) rfl
      have b0 := blk_cell hS.hb (k := 0) rfl
      have b1 := blk_cell hS.hb (k := 1) rfl
      have b2 := blk_cell hS.hb (k := 2) rfl
      have b3 := blk_cell hS.hb (k := 3) rfl
      have b4 := blk_cell hS.hb (k := 4) rfl
      have b5 := blk_cell hS.hb (k := 5) rfl
      go_wp2_with fail
      clear la lb a0 a1 a2 a3 a4 a5 b0 b1 b2 b3 b4 b5
      have hS := hS.keep (new_below w4 (.cells #[.int .u32 sd, .int .i64 dn, .int .i64 wn, .int .i64 1] 72))
      have hC := blk_alloc hC (.cells #[.int .u32 sd, .int .i64 dn, .int .i64 wn, .int .i64 1] 72)
      have hD := blk_new w4 (.cells #[.int .u32 sd, .int .i64 dn, .int .i64 wn, .int .i64 1] 72)
      generalize hB2 : w4.heap.size = B2 at *
      generalize w4.alloc (.cells #[.int .u32 sd, .int .i64 dn, .int .i64 wn, .int .i64 1] 72) = w5 at *
      clear hB2
      refine (HR.out _ hS.vals).mono ?_
      rintro e w6 ⟨rfl, hb6⟩
      have hS := hS.keep hb6
      have hC := (kept_of hb6).heap hC id
      have hD := (kept_of hb6).heap hD id
      clear hb6
      have la := blk_lt hS.ha
      have lb := blk_lt hS.hb
      have a0 := blk_cell hS.ha (k := 0) rfl
      have a1 := blk_cell hS.ha (k := 1) rfl
      have a2 := blk_cell hS.ha (k := 2) rfl
      have a3 := blk_cell hS.ha (k := 3) rfl
      have a4 := blk_cell hS.ha (k := 4) rfl
      have a5 := blk_cell hS.ha (k := 5) rfl
      have b0 := blk_cell hS.hb (k := 0) rfl
      have b1 := blk_cell hS.hb (k := 1) rfl
      have b2 := blk_cell hS.hb (k := 2) rfl
      have b3 := blk_cell hS.hb (k := 3) rfl
      have b4 := blk_cell hS.hb (k := 4) rfl
      have b5 := blk_cell hS.hb (k := 5) rfl
      have c0 := blk_cell hC (k := 0) rfl
      have c1 := blk_cell hC (k := 1) rfl
      have c2 := blk_cell hC (k := 2) rfl
      have c3 := blk_cell hC (k := 3) rfl
      have d0 := blk_cell hD (k := 0) rfl
      have d1 := blk_cell hD (k := 1) rfl
      have d2 := blk_cell hD (k := 2) rfl
      have d3 := blk_cell hD (k := 3) rfl
      have lC := blk_lt hC
      have lD := blk_lt hD
      go_wp2_with fail
      refine (HPR.out _).mono ?_
      rintro e w9 ⟨rfl, hb9⟩
      have hS := ((hS.keep (new_below _ _)).keep (new_below _ _)).keep hb9
      go_wp2_with fail
      go_ret
      exact ⟨rfl, hS.bel⟩
  · have hok2 : ¬ (rightAll b a L ∧ agreeB b a = true) := by rw [right_sym, agree_sym]; exact hok
    have e1 : agrC a b L = Cfg.zero := by unfold agrC; rw [if_neg hok]
    have e2 : agrN a b L = 0 := by unfold agrN; rw [if_neg hok]
    have e4 : agrC b a L = Cfg.zero := by unfold agrC; rw [if_neg hok2]
    have e5 : agrN b a L = 0 := by unfold agrN; rw [if_neg hok2]
    have e6 : agrE b a L = agrE a b L := by
      unfold agrE
      rw [agree_sym]
      by_cases h : rightAll a b L
      · rw [if_pos h, if_pos ((right_sym a b L).2 h)]
      · rw [if_neg h, if_neg (fun h2 => h ((right_sym a b L).1 h2))]
    have e3 : agrE a b L ≠ 0 := by
      unfold agrE
      split
      · rename_i h
        split
        · rename_i h2; exact absurd ⟨h, h2⟩ hok
        · omega
      · omega
    rw [e1, e2] at HA HR
    rw [e4, e5, e6] at HB
    generalize agrE a b L = er at *
    have hq : (er != 0) = true := by simpa using e3
    have hne := cfg_neq Cfg.zero
    have heq := cfg_eql
    unfold Cfg.zero at HA HB HR hne
    simp only at hne HA HB HR
    clear e1 e2 e3 e4 e5 e6 hok hok2 h60 hm hmx has hbs
    go_enter Try.func9, Try.ntmps9
    go_wp2_with fail
    have hS : LSt w _ a b A cap L := LSt.start hv
    refine (awake35 _).mono ?_
    rintro e w1 ⟨rfl, hb1⟩
    have hS := hS.keep hb1
    clear hb1
    have la := blk_lt hS.ha
    have lb := blk_lt hS.hb
    have a0 := blk_cell hS.ha (k := 0) rfl
    have a1 := blk_cell hS.ha (k := 1) rfl
    have a2 := blk_cell hS.ha (k := 2) rfl
    have a3 := blk_cell hS.ha (k := 3) rfl
    have a4 := blk_cell hS.ha (k := 4) rfl
    have a5 := blk_cell hS.ha (k := 5) rfl
    have b0 := blk_cell hS.hb (k := 0) rfl
    have b1 := blk_cell hS.hb (k := 1) rfl
    have b2 := blk_cell hS.hb (k := 2) rfl
    have b3 := blk_cell hS.hb (k := 3) rfl
    have b4 := blk_cell hS.hb (k := 4) rfl
    have b5 := blk_cell hS.hb (k := 5) rfl
    go_wp2_with fail
    refine (HA.out _ hS.vals).mono ?_
    rintro e w2 ⟨rfl, hb2⟩
    clear la lb a0 a1 a2 a3 a4 a5 b0 b1 b2 b3 b4 b5
    have hS := hS.keep hb2
    clear hb2
    have la := blk_lt hS.ha
    have lb := blk_lt hS.hb
    have a0 := blk_cell hS.ha (k := 0) rfl
    have a1 := blk_cell hS.ha (k := 1) rfl
    have a2 := blk_cell hS.ha (k := 2) rfl
    have a3 := blk_cell hS.ha (k := 3) rfl
    have a4 := blk_cell hS.ha (k := 4) rfl
    have a5 := blk_cell hS.ha (k := 5) rfl
    have b0 := blk_cell hS.hb (k := 0) rfl
    have b1 := blk_cell hS.hb (k := 1) rfl
    have b2 := blk_cell hS.hb (k := 2) rfl
    have b3 := blk_cell hS.hb (k := 3) rfl
    have b4 := blk_cell hS.hb (k := 4) rfl
    have b5 := blk_cell hS.hb (k := 5) rfl
    go_wp2_with fail
    clear la lb a0 a1 a2 a3 a4 a5 b0 b1 b2 b3 b4 b5
    have hS := hS.keep (new_below w2 (.cells #[.int .u32 0, .int .i64 0, .int .i64 0, .int .i64 0] 72))
    have hC := blk_new w2 (.cells #[.int .u32 0, .int .i64 0, .int .i64 0, .int .i64 0] 72)
    generalize hB1 : w2.heap.size = B1 at *
    generalize w2.alloc (.cells #[.int .u32 0, .int .i64 0, .int .i64 0, .int .i64 0] 72) = w3 at *
    clear hB1
    refine (HB.out _ hS.vals).mono ?_
    rintro e w4 ⟨rfl, hb4⟩
    have hS := hS.keep hb4
    have hC := (kept_of hb4).heap hC id
    clear hb4
    have la := blk_lt hS.ha
    have lb := blk_lt hS.hb
    have a0 := blk_cell hS.ha (k := 0) rfl
    have a1 := blk_cell hS.ha (k := 1) rfl
    have a2 := blk_cell hS.ha (k := 2) rfl
    have a3 := blk_cell hS.ha (k := 3) rfl
    have a4 := blk_cell hS.ha (k := 4) rfl
    have a5 := blk_cell hS.ha (k := 5) rfl
    have b0 := blk_cell hS.hb (k := 0) rfl
    have b1 := blk_cell hS.hb (k := 1) rfl
    have b2 := blk_cell hS.hb (k := 2) rfl
    have b3 := blk_cell hS.hb (k := 3) rfl
    have b4 := blk_cell hS.hb (k := 4) rfl
    have b5 := blk_cell hS.hb (k := 5) rfl
    go_wp2_with fail
    clear la lb a0 a1 a2 a3 a4 a5 b0 b1 b2 b3 b4 b5
    have hS := hS.keep (new_below w4 (.cells #[.int .u32 0, .int .i64 0, .int .i64 0, .int .i64 0] 72))
    have hC := blk_alloc hC (.cells #[.int .u32 0, .int .i64 0, .int .i64 0, .int .i64 0] 72)
    have hD := blk_new w4 (.cells #[.int .u32 0, .int .i64 0, .int .i64 0, .int .i64 0] 72)
    generalize hB2 : w4.heap.size = B2 at *
    generalize w4.alloc (.cells #[.int .u32 0, .int .i64 0, .int .i64 0, .int .i64 0] 72) = w5 at *
    clear hB2
    refine (HR.out _ hS.vals).mono ?_
    rintro e w6 ⟨rfl, hb6⟩
    have hS := hS.keep hb6
    have hC := (kept_of hb6).heap hC id
    have hD := (kept_of hb6).heap hD id
    clear hb6
    have la := blk_lt hS.ha
    have lb := blk_lt hS.hb
    have a0 := blk_cell hS.ha (k := 0) rfl
    have a1 := blk_cell hS.ha (k := 1) rfl
    have a2 := blk_cell hS.ha (k := 2) rfl
    have a3 := blk_cell hS.ha (k := 3) rfl
    have a4 := blk_cell hS.ha (k := 4) rfl
    have a5 := blk_cell hS.ha (k := 5) rfl
    have b0 := blk_cell hS.hb (k := 0) rfl
    have b1 := blk_cell hS.hb (k := 1) rfl
    have b2 := blk_cell hS.hb (k := 2) rfl
    have b3 := blk_cell hS.hb (k := 3) rfl
    have b4 := blk_cell hS.hb (k := 4) rfl
    have b5 := blk_cell hS.hb (k := 5) rfl
    have c0 := blk_cell hC (k := 0) rfl
    have c1 := blk_cell hC (k := 1) rfl
    have c2 := blk_cell hC (k := 2) rfl
    have c3 := blk_cell hC (k := 3) rfl
    have d0 := blk_cell hD (k := 0) rfl
    have d1 := blk_cell hD (k := 1) rfl
    have d2 := blk_cell hD (k := 2) rfl
    have d3 := blk_cell hD (k := 3) rfl
    have lC := blk_lt hC
    have lD := blk_lt hD
    go_wp2_with fail
    go_ret
    exact ⟨rfl, (hS.keep (new_below _ _)).bel⟩
end Go.Proofs.Ytfepefohaadecaa
