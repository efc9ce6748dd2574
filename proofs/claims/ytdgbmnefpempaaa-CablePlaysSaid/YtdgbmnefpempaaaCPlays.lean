/- The law on whatever is done with a cable. -/
import Derived.Test.YtdgbmnefpempaaaDoes2
import Derived.Test.YtdgbmnefpempaaaStage
namespace Go.Proofs.Ytdgbmnefpempaaa
open Go.RowKit
def ofBothP (B m : Nat) : Nat → Prop := ofBoth B m
theorem lenC_other (s : CS) (to : Int) (h : ¬ okTo to) : lenC s to = 0 := by unfold lenC; rw [if_neg h]
/-- both cables behind k calls -/
structure PlaySt (w wr : World) (B m most k : Nat) (s : CS) : Prop where
  c : IsCable wr B most s
  r : IsRefC wr m most s
  ok : s.ok
  lo : 0 ≤ s.lost ∧ s.lost ≤ 1000 * k
  below : Below w.heap.size w wr
set_option maxRecDepth 100000 in
set_option maxHeartbeats 8000000 in
theorem law_CablePlays (x : Int) (w : World) (la : Option Addr) (lc : Nat) (M : List Act6) (hM : Vals w 6 la M.length lc (acts6 M)) (hMw : ∀ c ∈ M, c.wf) :
    Calls Try.prog 4 #[.int .i64 x, .slice la M.length lc] w fun e w' => e = .returned (.bool true) ∧ Below w.heap.size w w' := by
  have hm1 : M.length ≤ 9223372036854775807 := Nat.le_trans hM.2.1 hM.2.2.1
  by_cases h1 : x < 1 ∨ 64 < x
  · have hno := hid (cable_New_no x h1)
    by_cases h2 : x < 1
    · clear h1
      go_enter Try.func4, Try.ntmps4
      go_wp2_with fail
      refine (awake08 _).mono ?_
      rintro e w1 ⟨rfl, hb1⟩
      go_wp2_with fail
      refine (hno.out _).mono ?_
      rintro e w2 ⟨rfl, rfl⟩
      go_wp2_with fail
      go_ret
      exact ⟨rfl, hb1⟩
    · have h3 : 64 < x := by omega
      clear h1
      go_enter Try.func4, Try.ntmps4
      go_wp2_with fail
      refine (awake08 _).mono ?_
      rintro e w1 ⟨rfl, hb1⟩
      go_wp2_with fail
      refine (hno.out _).mono ?_
      rintro e w2 ⟨rfl, rfl⟩
      go_wp2_with fail
      go_ret
      exact ⟨rfl, hb1⟩
  have ha : 1 ≤ x := by omega
  have hb : x ≤ 64 := by omega
  clear h1
  obtain ⟨most, rfl⟩ := Int.eq_ofNat_of_zero_le (show 0 ≤ x by omega)
  have HMw := hid hMw
  clear hMw
  go_enter Try.func4, Try.ntmps4
  go_wp2_with fail
  refine (awake08 _).mono ?_
  rintro e w1 ⟨rfl, hb1⟩
  go_wp2_with fail
  refine (cable_New most (by omega) (by omega) w1).mono ?_
  rintro e w2 ⟨rfl, hr2, hb2⟩
  have hbb := hb1.trans (hb2.mono hb1.size)
  have hbz := hb1.size
  generalize w1.heap.size = B at *
  have hw2 : B + 4 < w2.heap.size := hr2.rb.le.2.2.2.1
  clear hb1 hb2
  go_wp2_with fail
  have hm0 : IsRefC (w2.alloc (.cells #[.int .i64 most, .slice none 0 0, .slice none 0 0, .int .i64 0] 42)) w2.heap.size most ⟨[], [], 0⟩ := ⟨none, none, 0, 0, blk_new _ _, Vals.nil _ _, Vals.nil _ _, (fun x h => by cases h), (fun x h => by cases h)⟩
  have hr0 := hr2.keeps (S := fun _ => False) ((Keeps.refl _ w2).alloc (.cells #[.int .i64 most, .slice none 0 0, .slice none 0 0, .int .i64 0] 42)) (fun _ _ => id)
  have hb0 := hbb.alloc hbb.size (.cells #[.int .i64 most, .slice none 0 0, .slice none 0 0, .int .i64 0] 42)
  clear hr2 hbb
  generalize w2.heap.size = m at *
  have hst := hid (PlaySt.mk hr0 hm0 ⟨(fun _ h => by cases h), (fun _ h => by cases h)⟩ ⟨Int.le_refl _, Int.le_refl _⟩ hb0 : PlaySt w _ B m most 0 ⟨[], [], 0⟩)
  clear hr0 hm0 hb0
  go_loopw [8] (fun i wr => ∃ (k : Nat) (s : CS), k ≤ 150 ∧ i = .int .i64 k ∧ Hid (PlaySt w wr B m most k s)) (fun i _ => 150 - (intOf i).toNat)
  case atStart => exact ⟨0, _, by omega, rfl, hst⟩
  case round =>
    obtain ⟨k, s, hk, rfl, hS⟩ := hrel
    obtain ⟨hC, hR, hok, hlo, hW⟩ := hS.out
    clear hst hS
    by_cases hlt : k < M.length ∧ k < 150
    · obtain ⟨hlt, hl2⟩ := hlt
      obtain ⟨b, o, rfl, hc⟩ := (hM.below hW (fun hn x hx => hM.lt (by omega) hn hx)).at' (by omega)
      have hat := acts6_at M k hlt
      have hc0 : wr.cell? ⟨b, o + k * 6, none⟩ = some (.int .i64 M[k].kind) := hc _ _ (hat 0 (by omega))
      have hc1 : wr.cell? ⟨b, o + k * 6 + 1, none⟩ = some (.int .i64 M[k].to) := by rw [Nat.add_assoc]; exact hc _ _ (hat 1 (by omega))
      have hc2 : wr.cell? ⟨b, o + k * 6 + 2, none⟩ = some (.int .i64 M[k].i) := by rw [Nat.add_assoc]; exact hc _ _ (hat 2 (by omega))
      have hc3 : wr.cell? ⟨b, o + k * 6 + 3, none⟩ = some (.string M[k].s) := by rw [Nat.add_assoc]; exact hc _ _ (hat 3 (by omega))
      have hc4 : wr.cell? ⟨b, o + k * 6 + 4, none⟩ = some (.int .i64 M[k].at') := by rw [Nat.add_assoc]; exact hc _ _ (hat 4 (by omega))
      have hc5 : wr.cell? ⟨b, o + k * 6 + 5, none⟩ = some (.int .u8 M[k].b) := by rw [Nat.add_assoc]; exact hc _ _ (hat 5 (by omega))
      have hwf := HMw.out M[k] (List.getElem_mem hlt)
      have hbw : b < w.heap.size := hM.lt (by omega) (by omega) rfl
      clear hc hat
      generalize M[k] = c at *
      have hwz := hW.size
      by_cases hsz : 400 < c.s.size
      · have Hst := hid (PlaySt.mk hC hR hok ⟨hlo.1, by omega⟩ hW : PlaySt w wr B m most (k + 1) s)
        clear hwf
        go_wp2_with fail
        go_roundw
        case rel => exact ⟨k + 1, s, by omega, by go_num, Hst⟩
        case measure => simp [intOf]; omega
      · go_wp2_with fail
        have S0 : ¬ ofBoth B m b := by rintro (⟨h1, h2⟩ | h1) <;> omega
        refine stages_start (by kernel_rfl) 39 rfl ?_
        have k0 := keptS_cell (S := ofBoth B m) (w := wr.drew) hc0 S0
        have k1 := keptS_cell (S := ofBoth B m) (w := wr.drew) hc1 S0
        have k2 := keptS_cell (S := ofBoth B m) (w := wr.drew) hc2 S0
        have k3 := keptS_cell (S := ofBoth B m) (w := wr.drew) hc3 S0
        have k4 := keptS_cell (S := ofBoth B m) (w := wr.drew) hc4 S0
        have k5 := keptS_cell (S := ofBoth B m) (w := wr.drew) hc5 S0
        refine stagek (ofBoth B m) [0, 1, 2, 3, 4, 5] [6] 32 rfl #[true, true, true, true, true, true, true, false, false, false, false, false, false, false, false, false, false, false, false, false, false, false, false, false, false, false, false, false, false, false, false, false, false, false, false, false, false, false, false] (by kernel_rfl) (by kernel_rfl) (fun _ _ _ d _ h => by cases d <;> exact h) ?_
        simp only [opsAt, List.map_cons, List.map_nil, List.getElem?_toArray, List.getElem?_cons_zero, List.getElem?_cons_succ, Option.getD_some]
        repeat (go_big_quiet_step (fail))
        refine wpQuiet_nil ?_
        refine links_cons (by first | rfl | simp [go_sem]) (fun K hK => ?_)
        go_simp
        refine (law_does c hwf (hC.keeps (S := fun _ => False) (Keeps.refl _ _).drew (fun _ _ => id)) (hR.keeps (S := fun _ => False) (Keeps.refl _ _).drew (fun _ _ _ => id)) hw2 (by omega) ⟨hlo.1, by omega⟩ hok).mono ?_
        rintro e w5 ⟨rfl, hC5, hR5, hk6⟩
        refine hK _ _ (keptS (hk6)) ?_
        clear hK K
        try refine links_nil ?_
        clear k0 k1 k2 k3 k4 k5 hc0 hc1 hc2 hc3 hc4 hc5
        have la5 := hC.ra.le.1
        have lb5 := hC.rb.le.1
        have hsl := step_lost (s := s) (most := most) c.kind c.to c.i c.s
        have hst : s.total = s.a.length + s.b.length := rfl
        have hF : Hid (PlaySt w w5 B m most (k + 1) (stepC s most c.kind c.to c.i c.s)) := ⟨hC5, hR5, step_ok hok _ _ _ _, by omega, hW.trans ((Keeps.trans (Keeps.refl _ wr).drew hk6).below hW.size (fun j h1 h2 => by rcases h2 with ⟨h2, h3⟩ | h2 <;> omega))⟩
        clear hsl hst la5 lb5 hok hC hR hwf hk6 hW hlo S0
        generalize stepC s most c.kind c.to c.i c.s = s2 at *
        obtain ⟨p, q, cp, cq, h1, _, _, _, _⟩ := id hR5
        have d1 : w5.cell? ⟨m, 1, none⟩ = some (.slice p s2.a.length cp) := blk_cell h1 rfl
        have d2 : w5.cell? ⟨m, 2, none⟩ = some (.slice q s2.b.length cq) := blk_cell h1 rfl
        have d3 : w5.cell? ⟨m, 3, none⟩ = some (.int .i64 s2.lost) := blk_cell h1 rfl
        clear h1
        have k1 := keptS_cell (S := fun _ => False) d1 id
        have k2 := keptS_cell (S := fun _ => False) d2 id
        have k3 := keptS_cell (S := fun _ => False) d3 id
        have F0 : Calls Try.prog 16 #[.pointer (some ⟨B, 0, none⟩), .int .i64 0] w5 fun e w' => e = .returned (.int .i64 s2.a.length) ∧ w5 = w' := cable_Flying hC5 0
        have F1 : Calls Try.prog 16 #[.pointer (some ⟨B, 0, none⟩), .int .i64 1] w5 fun e w' => e = .returned (.int .i64 s2.b.length) ∧ w5 = w' := cable_Flying hC5 1
        have F2 := cable_Lost hC5
        have F0 := hid F0
        have F1 := hid F1
        have F2 := hid F2
        refine stagek (fun _ => False) [7, 8, 9, 11, 12, 13, 14, 15, 16] [10] 22 rfl #[true, true, true, true, true, true, true, true, true, true, true, true, true, true, true, true, true, false, false, false, false, false, false, false, false, false, false, false, false, false, false, false, false, false, false, false, false, false, false] (by kernel_rfl) (by kernel_rfl) (fun _ _ _ d _ h => by cases d <;> exact h) ?_
        simp only [opsAt, List.map_cons, List.map_nil, List.getElem?_toArray, List.getElem?_cons_zero, List.getElem?_cons_succ, Option.getD_some]
        repeat (go_big_quiet_step (fail))
        refine wpQuiet_nil ?_
        refine links_cons (by first | rfl | simp [go_sem]) (fun K hK => ?_)
        go_simp
        refine F0.out.mono ?_
        rintro e w6 ⟨rfl, rfl⟩
        refine hK _ _ (keptS (Keeps.refl _ w5)) ?_
        clear hK K
        try refine links_nil ?_
        refine stagek (fun _ => False) [17, 18, 19, 20, 22, 23, 24, 25, 26, 27] [21] 11 rfl #[true, true, true, true, true, true, true, true, true, true, true, true, true, true, true, true, true, true, true, true, true, true, true, true, true, true, true, true, false, false, false, false, false, false, false, false, false, false, false] (by kernel_rfl) (by kernel_rfl) (fun _ _ _ d _ h => by cases d <;> exact h) ?_
        simp only [opsAt, List.map_cons, List.map_nil, List.getElem?_toArray, List.getElem?_cons_zero, List.getElem?_cons_succ, Option.getD_some]
        repeat (go_big_quiet_step (fail))
        refine wpQuiet_nil ?_
        refine links_cons (by first | rfl | simp [go_sem]) (fun K hK => ?_)
        go_simp
        refine F1.out.mono ?_
        rintro e w6 ⟨rfl, rfl⟩
        refine hK _ _ (keptS (Keeps.refl _ w5)) ?_
        clear hK K
        try refine links_nil ?_
        refine stagek (fun _ => False) [28, 29, 30, 31, 33, 34, 35, 36] [32] 2 rfl #[true, true, true, true, true, true, true, true, true, true, true, true, true, true, true, true, true, true, true, true, true, true, true, true, true, true, true, true, true, true, true, true, true, true, true, true, true, false, false] (by kernel_rfl) (by kernel_rfl) (fun _ _ _ d _ h => by cases d <;> exact h) ?_
        simp only [opsAt, List.map_cons, List.map_nil, List.getElem?_toArray, List.getElem?_cons_zero, List.getElem?_cons_succ, Option.getD_some]
        repeat (go_big_quiet_step (fail))
        refine wpQuiet_nil ?_
        refine links_cons (by first | rfl | simp [go_sem]) (fun K hK => ?_)
        go_simp
        refine F2.out.mono ?_
        rintro e w6 ⟨rfl, rfl⟩
        refine hK _ _ (keptS (Keeps.refl _ w5)) ?_
        clear hK K
        try refine links_nil ?_
        refine stagek (fun _ => False) [37, 38] [] 0 rfl #[true, true, true, true, true, true, true, true, true, true, true, true, true, true, true, true, true, true, true, true, true, true, true, true, true, true, true, true, true, true, true, true, true, true, true, true, true, true, true] (by kernel_rfl) (by kernel_rfl) (fun _ _ _ d _ h => by cases d <;> exact h) ?_
        simp only [opsAt, List.map_cons, List.map_nil, List.getElem?_toArray, List.getElem?_cons_zero, List.getElem?_cons_succ, Option.getD_some]
        repeat (go_big_quiet_step (fail))
        refine wpQuiet_nil ?_
        refine links_nil ?_
        refine stages_end (by kernel_rfl) ?_
        clear k1 k2 k3 d1 d2 d3
        go_wp2_with fail
        go_roundw
        case rel => exact ⟨k + 1, s2, by omega, by go_num, hF.out⟩
        case measure => simp [intOf]; omega
    · have hq : ¬ ((k : Int) < M.length ∧ (k : Int) < 150) := by omega
      have F2 : Calls Try.prog 16 #[.pointer (some ⟨B, 0, none⟩), .int .i64 2] wr fun e w' => e = .returned (.int .i64 0) ∧ wr = w' := cable_Flying hC 2
      have F1 : Calls Try.prog 16 #[.pointer (some ⟨B, 0, none⟩), .int .i64 (-1)] wr fun e w' => e = .returned (.int .i64 0) ∧ wr = w' := cable_Flying hC (-1)
      have F1 := hid F1
      have F2 := hid F2
      clear hC hR hok
      by_cases hl1 : k < M.length
      · have hl2 : 150 ≤ k := by omega
        clear hq hlt
        go_wp2_with fail
        refine F2.out.mono ?_
        rintro e w6 ⟨rfl, rfl⟩
        go_wp2_with fail
        refine F1.out.mono ?_
        rintro e w6 ⟨rfl, rfl⟩
        go_wp2_with fail
        go_ret
        exact ⟨rfl, hW⟩
      · clear hq hlt
        go_wp2_with fail
        refine F2.out.mono ?_
        rintro e w6 ⟨rfl, rfl⟩
        go_wp2_with fail
        refine F1.out.mono ?_
        rintro e w6 ⟨rfl, rfl⟩
        go_wp2_with fail
        go_ret
        exact ⟨rfl, hW⟩
end Go.Proofs.Ytdgbmnefpempaaa
