/- The law on whatever is done with a window. -/
import Derived.Test.YtnkiofeomejjjaaWActs
import Derived.Test.YtnkiofeomejjjaaStage
import Derived.Deep.DeepCutAuto
import Derived.Deep.LoopGhost
namespace Go.Proofs.Ytnkiofeomejjjaa
open Go.RowKit
variable {w : World}
set_option maxRecDepth 100000 in
set_option maxHeartbeats 8000000 in
theorem law_RingWindows (x y at' : Int) (hx : -9223372036854775808 ≤ x ∧ x ≤ 9223372036854775807) (hy : -9223372036854775808 ≤ y ∧ y ≤ 9223372036854775807) (hat : -9223372036854775808 ≤ at' ∧ at' ≤ 9223372036854775807) (w : World) (la : Option Addr) (lc : Nat) (M : List WAct)
    (hM : Vals w 3 la M.length lc (wacts M)) (hMw : ∀ c ∈ M, c.wf) :
    Calls Try.prog 5 #[.int .i64 x, .int .i64 y, .slice la M.length lc, .int .i64 at'] w fun e w' => e = .returned (.bool true) ∧ Below w.heap.size w w' := by
  have hm1 : M.length ≤ 9223372036854775807 := Nat.le_trans hM.2.1 hM.2.2.1
  by_cases h1 : x < 1
  · go_enter Try.func5, Try.ntmps5
    go_wp2_with fail
    refine (awake04 _).mono ?_
    rintro e w1 ⟨rfl, hb1⟩
    go_wp2_with fail
    refine (win_Open_no x y (by omega) _).mono ?_
    rintro e w2 ⟨rfl, rfl⟩
    go_wp2_with fail
    go_ret
    exact ⟨rfl, hb1⟩
  by_cases h2 : 4096 < x
  · go_enter Try.func5, Try.ntmps5
    go_wp2_with fail
    refine (awake04 _).mono ?_
    rintro e w1 ⟨rfl, hb1⟩
    go_wp2_with fail
    refine (win_Open_no x y (by omega) _).mono ?_
    rintro e w2 ⟨rfl, rfl⟩
    go_wp2_with fail
    go_ret
    exact ⟨rfl, hb1⟩
  by_cases h3 : 40 < x
  · go_enter Try.func5, Try.ntmps5
    go_wp2_with fail
    refine (awake04 _).mono ?_
    rintro e w1 ⟨rfl, hb1⟩
    go_wp2_with fail
    go_ret
    exact ⟨rfl, hb1⟩
  by_cases h4 : y < 0
  · go_enter Try.func5, Try.ntmps5
    go_wp2_with fail
    refine (awake04 _).mono ?_
    rintro e w1 ⟨rfl, hb1⟩
    go_wp2_with fail
    refine (win_Open_no x y (by omega) _).mono ?_
    rintro e w2 ⟨rfl, rfl⟩
    go_wp2_with fail
    go_ret
    exact ⟨rfl, hb1⟩
  by_cases h5 : 1073741824 < y
  · go_enter Try.func5, Try.ntmps5
    go_wp2_with fail
    refine (awake04 _).mono ?_
    rintro e w1 ⟨rfl, hb1⟩
    go_wp2_with fail
    refine (win_Open_no x y (by omega) _).mono ?_
    rintro e w2 ⟨rfl, rfl⟩
    go_wp2_with fail
    go_ret
    exact ⟨rfl, hb1⟩
  obtain ⟨size, rfl⟩ := Int.eq_ofNat_of_zero_le (show 0 ≤ x by omega)
  obtain ⟨first0, rfl⟩ := Int.eq_ofNat_of_zero_le (show 0 ≤ y by omega)
  have HMw := hid hMw
  have hsz : size ≤ 40 := by omega
  have hsp : 1 ≤ size := by omega
  clear hMw hx hy h1 h2
  go_enter Try.func5, Try.ntmps5
  go_wp2_with fail
  refine (awake04 _).mono ?_
  rintro e w1 ⟨rfl, hb1⟩
  go_wp2_with fail
  refine (win_Open size first0 (by omega) (by omega) (by omega) w1).mono ?_
  rintro e w2 ⟨rfl, hr2, hb2, hs2⟩
  have hbb := hb1.trans (hb2.mono hb1.size)
  have hlB := hb1.size
  have hw0 : IsWin w2 (w1.heap.size + 1) w1.heap.size size first0 [] := ⟨_, hr2, by simp, by omega, .nil, (fun p hp => by cases hp), (fun f x h => by cases h), fun f h1 h2 h3 _ => ⟨0, by rw [List.getElem?_replicate, if_pos (Nat.mod_lt _ (by omega))]⟩⟩
  generalize w1.heap.size = B at *
  have Hs2 := hid hs2
  clear hb1 hb2 hr2 hs2
  go_wp2_with fail
  have hm0 : IsRefW (w2.alloc (.cells #[.int .i64 size, .int .i64 first0, .slice none 0 0] 51)) w2.heap.size size first0 [] := ⟨none, 0, blk_new _ _, Vals.nil _ _, fun x h => by cases h⟩
  have hr0 := hw0.keeps (T := fun _ => False) ((Keeps.refl _ w2).alloc (.cells #[.int .i64 size, .int .i64 first0, .slice none 0 0] 51)) id id
  have hb0 := hbb.alloc hbb.size (.cells #[.int .i64 size, .int .i64 first0, .slice none 0 0] 51)
  have hlm : B + 1 < w2.heap.size := by have := Hs2.out; omega
  clear hw0 hbb Hs2
  generalize w2.alloc (.cells #[.int .i64 size, .int .i64 first0, .slice none 0 0] 51) = w3 at *
  generalize w2.heap.size = m at *
  go_loopg [12] 150 (fun g i wr => ∃ (k first : Nat) (L : List (Nat × Int)), g = 150 - k ∧ k ≤ 150 ∧ i = .int .i64 k ∧ IsWin wr (B + 1) B size first L ∧ IsRefW wr m size first L ∧ Below w.heap.size w wr)
  case atStart => exact ⟨0, first0, [], rfl, by omega, rfl, hr0, hm0, hb0⟩
  case round =>
    obtain ⟨k, first, L, hg, hk, rfl, hR, hF, hW⟩ := hrel
    clear hr0 hm0 hb0
    by_cases hlt : k < M.length
    · by_cases hl2 : k < 150
      · obtain ⟨b, o, rfl, hc⟩ := (hM.below hW (fun hn x hx => hM.lt (by omega) hn hx)).at' (by omega)
        obtain ⟨a0, a1, a2⟩ := wacts_at M k hlt
        have hc0 : wr.cell? ⟨b, o + k * 3, none⟩ = some (.int .i64 M[k].kind) := hc _ _ a0
        have hc1 : wr.cell? ⟨b, o + k * 3 + 1, none⟩ = some (.int .i64 M[k].n) := by rw [Nat.add_assoc]; exact hc _ _ a1
        have hc2 : wr.cell? ⟨b, o + k * 3 + 2, none⟩ = some (.int .i64 M[k].x) := by rw [Nat.add_assoc]; exact hc _ _ a2
        have hwf := HMw.out M[k] (List.getElem_mem hlt)
        have hcr := wf_i64 hwf.2.1
        clear hc a0 a1 a2 hwf
        generalize M[k] = c at *
        go_upto_region 13 with fail
        have hxb := blk_new wr (.cells #[.int .i64 c.kind, .int .i64 c.n, .int .i64 c.x] 40)
        have hB0 : Both w B m size wr.heap.size c first L (wr.alloc (.cells #[.int .i64 c.kind, .int .i64 c.n, .int .i64 c.x] 40)) :=
          ⟨hR.keeps (T := fun _ => False) ((Keeps.refl _ wr).alloc _) id id, hF.keeps (S := fun _ => False) ((Keeps.refl _ wr).alloc _) (fun _ _ _ => id), blk_cell (k := 0) hxb rfl, blk_cell (k := 1) hxb rfl, blk_cell (k := 2) hxb rfl, hW.alloc hW.size _, hlB, hlm, hF.lt⟩
        generalize wr.alloc (.cells #[.int .i64 c.kind, .int .i64 c.n, .int .i64 c.x] 40) = W0 at *
        generalize wr.heap.size = xb at *
        clear hxb hc0 hc1 hc2 hR hF hW
        go_cut [94] (fun s94 wx => s94 = .bool false ∧ AnyBoth w B m size xb c wx)
        case first =>
          by_cases hk1 : c.kind = 1
          · have hq1 : (c.kind == 1) = true := by rw [beq_iff_eq]; exact hk1
            as_aux_lemma =>
              clear hk1
              have hle := hB0.win.le
              have hB := hB0.keeps (Keeps.refl _ W0).drew
              have z1 := hB.x1
              have z2 := hB.x2
              have z0 := hB0.x0
              have hxn : ¬ Wins B m xb := by have := hB0.lx; have := hB0.lm; unfold Wins; omega
              refine stages_start (by kernel_rfl) 18 rfl ?_
              have k0 := keptS_cell (S := Wins B m) (w := W0.drew) z0 hxn
              have k1 := keptS_cell (S := Wins B m) (w := W0.drew) z1 hxn
              have k2 := keptS_cell (S := Wins B m) (w := W0.drew) z2 hxn
              refine stagek (Wins B m) [0, 1, 2, 3, 4, 5, 6, 7, 8, 10, 11, 12, 13, 14] [9, 15] 2 rfl #[true, true, true, true, true, true, true, true, true, true, true, true, true, true, true, true, false, false] (by kernel_rfl) (by kernel_rfl) (fun _ _ _ d _ h => by cases d <;> exact h) ?_
              simp only [opsAt, List.map_cons, List.map_nil, List.getElem?_toArray, List.getElem?_cons_zero, List.getElem?_cons_succ, Option.getD_some]
              repeat (go_big_quiet_step (fail))
              refine wpQuiet_nil ?_
              refine links_cons (by first | rfl | simp [go_sem]) (fun K hK => ?_)
              go_simp
              refine (is_Put_any hB.win c.n c.x hcr).mono ?_
              rintro e w3 ⟨rfl, hR3, hk3⟩
              have hF3 := hB.refS (hk3.mono (fun _ _ h => .inr h))
              refine hK _ _ (keptS (hk3.mono (fun _ _ h => .inr (.inl h)))) ?_
              clear hK K
              try refine links_nil ?_
              refine links_cons (by first | rfl | simp [go_sem]) (fun K hK => ?_)
              go_simp
              refine (refwin_Put_any hF3 (by omega) (by omega) c.n c.x hcr).mono ?_
              rintro e w4 ⟨rfl, hF4, hk4⟩
              have hR4 := hR3.keeps hk4 (by have := hB.lm; omega) (by have := hB.lm; omega)
              have hk5 : Keeps (Wins B m) W0.drew w4 := (hk3.mono (fun _ _ h => .inr (.inl h))).trans (hk4.mono (fun _ _ h => .inr (.inr h)))
              refine hK _ _ (keptS (hk5)) ?_
              clear hK K
              try refine links_nil ?_
              refine stagek (fun _ => False) [16, 17] [] 0 rfl #[true, true, true, true, true, true, true, true, true, true, true, true, true, true, true, true, true, true] (by kernel_rfl) (by kernel_rfl) (fun _ _ _ d _ h => by cases d <;> exact h) ?_
              simp only [opsAt, List.map_cons, List.map_nil, List.getElem?_toArray, List.getElem?_cons_zero, List.getElem?_cons_succ, Option.getD_some]
              repeat (go_big_quiet_step (fail))
              refine wpQuiet_nil ?_
              refine links_nil ?_
              refine stages_end (by kernel_rfl) ?_
              go_wp2_with fail
              go_meet
              case rel => exact ⟨rfl, _, _, hB.step hk5 hR4 hF4⟩
          · have hq1 : (c.kind == 1) = false := by rw [beq_eq_false_iff_ne]; exact hk1
            as_aux_lemma =>
              clear hk1
              have x0 := hB0.x0
              go_quiet (fail)
              go_wp2_with fail
              go_meet
              case rel => exact ⟨rfl, first, L, hB0.drew _⟩
        case rest =>
          obtain ⟨rfl, first1, L1, hB1⟩ := hcut
          clear hB0
          have z0 := hB1.x0
          have z1 := hB1.x1
          obtain ⟨d1, g1⟩ := hB1.ref.c1
          go_upto_if 97 with fail
          go_cut [] (fun wx => AnyBoth w B m size xb c wx)
          case first =>
            by_cases hk2 : c.kind = 2
            · have hq1 : (c.kind == 2) = true := by rw [beq_iff_eq]; exact hk2
              clear hk2
              by_cases hlo : (first1 : Int) ≤ c.n
              · by_cases hhi : c.n ≤ 1073741824
                · obtain ⟨n, hn⟩ := Int.eq_ofNat_of_zero_le (show 0 ≤ c.n by omega)
                  as_aux_lemma =>
                    have Hn := hid hn
                    clear hn
                    have hle := hB1.win.le
                    go_wp2_with fail
                    go_quiet (fail)
                    go_wp2_with fail
                    refine (refwin_Keep_from (hB1.drew nq).ref (by omega) n c.n Hn.out hB1.win.most).mono ?_
                    rintro e w4 ⟨rfl, hF4, hk4⟩
                    obtain ⟨d4, g4⟩ := hF4.c1
                    have hne : ¬ xb = m := by have := hB1.lx; omega
                    have z4 := hk4.cell (p := ⟨xb, 1, none⟩) (v := .int .i64 c.n) z1 hne
                    have hk5 : Keeps (fun b => b = m) (wc.drewN nq) (w4.setCell ⟨m, 1, none⟩ (.int .i64 c.n)) := hk4.setCell (p := ⟨m, 1, none⟩) rfl _
                    have z5 := hk5.cell (p := ⟨xb, 1, none⟩) (v := .int .i64 c.n) z1 hne
                    have hF5 := hF4.setFirst n
                    rw [← Hn.out] at hF5
                    have hR5 := (hB1.drew nq).winS hk5
                    have hk7 : ∀ w6, Keeps (fun b => b = B + 1 ∨ b = B) (w4.setCell ⟨m, 1, none⟩ (.int .i64 c.n)) w6 → Keeps (Wins B m) (wc.drewN nq) w6 := fun w6 h => (hk5.mono (fun _ _ h => .inr (.inr h))).trans (h.mono (fun _ _ h => by unfold Wins; omega))
                    go_wp2_with fail
                    refine (is_Move hR5 n c.n Hn.out (by have := Hn.out; omega)).mono ?_
                    rintro e w6 ⟨rfl, hR6, hk6⟩
                    have hB6 := (hB1.drew nq).step (hk7 _ hk6) hR6 (hF5.keeps hk6 (fun b _ _ => by have := hB1.lm; omega))
                    clear hk7 hk6 hk5 hF5 hR5 hk4
                    go_wp2_with fail
                    go_meet
                    case rel => exact ⟨n, _, hB6⟩
                · have hhi2 : 1073741824 < c.n := by omega
                  as_aux_lemma =>
                    clear hhi
                    go_wp2_with fail
                    go_quiet (fail)
                    go_wp2_with fail
                    refine (is_Move_no (hB1.drew nq).win c.n (.inr hhi2)).mono ?_
                    rintro e w6 ⟨rfl, hR6, hk6⟩
                    go_wp2_with fail
                    go_meet
                    case rel => exact ⟨first1, L1, (hB1.drew nq).keeps hk6⟩
              · have hlo2 : c.n < (first1 : Int) := by omega
                as_aux_lemma =>
                  have hd : decide ((first1 : Int) ≤ c.n) = false := by simp; omega
                  clear hlo
                  go_wp2_with fail
                  go_quiet (fail)
                  go_wp2_with fail
                  refine (is_Move_no (hB1.drew nq).win c.n (.inl hlo2)).mono ?_
                  rintro e w6 ⟨rfl, hR6, hk6⟩
                  go_wp2_with fail
                  go_meet
                  case rel => exact ⟨first1, L1, (hB1.drew nq).keeps hk6⟩
            · have hq1 : (c.kind == 2) = false := by rw [beq_eq_false_iff_ne]; exact hk2
              clear hk2
              go_wp2_with fail
              go_meet
              case rel => exact ⟨first1, L1, hB1⟩
          case rest =>
            obtain ⟨first2, L2, hB2⟩ := hcut
            clear hB1 z0 z1 d1 g1
            have z0 := hB2.x0
            go_upto_region 22 with fail
            go_cut [138] (fun s wx => s = .bool false ∧ AnyBoth w B m size xb c wx)
            case first =>
              by_cases hk3 : c.kind = 3
              · have hq1 : (c.kind == 3) = true := by rw [beq_iff_eq]; exact hk3
                as_aux_lemma =>
                  clear hk3
                  have hle := hB2.win.le
                  have hB := hB2.keeps (Keeps.refl _ wc).drew
                  have z1 := hB.x1
                  have hxn : ¬ Wins B m xb := by have := hB2.lx; have := hB2.lm; unfold Wins; omega
                  refine stages_start (by kernel_rfl) 14 rfl ?_
                  have k0 := keptS_cell (S := Wins B m) (w := wc.drew) z0 hxn
                  have k1 := keptS_cell (S := Wins B m) (w := wc.drew) z1 hxn
                  refine stagek (Wins B m) [0, 1, 2, 3, 4, 5, 6, 8, 9, 10] [7, 11] 2 rfl #[true, true, true, true, true, true, true, true, true, true, true, true, false, false] (by kernel_rfl) (by kernel_rfl) (fun _ _ _ d _ h => by cases d <;> exact h) ?_
                  simp only [opsAt, List.map_cons, List.map_nil, List.getElem?_toArray, List.getElem?_cons_zero, List.getElem?_cons_succ, Option.getD_some]
                  repeat (go_big_quiet_step (fail))
                  refine wpQuiet_nil ?_
                  refine links_cons (by first | rfl | simp [go_sem]) (fun K hK => ?_)
                  go_simp
                  refine (is_Cut hB.win c.n).mono ?_
                  rintro e w3 ⟨rfl, hR3, hk3⟩
                  have hF3 := hB.refS (hk3.mono (fun _ _ h => .inr h))
                  refine hK _ _ (keptS (hk3.mono (fun _ _ h => .inr (.inl h)))) ?_
                  clear hK K
                  try refine links_nil ?_
                  refine links_cons (by first | rfl | simp [go_sem]) (fun K hK => ?_)
                  go_simp
                  refine (refwin_Keep_to hF3 (by omega) c.n).mono ?_
                  rintro e w4 ⟨rfl, hF4, hk4⟩
                  have hR4 := hR3.keeps hk4 (by have := hB.lm; omega) (by have := hB.lm; omega)
                  have hk5 : Keeps (Wins B m) wc.drew w4 := (hk3.mono (fun _ _ h => .inr (.inl h))).trans (hk4.mono (fun _ _ h => .inr (.inr h)))
                  refine hK _ _ (keptS (hk5)) ?_
                  clear hK K
                  try refine links_nil ?_
                  refine stagek (fun _ => False) [12, 13] [] 0 rfl #[true, true, true, true, true, true, true, true, true, true, true, true, true, true] (by kernel_rfl) (by kernel_rfl) (fun _ _ _ d _ h => by cases d <;> exact h) ?_
                  simp only [opsAt, List.map_cons, List.map_nil, List.getElem?_toArray, List.getElem?_cons_zero, List.getElem?_cons_succ, Option.getD_some]
                  repeat (go_big_quiet_step (fail))
                  refine wpQuiet_nil ?_
                  refine links_nil ?_
                  refine stages_end (by kernel_rfl) ?_
                  go_wp2_with fail
                  go_meet
                  case rel => exact ⟨rfl, _, _, hB.step hk5 hR4 hF4⟩
              · have hq1 : (c.kind == 3) = false := by rw [beq_eq_false_iff_ne]; exact hk3
                as_aux_lemma =>
                  clear hk3
                  go_quiet (fail)
                  go_wp2_with fail
                  go_meet
                  case rel => exact ⟨rfl, first2, L2, hB2.drew _⟩
            case rest =>
              obtain ⟨rfl, first3, L3, hB3⟩ := hcut
              as_aux_lemma =>
                clear hB2 z0
                go_wp2_with fail
                refine (is_Get hB3.win at' hat).mono ?_
                rintro e w4 ⟨rfl, q, rfl⟩
                have hB4 := hB3.drew q
                clear hB3
                generalize wc.drewN q = w4 at *
                go_wp2_with fail
                refine (refwin_Get hB4.ref at').mono ?_
                rintro e w5 ⟨rfl, rfl⟩
                have z1 := hB4.x1
                go_wp2_with fail
                refine (is_Get hB4.win c.n hcr).mono ?_
                rintro e w5 ⟨rfl, q, rfl⟩
                have hB5 := hB4.drew q
                clear hB4 z1
                generalize w4.drewN q = w5 at *
                have z1 := hB5.x1
                go_wp2_with fail
                refine (refwin_Get hB5.ref c.n).mono ?_
                rintro e w6 ⟨rfl, rfl⟩
                generalize (lookI L3 at').getD 0 = va
                generalize (lookI L3 at').isSome = vb
                generalize (lookI L3 c.n).getD 0 = vc
                generalize (lookI L3 c.n).isSome = vd
                have e1 : (va != va) = false := by simp
                have e2 : (vb != vb) = false := by simp
                have e3 : (vc != vc) = false := by simp
                have e4 : (vd != vd) = false := by simp
                obtain ⟨i0, hi, hz0, hz1, hz2⟩ := info_parts info_int
                have Hi := hid hi
                clear hi
                obtain ⟨a5, cap5, f1, f2, f3⟩ := id hB5.ref
                have c2 : w5.cell? ⟨m, 2, none⟩ = some (.slice a5 L3.length cap5) := blk_cell f1 rfl
                have hl3 : L3.length ≤ 40 := by have := hB5.win.le; omega
                clear f1 f3
                go_wp2_with fail
                go_loopg [23, 24] 40 (fun g v i wr => ∃ j : Nat, g = 40 - j ∧ j ≤ L3.length ∧ i = .int .i64 j ∧ wr.ownsRow w5.heap.size 3 1 v j (intsL (natsL ((L3.map (·.1)).take j))) ∧ Keeps (fun _ => False) w5 wr)
                case atStart => exact ⟨0, rfl, Nat.zero_le _, rfl, own_empty (Nat.le_refl _) (blk_new _ _), (Keeps.refl _ w5).alloc _⟩
                case round =>
                  obtain ⟨j, hg2, hj, rfl, hown, hkr⟩ := hrel
                  as_aux_lemma =>
                    have c2r := hkr.cell c2 id
                    by_cases hjl : j < L3.length
                    · obtain ⟨b5, o5, rfl, hc5⟩ := f2.at' (by omega)
                      have hw5 : w5.cell? ⟨b5, o5 + j * 2, none⟩ = some (.int .i64 L3[j].1) := hc5 _ _ (ones_at L3 j hjl).1
                      have k5 := hkr.cell hw5 id
                      have hsn : intsL (natsL ((L3.map (·.1)).take (j + 1))) = intsL (natsL ((L3.map (·.1)).take j)) ++ [.int .i64 (L3[j].1 : Nat)] := by rw [List.take_succ_eq_append_getElem (by simpa using hjl)]; simp only [intsL, natsL, List.map_append, List.map_cons, List.map_nil, List.getElem_map]
                      clear hc5 hw5
                      generalize L3[j].1 = fr at *
                      have Hsn := hid hsn
                      clear hsn
                      go_wp2_with (at_builtin; refine wpList_append_vals _ rfl (.tmp 175) (.tmp 184) _ rfl w5.heap.size 3 i0 _ 1 8 Try.underlying22 Hi.out hz0 hz1 hz2 rfl (by omega) _ j (intsL (natsL ((L3.map (·.1)).take j))) rfl (own_keeps hown ((Keeps.refl (fun _ => False) _).alloc _) (fun _ _ => id)) (some ⟨_, 0, none⟩) 1 1 [.int .i64 (fr : Nat)] rfl (vals_one _ _ _) (by simp [Value.oneCell']) (by simp only [maxLen]; omega) (by omega) (by have := hkr.size; simp; omega) ?_)
                      intro v7 w7 hown7 hg7 _
                      have hk7 : Keeps (fun _ => False) w5 w7 := (hkr.alloc _).grown hg7 (fun k hk => .inr ((hown.lt k hk).1))
                      rw [← Hsn.out] at hown7
                      clear hg7 hown
                      go_wp2
                      go_roundg (40 - (j + 1))
                      case measure => omega
                      case rel => exact ⟨j + 1, rfl, by omega, by go_num, hown7, hk7⟩
                    · obtain rfl : j = L3.length := by omega
                      rw [List.take_of_length_le (by simp)] at hown
                      obtain ⟨A7, cap7, rfl, hv7, hx7⟩ := vals_of_own hown
                      as_aux_lemma =>
                        have hB7 := hB5.keeps hkr
                        have hB8 := hB7.keeps (Keeps.refl _ wr).drew
                        obtain ⟨d1, _⟩ := hB8.ref.c1
                        have hle := hB7.win.le
                        have hl7 : (L3.length : Int) ≤ size := by omega
                        have hnl : (natsL (L3.map (·.1))).length = (L3.map (·.1)).length := by simp [natsL]
                        have hnl2 : (natsL (L3.map (·.1))).length = L3.length := by simp [natsL]
                        have hv9 : Vals wr 1 A7 (natsL (L3.map (·.1))).length cap7 (ints (natsL (L3.map (·.1)))) := by rw [hnl2]; exact hv7
                        have Hnl := hid hnl
                        have Hnl2 := hid hnl2
                        clear hown hv7 hB5 hkr c2 hnl hnl2 hB7 z1
                        go_wp2_with fail
                        refine stages_start (by kernel_rfl) 40 rfl ?_
                        have k1 := keptS_cell (S := fun _ => False) d1 id
                        refine stagek (fun _ => False) [0, 1, 2, 3, 4, 5, 6, 7, 8, 9, 10, 11, 12, 13, 14, 15, 16, 17, 18, 19, 21, 22, 23, 24] [20] 15 rfl #[true, true, true, true, true, true, true, true, true, true, true, true, true, true, true, true, true, true, true, true, true, true, true, true, true, false, false, false, false, false, false, false, false, false, false, false, false, false, false, false] (by kernel_rfl) (by kernel_rfl) (fun _ _ _ d _ h => by cases d <;> exact h) ?_
                        simp only [opsAt, List.map_cons, List.map_nil, List.getElem?_toArray, List.getElem?_cons_zero, List.getElem?_cons_succ, Option.getD_some]
                        repeat (go_big_quiet_step (fail))
                        refine wpQuiet_nil ?_
                        refine links_cons (by first | rfl | simp [go_sem]) (fun K hK => ?_)
                        go_simp
                        refine (is_First hB8.win).mono ?_
                        rintro e w8 ⟨rfl, rfl⟩
                        refine hK _ _ (keptS (Keeps.refl _ _)) ?_
                        clear hK K
                        try refine links_nil ?_
                        refine stagek (fun _ => False) [25, 26, 27, 28, 30] [29, 31] 8 rfl #[true, true, true, true, true, true, true, true, true, true, true, true, true, true, true, true, true, true, true, true, true, true, true, true, true, true, true, true, true, true, true, true, false, false, false, false, false, false, false, false] (by kernel_rfl) (by kernel_rfl) (fun _ _ _ d _ h => by cases d <;> exact h) ?_
                        simp only [opsAt, List.map_cons, List.map_nil, List.getElem?_toArray, List.getElem?_cons_zero, List.getElem?_cons_succ, Option.getD_some]
                        repeat (go_big_quiet_step (fail))
                        refine wpQuiet_nil ?_
                        refine links_cons (by first | rfl | simp [go_sem]) (fun K hK => ?_)
                        go_simp
                        refine (is_Frames hB8.win).mono ?_
                        rintro e w8 ⟨v8, rfl, ho8, hb8⟩
                        obtain ⟨A8, cap8, rfl, hv8, hx8⟩ := vals_of_own ho8
                        have hk8 : Keeps (fun _ => False) wr.drew w8 := Keeps.of_below hb8 (fun k h1 h2 => by omega)
                        refine hK _ _ (keptS (hk8)) ?_
                        clear hK K
                        try refine links_nil ?_
                        refine links_cons (by first | rfl | simp [go_sem]) (fun K hK => ?_)
                        go_simp
                        refine (ref_Ints _ _ _ _ _ _ _ (natsL (L3.map (·.1))) (natsL (L3.map (·.1))) Hnl2.out.symm Hnl2.out.symm (by rw [Hnl.out]; exact hv8) (hv9.keeps ((Keeps.refl _ wr).drew.trans hk8) (fun _ _ _ => id))).mono ?_
                        rintro e w9 ⟨rfl, q, rfl⟩
                        have hde : decide (natsL (L3.map (·.1)) = natsL (L3.map (·.1))) = true := by simp
                        rw [hde]
                        clear hde
                        refine hK _ _ (keptS (hk8.drewN q)) ?_
                        clear hK K
                        try refine links_nil ?_
                        have hB9 := hB8.keeps (hk8.drewN q)
                        refine stagek (fun _ => False) [32, 33, 34, 35, 36, 37, 38, 39] [] 0 rfl #[true, true, true, true, true, true, true, true, true, true, true, true, true, true, true, true, true, true, true, true, true, true, true, true, true, true, true, true, true, true, true, true, true, true, true, true, true, true, true, true] (by kernel_rfl) (by kernel_rfl) (fun _ _ _ d _ h => by cases d <;> exact h) ?_
                        simp only [opsAt, List.map_cons, List.map_nil, List.getElem?_toArray, List.getElem?_cons_zero, List.getElem?_cons_succ, Option.getD_some]
                        repeat (go_big_quiet_step (fail))
                        refine wpQuiet_nil ?_
                        refine links_nil ?_
                        refine stages_end (by kernel_rfl) ?_
                        go_wp2_with fail
                        go_roundg (150 - (k + 1))
                        case measure => omega
                        case rel => exact ⟨k + 1, first3, L3, rfl, by omega, by go_num, hB9.win, hB9.ref, hB9.below⟩
      · go_wp2_with fail
        go_ret
        exact ⟨rfl, hW⟩
    · go_wp2_with fail
      go_ret
      exact ⟨rfl, hW⟩
end Go.Proofs.Ytnkiofeomejjjaa
