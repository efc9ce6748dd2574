/- The law that nothing comes of nothing. -/
import Derived.Test.YtdgbmnefpempaaaSent
namespace Go.Proofs.Ytdgbmnefpempaaa
open Go.RowKit
/-- the cable and what was sent behind k calls -/
structure KeepSt (w wr : World) (B D most k : Nat) (s t : CS) : Prop where
  c : IsCable wr B most s
  r : Sent wr D t
  fair : Fair s t most
  lo : 0 ≤ s.lost ∧ s.lost ≤ 1000 * k
  tot : t.total ≤ k ∧ 0 ≤ t.lost ∧ t.lost ≤ k
  below : Below w.heap.size w wr
set_option maxRecDepth 100000 in
set_option maxHeartbeats 8000000 in
theorem law_CableKeeps (x : Int) (w : World) (la : Option Addr) (lc : Nat) (M : List Act6) (hM : Vals w 6 la M.length lc (acts6 M)) (hMw : ∀ c ∈ M, c.wf) :
    Calls Try.prog 3 #[.int .i64 x, .slice la M.length lc] w fun e w' => e = .returned (.bool true) ∧ Below w.heap.size w w' := by
  have hm1 : M.length ≤ 9223372036854775807 := Nat.le_trans hM.2.1 hM.2.2.1
  by_cases h1 : x < 1 ∨ 64 < x
  · have hno := hid (cable_New_no x h1)
    clear h1
    go_enter Try.func3, Try.ntmps3
    go_wp2_with fail
    refine (awake08 _).mono ?_
    rintro e w1 ⟨rfl, hb1⟩
    go_wp2_with fail
    refine (hno.out _).mono ?_
    rintro e w2 ⟨rfl, rfl⟩
    go_wp2_with fail
    go_ret
    exact ⟨rfl, hb1⟩
  have ha : 1 ≤ x := by omega
  have hb : x ≤ 64 := by omega
  clear h1
  obtain ⟨most, rfl⟩ := Int.eq_ofNat_of_zero_le (show 0 ≤ x by omega)
  have HMw := hid hMw
  clear hMw
  go_enter Try.func3, Try.ntmps3
  go_wp2_with fail
  refine (awake08 _).mono ?_
  rintro e w1 ⟨rfl, hb1⟩
  go_wp2_with fail
  refine (cable_New most (by omega) (by omega) w1).mono ?_
  rintro e w2 ⟨rfl, hr2, hb2⟩
  have hbb := hb1.trans (hb2.mono hb1.size)
  have hbz := hb1.size
  generalize w1.heap.size = B at *
  have hw2 : B + 4 < w2.heap.size := hr2.rb.le.2.2.2.1
  clear hb1 hb2
  go_wp2_with fail
  have hs0 : Sent (w2.alloc (.cells #[.slice none 0 0, .slice none 0 0] 29)) w2.heap.size ⟨[], [], 0⟩ := ⟨_, _, blk_new _ _, own_nil _ _ _ _, own_nil _ _ _ _, fun _ h => by cases h⟩
  have hr0 := hr2.keeps (S := fun _ => False) ((Keeps.refl _ w2).alloc (.cells #[.slice none 0 0, .slice none 0 0] 29)) (fun _ _ => id)
  have hb0 := hbb.alloc hbb.size (.cells #[.slice none 0 0, .slice none 0 0] 29)
  clear hr2 hbb
  generalize w2.heap.size = D at *
  have hst := hid (KeepSt.mk hr0 hs0 (fair_new most) ⟨Int.le_refl _, Int.le_refl _⟩ ⟨Nat.le_refl _, Int.le_refl _, Int.le_refl _⟩ hb0 : KeepSt w _ B D most 0 ⟨[], [], 0⟩ ⟨[], [], 0⟩)
  clear hr0 hs0 hb0
  go_loopw [8, 9] (fun n i wr => ∃ (k : Nat) (s t : CS), k ≤ 150 ∧ i = .int .i64 k ∧ n = .int .i64 t.lost ∧ Hid (KeepSt w wr B D most k s t)) (fun _ i _ => 150 - (intOf i).toNat)
  case atStart => exact ⟨0, _, _, by omega, rfl, rfl, hst⟩
  case round =>
    obtain ⟨k, s, t, hk, rfl, rfl, hS⟩ := hrel
    obtain ⟨hC, hR, hfair, hlo, htot, hW⟩ := hS.out
    clear hst hS
    have Hfair := hid hfair
    clear hfair
    by_cases hlt : k < M.length ∧ k < 150
    · obtain ⟨hlt, hl2⟩ := hlt
      obtain ⟨b, o, rfl, hc⟩ := (hM.below hW (fun hn x hx => hM.lt (by omega) hn hx)).at' (by omega)
      have hat := acts6_at M k hlt
      have hc0 : wr.cell? ⟨b, o + k * 6, none⟩ = some (.int .i64 M[k].kind) := hc _ _ (hat 0 (by omega))
      have hc1 : wr.cell? ⟨b, o + k * 6 + 1, none⟩ = some (.int .i64 M[k].to) := by rw [Nat.add_assoc]; exact hc _ _ (hat 1 (by omega))
      have hc2 : wr.cell? ⟨b, o + k * 6 + 2, none⟩ = some (.int .i64 M[k].i) := by rw [Nat.add_assoc]; exact hc _ _ (hat 2 (by omega))
      have hc3 : wr.cell? ⟨b, o + k * 6 + 3, none⟩ = some (.string M[k].s) := by rw [Nat.add_assoc]; exact hc _ _ (hat 3 (by omega))
      have hc4 : wr.cell? ⟨b, o + k * 6 + 4, none⟩ = some (.int .i64 M[k].at') := by rw [Nat.add_assoc]; exact hc _ _ (hat 4 (by omega))
      have hc5 : wr.cell? ⟨b, o + k * 6 + 5, none⟩ = some (.int .u8 M[k].b) := by rw [Nat.add_assoc]; exact hc _ _ (hat 5 (by omega))
      have hwf := HMw.out M[k] (List.getElem_mem hlt)
      clear hc hat
      generalize M[k] = c at *
      have hwz := hW.size
      have hbox := blk_new wr (.cells #[.int .i64 c.kind, .int .i64 c.to, .int .i64 c.i, .string c.s, .int .i64 c.at', .int .u8 c.b] 31)
      have hkb := (Keeps.refl (fun _ => False) wr).alloc (.cells #[.int .i64 c.kind, .int .i64 c.to, .int .i64 c.i, .string c.s, .int .i64 c.at', .int .u8 c.b] 31)
      have hC1 := hC.keeps hkb (fun _ _ => id)
      have hR1 := hR.keeps hkb (fun _ _ _ => id)
      have hW1 := hW.trans (hkb.below hwz (fun _ _ => id))
      have lD := hR.lt
      have hR0 := hid hR
      clear hkb hR hC
      by_cases hsz : 400 < c.s.size
      · have Hst := hid (KeepSt.mk hC1 hR1 Hfair.out ⟨hlo.1, by omega⟩ (by omega) hW1 : KeepSt w _ B D most (k + 1) s t)
        clear hwf hC1 hR1 hW1
        go_wp2_with fail
        go_roundw
        case rel => exact ⟨k + 1, s, t, by omega, by go_num, rfl, Hst⟩
        case measure => simp [intOf]; omega
      · have hsb := hid (hR0.out.side)
        by_cases hk1 : c.kind = 1
        · have hq1 : (c.kind == 1) = true := by rw [beq_iff_eq]; exact hk1
          clear hk1
          go_wp2_with fail
          have x1 : (wr.alloc (.cells #[.int .i64 c.kind, .int .i64 c.to, .int .i64 c.i, .string c.s, .int .i64 c.at', .int .u8 c.b] 31)).cell? ⟨wr.heap.size, 1, none⟩ = some (.int .i64 c.to) := blk_cell hbox rfl
          have x2 : (wr.alloc (.cells #[.int .i64 c.kind, .int .i64 c.to, .int .i64 c.i, .string c.s, .int .i64 c.at', .int .u8 c.b] 31)).cell? ⟨wr.heap.size, 2, none⟩ = some (.int .i64 c.i) := blk_cell hbox rfl
          have x3 : (wr.alloc (.cells #[.int .i64 c.kind, .int .i64 c.to, .int .i64 c.i, .string c.s, .int .i64 c.at', .int .u8 c.b] 31)).cell? ⟨wr.heap.size, 3, none⟩ = some (.string c.s) := blk_cell hbox rfl
          have hk0 : Keeps (fun b => b < D) wr (wr.alloc (.cells #[.int .i64 c.kind, .int .i64 c.to, .int .i64 c.i, .string c.s, .int .i64 c.at', .int .u8 c.b] 31)) := (Keeps.refl _ wr).alloc _
          clear hbox hc0 hc1 hc2 hc3 hc4 hc5
          generalize wr.alloc (.cells #[.int .i64 c.kind, .int .i64 c.to, .int .i64 c.i, .string c.s, .int .i64 c.at', .int .u8 c.b] 31) = W0 at *
          obtain ⟨xb, hxe⟩ : ∃ xb, wr.heap.size = xb := ⟨_, rfl⟩
          rw [hxe] at x1 x2 x3 lD ⊢
          have Hxe := hid hxe
          clear hxe
          refine (cable_Send hC1 ⟨hlo.1, by omega⟩ c.to c.s (by unfold maxLen; omega)).mono ?_
          rintro e w2 ⟨rfl, hC2, hk2⟩
          have hnx : ¬ ofCable B xb := fun h => by have := h.2; omega
          have y1 := hk2.cell x1 hnx
          have y2 := hk2.cell x2 hnx
          have y3 := hk2.cell x3 hnx
          have hkW := hk0.trans (hk2.mono (T := fun b => b < D) fun j _ h => Nat.lt_of_le_of_lt h.2 hw2)
          have hW2 := hW1.trans (hk2.below hW1.size (fun j h1 h2 => by have := h2.1; omega))
          clear x1 x2 x3
          by_cases hE : okTo c.to ∧ okText c.s
          · have he : sendE c.to c.s = 0 := sendE_ok hE
            rw [he]
            have hF := hid (Hfair.out.send hE.1 hE.2)
            obtain ⟨v, hv⟩ := hsb.out c.to hE.1
            have hg0 := hkW.cell hv.cell (Nat.lt_irrefl D)
            have hg1 := hkW.frozen (World.block_lt_of_cell? _ _ hv.cell) (show ¬ (D : Nat) < D by omega) |>.trans hv.free
            have hg2 := own_keeps hv.own hkW (fun b e => by have := (hv.row b e).1; omega)
            obtain ⟨hto, htx⟩ := hE
            have hs128 : s.total ≤ 128 := by have := hC1.ra.le.1; have := hC1.rb.le.1; unfold CS.total; omega
            have lw := World.block_lt_of_cell? _ _ y1
            clear hC1 hR1 hW1 hk2 hwf he y2 hR0
            have hvr := hv.row
            have hpush := hid hv.push
            have hnm : (t.put c.to (t.get c.to ++ [c.s])).lost = t.lost := put_lost _ _ _
            have htt := total_put t c.to (t.get c.to ++ [c.s])
            have hsl := step_lost (s := s) (most := most) 1 c.to c.i c.s
            have hnT : (t.get c.to).length ≤ 150 := by unfold CS.get; unfold CS.total at htot; split <;> omega
            rw [show stepC s most 1 c.to c.i c.s = sendC s most c.to c.s from rfl] at hsl
            rw [List.length_append, List.length_singleton] at htt
            have hHn := hid hnm
            have hHt := hid htt
            have hHs := hid hsl
            clear hv hnm htt hsl
            generalize hT : t.put c.to (t.get c.to ++ [c.s]) = t2 at *
            have HT := hid hT
            clear hT
            generalize sendC s most c.to c.s = s2 at *
            generalize sendB s most c.to c.s = bb at *
            generalize hL : t.get c.to = L at *
            clear hL
            generalize c.to = to at *
            generalize c.s = x at *
            obtain ⟨i0, hi, hz0, hz1, hz2⟩ := info_parts info_s
            have Hi := hid hi
            clear hi
            rcases hto with rfl | rfl
            · have d0 : w2.cell? ⟨D, 0, none⟩ = some v := hg0
              have d1 : w2.frozen? ⟨D, 0, none⟩ = false := hg1
              clear hg0 hg1
              have q1 : ¬ v.ownBlock = some D := fun e => by have := hvr D e; omega
              have q2 : ¬ v.ownBlock = some xb := fun e => by have := hvr xb e; have := Hxe.out; omega
              go_wp2_with fail
              refine stages_start (by kernel_rfl) 12 rfl ?_
              have k0 := keptS_cell (S := fun b => v.ownBlock = some b) (w := w2.drew) d0 q1
              have k1 := keptS_cell (S := fun b => v.ownBlock = some b) (w := w2.drew) y1 q2
              have k3 := keptS_cell (S := fun b => v.ownBlock = some b) (w := w2.drew) y3 q2
              refine stagek (fun b => v.ownBlock = some b) [0, 1, 2, 3, 4, 5, 6, 7] [8, 9] 2 rfl #[true, true, true, true, true, true, true, true, true, true, false, false] (by kernel_rfl) (by kernel_rfl) (fun _ _ _ d _ h => by cases d <;> exact h) ?_
              simp only [opsAt, List.map_cons, List.map_nil, List.getElem?_toArray, List.getElem?_cons_zero, List.getElem?_cons_succ, Option.getD_some]
              repeat (go_big_quiet_step (fail))
              refine wpQuiet_nil ?_
              refine links_cons (by first | rfl | simp [go_sem]) (fun K hK => ?_)
              go_simp
              refine hK _ _ (keptS (keeps_drew (((Keeps.refl _ w2).alloc _).drew))) ?_
              clear hK K
              refine links_cons (by first | rfl | simp [go_sem]) (fun K hK => ?_)
              have hkA : Keeps (fun _ => False) w2 (w2.alloc (.cells #[.string x] 9)).drew := ((Keeps.refl _ w2).alloc _).drew
              refine wp_append_vals _ (.tmp 65) (.tmp 68) _ rfl (D + 1) 9 i0 _ 1 16 Try.underlying28 Hi.out hz0 hz1 hz2 rfl (by omega) v L.length (strs L) rfl (own_keeps hg2 hkA (fun _ _ => id)) (some ⟨w2.heap.size, 0, none⟩) 1 1 [.string x] rfl ((vals_one w2 _ _).keeps (S := fun _ => False) (Keeps.refl _ _).drew (fun _ _ _ => id)) (by simp [Value.oneCell']) (by simp only [maxLen]; omega) (by omega) (by have := hkA.size; have := World.block_lt_of_cell? _ _ d0; simp at this; omega) ?_
              intro v9 w9 hown9 hg9 hat9
              have hk9 : Keeps (fun b => v.ownBlock = some b) w2 w9 := (((Keeps.refl _ w2).alloc _).drew).grown hg9 (fun k hk => .inl hk)
              refine hK _ _ (keptS (keeps_drew hk9)) ?_
              clear hK K
              refine links_nil ?_
              have c9 := hk9.cell d0 q1
              have f9 := (hk9.frozen (World.block_lt_of_cell? _ _ d0) q1).trans d1
              rw [strs_snoc, show L.length + 1 = (L ++ [x]).length by simp] at hown9
              have hsent := hpush.out w9 v9 (L ++ [x]) ((hkW.mono (T := fun b => v.ownBlock = some b ∨ b < D) fun _ _ h => .inr h).trans (hk9.mono fun _ _ h => .inl h)) hown9 (hat9.imp id fun h => ⟨_, h, by have := hkA.size; have := hkW.size; omega⟩)
              have hkk := (hk9.mono (T := fun b => v.ownBlock = some b ∨ b = D) fun _ _ h => .inl h).setCell (p := ⟨D, 0, none⟩) (.inr rfl) v9
              obtain ⟨A2, cap2, rfl, _, _⟩ := vals_of_own hown9
              clear hg9 hown9 hat9 hkA k0 k1 k3
              simp only [Act.put, List.setIfInBounds_toArray, List.set_cons_succ, List.set_cons_zero]
              refine stagek (fun _ => True) [10] [11] 0 rfl #[true, true, true, true, true, true, true, true, true, true, true, true] (by kernel_rfl) (by kernel_rfl) (fun _ _ _ d _ h => by cases d <;> exact h) ?_
              simp only [opsAt, List.map_cons, List.map_nil, List.getElem?_toArray, List.getElem?_cons_zero, List.getElem?_cons_succ, Option.getD_some]
              repeat (go_big_quiet_step (fail))
              refine wpQuiet_nil ?_
              refine links_cons (by first | rfl | simp [go_sem]) (fun K hK => ?_)
              go_simp
              refine hK _ _ (keptS ((Keeps.refl _ w9).setCell (p := ⟨D, 0, none⟩) trivial _)) ?_
              clear hK K
              refine links_nil ?_
              refine stages_end (by kernel_rfl) ?_
              rw [HT.out] at hsent
              have Hst : Hid (KeepSt w _ B D most (k + 1) s2 t2) := ⟨hC2.keeps hkk (fun b h1 h2 => by have := h1.2; rcases h2 with h2 | h2; (have := (hvr b h2).1); all_goals omega), hsent, hF.out, (by have := hHs.out; omega), (by have := hHt.out; have := hHn.out; omega), hW2.trans (hkk.below hW2.size (fun b h1 h2 => by rcases h2 with h2 | h2; (have := (hvr b h2).1); all_goals omega))⟩
              simp only [List.length_append, List.length_cons, List.length_nil, Nat.zero_add] at Hst
              go_wp2_with fail
              go_roundw
              case rel => exact ⟨k + 1, s2, t2, by omega, by go_num, by rw [hHn.out], Hst⟩
              case measure => simp [intOf]; omega
            · have d0 : w2.cell? ⟨D, 1, none⟩ = some v := hg0
              have d1 : w2.frozen? ⟨D, 1, none⟩ = false := hg1
              clear hg0 hg1
              have q1 : ¬ v.ownBlock = some D := fun e => by have := hvr D e; omega
              have q2 : ¬ v.ownBlock = some xb := fun e => by have := hvr xb e; have := Hxe.out; omega
              go_wp2_with fail
              refine stages_start (by kernel_rfl) 12 rfl ?_
              have k0 := keptS_cell (S := fun b => v.ownBlock = some b) (w := w2.drew) d0 q1
              have k1 := keptS_cell (S := fun b => v.ownBlock = some b) (w := w2.drew) y1 q2
              have k3 := keptS_cell (S := fun b => v.ownBlock = some b) (w := w2.drew) y3 q2
              refine stagek (fun b => v.ownBlock = some b) [0, 1, 2, 3, 4, 5, 6, 7] [8, 9] 2 rfl #[true, true, true, true, true, true, true, true, true, true, false, false] (by kernel_rfl) (by kernel_rfl) (fun _ _ _ d _ h => by cases d <;> exact h) ?_
              simp only [opsAt, List.map_cons, List.map_nil, List.getElem?_toArray, List.getElem?_cons_zero, List.getElem?_cons_succ, Option.getD_some]
              repeat (go_big_quiet_step (fail))
              refine wpQuiet_nil ?_
              refine links_cons (by first | rfl | simp [go_sem]) (fun K hK => ?_)
              go_simp
              refine hK _ _ (keptS (keeps_drew (((Keeps.refl _ w2).alloc _).drew))) ?_
              clear hK K
              refine links_cons (by first | rfl | simp [go_sem]) (fun K hK => ?_)
              have hkA : Keeps (fun _ => False) w2 (w2.alloc (.cells #[.string x] 9)).drew := ((Keeps.refl _ w2).alloc _).drew
              refine wp_append_vals _ (.tmp 65) (.tmp 68) _ rfl (D + 1) 9 i0 _ 1 16 Try.underlying28 Hi.out hz0 hz1 hz2 rfl (by omega) v L.length (strs L) rfl (own_keeps hg2 hkA (fun _ _ => id)) (some ⟨w2.heap.size, 0, none⟩) 1 1 [.string x] rfl ((vals_one w2 _ _).keeps (S := fun _ => False) (Keeps.refl _ _).drew (fun _ _ _ => id)) (by simp [Value.oneCell']) (by simp only [maxLen]; omega) (by omega) (by have := hkA.size; have := World.block_lt_of_cell? _ _ d0; simp at this; omega) ?_
              intro v9 w9 hown9 hg9 hat9
              have hk9 : Keeps (fun b => v.ownBlock = some b) w2 w9 := (((Keeps.refl _ w2).alloc _).drew).grown hg9 (fun k hk => .inl hk)
              refine hK _ _ (keptS (keeps_drew hk9)) ?_
              clear hK K
              refine links_nil ?_
              have c9 := hk9.cell d0 q1
              have f9 := (hk9.frozen (World.block_lt_of_cell? _ _ d0) q1).trans d1
              rw [strs_snoc, show L.length + 1 = (L ++ [x]).length by simp] at hown9
              have hsent := hpush.out w9 v9 (L ++ [x]) ((hkW.mono (T := fun b => v.ownBlock = some b ∨ b < D) fun _ _ h => .inr h).trans (hk9.mono fun _ _ h => .inl h)) hown9 (hat9.imp id fun h => ⟨_, h, by have := hkA.size; have := hkW.size; omega⟩)
              have hkk := (hk9.mono (T := fun b => v.ownBlock = some b ∨ b = D) fun _ _ h => .inl h).setCell (p := ⟨D, 1, none⟩) (.inr rfl) v9
              obtain ⟨A2, cap2, rfl, _, _⟩ := vals_of_own hown9
              clear hg9 hown9 hat9 hkA k0 k1 k3
              simp only [Act.put, List.setIfInBounds_toArray, List.set_cons_succ, List.set_cons_zero]
              refine stagek (fun _ => True) [10] [11] 0 rfl #[true, true, true, true, true, true, true, true, true, true, true, true] (by kernel_rfl) (by kernel_rfl) (fun _ _ _ d _ h => by cases d <;> exact h) ?_
              simp only [opsAt, List.map_cons, List.map_nil, List.getElem?_toArray, List.getElem?_cons_zero, List.getElem?_cons_succ, Option.getD_some]
              repeat (go_big_quiet_step (fail))
              refine wpQuiet_nil ?_
              refine links_cons (by first | rfl | simp [go_sem]) (fun K hK => ?_)
              go_simp
              refine hK _ _ (keptS ((Keeps.refl _ w9).setCell (p := ⟨D, 1, none⟩) trivial _)) ?_
              clear hK K
              refine links_nil ?_
              refine stages_end (by kernel_rfl) ?_
              rw [HT.out] at hsent
              have Hst : Hid (KeepSt w _ B D most (k + 1) s2 t2) := ⟨hC2.keeps hkk (fun b h1 h2 => by have := h1.2; rcases h2 with h2 | h2; (have := (hvr b h2).1); all_goals omega), hsent, hF.out, (by have := hHs.out; omega), (by have := hHt.out; have := hHn.out; omega), hW2.trans (hkk.below hW2.size (fun b h1 h2 => by rcases h2 with h2 | h2; (have := (hvr b h2).1); all_goals omega))⟩
              simp only [List.length_append, List.length_cons, List.length_nil, Nat.zero_add] at Hst
              go_wp2_with fail
              go_roundw
              case rel => exact ⟨k + 1, s2, t2, by omega, by go_num, by rw [hHn.out], Hst⟩
              case measure => simp [intOf]; omega
          · have he := sendE_no hE
            have hsd := (send_no (s := s) (most := most) (to := c.to) (t := c.s) hE).2
            rw [hsd] at hC2
            have hR2 := hR1.keeps hk2 (fun b h1 h2 h3 => by have := h3.2; omega)
            have Hst : Hid (KeepSt w w2 B D most (k + 1) s t) := ⟨hC2, hR2, Hfair.out, ⟨hlo.1, by omega⟩, by omega, hW2⟩
            clear hC1 hR1 hW1 hwf hsd hC2 hR2 hE hsb
            generalize sendE c.to c.s = ee at *
            go_wp2_with fail
            go_roundw
            case rel => exact ⟨k + 1, s, t, by omega, by go_num, rfl, Hst⟩
            case measure => simp [intOf]; omega
        have hq1 : (c.kind == 1) = false := by rw [beq_eq_false_iff_ne]; exact hk1
        clear hk1
        by_cases hk2' : c.kind = 2
        · have hq2 : (c.kind == 2) = true := by rw [beq_iff_eq]; exact hk2'
          clear hk2'
          have hT := hid (fun W (h : IsCable W B most s) => cable_Take h c.to c.i)
          cases hcp : copyC s c.to c.i with
          | none =>
            rw [hcp, takeC_none hcp, show strV none = .string ByteArray.empty from rfl, Option.isSome_none] at hT
            clear hcp
            go_wp2_with fail
            have x1 : (wr.alloc (.cells #[.int .i64 c.kind, .int .i64 c.to, .int .i64 c.i, .string c.s, .int .i64 c.at', .int .u8 c.b] 31)).cell? ⟨wr.heap.size, 1, none⟩ = some (.int .i64 c.to) := blk_cell hbox rfl
            have x2 : (wr.alloc (.cells #[.int .i64 c.kind, .int .i64 c.to, .int .i64 c.i, .string c.s, .int .i64 c.at', .int .u8 c.b] 31)).cell? ⟨wr.heap.size, 2, none⟩ = some (.int .i64 c.i) := blk_cell hbox rfl
            have x3 : (wr.alloc (.cells #[.int .i64 c.kind, .int .i64 c.to, .int .i64 c.i, .string c.s, .int .i64 c.at', .int .u8 c.b] 31)).cell? ⟨wr.heap.size, 3, none⟩ = some (.string c.s) := blk_cell hbox rfl
            have hk0 : Keeps (fun b => b < D) wr (wr.alloc (.cells #[.int .i64 c.kind, .int .i64 c.to, .int .i64 c.i, .string c.s, .int .i64 c.at', .int .u8 c.b] 31)) := (Keeps.refl _ wr).alloc _
            clear hbox hc0 hc1 hc2 hc3 hc4 hc5
            generalize wr.alloc (.cells #[.int .i64 c.kind, .int .i64 c.to, .int .i64 c.i, .string c.s, .int .i64 c.at', .int .u8 c.b] 31) = W0 at *
            obtain ⟨xb, hxe⟩ : ∃ xb, wr.heap.size = xb := ⟨_, rfl⟩
            rw [hxe] at x1 x2 x3 lD ⊢
            have Hxe := hid hxe
            clear hxe
            refine (hT.out _ hC1).mono ?_
            rintro e w2 ⟨rfl, hC2, hk2⟩
            have hnx : ¬ ofCable B xb := fun h => by have := h.2; omega
            have y1 := hk2.cell x1 hnx
            have y2 := hk2.cell x2 hnx
            have y3 := hk2.cell x3 hnx
            have hkW := hk0.trans (hk2.mono (T := fun b => b < D) fun j _ h => Nat.lt_of_le_of_lt h.2 hw2)
            have hW2 := hW1.trans (hk2.below hW1.size (fun j h1 h2 => by have := h2.1; omega))
            clear x1 x2 x3
            have hR2 := hR1.keeps hk2 (fun b h1 h2 h3 => by have := h3.2; omega)
            have Hst : Hid (KeepSt w w2 B D most (k + 1) s t) := ⟨hC2, hR2, Hfair.out, ⟨hlo.1, by omega⟩, by omega, hW2⟩
            clear hC1 hR1 hW1 hwf hC2 hk2 hR2 y1 y2 y3 hsb
            go_wp2_with fail
            go_roundw
            case rel => exact ⟨k + 1, s, t, by omega, by go_num, rfl, Hst⟩
            case measure => simp [intOf]; omega
          | some v0 =>
            obtain ⟨hf2, hmem, hto⟩ := Hfair.out.take hcp
            rw [hcp, show strV (some v0) = .string v0 from rfl, Option.isSome_some] at hT
            have hl2 := takeC_lost s c.to c.i
            clear hcp
            have HF2 := hid hf2
            have Hmem := hid hmem
            have Hl2 := hid hl2
            clear hf2 hmem hl2
            generalize takeC s c.to c.i = s2 at *
            go_wp2_with fail
            have x1 : (wr.alloc (.cells #[.int .i64 c.kind, .int .i64 c.to, .int .i64 c.i, .string c.s, .int .i64 c.at', .int .u8 c.b] 31)).cell? ⟨wr.heap.size, 1, none⟩ = some (.int .i64 c.to) := blk_cell hbox rfl
            have x2 : (wr.alloc (.cells #[.int .i64 c.kind, .int .i64 c.to, .int .i64 c.i, .string c.s, .int .i64 c.at', .int .u8 c.b] 31)).cell? ⟨wr.heap.size, 2, none⟩ = some (.int .i64 c.i) := blk_cell hbox rfl
            have x3 : (wr.alloc (.cells #[.int .i64 c.kind, .int .i64 c.to, .int .i64 c.i, .string c.s, .int .i64 c.at', .int .u8 c.b] 31)).cell? ⟨wr.heap.size, 3, none⟩ = some (.string c.s) := blk_cell hbox rfl
            have hk0 : Keeps (fun b => b < D) wr (wr.alloc (.cells #[.int .i64 c.kind, .int .i64 c.to, .int .i64 c.i, .string c.s, .int .i64 c.at', .int .u8 c.b] 31)) := (Keeps.refl _ wr).alloc _
            clear hbox hc0 hc1 hc2 hc3 hc4 hc5
            generalize wr.alloc (.cells #[.int .i64 c.kind, .int .i64 c.to, .int .i64 c.i, .string c.s, .int .i64 c.at', .int .u8 c.b] 31) = W0 at *
            obtain ⟨xb, hxe⟩ : ∃ xb, wr.heap.size = xb := ⟨_, rfl⟩
            rw [hxe] at x1 x2 x3 lD ⊢
            have Hxe := hid hxe
            clear hxe
            refine (hT.out _ hC1).mono ?_
            rintro e w2 ⟨rfl, hC2, hk2⟩
            have hnx : ¬ ofCable B xb := fun h => by have := h.2; omega
            have y1 := hk2.cell x1 hnx
            have y2 := hk2.cell x2 hnx
            have y3 := hk2.cell x3 hnx
            have hkW := hk0.trans (hk2.mono (T := fun b => b < D) fun j _ h => Nat.lt_of_le_of_lt h.2 hw2)
            have hW2 := hW1.trans (hk2.below hW1.size (fun j h1 h2 => by have := h2.1; omega))
            clear x1 x2 x3
            have hR2 := hR1.keeps hk2 (fun b h1 h2 h3 => by have := h3.2; omega)
            have Hst : Hid (KeepSt w w2 B D most (k + 1) s2 { t with lost := t.lost + 1 }) := ⟨hC2, hR2.lost _, HF2.out, (by have := Hl2.out; omega), (by show t.total ≤ k + 1 ∧ 0 ≤ t.lost + 1 ∧ t.lost + 1 ≤ ((k + 1 : Nat) : Int); omega), hW2⟩
            clear hC1 hR1 hW1 hwf hC2 hk2 y2 y3 hsb HF2 Hl2 hT Hfair
            obtain ⟨v, hv⟩ := hR2.side c.to hto
            obtain ⟨A, cap, rfl, hA, _⟩ := vals_of_own hv.own
            generalize hL : t.get c.to = L at *
            clear hL hR2
            generalize c.to = to at *
            rcases hto with rfl | rfl
            · have d0 : w2.cell? ⟨D, 0, none⟩ = some (.slice A L.length cap) := hv.cell
              clear hv
              obtain ⟨n, hn⟩ : ∃ n, L.length = n := ⟨_, rfl⟩
              have hA' := hid hA
              clear hA
              have hnb : n ≤ 9223372036854775807 := by rw [← hn]; exact Nat.le_trans hA'.out.2.1 hA'.out.2.2.1
              have Hn := hid hn
              rw [hn] at d0
              clear hn
              go_wp2_with fail
              go_loop [15, 16] (fun bv i => ∃ j : Nat, j ≤ n ∧ i = .int .i64 j ∧ bv = .bool (found v0 (L.take j))) (fun _ i => n - (intOf i).toNat)
              case atStart => exact ⟨0, by omega, rfl, by simp [found]⟩
              case round =>
                obtain ⟨j, hj, rfl, rfl⟩ := hrel
                by_cases hjl : j < n
                · obtain ⟨rb, ro, rfl, hcl⟩ := hA'.out.at' (by have := Hn.out; omega)
                  have hjL : j < L.length := by have := Hn.out; omega
                  have rj : w2.cell? ⟨rb, ro + j, none⟩ = some (.string (L[j]'hjL)) := hcl j _ (strs_get _ j hjL)
                  have htk := found_succ v0 L j hjL
                  have Htk := hid htk
                  clear hcl htk
                  generalize L[j]'hjL = y at *
                  generalize hdm : found v0 (L.take j) = bm at *
                  clear hdm
                  cases bm with
                  | true =>
                    go_wp2_with fail
                    go_round
                    case rel => exact ⟨j + 1, by omega, by go_num, by rw [Htk.out]; simp⟩
                    case measure => simp [intOf]; omega
                  | false =>
                    go_wp2_with fail
                    go_round
                    case rel => exact ⟨j + 1, by omega, by go_num, by rw [Htk.out]; simp⟩
                    case measure => simp [intOf]; omega
                · have hje : j = n := by omega
                  subst hje
                  have htr : found v0 (L.take j) = true := by have := Hn.out; rw [← this, List.take_length]; exact found_mem Hmem.out
                  rw [htr]
                  clear htr
                  go_wp2_with fail
                  go_roundw
                  case rel => exact ⟨k + 1, s2, { t with lost := t.lost + 1 }, by omega, by go_num, rfl, Hst⟩
                  case measure => simp [intOf]; omega
            · have d0 : w2.cell? ⟨D, 1, none⟩ = some (.slice A L.length cap) := hv.cell
              clear hv
              obtain ⟨n, hn⟩ : ∃ n, L.length = n := ⟨_, rfl⟩
              have hA' := hid hA
              clear hA
              have hnb : n ≤ 9223372036854775807 := by rw [← hn]; exact Nat.le_trans hA'.out.2.1 hA'.out.2.2.1
              have Hn := hid hn
              rw [hn] at d0
              clear hn
              go_wp2_with fail
              go_loop [15, 16] (fun bv i => ∃ j : Nat, j ≤ n ∧ i = .int .i64 j ∧ bv = .bool (found v0 (L.take j))) (fun _ i => n - (intOf i).toNat)
              case atStart => exact ⟨0, by omega, rfl, by simp [found]⟩
              case round =>
                obtain ⟨j, hj, rfl, rfl⟩ := hrel
                by_cases hjl : j < n
                · obtain ⟨rb, ro, rfl, hcl⟩ := hA'.out.at' (by have := Hn.out; omega)
                  have hjL : j < L.length := by have := Hn.out; omega
                  have rj : w2.cell? ⟨rb, ro + j, none⟩ = some (.string (L[j]'hjL)) := hcl j _ (strs_get _ j hjL)
                  have htk := found_succ v0 L j hjL
                  have Htk := hid htk
                  clear hcl htk
                  generalize L[j]'hjL = y at *
                  generalize hdm : found v0 (L.take j) = bm at *
                  clear hdm
                  cases bm with
                  | true =>
                    go_wp2_with fail
                    go_round
                    case rel => exact ⟨j + 1, by omega, by go_num, by rw [Htk.out]; simp⟩
                    case measure => simp [intOf]; omega
                  | false =>
                    go_wp2_with fail
                    go_round
                    case rel => exact ⟨j + 1, by omega, by go_num, by rw [Htk.out]; simp⟩
                    case measure => simp [intOf]; omega
                · have hje : j = n := by omega
                  subst hje
                  have htr : found v0 (L.take j) = true := by have := Hn.out; rw [← this, List.take_length]; exact found_mem Hmem.out
                  rw [htr]
                  clear htr
                  go_wp2_with fail
                  go_roundw
                  case rel => exact ⟨k + 1, s2, { t with lost := t.lost + 1 }, by omega, by go_num, rfl, Hst⟩
                  case measure => simp [intOf]; omega
        have hq2 : (c.kind == 2) = false := by rw [beq_eq_false_iff_ne]; exact hk2'
        clear hk2'
        by_cases hk3 : c.kind = 3
        · have hq3 : (c.kind == 3) = true := by rw [beq_iff_eq]; exact hk3
          clear hk3
          have hT := hid (fun W (h : IsCable W B most s) => cable_Copy h c.to c.i)
          cases hcp : copyC s c.to c.i with
          | none =>
            rw [hcp, show strV none = .string ByteArray.empty from rfl, Option.isSome_none] at hT
            clear hcp
            go_wp2_with fail
            have x1 : (wr.alloc (.cells #[.int .i64 c.kind, .int .i64 c.to, .int .i64 c.i, .string c.s, .int .i64 c.at', .int .u8 c.b] 31)).cell? ⟨wr.heap.size, 1, none⟩ = some (.int .i64 c.to) := blk_cell hbox rfl
            have x2 : (wr.alloc (.cells #[.int .i64 c.kind, .int .i64 c.to, .int .i64 c.i, .string c.s, .int .i64 c.at', .int .u8 c.b] 31)).cell? ⟨wr.heap.size, 2, none⟩ = some (.int .i64 c.i) := blk_cell hbox rfl
            have x3 : (wr.alloc (.cells #[.int .i64 c.kind, .int .i64 c.to, .int .i64 c.i, .string c.s, .int .i64 c.at', .int .u8 c.b] 31)).cell? ⟨wr.heap.size, 3, none⟩ = some (.string c.s) := blk_cell hbox rfl
            have hk0 : Keeps (fun b => b < D) wr (wr.alloc (.cells #[.int .i64 c.kind, .int .i64 c.to, .int .i64 c.i, .string c.s, .int .i64 c.at', .int .u8 c.b] 31)) := (Keeps.refl _ wr).alloc _
            clear hbox hc0 hc1 hc2 hc3 hc4 hc5
            generalize wr.alloc (.cells #[.int .i64 c.kind, .int .i64 c.to, .int .i64 c.i, .string c.s, .int .i64 c.at', .int .u8 c.b] 31) = W0 at *
            obtain ⟨xb, hxe⟩ : ∃ xb, wr.heap.size = xb := ⟨_, rfl⟩
            rw [hxe] at x1 x2 x3 lD ⊢
            have Hxe := hid hxe
            clear hxe
            refine (hT.out _ hC1).mono ?_
            rintro e w2 ⟨rfl, q, rfl⟩
            have hC2 := hC1.drewN q
            have hk2 : Keeps (ofCable B) W0 (W0.drewN q) := (Keeps.refl _ _).drewN q
            generalize W0.drewN q = w2 at *
            have hnx : ¬ ofCable B xb := fun h => by have := h.2; omega
            have y1 := hk2.cell x1 hnx
            have y2 := hk2.cell x2 hnx
            have y3 := hk2.cell x3 hnx
            have hkW := hk0.trans (hk2.mono (T := fun b => b < D) fun j _ h => Nat.lt_of_le_of_lt h.2 hw2)
            have hW2 := hW1.trans (hk2.below hW1.size (fun j h1 h2 => by have := h2.1; omega))
            clear x1 x2 x3
            have hR2 := hR1.keeps hk2 (fun b h1 h2 h3 => by have := h3.2; omega)
            have Hst : Hid (KeepSt w w2 B D most (k + 1) s t) := ⟨hC2, hR2, Hfair.out, ⟨hlo.1, by omega⟩, by omega, hW2⟩
            clear hC1 hR1 hW1 hwf hC2 hk2 hR2 y1 y2 y3 hsb
            go_wp2_with fail
            go_roundw
            case rel => exact ⟨k + 1, s, t, by omega, by go_num, rfl, Hst⟩
            case measure => simp [intOf]; omega
          | some v0 =>
            obtain ⟨_, hmem, hto⟩ := Hfair.out.take hcp
            rw [hcp, show strV (some v0) = .string v0 from rfl, Option.isSome_some] at hT
            clear hcp
            have Hmem := hid hmem
            clear hmem
            go_wp2_with fail
            have x1 : (wr.alloc (.cells #[.int .i64 c.kind, .int .i64 c.to, .int .i64 c.i, .string c.s, .int .i64 c.at', .int .u8 c.b] 31)).cell? ⟨wr.heap.size, 1, none⟩ = some (.int .i64 c.to) := blk_cell hbox rfl
            have x2 : (wr.alloc (.cells #[.int .i64 c.kind, .int .i64 c.to, .int .i64 c.i, .string c.s, .int .i64 c.at', .int .u8 c.b] 31)).cell? ⟨wr.heap.size, 2, none⟩ = some (.int .i64 c.i) := blk_cell hbox rfl
            have x3 : (wr.alloc (.cells #[.int .i64 c.kind, .int .i64 c.to, .int .i64 c.i, .string c.s, .int .i64 c.at', .int .u8 c.b] 31)).cell? ⟨wr.heap.size, 3, none⟩ = some (.string c.s) := blk_cell hbox rfl
            have hk0 : Keeps (fun b => b < D) wr (wr.alloc (.cells #[.int .i64 c.kind, .int .i64 c.to, .int .i64 c.i, .string c.s, .int .i64 c.at', .int .u8 c.b] 31)) := (Keeps.refl _ wr).alloc _
            clear hbox hc0 hc1 hc2 hc3 hc4 hc5
            generalize wr.alloc (.cells #[.int .i64 c.kind, .int .i64 c.to, .int .i64 c.i, .string c.s, .int .i64 c.at', .int .u8 c.b] 31) = W0 at *
            obtain ⟨xb, hxe⟩ : ∃ xb, wr.heap.size = xb := ⟨_, rfl⟩
            rw [hxe] at x1 x2 x3 lD ⊢
            have Hxe := hid hxe
            clear hxe
            refine (hT.out _ hC1).mono ?_
            rintro e w2 ⟨rfl, q, rfl⟩
            have hC2 := hC1.drewN q
            have hk2 : Keeps (ofCable B) W0 (W0.drewN q) := (Keeps.refl _ _).drewN q
            generalize W0.drewN q = w2 at *
            have hnx : ¬ ofCable B xb := fun h => by have := h.2; omega
            have y1 := hk2.cell x1 hnx
            have y2 := hk2.cell x2 hnx
            have y3 := hk2.cell x3 hnx
            have hkW := hk0.trans (hk2.mono (T := fun b => b < D) fun j _ h => Nat.lt_of_le_of_lt h.2 hw2)
            have hW2 := hW1.trans (hk2.below hW1.size (fun j h1 h2 => by have := h2.1; omega))
            clear x1 x2 x3
            have hR2 := hR1.keeps hk2 (fun b h1 h2 h3 => by have := h3.2; omega)
            have Hst : Hid (KeepSt w w2 B D most (k + 1) s t) := ⟨hC2, hR2, Hfair.out, ⟨hlo.1, by omega⟩, by omega, hW2⟩
            clear hC1 hR1 hW1 hwf hC2 hk2 y2 y3 hsb hT Hfair
            obtain ⟨v, hv⟩ := hR2.side c.to hto
            obtain ⟨A, cap, rfl, hA, _⟩ := vals_of_own hv.own
            generalize hL : t.get c.to = L at *
            clear hL hR2
            generalize c.to = to at *
            rcases hto with rfl | rfl
            · have d0 : w2.cell? ⟨D, 0, none⟩ = some (.slice A L.length cap) := hv.cell
              clear hv
              obtain ⟨n, hn⟩ : ∃ n, L.length = n := ⟨_, rfl⟩
              have hA' := hid hA
              clear hA
              have hnb : n ≤ 9223372036854775807 := by rw [← hn]; exact Nat.le_trans hA'.out.2.1 hA'.out.2.2.1
              have Hn := hid hn
              rw [hn] at d0
              clear hn
              go_wp2_with fail
              go_loop [15, 16] (fun bv i => ∃ j : Nat, j ≤ n ∧ i = .int .i64 j ∧ bv = .bool (found v0 (L.take j))) (fun _ i => n - (intOf i).toNat)
              case atStart => exact ⟨0, by omega, rfl, by simp [found]⟩
              case round =>
                obtain ⟨j, hj, rfl, rfl⟩ := hrel
                by_cases hjl : j < n
                · obtain ⟨rb, ro, rfl, hcl⟩ := hA'.out.at' (by have := Hn.out; omega)
                  have hjL : j < L.length := by have := Hn.out; omega
                  have rj : w2.cell? ⟨rb, ro + j, none⟩ = some (.string (L[j]'hjL)) := hcl j _ (strs_get _ j hjL)
                  have htk := found_succ v0 L j hjL
                  have Htk := hid htk
                  clear hcl htk
                  generalize L[j]'hjL = y at *
                  generalize hdm : found v0 (L.take j) = bm at *
                  clear hdm
                  cases bm with
                  | true =>
                    go_wp2_with fail
                    go_round
                    case rel => exact ⟨j + 1, by omega, by go_num, by rw [Htk.out]; simp⟩
                    case measure => simp [intOf]; omega
                  | false =>
                    go_wp2_with fail
                    go_round
                    case rel => exact ⟨j + 1, by omega, by go_num, by rw [Htk.out]; simp⟩
                    case measure => simp [intOf]; omega
                · have hje : j = n := by omega
                  subst hje
                  have htr : found v0 (L.take j) = true := by have := Hn.out; rw [← this, List.take_length]; exact found_mem Hmem.out
                  rw [htr]
                  clear htr
                  go_wp2_with fail
                  go_roundw
                  case rel => exact ⟨k + 1, s, t, by omega, by go_num, rfl, Hst⟩
                  case measure => simp [intOf]; omega
            · have d0 : w2.cell? ⟨D, 1, none⟩ = some (.slice A L.length cap) := hv.cell
              clear hv
              obtain ⟨n, hn⟩ : ∃ n, L.length = n := ⟨_, rfl⟩
              have hA' := hid hA
              clear hA
              have hnb : n ≤ 9223372036854775807 := by rw [← hn]; exact Nat.le_trans hA'.out.2.1 hA'.out.2.2.1
              have Hn := hid hn
              rw [hn] at d0
              clear hn
              go_wp2_with fail
              go_loop [15, 16] (fun bv i => ∃ j : Nat, j ≤ n ∧ i = .int .i64 j ∧ bv = .bool (found v0 (L.take j))) (fun _ i => n - (intOf i).toNat)
              case atStart => exact ⟨0, by omega, rfl, by simp [found]⟩
              case round =>
                obtain ⟨j, hj, rfl, rfl⟩ := hrel
                by_cases hjl : j < n
                · obtain ⟨rb, ro, rfl, hcl⟩ := hA'.out.at' (by have := Hn.out; omega)
                  have hjL : j < L.length := by have := Hn.out; omega
                  have rj : w2.cell? ⟨rb, ro + j, none⟩ = some (.string (L[j]'hjL)) := hcl j _ (strs_get _ j hjL)
                  have htk := found_succ v0 L j hjL
                  have Htk := hid htk
                  clear hcl htk
                  generalize L[j]'hjL = y at *
                  generalize hdm : found v0 (L.take j) = bm at *
                  clear hdm
                  cases bm with
                  | true =>
                    go_wp2_with fail
                    go_round
                    case rel => exact ⟨j + 1, by omega, by go_num, by rw [Htk.out]; simp⟩
                    case measure => simp [intOf]; omega
                  | false =>
                    go_wp2_with fail
                    go_round
                    case rel => exact ⟨j + 1, by omega, by go_num, by rw [Htk.out]; simp⟩
                    case measure => simp [intOf]; omega
                · have hje : j = n := by omega
                  subst hje
                  have htr : found v0 (L.take j) = true := by have := Hn.out; rw [← this, List.take_length]; exact found_mem Hmem.out
                  rw [htr]
                  clear htr
                  go_wp2_with fail
                  go_roundw
                  case rel => exact ⟨k + 1, s, t, by omega, by go_num, rfl, Hst⟩
                  case measure => simp [intOf]; omega
        have hq3 : (c.kind == 3) = false := by rw [beq_eq_false_iff_ne]; exact hk3
        clear hk3
        by_cases hk4 : c.kind = 4
        · have hq4 : (c.kind == 4) = true := by rw [beq_iff_eq]; exact hk4
          clear hk4
          have hT := hid (fun W (h : IsCable W B most s) => cable_Drop h ⟨hlo.1, by omega⟩ c.to c.i)
          cases hcp : copyC s c.to c.i with
          | none =>
            rw [hcp, drop_of_none hcp, Option.isSome_none] at hT
            clear hcp
            go_wp2_with fail
            have x1 : (wr.alloc (.cells #[.int .i64 c.kind, .int .i64 c.to, .int .i64 c.i, .string c.s, .int .i64 c.at', .int .u8 c.b] 31)).cell? ⟨wr.heap.size, 1, none⟩ = some (.int .i64 c.to) := blk_cell hbox rfl
            have x2 : (wr.alloc (.cells #[.int .i64 c.kind, .int .i64 c.to, .int .i64 c.i, .string c.s, .int .i64 c.at', .int .u8 c.b] 31)).cell? ⟨wr.heap.size, 2, none⟩ = some (.int .i64 c.i) := blk_cell hbox rfl
            have x3 : (wr.alloc (.cells #[.int .i64 c.kind, .int .i64 c.to, .int .i64 c.i, .string c.s, .int .i64 c.at', .int .u8 c.b] 31)).cell? ⟨wr.heap.size, 3, none⟩ = some (.string c.s) := blk_cell hbox rfl
            have hk0 : Keeps (fun b => b < D) wr (wr.alloc (.cells #[.int .i64 c.kind, .int .i64 c.to, .int .i64 c.i, .string c.s, .int .i64 c.at', .int .u8 c.b] 31)) := (Keeps.refl _ wr).alloc _
            clear hbox hc0 hc1 hc2 hc3 hc4 hc5
            generalize wr.alloc (.cells #[.int .i64 c.kind, .int .i64 c.to, .int .i64 c.i, .string c.s, .int .i64 c.at', .int .u8 c.b] 31) = W0 at *
            obtain ⟨xb, hxe⟩ : ∃ xb, wr.heap.size = xb := ⟨_, rfl⟩
            rw [hxe] at x1 x2 x3 lD ⊢
            have Hxe := hid hxe
            clear hxe
            refine (hT.out _ hC1).mono ?_
            rintro e w2 ⟨rfl, hC2, hk2⟩
            have hnx : ¬ ofCable B xb := fun h => by have := h.2; omega
            have y1 := hk2.cell x1 hnx
            have y2 := hk2.cell x2 hnx
            have y3 := hk2.cell x3 hnx
            have hkW := hk0.trans (hk2.mono (T := fun b => b < D) fun j _ h => Nat.lt_of_le_of_lt h.2 hw2)
            have hW2 := hW1.trans (hk2.below hW1.size (fun j h1 h2 => by have := h2.1; omega))
            clear x1 x2 x3
            have hR2 := hR1.keeps hk2 (fun b h1 h2 h3 => by have := h3.2; omega)
            have Hst : Hid (KeepSt w w2 B D most (k + 1) s t) := ⟨hC2, hR2, Hfair.out, ⟨hlo.1, by omega⟩, by omega, hW2⟩
            clear hC1 hR1 hW1 hwf hC2 hk2 hR2 y1 y2 y3 hsb
            go_wp2_with fail
            go_roundw
            case rel => exact ⟨k + 1, s, t, by omega, by go_num, rfl, Hst⟩
            case measure => simp [intOf]; omega
          | some v0 =>
            have HF2 := hid (Hfair.out.drop hcp)
            have Hl2 := hid (drop_lost hcp)
            rw [hcp, Option.isSome_some] at hT
            clear hcp
            generalize dropC s c.to c.i = s2 at *
            go_wp2_with fail
            have x1 : (wr.alloc (.cells #[.int .i64 c.kind, .int .i64 c.to, .int .i64 c.i, .string c.s, .int .i64 c.at', .int .u8 c.b] 31)).cell? ⟨wr.heap.size, 1, none⟩ = some (.int .i64 c.to) := blk_cell hbox rfl
            have x2 : (wr.alloc (.cells #[.int .i64 c.kind, .int .i64 c.to, .int .i64 c.i, .string c.s, .int .i64 c.at', .int .u8 c.b] 31)).cell? ⟨wr.heap.size, 2, none⟩ = some (.int .i64 c.i) := blk_cell hbox rfl
            have x3 : (wr.alloc (.cells #[.int .i64 c.kind, .int .i64 c.to, .int .i64 c.i, .string c.s, .int .i64 c.at', .int .u8 c.b] 31)).cell? ⟨wr.heap.size, 3, none⟩ = some (.string c.s) := blk_cell hbox rfl
            have hk0 : Keeps (fun b => b < D) wr (wr.alloc (.cells #[.int .i64 c.kind, .int .i64 c.to, .int .i64 c.i, .string c.s, .int .i64 c.at', .int .u8 c.b] 31)) := (Keeps.refl _ wr).alloc _
            clear hbox hc0 hc1 hc2 hc3 hc4 hc5
            generalize wr.alloc (.cells #[.int .i64 c.kind, .int .i64 c.to, .int .i64 c.i, .string c.s, .int .i64 c.at', .int .u8 c.b] 31) = W0 at *
            obtain ⟨xb, hxe⟩ : ∃ xb, wr.heap.size = xb := ⟨_, rfl⟩
            rw [hxe] at x1 x2 x3 lD ⊢
            have Hxe := hid hxe
            clear hxe
            refine (hT.out _ hC1).mono ?_
            rintro e w2 ⟨rfl, hC2, hk2⟩
            have hnx : ¬ ofCable B xb := fun h => by have := h.2; omega
            have y1 := hk2.cell x1 hnx
            have y2 := hk2.cell x2 hnx
            have y3 := hk2.cell x3 hnx
            have hkW := hk0.trans (hk2.mono (T := fun b => b < D) fun j _ h => Nat.lt_of_le_of_lt h.2 hw2)
            have hW2 := hW1.trans (hk2.below hW1.size (fun j h1 h2 => by have := h2.1; omega))
            clear x1 x2 x3
            have hR2 := hR1.keeps hk2 (fun b h1 h2 h3 => by have := h3.2; omega)
            have Hst : Hid (KeepSt w w2 B D most (k + 1) s2 t) := ⟨hC2, hR2, HF2.out, (by have := Hl2.out; omega), by omega, hW2⟩
            clear hC1 hR1 hW1 hwf hC2 hk2 hR2 y1 y2 y3 hsb HF2 Hl2 hT
            go_wp2_with fail
            go_roundw
            case rel => exact ⟨k + 1, s2, t, by omega, by go_num, rfl, Hst⟩
            case measure => simp [intOf]; omega
        have hq4 : (c.kind == 4) = false := by rw [beq_eq_false_iff_ne]; exact hk4
        clear hk4
        by_cases hk6 : c.kind = 6
        · have hq6 : (c.kind == 6) = true := by rw [beq_iff_eq]; exact hk6
          clear hk6
          have hT := hid (fun W (h : IsCable W B most s) => cable_Cut h ⟨hlo.1, by omega⟩ (by omega))
          have HF2 := hid Hfair.out.cut
          have hs128 : s.total ≤ 128 := by have := hC1.ra.le.1; have := hC1.rb.le.1; unfold CS.total; omega
          have Hl2 : Hid ((⟨[], [], s.lost + s.total⟩ : CS).lost = s.lost + s.total) := rfl
          generalize (⟨[], [], s.lost + s.total⟩ : CS) = s2 at *
          generalize s.total = tt at *
          go_wp2_with fail
          have x1 : (wr.alloc (.cells #[.int .i64 c.kind, .int .i64 c.to, .int .i64 c.i, .string c.s, .int .i64 c.at', .int .u8 c.b] 31)).cell? ⟨wr.heap.size, 1, none⟩ = some (.int .i64 c.to) := blk_cell hbox rfl
          have x2 : (wr.alloc (.cells #[.int .i64 c.kind, .int .i64 c.to, .int .i64 c.i, .string c.s, .int .i64 c.at', .int .u8 c.b] 31)).cell? ⟨wr.heap.size, 2, none⟩ = some (.int .i64 c.i) := blk_cell hbox rfl
          have x3 : (wr.alloc (.cells #[.int .i64 c.kind, .int .i64 c.to, .int .i64 c.i, .string c.s, .int .i64 c.at', .int .u8 c.b] 31)).cell? ⟨wr.heap.size, 3, none⟩ = some (.string c.s) := blk_cell hbox rfl
          have hk0 : Keeps (fun b => b < D) wr (wr.alloc (.cells #[.int .i64 c.kind, .int .i64 c.to, .int .i64 c.i, .string c.s, .int .i64 c.at', .int .u8 c.b] 31)) := (Keeps.refl _ wr).alloc _
          clear hbox hc0 hc1 hc2 hc3 hc4 hc5
          generalize wr.alloc (.cells #[.int .i64 c.kind, .int .i64 c.to, .int .i64 c.i, .string c.s, .int .i64 c.at', .int .u8 c.b] 31) = W0 at *
          obtain ⟨xb, hxe⟩ : ∃ xb, wr.heap.size = xb := ⟨_, rfl⟩
          rw [hxe] at x1 x2 x3 lD ⊢
          have Hxe := hid hxe
          clear hxe
          refine (hT.out _ hC1).mono ?_
          rintro e w2 ⟨rfl, hC2, hk2⟩
          have hnx : ¬ ofCable B xb := fun h => by have := h.2; omega
          have y1 := hk2.cell x1 hnx
          have y2 := hk2.cell x2 hnx
          have y3 := hk2.cell x3 hnx
          have hkW := hk0.trans (hk2.mono (T := fun b => b < D) fun j _ h => Nat.lt_of_le_of_lt h.2 hw2)
          have hW2 := hW1.trans (hk2.below hW1.size (fun j h1 h2 => by have := h2.1; omega))
          clear x1 x2 x3
          have hR2 := hR1.keeps hk2 (fun b h1 h2 h3 => by have := h3.2; omega)
          have Hst : Hid (KeepSt w w2 B D most (k + 1) s2 t) := ⟨hC2, hR2, HF2.out, (by have := Hl2.out; omega), by omega, hW2⟩
          clear hC1 hR1 hW1 hwf hC2 hk2 hR2 y1 y2 y3 hsb HF2 Hl2 hT
          go_wp2_with fail
          go_roundw
          case rel => exact ⟨k + 1, s2, t, by omega, by go_num, rfl, Hst⟩
          case measure => simp [intOf]; omega
        · have hq6 : (c.kind == 6) = false := by rw [beq_eq_false_iff_ne]; exact hk6
          clear hk6
          have Hst := hid (KeepSt.mk hC1 hR1 Hfair.out ⟨hlo.1, by omega⟩ (by omega) hW1 : KeepSt w _ B D most (k + 1) s t)
          clear hwf hC1 hR1 hW1 hsb hR0
          go_wp2_with fail
          go_roundw
          case rel => exact ⟨k + 1, s, t, by omega, by go_num, rfl, Hst⟩
          case measure => simp [intOf]; omega
    · obtain ⟨va, vb, hSa⟩ := hR
      obtain ⟨A1, cap1, rfl, _, _⟩ := vals_of_own hSa.oa
      obtain ⟨A2, cap2, rfl, _, _⟩ := vals_of_own hSa.ob
      have d0 : wr.cell? ⟨D, 0, none⟩ = some (.slice A1 t.a.length cap1) := blk_cell hSa.head rfl
      have d1 : wr.cell? ⟨D, 1, none⟩ = some (.slice A2 t.b.length cap2) := blk_cell hSa.head rfl
      have hcount := Hfair.out.count
      have ht1 : t.total = t.a.length + t.b.length := rfl
      have ht2 : s.total = s.a.length + s.b.length := rfl
      have ra := hC.ra.le.1
      have rb := hC.rb.le.1
      have hsum : (((t.a.length : Int) + (t.b.length : Int)) == t.lost + s.lost + (s.a.length : Int) + (s.b.length : Int)) = true := by rw [beq_iff_eq]; omega
      have hb1 : t.a.length ≤ 150 ∧ t.b.length ≤ 150 := by omega
      clear hSa hcount ht1 ht2
      have F0 : ∀ q, Calls Try.prog 16 #[.pointer (some ⟨B, 0, none⟩), .int .i64 0] (wr.drewN q) fun e w' => e = .returned (.int .i64 s.a.length) ∧ wr.drewN q = w' := fun q => cable_Flying (hC.drewN q) 0
      have F1 : ∀ q, Calls Try.prog 16 #[.pointer (some ⟨B, 0, none⟩), .int .i64 1] (wr.drewN q) fun e w' => e = .returned (.int .i64 s.b.length) ∧ wr.drewN q = w' := fun q => cable_Flying (hC.drewN q) 1
      have F2 := fun q => cable_Lost (hC.drewN q)
      have F0 := hid F0
      have F1 := hid F1
      have F2 := hid F2
      clear hC
      by_cases hl1 : k < M.length
      · have hl2 : 150 ≤ k := by omega
        clear hlt
        go_wp2_with fail
        go_quiet (first | (go_at_call 15; first | exact Calls.quiet_of (quiet_s (F2.out _)) | exact quiet_d (quiet_s (F2.out _))) | (go_at_call 16; first | exact Calls.quiet_of (quiet_s (F0.out _)) | exact quiet_d (quiet_s (F0.out _))) | (go_at_call 16; first | exact Calls.quiet_of (quiet_s (F1.out _)) | exact quiet_d (quiet_s (F1.out _))))
        go_wp2_with fail
        go_ret
        exact ⟨by simp, below_drewN hW _⟩
      · clear hlt
        go_wp2_with fail
        go_quiet (first | (go_at_call 15; first | exact Calls.quiet_of (quiet_s (F2.out _)) | exact quiet_d (quiet_s (F2.out _))) | (go_at_call 16; first | exact Calls.quiet_of (quiet_s (F0.out _)) | exact quiet_d (quiet_s (F0.out _))) | (go_at_call 16; first | exact Calls.quiet_of (quiet_s (F1.out _)) | exact quiet_d (quiet_s (F1.out _))))
        go_wp2_with fail
        go_ret
        exact ⟨by simp, below_drewN hW _⟩
end Go.Proofs.Ytdgbmnefpempaaa
