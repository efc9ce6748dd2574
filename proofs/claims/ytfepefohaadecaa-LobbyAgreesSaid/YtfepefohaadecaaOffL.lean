/- The law LobbyPacks. -/
import Derived.Test.YtfepefohaadecaaOff5
import Derived.Test.YtfepefohaadecaaRefLob
import Derived.Test.YtfepefohaadecaaOpen
import Derived.Laws.StructEq
namespace Go.Proofs.Ytfepefohaadecaa
open Go.RowKit
set_option maxRecDepth 10000
variable {w : World}
theorem off_neq (o : Offer) (w : World) : (binOp .neq 63 (.agg #[.int .i64 o.r, .int .u32 o.s, .int .i64 o.ld, .int .i64 o.md, .int .i64 o.lw, .int .i64 o.mw]) (.agg #[.int .i64 o.r, .int .u32 o.s, .int .i64 o.ld, .int .i64 o.md, .int .i64 o.lw, .int .i64 o.mw])).run Try.prog w = .ok (.bool false) w := by
  have u3 := Try.underlying3
  have a3 := Try.isAgg3
  have z3 := Try.sizeOf3
  have u4 := Try.underlying22
  have a4 := Try.isAgg22
  have z4 := Try.sizeOf22
  have hS : Try.prog.underlying 63 = some (.struct (Try.prog.fieldsOf 63)) := by kernel_rfl
  have hp : Try.prog.stoodInHeld 63 = false := by kernel_rfl
  rw [run_neq_struct, show (10000 : Nat) = 9999 + 1 from rfl, run_equalIn_agg w 9999 63 _ _ hS hp]
  simp only [Program.fieldsOf, Try.underlying63]
  go_simp
theorem off_guard : Try.prog.eqGuardType Try.prog.depth 63 = false := by kernel_rfl
theorem ref_UnpackO (s : ByteArray) (hs : s.size ≤ 100000) : Calls Try.prog 33 #[.string s] w (UnpO w (unpO s.data.toList)) := by
  have hlen : s.data.toList.length = s.size := by simp
  by_cases h4 : s.size < 4
  · have e : unpO s.data.toList = (Offer.zero, 3) := by
      have hop : opened s.data.toList = ([], 3) := by
        unfold opened
        rw [if_pos (by rw [hlen]; exact h4)]
      unfold unpO
      rw [hop, if_neg (by decide)]
    rw [e]
    exact ref_unp_short s h4
  have h4' : 4 ≤ s.size := by omega
  obtain ⟨T, hT⟩ : ∃ T, s.extract 0 (s.size - 4) = T := ⟨_, rfl⟩
  have hTl : T.data.toList = s.data.toList.take (s.size - 4) := by rw [← hT, extract_data]; rfl
  have hop : opened s.data.toList = if sealed T.data.toList = s.data.toList then (T.data.toList, 0) else ([], 15) := by
    unfold opened
    rw [if_neg (by rw [hlen]; exact h4), hlen, ← hTl]
  by_cases hsl : sealed T.data.toList = s.data.toList
  rotate_left
  · rw [if_neg hsl] at hop
    have e : unpO s.data.toList = (Offer.zero, 15) := by
      unfold unpO
      rw [hop, if_neg (by decide)]
    rw [e]
    refine ref_unp_seal s T hs h4' hT _ rfl (fun h => hsl ?_)
    rw [← h]
  rw [if_pos hsl] at hop
  have hU : (⟨(sealed T.data.toList).toArray⟩ : ByteArray) = s := by rw [hsl]
  have e : unpO s.data.toList = readO T.data.toList := by
    unfold unpO
    rw [hop, if_pos rfl]
  rw [e]
  unfold readO
  by_cases ht : T.data.toList.take 1 = [79]
  · rw [if_pos ht]
    obtain ⟨r, hr⟩ : ∃ r, T.data.toList = 79 :: r := by
      cases hc : T.data.toList with
      | nil => rw [hc] at ht; cases ht
      | cons c r =>
        rw [hc] at ht
        have : c = 79 := by simpa using ht
        exact ⟨r, by rw [this]⟩
    rw [hr]
    exact ref_unp_main s T hs h4' hT _ rfl hU r hr
  · rw [if_neg ht]
    exact ref_unp_form s T hs h4' hT _ rfl hU ht
theorem pack_lenO (o : Offer) (hr : RightO o) (hs : 0 ≤ o.s ∧ o.s < 4294967296) : (packO o).length ≤ 65 := by
  have h := numsB_len (numsO o) (fun v hv => by have := numsO_in o hr hs v hv; unfold two64; omega)
  unfold packO sealed rawO
  simp only [List.length_append, List.length_cons, tail4_length]
  have : (numsO o).length = 6 := rfl
  omega
/-- an offer that may be, by natural numbers -/
theorem off_nat (o : Offer) (hr : RightO o) (hs : 0 ≤ o.s) : ∃ r s ld md lw mw : Nat, o = ⟨r, s, ld, md, lw, mw⟩ := by
  obtain ⟨r, s, ld, md, lw, mw⟩ := o
  unfold RightO at hr
  simp only at hr hs
  exact ⟨r.toNat, s.toNat, ld.toNat, md.toNat, lw.toNat, mw.toNat, by simp only [Offer.mk.injEq]; omega⟩
theorem lob_Pack_yes (o : Offer) (hr : RightO o) (hs : 0 ≤ o.s ∧ o.s < 4294967296) (w : World) :
    Calls Try.prog 28 #[(.agg #[.int .i64 o.r, .int .u32 o.s, .int .i64 o.ld, .int .i64 o.md, .int .i64 o.lw, .int .i64 o.mw])] w fun e w' => e = .returned (.tuple #[.string ⟨(packO o).toArray⟩, .int .i64 0]) ∧ Below w.heap.size w w' := by
  obtain ⟨r, s, ld, md, lw, mw, rfl⟩ := off_nat o hr hs.1
  exact lob_Pack_nat r s ld md lw mw hr (by have := hs.2; simp only at this; omega) _ rfl w
theorem ref_Pack_yes (o : Offer) (hr : RightO o) (hs : 0 ≤ o.s ∧ o.s < 4294967296) (w : World) :
    Calls Try.prog 32 #[(.agg #[.int .i64 o.r, .int .u32 o.s, .int .i64 o.ld, .int .i64 o.md, .int .i64 o.lw, .int .i64 o.mw])] w fun e w' => e = .returned (.string ⟨(packO o).toArray⟩) ∧ Below w.heap.size w w' := by
  obtain ⟨r, s, ld, md, lw, mw, rfl⟩ := off_nat o hr hs.1
  exact ref_Pack_nat r s ld md lw mw hr (by have := hs.2; simp only at this; omega) _ rfl w
/-- the second half: two texts, read by both -/
def Half (s : ByteArray) : Prop := s.size ≤ 200
set_option maxHeartbeats 4000000 in
theorem law_LobbyPacks (o : Offer) (hs : 0 ≤ o.s ∧ o.s < 4294967296) (s : ByteArray) :
    Calls Try.prog 8 #[(.agg #[.int .i64 o.r, .int .u32 o.s, .int .i64 o.ld, .int .i64 o.md, .int .i64 o.lw, .int .i64 o.mw]), .string s] w fun e w' => e = .returned (.bool true) ∧ Below w.heap.size w w' := by
  have hW0 := (Below.refl w.heap.size w).alloc (Nat.le_refl _) (.cells #[.int .i64 o.r, .int .u32 o.s, .int .i64 o.ld, .int .i64 o.md, .int .i64 o.lw, .int .i64 o.mw] 63)
  by_cases h200 : 200 < s.size
  · go_enter Try.func8, Try.ntmps8
    go_wp2_with fail
    refine (awake35 _).mono ?_
    rintro e w1 ⟨rfl, hb1⟩
    go_wp2_with fail
    go_ret
    exact ⟨rfl, hW0.trans (hb1.mono (by simp))⟩
  have h200' : s.size ≤ 200 := by omega
  clear h200
  by_cases hr : RightO o
  rotate_left
  · have HP := hid (fun W => lob_Pack_no o hr W)
    have hA := fun W => lob_Right o W
    have hB := fun W => ref_RightO o W
    rw [decide_eq_false hr] at hA hB
    have HA := hid hA
    have HB := hid hB
    clear hA hB hr
    go_enter Try.func8, Try.ntmps8
    go_wp2_with fail
    refine (awake35 _).mono ?_
    rintro e w1 ⟨rfl, hb1⟩
    have hB := (Keeps.of_below (S := fun _ => False) hb1 (fun k h1 h2 => by omega)).heap (blk_new w (.cells #[.int .i64 o.r, .int .u32 o.s, .int .i64 o.ld, .int .i64 o.md, .int .i64 o.lw, .int .i64 o.mw] 63)) id
    have hW := hW0.trans (hb1.mono (by simp))
    have g0 := blk_cell hB (k := 0) rfl
    have g1 := blk_cell hB (k := 1) rfl
    have g2 := blk_cell hB (k := 2) rfl
    have g3 := blk_cell hB (k := 3) rfl
    have g4 := blk_cell hB (k := 4) rfl
    have g5 := blk_cell hB (k := 5) rfl
    clear hb1 hW0
    go_wp2_with fail
    refine (HP.out _).mono ?_
    rintro e w2 ⟨rfl, hb2⟩
    have hB2 := (Keeps.of_below (S := fun _ => False) hb2 (fun k h1 h2 => by omega)).heap hB id
    have hW2 := hW.trans (hb2.mono hW.size)
    clear g0 g1 g2 g3 g4 g5 hB hW hb2
    have hB := hB2
    have hW := hW2
    clear hB2 hW2
    have g0 := blk_cell hB (k := 0) rfl
    have g1 := blk_cell hB (k := 1) rfl
    have g2 := blk_cell hB (k := 2) rfl
    have g3 := blk_cell hB (k := 3) rfl
    have g4 := blk_cell hB (k := 4) rfl
    have g5 := blk_cell hB (k := 5) rfl
    have y0 := fun x : After w2 => (x.below.cell (p := ⟨w.heap.size, 0, none⟩) (blk_lt hB)).trans g0
    have y1 := fun x : After w2 => (x.below.cell (p := ⟨w.heap.size, 1, none⟩) (blk_lt hB)).trans g1
    have y2 := fun x : After w2 => (x.below.cell (p := ⟨w.heap.size, 2, none⟩) (blk_lt hB)).trans g2
    have y3 := fun x : After w2 => (x.below.cell (p := ⟨w.heap.size, 3, none⟩) (blk_lt hB)).trans g3
    have y4 := fun x : After w2 => (x.below.cell (p := ⟨w.heap.size, 4, none⟩) (blk_lt hB)).trans g4
    have y5 := fun x : After w2 => (x.below.cell (p := ⟨w.heap.size, 5, none⟩) (blk_lt hB)).trans g5
    go_wp2_with fail
    refine wp_region_after (by kernel_rfl) (by kernel_rfl) ?_
    repeat (go_big_quiet_step (first | (go_at_call 29; exact Calls.after_of ((HA.out _).mono fun _ _ ⟨h1, h2⟩ => ⟨h1, h2 ▸ (Below.refl _ _).alloc (Nat.le_refl _) _⟩)) | (go_at_call 30; exact Calls.after_of ((HB.out _).mono fun _ _ ⟨h1, h2⟩ => ⟨h1, h2 ▸ (Below.refl _ _).alloc (Nat.le_refl _) _⟩))))
    refine wpQuiet_nil ?_
    intro _ hw2
    obtain ⟨x, hw3⟩ := hw2
    subst hw3
    have hW3 := hW.trans (x.below.mono hW.size)
    have hB3 := (Keeps.of_below (S := fun _ => False) x.below (fun k h1 h2 => by omega)).heap hB id
    clear y0 y1 y2 y3 y4 y5 g0 g1 g2 g3 g4 g5 hB hW HA
    generalize x.to = w3 at *
    have hB := hB3
    have hW := hW3
    clear hB3 hW3
    have g0 := blk_cell hB (k := 0) rfl
    have g1 := blk_cell hB (k := 1) rfl
    have g2 := blk_cell hB (k := 2) rfl
    have g3 := blk_cell hB (k := 3) rfl
    have g4 := blk_cell hB (k := 4) rfl
    have g5 := blk_cell hB (k := 5) rfl
    go_wp2_with fail
    refine (HB.out _).mono ?_
    rintro e w5 ⟨rfl, rfl⟩
    have hW5 := hW.alloc hW.size (.cells #[.int .i64 o.r, .int .u32 o.s, .int .i64 o.ld, .int .i64 o.md, .int .i64 o.lw, .int .i64 o.mw] 63)
    clear hW g0 g1 g2 g3 g4 g5 hB
    have hW := hW5
    clear hW5
    go_wp2_with fail
    go_loopg [1, 9] 2 (fun g sv iv wr => ∃ (k : Nat) (t : ByteArray), g = 2 - k ∧ k ≤ 2 ∧ sv = .string t ∧ iv = .int .i64 k ∧ t.size ≤ 200 + 4 * k ∧ Below w.heap.size w wr)
    case atStart => exact ⟨0, s, rfl, by omega, rfl, rfl, by omega, hW⟩
    case round =>
      obtain ⟨k, t, hg, hk, rfl, rfl, ht, hW⟩ := hrel
      by_cases hlt : k < 2
      · obtain ⟨⟨x, er⟩, hun⟩ : ∃ q, unpO t.data.toList = q := ⟨_, rfl⟩
        have hU := fun W => lob_Unpack (w := W) t (by omega)
        have hR := fun W => ref_UnpackO (w := W) t (by omega)
        rw [hun] at hU hR
        have HU := hid hU
        have HR := hid hR
        have hSl := fun W => ref_Seal t (by omega) W
        have hsz : (⟨(sealed t.data.toList).toArray⟩ : ByteArray).size ≤ 200 + 4 * (k + 1) := by
          show (sealed t.data.toList).toArray.size ≤ _
          unfold sealed
          simp [tail4_length]
          omega
        generalize hT2 : (⟨(sealed t.data.toList).toArray⟩ : ByteArray) = t2 at *
        have HSl := hid hSl
        have Hsz := hid hsz
        have Hg := hid hg
        clear hun hU hR hSl hsz hT2 hg
        go_wp2_with fail
        refine (HU.out _).mono ?_
        rintro e w4 ⟨rfl, hbb⟩
        have hW4 := hW.trans (hbb.mono hW.size)
        have hm1 := blk_new w4 (.cells #[.int .i64 x.r, .int .u32 x.s, .int .i64 x.ld, .int .i64 x.md, .int .i64 x.lw, .int .i64 x.mw] 63)
        have hW5 := hW4.alloc hW4.size (.cells #[.int .i64 x.r, .int .u32 x.s, .int .i64 x.ld, .int .i64 x.md, .int .i64 x.lw, .int .i64 x.mw] 63)
        clear hW hbb hW4
        go_wp2_with fail
        refine (HR.out _).mono ?_
        rintro e w6 ⟨rfl, hbc⟩
        have hk6 : Keeps (fun _ => False) _ w6 := Keeps.of_below hbc (fun k h1 h2 => by omega)
        have hm6 := blk_alloc (hk6.heap hm1 id) (.cells #[.int .i64 x.r, .int .u32 x.s, .int .i64 x.ld, .int .i64 x.md, .int .i64 x.lw, .int .i64 x.mw] 63)
        have hW6 := (hW5.trans (hk6.below hW5.size (fun k h1 h2 => by omega))).alloc (hW5.trans (hk6.below hW5.size (fun k h1 h2 => by omega))).size (.cells #[.int .i64 x.r, .int .u32 x.s, .int .i64 x.ld, .int .i64 x.md, .int .i64 x.lw, .int .i64 x.mw] 63)
        have hne := off_neq x
        have hgd := off_guard
        clear hbc hm1 hW5 hk6
        have n0 := blk_cell hm6 (k := 0) rfl
        have n1 := blk_cell hm6 (k := 1) rfl
        have n2 := blk_cell hm6 (k := 2) rfl
        have n3 := blk_cell hm6 (k := 3) rfl
        have n4 := blk_cell hm6 (k := 4) rfl
        have n5 := blk_cell hm6 (k := 5) rfl
        go_wp2_with fail
        refine (HSl.out _).mono ?_
        rintro e w9 ⟨rfl, hb9⟩
        have hW9 := hW6.trans (hb9.mono hW6.size)
        clear hb9 hW6
        go_wp2_with fail
        go_roundg (2 - (k + 1))
        case measure => have := Hg.out; omega
        case rel => exact ⟨k + 1, t2, rfl, by omega, rfl, by go_num, Hsz.out, hW9⟩
      · obtain rfl : k = 2 := by omega
        go_wp2
        go_ret
        exact ⟨rfl, hW⟩
  · have hA := fun W => lob_Right o W
    have hB := fun W => ref_RightO o W
    rw [decide_eq_true hr] at hA hB
    have HA := hid hA
    have HB := hid hB
    have hP := fun W => lob_Pack_yes o hr hs W
    have hQ := fun W => ref_Pack_yes o hr hs W
    have hlen := pack_lenO o hr hs
    have hsz : (⟨(packO o).toArray⟩ : ByteArray).size ≤ 65 := by show (packO o).toArray.size ≤ 65; simpa using hlen
    have hU := fun W => lob_Unpack (w := W) ⟨(packO o).toArray⟩ (by omega)
    rw [show (⟨(packO o).toArray⟩ : ByteArray).data.toList = packO o by simp, unpO_pack o hr hs] at hU
    obtain ⟨V, hV⟩ : ∃ V : ByteArray, (⟨(packO o).toArray⟩ : ByteArray) = V := ⟨_, rfl⟩
    rw [hV] at hP hQ hU
    have HP := hid hP
    have HQ := hid hQ
    have HU0 := hid hU
    clear hA hB hr hP hQ hU hV hlen hsz
    go_enter Try.func8, Try.ntmps8
    go_wp2_with fail
    refine (awake35 _).mono ?_
    rintro e w1 ⟨rfl, hb1⟩
    have hB := (Keeps.of_below (S := fun _ => False) hb1 (fun k h1 h2 => by omega)).heap (blk_new w (.cells #[.int .i64 o.r, .int .u32 o.s, .int .i64 o.ld, .int .i64 o.md, .int .i64 o.lw, .int .i64 o.mw] 63)) id
    have hW := hW0.trans (hb1.mono (by simp))
    have g0 := blk_cell hB (k := 0) rfl
    have g1 := blk_cell hB (k := 1) rfl
    have g2 := blk_cell hB (k := 2) rfl
    have g3 := blk_cell hB (k := 3) rfl
    have g4 := blk_cell hB (k := 4) rfl
    have g5 := blk_cell hB (k := 5) rfl
    clear hb1 hW0
    go_wp2_with fail
    refine (HP.out _).mono ?_
    rintro e w2 ⟨rfl, hb2⟩
    have hB2 := (Keeps.of_below (S := fun _ => False) hb2 (fun k h1 h2 => by omega)).heap hB id
    have hW2 := hW.trans (hb2.mono hW.size)
    clear g0 g1 g2 g3 g4 g5 hB hW hb2
    have hB := hB2
    have hW := hW2
    clear hB2 hW2
    have g0 := blk_cell hB (k := 0) rfl
    have g1 := blk_cell hB (k := 1) rfl
    have g2 := blk_cell hB (k := 2) rfl
    have g3 := blk_cell hB (k := 3) rfl
    have g4 := blk_cell hB (k := 4) rfl
    have g5 := blk_cell hB (k := 5) rfl
    have y0 := fun x : After w2 => (x.below.cell (p := ⟨w.heap.size, 0, none⟩) (blk_lt hB)).trans g0
    have y1 := fun x : After w2 => (x.below.cell (p := ⟨w.heap.size, 1, none⟩) (blk_lt hB)).trans g1
    have y2 := fun x : After w2 => (x.below.cell (p := ⟨w.heap.size, 2, none⟩) (blk_lt hB)).trans g2
    have y3 := fun x : After w2 => (x.below.cell (p := ⟨w.heap.size, 3, none⟩) (blk_lt hB)).trans g3
    have y4 := fun x : After w2 => (x.below.cell (p := ⟨w.heap.size, 4, none⟩) (blk_lt hB)).trans g4
    have y5 := fun x : After w2 => (x.below.cell (p := ⟨w.heap.size, 5, none⟩) (blk_lt hB)).trans g5
    go_wp2_with fail
    refine wp_region_after (by kernel_rfl) (by kernel_rfl) ?_
    repeat (go_big_quiet_step (first | (go_at_call 29; exact Calls.after_of ((HA.out _).mono fun _ _ ⟨h1, h2⟩ => ⟨h1, h2 ▸ (Below.refl _ _).alloc (Nat.le_refl _) _⟩)) | (go_at_call 30; exact Calls.after_of ((HB.out _).mono fun _ _ ⟨h1, h2⟩ => ⟨h1, h2 ▸ (Below.refl _ _).alloc (Nat.le_refl _) _⟩))))
    refine wpQuiet_nil ?_
    intro _ hw2
    obtain ⟨x, hw3⟩ := hw2
    subst hw3
    have hW3 := hW.trans (x.below.mono hW.size)
    have hB3 := (Keeps.of_below (S := fun _ => False) x.below (fun k h1 h2 => by omega)).heap hB id
    clear y0 y1 y2 y3 y4 y5 g0 g1 g2 g3 g4 g5 hB hW HA
    generalize x.to = w3 at *
    have hB := hB3
    have hW := hW3
    clear hB3 hW3
    have g0 := blk_cell hB (k := 0) rfl
    have g1 := blk_cell hB (k := 1) rfl
    have g2 := blk_cell hB (k := 2) rfl
    have g3 := blk_cell hB (k := 3) rfl
    have g4 := blk_cell hB (k := 4) rfl
    have g5 := blk_cell hB (k := 5) rfl
    go_wp2_with fail
    refine (HB.out _).mono ?_
    rintro e w5 ⟨rfl, rfl⟩
    have hW5 := hW.alloc hW.size (.cells #[.int .i64 o.r, .int .u32 o.s, .int .i64 o.ld, .int .i64 o.md, .int .i64 o.lw, .int .i64 o.mw] 63)
    have hB5 := blk_alloc hB (.cells #[.int .i64 o.r, .int .u32 o.s, .int .i64 o.ld, .int .i64 o.md, .int .i64 o.lw, .int .i64 o.mw] 63)
    clear hW g0 g1 g2 g3 g4 g5 hB
    have hW := hW5
    have hB := hB5
    clear hW5 hB5
    go_wp2_with fail
    refine (HU0.out _).mono ?_
    rintro e w6 ⟨rfl, hb6⟩
    have hB6 := blk_alloc ((Keeps.of_below (S := fun _ => False) hb6 (fun k h1 h2 => by omega)).heap hB id) (.cells #[.int .i64 o.r, .int .u32 o.s, .int .i64 o.ld, .int .i64 o.md, .int .i64 o.lw, .int .i64 o.mw] 63)
    have hX6 := blk_new w6 (.cells #[.int .i64 o.r, .int .u32 o.s, .int .i64 o.ld, .int .i64 o.md, .int .i64 o.lw, .int .i64 o.mw] 63)
    have hW6 := (hW.trans (hb6.mono hW.size)).alloc (hW.trans (hb6.mono hW.size)).size (.cells #[.int .i64 o.r, .int .u32 o.s, .int .i64 o.ld, .int .i64 o.md, .int .i64 o.lw, .int .i64 o.mw] 63)
    clear hb6 hB hW
    have hB := hB6
    have hW := hW6
    clear hB6 hW6
    have g0 := blk_cell hB (k := 0) rfl
    have g1 := blk_cell hB (k := 1) rfl
    have g2 := blk_cell hB (k := 2) rfl
    have g3 := blk_cell hB (k := 3) rfl
    have g4 := blk_cell hB (k := 4) rfl
    have g5 := blk_cell hB (k := 5) rfl
    have hne := off_neq o
    have hgd := off_guard
    go_wp2_with fail
    refine (HQ.out _).mono ?_
    rintro e w7 ⟨rfl, hb7⟩
    have hk7 : Keeps (fun _ => False) _ w7 := Keeps.of_below (S := fun _ => False) hb7 (fun k h1 h2 => by omega)
    have hB7 := hk7.heap hB id
    have hX7 := hk7.heap hX6 id
    have hW7 := hW.trans (hb7.mono hW.size)
    clear hb7 hB hW hX6 g0 g1 g2 g3 g4 g5 hk7
    have hB := hB7
    have hW := hW7
    clear hB7 hW7
    have g0 := blk_cell hB (k := 0) rfl
    have g1 := blk_cell hB (k := 1) rfl
    have g2 := blk_cell hB (k := 2) rfl
    have g3 := blk_cell hB (k := 3) rfl
    have g4 := blk_cell hB (k := 4) rfl
    have g5 := blk_cell hB (k := 5) rfl
    have n0 := blk_cell hX7 (k := 0) rfl
    have n1 := blk_cell hX7 (k := 1) rfl
    have n2 := blk_cell hX7 (k := 2) rfl
    have n3 := blk_cell hX7 (k := 3) rfl
    have n4 := blk_cell hX7 (k := 4) rfl
    have n5 := blk_cell hX7 (k := 5) rfl
    go_wp2_with fail
    clear g0 g1 g2 g3 g4 g5 n0 n1 n2 n3 n4 n5 hne hgd
    go_loopg [1, 9] 2 (fun g sv iv wr => ∃ (k : Nat) (t : ByteArray), g = 2 - k ∧ k ≤ 2 ∧ sv = .string t ∧ iv = .int .i64 k ∧ t.size ≤ 200 + 4 * k ∧ Below w.heap.size w wr)
    case atStart => exact ⟨0, s, rfl, by omega, rfl, rfl, by omega, hW⟩
    case round =>
      obtain ⟨k, t, hg, hk, rfl, rfl, ht, hW⟩ := hrel
      by_cases hlt : k < 2
      · obtain ⟨⟨x, er⟩, hun⟩ : ∃ q, unpO t.data.toList = q := ⟨_, rfl⟩
        have hU := fun W => lob_Unpack (w := W) t (by omega)
        have hR := fun W => ref_UnpackO (w := W) t (by omega)
        rw [hun] at hU hR
        have HU := hid hU
        have HR := hid hR
        have hSl := fun W => ref_Seal t (by omega) W
        have hsz : (⟨(sealed t.data.toList).toArray⟩ : ByteArray).size ≤ 200 + 4 * (k + 1) := by
          show (sealed t.data.toList).toArray.size ≤ _
          unfold sealed
          simp [tail4_length]
          omega
        generalize hT2 : (⟨(sealed t.data.toList).toArray⟩ : ByteArray) = t2 at *
        have HSl := hid hSl
        have Hsz := hid hsz
        have Hg := hid hg
        clear hun hU hR hSl hsz hT2 hg
        go_wp2_with fail
        refine (HU.out _).mono ?_
        rintro e w4 ⟨rfl, hbb⟩
        have hW4 := hW.trans (hbb.mono hW.size)
        have hm1 := blk_new w4 (.cells #[.int .i64 x.r, .int .u32 x.s, .int .i64 x.ld, .int .i64 x.md, .int .i64 x.lw, .int .i64 x.mw] 63)
        have hW5 := hW4.alloc hW4.size (.cells #[.int .i64 x.r, .int .u32 x.s, .int .i64 x.ld, .int .i64 x.md, .int .i64 x.lw, .int .i64 x.mw] 63)
        clear hW hbb hW4
        go_wp2_with fail
        refine (HR.out _).mono ?_
        rintro e w6 ⟨rfl, hbc⟩
        have hk6 : Keeps (fun _ => False) _ w6 := Keeps.of_below hbc (fun k h1 h2 => by omega)
        have hm6 := blk_alloc (hk6.heap hm1 id) (.cells #[.int .i64 x.r, .int .u32 x.s, .int .i64 x.ld, .int .i64 x.md, .int .i64 x.lw, .int .i64 x.mw] 63)
        have hW6 := (hW5.trans (hk6.below hW5.size (fun k h1 h2 => by omega))).alloc (hW5.trans (hk6.below hW5.size (fun k h1 h2 => by omega))).size (.cells #[.int .i64 x.r, .int .u32 x.s, .int .i64 x.ld, .int .i64 x.md, .int .i64 x.lw, .int .i64 x.mw] 63)
        have hne := off_neq x
        have hgd := off_guard
        clear hbc hm1 hW5 hk6
        have n0 := blk_cell hm6 (k := 0) rfl
        have n1 := blk_cell hm6 (k := 1) rfl
        have n2 := blk_cell hm6 (k := 2) rfl
        have n3 := blk_cell hm6 (k := 3) rfl
        have n4 := blk_cell hm6 (k := 4) rfl
        have n5 := blk_cell hm6 (k := 5) rfl
        go_wp2_with fail
        refine (HSl.out _).mono ?_
        rintro e w9 ⟨rfl, hb9⟩
        have hW9 := hW6.trans (hb9.mono hW6.size)
        clear hb9 hW6
        go_wp2_with fail
        go_roundg (2 - (k + 1))
        case measure => have := Hg.out; omega
        case rel => exact ⟨k + 1, t2, rfl, by omega, rfl, by go_num, Hsz.out, hW9⟩
      · obtain rfl : k = 2 := by omega
        go_wp2
        go_ret
        exact ⟨rfl, hW⟩
theorem off_of {w : World} {cs : List Value} (h : LeavesAre w [.int .i64, .int .u32, .int .i64, .int .i64, .int .i64, .int .i64] cs) :
    ∃ o : Offer, cs = [.int .i64 o.r, .int .u32 o.s, .int .i64 o.ld, .int .i64 o.md, .int .i64 o.lw, .int .i64 o.mw] ∧ 0 ≤ o.s ∧ o.s < 4294967296 := by
  obtain ⟨hl, hc⟩ := h
  obtain ⟨v0, v1, v2, v3, v4, v5, rfl⟩ : ∃ v0 v1 v2 v3 v4 v5, cs = [v0, v1, v2, v3, v4, v5] := by
    match cs, hl with
    | [v0, v1, v2, v3, v4, v5], _ => exact ⟨v0, v1, v2, v3, v4, v5, rfl⟩
  obtain ⟨a, rfl, _⟩ := hc 0 _ _ rfl rfl
  obtain ⟨b, rfl, wb⟩ := hc 1 _ _ rfl rfl
  obtain ⟨c, rfl, _⟩ := hc 2 _ _ rfl rfl
  obtain ⟨d, rfl, _⟩ := hc 3 _ _ rfl rfl
  obtain ⟨e, rfl, _⟩ := hc 4 _ _ rfl rfl
  obtain ⟨f, rfl, _⟩ := hc 5 _ _ rfl rfl
  have hb : 0 ≤ b ∧ b < 4294967296 := by
    simp only [Lit.wf] at wb
    have : 0 ≤ b ∧ b ≤ 4294967295 := by simpa [IntKind.min, IntKind.max, IntKind.signed, IntKind.bits] using wb
    omega
  exact ⟨⟨a, b, c, d, e, f⟩, rfl, hb⟩
end Go.Proofs.Ytfepefohaadecaa
