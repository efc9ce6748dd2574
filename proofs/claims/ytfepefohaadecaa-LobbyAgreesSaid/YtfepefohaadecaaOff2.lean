/- lobby.Pack. -/
import Derived.Test.YtfepefohaadecaaOff1
import Derived.Test.YtfepefohaadecaaStrs
namespace Go.Proofs.Ytfepefohaadecaa
open Go.RowKit
set_option maxRecDepth 10000
variable {w : World}
theorem lob_Pack_no (o : Offer) (h : ¬ RightO o) (w : World) : Calls Try.prog 28 #[(.agg #[.int .i64 o.r, .int .u32 o.s, .int .i64 o.ld, .int .i64 o.md, .int .i64 o.lw, .int .i64 o.mw])] w fun e w' => e = .returned (.tuple #[.string ⟨#[]⟩, .int .i64 1]) ∧ Below w.heap.size w w' := by
  have hR := fun W => lob_Right o W
  rw [decide_eq_false h] at hR
  have HR := hid hR
  clear hR h
  go_enter Try.func28, Try.ntmps28
  go_wp2_with fail
  refine (HR.out _).mono ?_
  rintro e w1 ⟨rfl, rfl⟩
  go_wp2_with fail
  go_ret2
  exact ⟨rfl, ((Below.refl _ w).alloc (Nat.le_refl _) _).alloc (by simp) _⟩
def runO (r s Bo : Nat) (i : Nat) (v : Value) (w : World) : Prop :=
  match i with
  | 0 => ∃ B, v = .slice (some ⟨B, 0, none⟩) 1 1 ∧ w.cell? ⟨B, 0, none⟩ = some (.int .u8 (79 : UInt8).toNat)
  | 1 => v = .string ⟨#[79]⟩
  | 2 => v = .pointer (some ⟨Bo, 0, none⟩)
  | 3 => v = .int .i64 (r : Nat)
  | 4 => v = .int .u64 (r : Nat)
  | 5 => v = .string ⟨(num r).toArray⟩
  | 6 => v = .string ⟨(79 :: num r).toArray⟩
  | 7 => v = .pointer (some ⟨Bo, 1, none⟩)
  | 8 => v = .int .u32 (s : Nat)
  | 9 => v = .int .u64 (s : Nat)
  | 10 => v = .string ⟨(num s).toArray⟩
  | 11 => v = .string ⟨(79 :: num r ++ num s).toArray⟩
  | _ => True
theorem runO_keeps {r s Bo : Nat} {w w' : World} (h : Keeps (fun _ => False) w w') (i : Nat) (v : Value) (hr : runO r s Bo i v w) : runO r s Bo i v w' := by
  match i, hr with
  | 0, ⟨B, h1, h2⟩ => exact ⟨B, h1, h.cell h2 id⟩
  | 1, hr | 2, hr | 3, hr | 4, hr | 5, hr | 6, hr | 7, hr | 8, hr | 9, hr | 10, hr | 11, hr => exact hr
  | _ + 12, _ => trivial
theorem fourP_get (B k : Nat) (h : k < 4) : (fourP B).toArray[k]? = some (.pointer (some ⟨B, 2 + k, none⟩)) := by
  match k, h with
  | 0, _ | 1, _ | 2, _ | 3, _ => rfl
theorem ns_step (ns : List Nat) (k : Nat) (h : k < ns.length) : numsB (ns.take (k + 1)) = numsB (ns.take k) ++ num (ns.getD k 0) := by
  rw [List.take_succ_eq_append_getElem h, numsB_snoc, List.getD_eq_getElem?_getD, List.getElem?_eq_getElem h]
  rfl
set_option maxHeartbeats 1600000 in
theorem lob_Pack_nat (r s ld md lw mw : Nat) (hr : RightO ⟨r, s, ld, md, lw, mw⟩) (hs : s < 4294967296) (o : Offer) (ho : o = ⟨r, s, ld, md, lw, mw⟩) (w : World) :
    Calls Try.prog 28 #[.agg #[.int .i64 (r : Nat), .int .u32 (s : Nat), .int .i64 (ld : Nat), .int .i64 (md : Nat), .int .i64 (lw : Nat), .int .i64 (mw : Nat)]] w fun e w' => e = .returned (.tuple #[.string ⟨(packO o).toArray⟩, .int .i64 0]) ∧ Below w.heap.size w w' := by
  have hR := fun W => lob_Right ⟨r, s, ld, md, lw, mw⟩ W
  rw [decide_eq_true hr] at hR
  have HR := hid hR
  have hb := hr
  unfold RightO at hb
  simp only at hb
  have hraw : rawO o = 79 :: numsB [r, s, ld, md, lw, mw] := by rw [ho]; rfl
  have hl1 := num_len10 r (by unfold two64; omega)
  have hl2 := num_len10 s (by unfold two64; omega)
  have hpk : packO o = sealed (rawO o) := rfl
  rw [hpk, hraw]
  obtain ⟨ns, hns⟩ : ∃ ns, [r, s, ld, md, lw, mw] = ns := ⟨_, rfl⟩
  have hall : ∀ v ∈ ns, v < two64 := by rw [← hns]; unfold two64; intro v hv; simp at hv; omega
  have hlen := fun k => numsB_len (ns.take k) (fun v hv => hall v (List.mem_of_mem_take hv))
  have hget : ∀ k, k < 4 → (#[.int .i64 (r : Nat), .int .u32 (s : Nat), .int .i64 (ld : Nat), .int .i64 (md : Nat), .int .i64 (lw : Nat), .int .i64 (mw : Nat)] : Array Value)[2 + k]? = some (.int .i64 ((ns.getD (2 + k) 0 : Nat) : Int)) := by
    intro k hk
    subst hns
    match k, hk with
    | 0, _ | 1, _ | 2, _ | 3, _ => rfl
  have hnl : ns.length = 6 := by rw [← hns]; rfl
  have h2 : 79 :: num r ++ num s = 79 :: numsB (ns.take 2) := by rw [← hns]; simp [numsB]
  have hvl : ∀ k, k < 4 → ns.getD (2 + k) 0 ≤ 100 := by
    intro k hk
    subst hns
    match k, hk with
    | 0, _ => show ld ≤ 100; omega
    | 1, _ => show md ≤ 100; omega
    | 2, _ => show lw ≤ 100; omega
    | 3, _ => show mw ≤ 100; omega
  rw [hns]
  have Hlen := hid hlen
  have Hget := hid hget
  have Hnl := hid hnl
  have H2 := hid h2
  have Hvl := hid hvl
  have hr100 : r ≤ 100 := by omega
  clear hR hraw hpk hns hall hlen hget hnl h2 hvl ho hr hb
  go_enter Try.func28, Try.ntmps28
  go_wp2_with fail
  refine (HR.out _).mono ?_
  rintro e w1 ⟨rfl, hw1⟩
  have hB1 : w1.heap[w.heap.size]? = some (.cells #[.int .i64 (r : Nat), .int .u32 (s : Nat), .int .i64 (ld : Nat), .int .i64 (md : Nat), .int .i64 (lw : Nat), .int .i64 (mw : Nat)] 63 (0, 0)) := by rw [← hw1]; exact blk_alloc (blk_new w _) _
  have hk1 : Below w.heap.size w w1 := by rw [← hw1]; exact ((Below.refl _ w).alloc (Nat.le_refl _) _).alloc (by simp) _
  have HB1 := hid hB1
  clear hw1 hB1
  go_wp2_with fail
  refine region_at 10 12 (by kernel_rfl) (by kernel_rfl) (Keeps (fun _ => False) w1) (runO r s w.heap.size) ?hC ?hrun ?hfin
  case hC => exact (Keeps.refl _ w1).drew
  case hrun =>
    intro i o' vals W hi ho hC hd
    have hcW0 : W.cell? ⟨w.heap.size, 0, none⟩ = some (.int .i64 (r : Nat)) := hC.cell (blk_cell HB1.out rfl) id
    have hcW1 : W.cell? ⟨w.heap.size, 1, none⟩ = some (.int .u32 (s : Nat)) := hC.cell (blk_cell HB1.out rfl) id
    match i, hi, ho, hd with
    | 0, _, ho, hd =>
      obtain rfl := Option.some.inj ho
      clear hd
      simp only [relAct, fillL]
      go_simp
      exact ⟨.slice (some ⟨W.heap.size, 0, none⟩) 1 1, by simp [upd], ⟨W.heap.size, rfl, by go_simp⟩, hC.alloc _, fun j u h => runO_keeps ((Keeps.refl _ W).alloc _) j u h⟩
    | 1, _, ho, hd =>
      obtain rfl := Option.some.inj ho
      have q0 := hd ⟨0, .data⟩ (by simp) rfl
      simp only [runO] at q0
      obtain ⟨B, q0, q0b⟩ := q0
      have hcv := conv1_at W B 79 q0b
      clear hd
      simp only [relAct, fillL]
      go_simp
      exact ⟨_, by first | (simp [upd, q0]; done) | (simp [upd, q0]; rfl), rfl⟩
    | 2, _, ho, hd =>
      obtain rfl := Option.some.inj ho
      clear hd
      simp only [relAct, fillL]
      go_simp
      exact ⟨_, by first | (simp [upd]; done) | (simp [upd]; rfl), rfl⟩
    | 3, _, ho, hd =>
      obtain rfl := Option.some.inj ho
      have q2 := hd ⟨2, .data⟩ (by simp) rfl
      simp only [runO] at q2
      clear hd
      simp only [relAct, fillL]
      go_simp
      exact ⟨_, by first | (simp [upd, q2]; done) | (simp [upd, q2]; rfl), rfl⟩
    | 4, _, ho, hd =>
      obtain rfl := Option.some.inj ho
      have q3 := hd ⟨3, .data⟩ (by simp) rfl
      simp only [runO] at q3
      have hw := u64_nat r (by unfold two64; omega)
      clear hd
      simp only [relAct, fillL]
      go_simp
      exact ⟨.int .u64 (r : Nat), by simp [upd, q3], rfl⟩
    | 5, _, ho, hd =>
      obtain rfl := Option.some.inj ho
      have q4 := hd ⟨4, .data⟩ (by simp) rfl
      simp only [runO] at q4
      clear hd
      simp only [relAct, fillL]
      go_simp
      refine ((pack_Number r (by unfold two64; omega) _).mono ?_)
      rintro e w3 ⟨rfl, hb3⟩
      exact ⟨.string ⟨(num r).toArray⟩, by simp [upd, q4], rfl, hC.then_below hb3, fun j u h => runO_keeps ((Keeps.refl _ W).then_below hb3) j u h⟩
    | 6, _, ho, hd =>
      obtain rfl := Option.some.inj ho
      have q1 := hd ⟨1, .data⟩ (by simp) rfl
      simp only [runO] at q1
      have q5 := hd ⟨5, .data⟩ (by simp) rfl
      simp only [runO] at q5
      have hadd := add_strings W [79] (num r) (by simp; omega)
      clear hd
      simp only [relAct, fillL]
      go_simp
      exact ⟨.string ⟨(79 :: num r).toArray⟩, by simp [upd, q1, q5], rfl⟩
    | 7, _, ho, hd =>
      obtain rfl := Option.some.inj ho
      clear hd
      simp only [relAct, fillL]
      go_simp
      exact ⟨_, by first | (simp [upd]; done) | (simp [upd]; rfl), rfl⟩
    | 8, _, ho, hd =>
      obtain rfl := Option.some.inj ho
      have q7 := hd ⟨7, .data⟩ (by simp) rfl
      simp only [runO] at q7
      clear hd
      simp only [relAct, fillL]
      go_simp
      exact ⟨_, by first | (simp [upd, q7]; done) | (simp [upd, q7]; rfl), rfl⟩
    | 9, _, ho, hd =>
      obtain rfl := Option.some.inj ho
      have q8 := hd ⟨8, .data⟩ (by simp) rfl
      simp only [runO] at q8
      have hw := u64_nat s (by unfold two64; omega)
      clear hd
      simp only [relAct, fillL]
      go_simp
      exact ⟨.int .u64 (s : Nat), by simp [upd, q8], rfl⟩
    | 10, _, ho, hd =>
      obtain rfl := Option.some.inj ho
      have q9 := hd ⟨9, .data⟩ (by simp) rfl
      simp only [runO] at q9
      clear hd
      simp only [relAct, fillL]
      go_simp
      refine ((pack_Number s (by unfold two64; omega) _).mono ?_)
      rintro e w3 ⟨rfl, hb3⟩
      exact ⟨.string ⟨(num s).toArray⟩, by simp [upd, q9], rfl, hC.then_below hb3, fun j u h => runO_keeps ((Keeps.refl _ W).then_below hb3) j u h⟩
    | 11, _, ho, hd =>
      obtain rfl := Option.some.inj ho
      have q6 := hd ⟨6, .data⟩ (by simp) rfl
      simp only [runO] at q6
      have q10 := hd ⟨10, .data⟩ (by simp) rfl
      simp only [runO] at q10
      have hadd := add_strings W (79 :: num r) (num s) (by simp; omega)
      clear hd
      simp only [relAct, fillL]
      go_simp
      exact ⟨.string ⟨(79 :: num r ++ num s).toArray⟩, by simp [upd, q6, q10], rfl⟩
  case hfin =>
    intro tl ht vals W hC hR
    obtain rfl := Option.some.inj ht
    have q11 := hR 11 (by omega)
    simp only [runO, H2.out] at q11
    clear hR
    simp only [relAct, fillL]
    go_simp
    try simp only [q11]
    have hBW := hC.heap HB1.out id
    have hBW2 := hk1.trans (hC.below hk1.size (fun k h1 h2 => h2))
    have HBW := hid hBW
    clear q11 hC hk1 HB1 hBW
    go_wp2_with fail
    refine (lob_fields w.heap.size _ HBW.out rfl).mono ?_
    rintro e w3 ⟨rfl, q, hw3⟩
    have hk3 : Keeps (fun _ => False) W w3 := by rw [hw3]; exact ((Keeps.refl _ W).alloc _).drewN q
    have hP : w3.heap[W.heap.size]? = some (.cells (fourP w.heap.size).toArray 107 (0, 0)) := by rw [hw3, drewN_heap]; exact blk_new W _
    have hB3 := hk3.heap HBW.out id
    have hb3 := hBW2.trans (hk3.below hBW2.size (fun k h1 h2 => h2))
    have HP := hid hP
    have HB3 := hid hB3
    clear hw3 hk3 hP hB3 HBW hBW2
    go_wp2_with fail
    go_loopw [4, 24] (fun sv iv wr => ∃ k : Nat, k ≤ 4 ∧ iv = .int .i64 k ∧ sv = .string ⟨(79 :: numsB (ns.take (2 + k))).toArray⟩ ∧ Keeps (fun _ => False) w3 wr) (fun _ iv _ => 4 - (intOf iv).toNat)
    case atStart => exact ⟨0, by omega, rfl, rfl, Keeps.refl _ _⟩
    case round =>
      obtain ⟨k, hk, rfl, rfl, hkr⟩ := hrel
      by_cases hlt : k < 4
      · have hp : wr.cell? ⟨W.heap.size, k, none⟩ = some (.pointer (some ⟨w.heap.size, 2 + k, none⟩)) := hkr.cell (blk_cell HP.out (fourP_get _ k hlt)) id
        have hx : wr.cell? ⟨w.heap.size, 2 + k, none⟩ = some (.int .i64 ((ns.getD (2 + k) 0 : Nat) : Int)) := hkr.cell (blk_cell HB3.out (Hget.out k hlt)) id
        have hst := ns_step ns (2 + k) (by have := Hnl.out; omega)
        have hl3 := Hlen.out (2 + k)
        have hvl := Hvl.out k hlt
        have hl4 : (ns.take (2 + k)).length ≤ 6 := by have := Hnl.out; simp; omega
        generalize hS : numsB (ns.take (2 + k)) = S at *
        generalize ns.getD (2 + k) 0 = x at *
        have hnx := num_len10 x (by unfold two64; omega)
        have hwx : IntKind.u64.wrap (x : Int) = (x : Int) := u64_nat x (by unfold two64; omega)
        have hadd := fun W => add_strings W (79 :: S) (num x) (by simp; omega)
        have Hst := hid hst
        clear hS hst
        go_wp2_with fail
        refine (pack_Number x (by unfold two64; omega) _).mono ?_
        rintro e w5 ⟨rfl, hb5⟩
        have hk5 := hkr.then_below hb5
        clear hkr hb5 hp hx
        go_wp2_with fail
        go_roundw
        case rel => exact ⟨k + 1, by omega, by go_num, by rw [show 2 + (k + 1) = 2 + k + 1 by omega, Hst.out], hk5⟩
        case measure => simp [intOf]; omega
      · obtain rfl : k = 4 := by omega
        have hll := Hlen.out 6
        have hl6 : ns.take 6 = ns := List.take_of_length_le (by have := Hnl.out; omega)
        rw [hl6] at hll
        have Hl6 := hid hl6
        have hl7 := Hnl.out
        have hbw := hb3.trans (hkr.below hb3.size (fun k h1 h2 => h2))
        clear hl6
        simp only [show 2 + 4 = 6 from rfl, Hl6.out]
        obtain ⟨S, hS⟩ : ∃ S, numsB ns = S := ⟨_, rfl⟩
        rw [hS] at hll
        rw [hS]
        have HS := hid hS
        clear hS
        have hsl := hid (fun W => sum_Seal ⟨(79 :: S).toArray⟩ (by show (79 :: S).toArray.size ≤ _; simp; omega) W)
        clear hkr hl7
        go_wp2_with fail
        refine (hsl.out _).mono ?_
        rintro e w7 ⟨rfl, hb7⟩
        go_wp2_with fail
        go_ret2
        exact ⟨by rw [HS.out]; rfl, hbw.trans (hb7.mono hbw.size)⟩
end Go.Proofs.Ytfepefohaadecaa
