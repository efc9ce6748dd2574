/- The reference's Pack; lobby.Unpack. -/
import Derived.Test.YtfepefohaadecaaOff2
import Derived.Test.YtfepefohaadecaaVals
import Derived.Deep.LoopGhost
namespace Go.Proofs.Ytfepefohaadecaa
open Go.RowKit
set_option maxRecDepth 10000
variable {w : World}
set_option maxHeartbeats 1600000 in
theorem ref_Pack_nat (r s ld md lw mw : Nat) (hr : RightO ⟨r, s, ld, md, lw, mw⟩) (hs : s < 4294967296) (o : Offer) (ho : o = ⟨r, s, ld, md, lw, mw⟩) (w : World) :
    Calls Try.prog 32 #[.agg #[.int .i64 (r : Nat), .int .u32 (s : Nat), .int .i64 (ld : Nat), .int .i64 (md : Nat), .int .i64 (lw : Nat), .int .i64 (mw : Nat)]] w fun e w' => e = .returned (.string ⟨(packO o).toArray⟩) ∧ Below w.heap.size w w' := by
  have hb := hr
  unfold RightO at hb
  simp only at hb
  have hraw : rawO o = 79 :: numsB [r, s, ld, md, lw, mw] := by rw [ho]; rfl
  have hpk : packO o = sealed (rawO o) := rfl
  rw [hpk, hraw]
  obtain ⟨ns, hns⟩ : ∃ ns, [r, s, ld, md, lw, mw] = ns := ⟨_, rfl⟩
  have hall : ∀ v ∈ ns, v < two64 := by rw [← hns]; unfold two64; intro v hv; simp at hv; omega
  have hlen := fun k => numsB_len (ns.take k) (fun v hv => hall v (List.mem_of_mem_take hv))
  have hget : ∀ k, k < 6 → (#[.int .u64 (r : Nat), .int .u64 (s : Nat), .int .u64 (ld : Nat), .int .u64 (md : Nat), .int .u64 (lw : Nat), .int .u64 (mw : Nat)] : Array Value)[k]? = some (.int .u64 ((ns.getD k 0 : Nat) : Int)) := by
    intro k hk
    subst hns
    match k, hk with
    | 0, _ | 1, _ | 2, _ | 3, _ | 4, _ | 5, _ => rfl
  have hnl : ns.length = 6 := by rw [← hns]; rfl
  have hvl : ∀ k, k < 6 → ns.getD k 0 ≤ 4294967295 := by
    intro k hk
    subst hns
    match k, hk with
    | 0, _ => show r ≤ _; omega
    | 1, _ => show s ≤ _; omega
    | 2, _ => show ld ≤ _; omega
    | 3, _ => show md ≤ _; omega
    | 4, _ => show lw ≤ _; omega
    | 5, _ => show mw ≤ _; omega
  rw [hns]
  have Hlen := hid hlen
  have Hget := hid hget
  have Hnl := hid hnl
  have Hvl := hid hvl
  have hu : ∀ x : Nat, x ≤ 4294967296 → IntKind.u64.wrap (x : Int) = (x : Int) := fun x hx => u64_nat x (by unfold two64; omega)
  have u1 := hu r (by omega)
  have u2 := hu s (by omega)
  have u3 := hu ld (by omega)
  have u4 := hu md (by omega)
  have u5 := hu lw (by omega)
  have u6 := hu mw (by omega)
  clear hraw hpk hns hall hlen hget hnl hvl ho hr hb hu
  go_enter Try.func32, Try.ntmps32
  go_wp2_with fail
  have hBL : ((w.alloc (.cells #[.int .i64 (r : Nat), .int .u32 (s : Nat), .int .i64 (ld : Nat), .int .i64 (md : Nat), .int .i64 (lw : Nat), .int .i64 (mw : Nat)] 63)).alloc (.cells #[.int .u64 (r : Nat), .int .u64 (s : Nat), .int .u64 (ld : Nat), .int .u64 (md : Nat), .int .u64 (lw : Nat), .int .u64 (mw : Nat)] 93)).heap[w.heap.size + 1]? = some (.cells #[.int .u64 (r : Nat), .int .u64 (s : Nat), .int .u64 (ld : Nat), .int .u64 (md : Nat), .int .u64 (lw : Nat), .int .u64 (mw : Nat)] 93 (0, 0)) := by
    have := blk_new (w.alloc (.cells #[.int .i64 (r : Nat), .int .u32 (s : Nat), .int .i64 (ld : Nat), .int .i64 (md : Nat), .int .i64 (lw : Nat), .int .i64 (mw : Nat)] 63)) (.cells #[.int .u64 (r : Nat), .int .u64 (s : Nat), .int .u64 (ld : Nat), .int .u64 (md : Nat), .int .u64 (lw : Nat), .int .u64 (mw : Nat)] 93)
    simpa using this
  have hbl : Below w.heap.size w ((w.alloc (.cells #[.int .i64 (r : Nat), .int .u32 (s : Nat), .int .i64 (ld : Nat), .int .i64 (md : Nat), .int .i64 (lw : Nat), .int .i64 (mw : Nat)] 63)).alloc (.cells #[.int .u64 (r : Nat), .int .u64 (s : Nat), .int .u64 (ld : Nat), .int .u64 (md : Nat), .int .u64 (lw : Nat), .int .u64 (mw : Nat)] 93)) := ((Below.refl _ w).alloc (Nat.le_refl _) _).alloc (by simp) _
  have HBL := hid hBL
  clear hBL u1 u2 u3 u4 u5 u6
  go_loopw [4, 5] (fun sv iv wr => ∃ k : Nat, k ≤ 6 ∧ iv = .int .i64 k ∧ sv = .string ⟨(79 :: numsB (ns.take k)).toArray⟩ ∧ Keeps (fun _ => False) ((w.alloc (.cells #[.int .i64 (r : Nat), .int .u32 (s : Nat), .int .i64 (ld : Nat), .int .i64 (md : Nat), .int .i64 (lw : Nat), .int .i64 (mw : Nat)] 63)).alloc (.cells #[.int .u64 (r : Nat), .int .u64 (s : Nat), .int .u64 (ld : Nat), .int .u64 (md : Nat), .int .u64 (lw : Nat), .int .u64 (mw : Nat)] 93)) wr) (fun _ iv _ => 6 - (intOf iv).toNat)
  case atStart => exact ⟨0, by omega, rfl, rfl, Keeps.refl _ _⟩
  case round =>
    obtain ⟨k, hk, rfl, rfl, hkr⟩ := hrel
    by_cases hlt : k < 6
    · have hx : wr.cell? ⟨w.heap.size + 1, k, none⟩ = some (.int .u64 ((ns.getD k 0 : Nat) : Int)) := hkr.cell (blk_cell HBL.out (Hget.out k hlt)) id
      have hst := ns_step ns k (by have := Hnl.out; omega)
      have hl3 := Hlen.out k
      have hvl := Hvl.out k hlt
      have hl4 : (ns.take k).length ≤ 6 := by have := Hnl.out; simp; omega
      generalize hS : numsB (ns.take k) = S at *
      generalize ns.getD k 0 = x at *
      have hnx := num_len10 x (by unfold two64; omega)
      have hadd := fun W => add_strings W (79 :: S) (num x) (by simp; omega)
      have Hst := hid hst
      clear hS hst
      go_wp2_with fail
      refine (ref_Number x (by unfold two64; omega) _).mono ?_
      rintro e w5 ⟨rfl, hb5⟩
      have hk5 := hkr.then_below hb5
      clear hkr hb5 hx
      go_wp2_with fail
      go_roundw
      case rel => exact ⟨k + 1, by omega, by go_num, by rw [Hst.out], hk5⟩
      case measure => simp [intOf]; omega
    · obtain rfl : k = 6 := by omega
      have hll := Hlen.out 6
      have hl6 : ns.take 6 = ns := List.take_of_length_le (by have := Hnl.out; omega)
      rw [hl6] at hll
      have Hl6 := hid hl6
      have hl7 := Hnl.out
      have hbw := hbl.trans (hkr.below hbl.size (fun k h1 h2 => h2))
      clear hl6
      simp only [Hl6.out]
      obtain ⟨S, hS⟩ : ∃ S, numsB ns = S := ⟨_, rfl⟩
      rw [hS] at hll
      rw [hS]
      have HS := hid hS
      clear hS
      have hsl := hid (fun W => ref_Seal ⟨(79 :: S).toArray⟩ (by show (79 :: S).toArray.size ≤ _; simp; omega) W)
      clear hkr hl7
      go_wp2_with fail
      refine (hsl.out _).mono ?_
      rintro e w7 ⟨rfl, hb7⟩
      go_wp2_with fail
      go_ret
      exact ⟨by rw [HS.out]; rfl, hbw.trans (hb7.mono hbw.size)⟩
/-- a whole struct stored over a block of six cells -/
theorem blk_store6 {w : World} {b : Nat} {t : TypeId} {c0 c1 c2 c3 c4 c5 : Value} (h : w.heap[b]? = some (.cells #[c0, c1, c2, c3, c4, c5] t (0, 0))) (v0 v1 v2 v3 v4 v5 : Value) :
    ((((((w.setCell ⟨b, 0, none⟩ v0).setCell ⟨b, 1, none⟩ v1).setCell ⟨b, 2, none⟩ v2).setCell ⟨b, 3, none⟩ v3).setCell ⟨b, 4, none⟩ v4).setCell ⟨b, 5, none⟩ v5).heap[b]? = some (.cells #[v0, v1, v2, v3, v4, v5] t (0, 0)) := by
  have := blk_set (blk_set (blk_set (blk_set (blk_set (blk_set h 0 v0) 1 v1) 2 v2) 3 v3) 4 v4) 5 v5
  simpa using this
theorem below_store6 {B : Nat} {w0 w : World} {b : Nat} (h : Below B w0 w) (hb : B ≤ b) (v0 v1 v2 v3 v4 v5 : Value) :
    Below B w0 ((((((w.setCell ⟨b, 0, none⟩ v0).setCell ⟨b, 1, none⟩ v1).setCell ⟨b, 2, none⟩ v2).setCell ⟨b, 3, none⟩ v3).setCell ⟨b, 4, none⟩ v4).setCell ⟨b, 5, none⟩ v5) :=
  (((((h.setCell (p := ⟨b, 0, none⟩) hb v0).setCell (p := ⟨b, 1, none⟩) hb v1).setCell (p := ⟨b, 2, none⟩) hb v2).setCell (p := ⟨b, 3, none⟩) hb v3).setCell (p := ⟨b, 4, none⟩) hb v4).setCell (p := ⟨b, 5, none⟩) hb v5
def zeroO : Array Value := #[.int .i64 0, .int .u32 0, .int .i64 0, .int .i64 0, .int .i64 0, .int .i64 0]
def UnpO (w : World) (q : Offer × Int) (e : Ending) (w' : World) : Prop := e = .returned (.tuple #[(.agg #[.int .i64 q.1.r, .int .u32 q.1.s, .int .i64 q.1.ld, .int .i64 q.1.md, .int .i64 q.1.lw, .int .i64 q.1.mw]), .int .i64 q.2]) ∧ Below w.heap.size w w'
theorem lob_unp_err (s : ByteArray) (hs : s.size ≤ maxLen) (l : List UInt8) (er : Int) (hop : opened s.data.toList = (l, er)) (he : er ≠ 0) :
    Calls Try.prog 31 #[.string s] w (UnpO w (Offer.zero, er)) := by
  have hO := sum_Open s hs (w.alloc (.cells zeroO 63))
  rw [hop] at hO
  have HO := hid hO
  have hq : (er != 0) = true := by simp [he]
  clear hO hop he hs
  go_enter Try.func31, Try.ntmps31
  go_wp2_with fail
  refine HO.out.mono ?_
  rintro e w1 ⟨rfl, hb1⟩
  have hres := (Keeps.of_below (S := fun _ => False) hb1 (fun k h1 h2 => by omega)).heap (blk_new w (.cells zeroO 63)) id
  have hW : Below w.heap.size w w1 := ((Below.refl _ w).alloc (Nat.le_refl _) _).trans (hb1.mono (by simp))
  unfold zeroO at hres
  clear hb1
  have f0 := blk_free hres 0
  have e0 := blk_cell hres (k := 0) rfl
  have f1 := blk_free hres 1
  have e1 := blk_cell hres (k := 1) rfl
  have f2 := blk_free hres 2
  have e2 := blk_cell hres (k := 2) rfl
  have f3 := blk_free hres 3
  have e3 := blk_cell hres (k := 3) rfl
  have f4 := blk_free hres 4
  have e4 := blk_cell hres (k := 4) rfl
  have f5 := blk_free hres 5
  have e5 := blk_cell hres (k := 5) rfl
  go_wp2_with fail
  have hf := blk_store6 hres (.int .i64 0) (.int .u32 0) (.int .i64 0) (.int .i64 0) (.int .i64 0) (.int .i64 0)
  have d0 := blk_cell hf (k := 0) rfl
  have d1 := blk_cell hf (k := 1) rfl
  have d2 := blk_cell hf (k := 2) rfl
  have d3 := blk_cell hf (k := 3) rfl
  have d4 := blk_cell hf (k := 4) rfl
  have d5 := blk_cell hf (k := 5) rfl
  have hbl := below_store6 hW (Nat.le_refl _) (.int .i64 0) (.int .u32 0) (.int .i64 0) (.int .i64 0) (.int .i64 0) (.int .i64 0)
  refine bodyPost_ret (v := .tuple #[.agg #[.int .i64 0, .int .u32 0, .int .i64 0, .int .i64 0, .int .i64 0, .int .i64 0], .int .i64 er]) (by simp [results, Try.results31, go_sem, d0, d1, d2, d3, d4, d5]) rfl ?_
  exact ⟨rfl, hbl⟩
end Go.Proofs.Ytfepefohaadecaa
