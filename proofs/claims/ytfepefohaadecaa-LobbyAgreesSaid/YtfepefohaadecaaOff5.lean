/- The reference's reading of an offer. -/
import Derived.Test.YtfepefohaadecaaOff4
namespace Go.Proofs.Ytfepefohaadecaa
open Go.RowKit
set_option maxRecDepth 10000
variable {w : World}
theorem info_u64 : (Try.prog.info? 93).map (fun i => (i.zero, i.size, i.bytes)) = some (some (.int .u64 0), 1, 8) := by kernel_rfl
def u64L (L : List Nat) : List Value := L.map fun x => .int .u64 (x : Nat)
theorem str_ne {U s : ByteArray} (h : U ≠ s) : (U.toList == s.toList) = false := by
  rw [beq_eq_false_iff_ne]
  intro h'
  rw [ByteArray.toList_eq, ByteArray.toList_eq] at h'
  exact h (ByteArray.ext (Array.ext' h'))
theorem ref_unp_short (s : ByteArray) (hs : s.size < 4) : Calls Try.prog 33 #[.string s] w (UnpO w (Offer.zero, 3)) := by
  have hres := blk_new w (.cells zeroO 63)
  have hW := (Below.refl w.heap.size w).alloc (Nat.le_refl _) (.cells zeroO 63)
  unfold zeroO at hres hW
  go_enter Try.func33, Try.ntmps33
  go_wp2_with fail
  refine bodyPost_ret (v := .tuple #[.agg #[.int .i64 0, .int .u32 0, .int .i64 0, .int .i64 0, .int .i64 0, .int .i64 0], .int .i64 3]) (by simp [results, Try.results33, go_sem]) rfl ?_
  exact ⟨rfl, hW⟩
theorem ref_unp_seal (s T : ByteArray) (hs : s.size ≤ 100000) (h4 : 4 ≤ s.size) (hT : s.extract 0 (s.size - 4) = T) (U : ByteArray) (hU : (⟨(sealed T.data.toList).toArray⟩ : ByteArray) = U) (hne : U ≠ s) :
    Calls Try.prog 33 #[.string s] w (UnpO w (Offer.zero, 15)) := by
  have hTs : T.size ≤ 100000 := by rw [← hT]; simp; omega
  have HS := hid (fun W => ref_Seal T (by omega) W)
  rw [hU] at HS
  clear hU hTs
  have hq := str_ne hne
  go_enter Try.func33, Try.ntmps33
  go_wp2_with fail
  refine (HS.out _).mono ?_
  rintro e w1 ⟨rfl, hb1⟩
  have hres := (Keeps.of_below (S := fun _ => False) hb1 (fun k h1 h2 => by omega)).heap (blk_new w (.cells zeroO 63)) id
  have hW : Below w.heap.size w w1 := ((Below.refl _ w).alloc (Nat.le_refl _) _).trans (hb1.mono (by simp))
  have hl1 : w.heap.size < w1.heap.size := by have := hb1.size; simp at this; omega
  unfold zeroO at hres
  clear hb1
  have f0 := blk_free hres 0
  have e0 := blk_cell hres (k := 0) rfl
  have f1 := blk_free hres 1
  have e1 := blk_cell hres (k := 1) rfl
  have f2 := blk_free hres 2
  have e2 := blk_cell hres (k := 2) rfl
  have f3 := blk_free hres 3
  have e3 := blk_cell hres (k := 3) rfl
  have f4 := blk_free hres 4
  have e4 := blk_cell hres (k := 4) rfl
  have f5 := blk_free hres 5
  have e5 := blk_cell hres (k := 5) rfl
  go_wp2_with fail
  have hf := blk_store6 hres (.int .i64 0) (.int .u32 0) (.int .i64 0) (.int .i64 0) (.int .i64 0) (.int .i64 0)
  have d0 := blk_cell hf (k := 0) rfl
  have d1 := blk_cell hf (k := 1) rfl
  have d2 := blk_cell hf (k := 2) rfl
  have d3 := blk_cell hf (k := 3) rfl
  have d4 := blk_cell hf (k := 4) rfl
  have d5 := blk_cell hf (k := 5) rfl
  have hbl := below_store6 hW (Nat.le_refl _) (.int .i64 0) (.int .u32 0) (.int .i64 0) (.int .i64 0) (.int .i64 0) (.int .i64 0)
  refine bodyPost_ret (v := .tuple #[.agg #[.int .i64 0, .int .u32 0, .int .i64 0, .int .i64 0, .int .i64 0, .int .i64 0], .int .i64 15]) (by simp [results, Try.results33, go_sem, d0, d1, d2, d3, d4, d5]) rfl ?_
  exact ⟨rfl, hbl⟩
theorem ref_unp_form (s T : ByteArray) (hs : s.size ≤ 100000) (h4 : 4 ≤ s.size) (hT : s.extract 0 (s.size - 4) = T) (U : ByteArray) (hU : (⟨(sealed T.data.toList).toArray⟩ : ByteArray) = U) (hue : U = s) (ht : T.data.toList.take 1 ≠ [79]) :
    Calls Try.prog 33 #[.string s] w (UnpO w (Offer.zero, 4)) := by
  have hTs : T.size ≤ 100000 := by rw [← hT]; simp; omega
  have HS := hid (fun W => ref_Seal T (by omega) W)
  rw [hU, hue] at HS
  clear hU hue
  rcases Nat.eq_zero_or_pos T.size with h0 | h0
  · have hq : ((T.size : Int) == 0) = true := by simp [h0]
    clear ht h0
    go_enter Try.func33, Try.ntmps33
    go_wp2_with fail
    refine (HS.out _).mono ?_
    rintro e w1 ⟨rfl, hb1⟩
    have hres := (Keeps.of_below (S := fun _ => False) hb1 (fun k h1 h2 => by omega)).heap (blk_new w (.cells zeroO 63)) id
    have hW : Below w.heap.size w w1 := ((Below.refl _ w).alloc (Nat.le_refl _) _).trans (hb1.mono (by simp))
    have hl1 : w.heap.size < w1.heap.size := by have := hb1.size; simp at this; omega
    unfold zeroO at hres
    clear hb1
    have f0 := blk_free hres 0
    have e0 := blk_cell hres (k := 0) rfl
    have f1 := blk_free hres 1
    have e1 := blk_cell hres (k := 1) rfl
    have f2 := blk_free hres 2
    have e2 := blk_cell hres (k := 2) rfl
    have f3 := blk_free hres 3
    have e3 := blk_cell hres (k := 3) rfl
    have f4 := blk_free hres 4
    have e4 := blk_cell hres (k := 4) rfl
    have f5 := blk_free hres 5
    have e5 := blk_cell hres (k := 5) rfl
    go_wp2_with fail
    have hf := blk_store6 hres (.int .i64 0) (.int .u32 0) (.int .i64 0) (.int .i64 0) (.int .i64 0) (.int .i64 0)
    have d0 := blk_cell hf (k := 0) rfl
    have d1 := blk_cell hf (k := 1) rfl
    have d2 := blk_cell hf (k := 2) rfl
    have d3 := blk_cell hf (k := 3) rfl
    have d4 := blk_cell hf (k := 4) rfl
    have d5 := blk_cell hf (k := 5) rfl
    have hbl := below_store6 hW (Nat.le_refl _) (.int .i64 0) (.int .u32 0) (.int .i64 0) (.int .i64 0) (.int .i64 0) (.int .i64 0)
    refine bodyPost_ret (v := .tuple #[.agg #[.int .i64 0, .int .u32 0, .int .i64 0, .int .i64 0, .int .i64 0, .int .i64 0], .int .i64 4]) (by simp [results, Try.results33, go_sem, d0, d1, d2, d3, d4, d5]) rfl ?_
    exact ⟨rfl, hbl⟩
  · have hq := pos_ne _ h0
    have hq2 : (((T[0]'h0).toNat : Int) != 79) = true := by
      simp only [bne_iff_ne, ne_eq]
      intro h
      refine ht ?_
      have e : T.data.toList.take 1 = [T[0]'h0] := by rw [take_snoc T 0 h0]; rfl
      rw [e]
      congr 1
      exact UInt8.toNat_inj.1 (by show _ = 79; omega)
    clear ht
    go_enter Try.func33, Try.ntmps33
    go_wp2_with fail
    refine (HS.out _).mono ?_
    rintro e w1 ⟨rfl, hb1⟩
    have hres := (Keeps.of_below (S := fun _ => False) hb1 (fun k h1 h2 => by omega)).heap (blk_new w (.cells zeroO 63)) id
    have hW : Below w.heap.size w w1 := ((Below.refl _ w).alloc (Nat.le_refl _) _).trans (hb1.mono (by simp))
    have hl1 : w.heap.size < w1.heap.size := by have := hb1.size; simp at this; omega
    unfold zeroO at hres
    clear hb1
    have f0 := blk_free hres 0
    have e0 := blk_cell hres (k := 0) rfl
    have f1 := blk_free hres 1
    have e1 := blk_cell hres (k := 1) rfl
    have f2 := blk_free hres 2
    have e2 := blk_cell hres (k := 2) rfl
    have f3 := blk_free hres 3
    have e3 := blk_cell hres (k := 3) rfl
    have f4 := blk_free hres 4
    have e4 := blk_cell hres (k := 4) rfl
    have f5 := blk_free hres 5
    have e5 := blk_cell hres (k := 5) rfl
    go_wp2_with fail
    have hf := blk_store6 hres (.int .i64 0) (.int .u32 0) (.int .i64 0) (.int .i64 0) (.int .i64 0) (.int .i64 0)
    have d0 := blk_cell hf (k := 0) rfl
    have d1 := blk_cell hf (k := 1) rfl
    have d2 := blk_cell hf (k := 2) rfl
    have d3 := blk_cell hf (k := 3) rfl
    have d4 := blk_cell hf (k := 4) rfl
    have d5 := blk_cell hf (k := 5) rfl
    have hbl := below_store6 hW (Nat.le_refl _) (.int .i64 0) (.int .u32 0) (.int .i64 0) (.int .i64 0) (.int .i64 0) (.int .i64 0)
    refine bodyPost_ret (v := .tuple #[.agg #[.int .i64 0, .int .u32 0, .int .i64 0, .int .i64 0, .int .i64 0, .int .i64 0], .int .i64 4]) (by simp [results, Try.results33, go_sem, d0, d1, d2, d3, d4, d5]) rfl ?_
    exact ⟨rfl, hbl⟩
theorem six_of {vs : List Nat} (h : vs.length = 6) : ∃ a b c d e f, vs = [a, b, c, d, e, f] := by
  match vs, h with
  | [a, b, c, d, e, f], _ => exact ⟨a, b, c, d, e, f, rfl⟩
theorem beh_told {r : List UInt8} {vs : List Nat} {R : ByteArray} (h : BehR r vs 6 R) : r = numsB vs ++ R.data.toList := by
  unfold BehR at h
  rw [show 6 - 6 = 0 from rfl, behind_end] at h
  exact (readNs_told 6 r vs _ h.symm).1
set_option maxHeartbeats 1600000 in
theorem ref_unp_main (s T : ByteArray) (hs : s.size ≤ 100000) (h4 : 4 ≤ s.size) (hT : s.extract 0 (s.size - 4) = T) (U : ByteArray) (hU : (⟨(sealed T.data.toList).toArray⟩ : ByteArray) = U) (hue : U = s) (r : List UInt8) (ht : T.data.toList = 79 :: r) :
    Calls Try.prog 33 #[.string s] w (UnpO w (readQ r)) := by
  obtain ⟨i0, hi, hz0, hz1, hz2⟩ := info_parts info_u64
  have Hi := hid hi
  have hTs : T.size ≤ 100000 := by rw [← hT]; simp; omega
  have HS := hid (fun W => ref_Seal T (by omega) W)
  have hsd : s.data.toList = sealed (79 :: r) := by rw [← hue, ← hU, ht]
  rw [hU, hue] at HS
  have h0 : 0 < T.size := by have h1 : T.data.toList.length = T.size := by simp
                             rw [ht] at h1; simp at h1; omega
  have hq := pos_ne _ h0
  have hq2 : (((T[0]'h0).toNat : Int) != 79) = false := by
    have e : T.data.toList.take 1 = [T[0]'h0] := by rw [take_snoc T 0 h0]; rfl
    rw [ht] at e
    have e2 : (79 : UInt8) = T[0]'h0 := by simpa using e
    rw [← e2]
    rfl
  have hR : (T.extract 1 T.size).data.toList = r := by rw [extract_end, ht]; rfl
  have hB0 : BehR r [] 0 (T.extract 1 T.size) := by unfold BehR; rw [hR, behind_nil]
  have HB0 := hid hB0
  have HRs := hid (show (T.extract 1 T.size).size ≤ 100000 by simp; omega)
  have Hsd := hid hsd
  clear hU hue hR hB0 ht hi hsd
  go_enter Try.func33, Try.ntmps33
  go_wp2_with fail
  refine (HS.out _).mono ?_
  rintro e w1 ⟨rfl, hb1⟩
  have hres := (Keeps.of_below (S := fun _ => False) hb1 (fun k h1 h2 => by omega)).heap (blk_new w (.cells zeroO 63)) id
  have hW : Below w.heap.size w w1 := ((Below.refl _ w).alloc (Nat.le_refl _) _).trans (hb1.mono (by simp))
  have hl1 : w.heap.size < w1.heap.size := by have := hb1.size; simp at this; omega
  unfold zeroO at hres
  clear hb1
  go_wp2_with fail
  have hl2 : w.heap.size < w1.heap.size := hl1
  have HT := hid hT
  have Hres := hid hres
  clear hres hT
  go_loopw [4, 5, 6] (fun rv lv iv wr => ∃ (k : Nat) (vs : List Nat) (R : ByteArray), k ≤ 6 ∧ iv = .int .i64 k ∧ rv = .string R ∧ R.size ≤ 100000 ∧ Hid (vs.length = k) ∧ Hid (∀ v ∈ vs, v ≤ 4294967295) ∧ Hid (BehR r vs k R) ∧ wr.ownsRow w1.heap.size 93 1 lv k (u64L vs) ∧ Keeps (fun _ => False) w1 wr) (fun _ _ iv _ => 6 - (intOf iv).toNat)
  case atStart => exact ⟨0, [], _, by omega, rfl, rfl, HRs.out, rfl, (fun v hv => by cases hv), HB0.out, own_empty (Nat.le_refl _) (blk_new _ _), (Keeps.refl _ w1).alloc _⟩
  case round =>
    obtain ⟨k, vs, R, hk, rfl, rfl, hRs, hvl, hvin, hbeh, hown, hkr⟩ := hrel
    have hres := hkr.heap Hres.out id
    have hW := hW.trans (hkr.below hW.size (fun k h1 h2 => h2))
    by_cases hlt : k < 6
    · have hrd := ref_ReadNumber R (by unfold maxLen; omega) wr
      obtain ⟨h1, h2, h3⟩ := rd_in R.data.toList
      have hno := hid (beh_no hbeh.out hlt)
      have hyes := hid (beh_yes hbeh.out hlt)
      have hll : R.data.toList.length = R.size := by simp
      rw [hll] at h2
      clear hll hbeh
      generalize rdNum R.data.toList = q at *
      obtain ⟨x, n, er⟩ := q
      simp only at *
      have hrd2 := hid hrd
      unfold two64 at h1
      clear hrd
      by_cases he : er = 0
      · subst he
        by_cases hx : x ≤ 4294967295
        · have hB := hid (hyes.out ⟨rfl, hx⟩ (R.extract n R.size) (by rw [extract_end]))
          have hsz2 : (R.extract n R.size).size ≤ 100000 := by simp; omega
          have Hx := hid hx
          have hxi : (x : Int) ≤ 4294967295 := by omega
          have HvL := hid (show u64L (vs ++ [x]) = u64L vs ++ [.int .u64 (x : Nat)] by simp [u64L])
          clear hno hyes hres
          go_wp2_with fail
          refine hrd2.out.mono ?_
          rintro e w5 ⟨rfl, rfl⟩
          go_wp2_with (at_builtin; refine wpList_append_vals _ rfl (.tmp 54) (.tmp 56) _ rfl w1.heap.size 93 i0 _ 1 8 Try.underlying90 Hi.out hz0 hz1 hz2 rfl (by omega) _ k (u64L vs) rfl (own_keeps hown ((Keeps.refl (fun _ => False) _).alloc _) (fun _ _ => id)) (some ⟨_, 0, none⟩) 1 1 [.int .u64 (x : Nat)] rfl (vals_one _ _ _) (by simp [Value.oneCell']) (by simp only [maxLen]; omega) (by omega) (by have := hkr.size; simp; omega) ?_)
          intro v6 w6 hown6 hg6 _
          have hk6 : Keeps (fun _ => False) w1 w6 := (hkr.alloc _).grown hg6 (fun k hk => .inr ((hown.lt k hk).1))
          go_wp2_with fail
          go_roundw
          case rel => exact ⟨k + 1, vs ++ [x], R.extract n R.size, by omega, by go_num, rfl, hsz2, by rw [List.length_append, hvl.out]; rfl, (fun v hv => by
            rcases List.mem_append.1 hv with h | h
            · exact hvin.out v h
            · simp at h; subst h; exact Hx.out), hB, by rw [HvL.out]; exact hown6, hk6⟩
          case measure => simp [intOf]; omega
        · have hQ := hid (hno.out (fun h => hx h.2))
          have hxi : (4294967295 : Int) < x := by omega
          have f0 := blk_free hres 0
          have e0 := blk_cell hres (k := 0) rfl
          have f1 := blk_free hres 1
          have e1 := blk_cell hres (k := 1) rfl
          have f2 := blk_free hres 2
          have e2 := blk_cell hres (k := 2) rfl
          have f3 := blk_free hres 3
          have e3 := blk_cell hres (k := 3) rfl
          have f4 := blk_free hres 4
          have e4 := blk_cell hres (k := 4) rfl
          have f5 := blk_free hres 5
          have e5 := blk_cell hres (k := 5) rfl
          clear hno hyes
          go_wp2_with fail
          refine hrd2.out.mono ?_
          rintro e w5 ⟨rfl, rfl⟩
          go_wp2_with fail
          have hf := blk_store6 hres (.int .i64 0) (.int .u32 0) (.int .i64 0) (.int .i64 0) (.int .i64 0) (.int .i64 0)
          have d0 := blk_cell hf (k := 0) rfl
          have d1 := blk_cell hf (k := 1) rfl
          have d2 := blk_cell hf (k := 2) rfl
          have d3 := blk_cell hf (k := 3) rfl
          have d4 := blk_cell hf (k := 4) rfl
          have d5 := blk_cell hf (k := 5) rfl
          have hbl := below_store6 hW (Nat.le_refl _) (.int .i64 0) (.int .u32 0) (.int .i64 0) (.int .i64 0) (.int .i64 0) (.int .i64 0)
          refine bodyPost_ret (v := .tuple #[.agg #[.int .i64 0, .int .u32 0, .int .i64 0, .int .i64 0, .int .i64 0, .int .i64 0], .int .i64 4]) (by simp [results, Try.results33, go_sem, d0, d1, d2, d3, d4, d5]) rfl ?_
          exact ⟨by rw [hQ.out]; rfl, hbl⟩
      · have hQ := hid (hno.out (fun h => he h.1))
        have hq0 : (er != 0) = true := by simp [he]
        have f0 := blk_free hres 0
        have e0 := blk_cell hres (k := 0) rfl
        have f1 := blk_free hres 1
        have e1 := blk_cell hres (k := 1) rfl
        have f2 := blk_free hres 2
        have e2 := blk_cell hres (k := 2) rfl
        have f3 := blk_free hres 3
        have e3 := blk_cell hres (k := 3) rfl
        have f4 := blk_free hres 4
        have e4 := blk_cell hres (k := 4) rfl
        have f5 := blk_free hres 5
        have e5 := blk_cell hres (k := 5) rfl
        clear hno hyes he
        go_wp2_with fail
        refine hrd2.out.mono ?_
        rintro e w5 ⟨rfl, rfl⟩
        go_wp2_with fail
        have hf := blk_store6 hres (.int .i64 0) (.int .u32 0) (.int .i64 0) (.int .i64 0) (.int .i64 0) (.int .i64 0)
        have d0 := blk_cell hf (k := 0) rfl
        have d1 := blk_cell hf (k := 1) rfl
        have d2 := blk_cell hf (k := 2) rfl
        have d3 := blk_cell hf (k := 3) rfl
        have d4 := blk_cell hf (k := 4) rfl
        have d5 := blk_cell hf (k := 5) rfl
        have hbl := below_store6 hW (Nat.le_refl _) (.int .i64 0) (.int .u32 0) (.int .i64 0) (.int .i64 0) (.int .i64 0) (.int .i64 0)
        refine bodyPost_ret (v := .tuple #[.agg #[.int .i64 0, .int .u32 0, .int .i64 0, .int .i64 0, .int .i64 0, .int .i64 0], .int .i64 4]) (by simp [results, Try.results33, go_sem, d0, d1, d2, d3, d4, d5]) rfl ?_
        exact ⟨by rw [hQ.out]; rfl, hbl⟩
    · obtain rfl : k = 6 := by omega
      have hE := beh_end hbeh.out
      have htold := beh_told hbeh.out
      obtain ⟨a, b, c, d, f, g, rfl⟩ := six_of hvl.out
      obtain ⟨A, cap, rfl, hvals, _⟩ := vals_of_own hown
      obtain ⟨bb, oo, rfl, hcc⟩ := hvals.at' (by omega)
      have z0 : wr.cell? ⟨bb, oo, none⟩ = some (.int .u64 (a : Nat)) := hcc 0 _ rfl
      have z1 : wr.cell? ⟨bb, oo + 1, none⟩ = some (.int .u64 (b : Nat)) := hcc 1 _ rfl
      have z2 : wr.cell? ⟨bb, oo + 2, none⟩ = some (.int .u64 (c : Nat)) := hcc 2 _ rfl
      have z3 : wr.cell? ⟨bb, oo + 3, none⟩ = some (.int .u64 (d : Nat)) := hcc 3 _ rfl
      have z4 : wr.cell? ⟨bb, oo + 4, none⟩ = some (.int .u64 (f : Nat)) := hcc 4 _ rfl
      have z5 : wr.cell? ⟨bb, oo + 5, none⟩ = some (.int .u64 (g : Nat)) := hcc 5 _ rfl
      have ina := hvin.out a (by simp)
      have inb := hvin.out b (by simp)
      have inc := hvin.out c (by simp)
      have ind := hvin.out d (by simp)
      have inf := hvin.out f (by simp)
      have ing := hvin.out g (by simp)
      have u1 : IntKind.i64.wrap (a : Int) = (a : Int) := IntWalk.i64_in _ (by omega)
      have u2 : IntKind.u32.wrap (b : Int) = (b : Int) := by rw [wrap_u32]; omega
      have u3 : IntKind.i64.wrap (c : Int) = (c : Int) := IntWalk.i64_in _ (by omega)
      have u4 : IntKind.i64.wrap (d : Int) = (d : Int) := IntWalk.i64_in _ (by omega)
      have u5 : IntKind.i64.wrap (f : Int) = (f : Int) := IntWalk.i64_in _ (by omega)
      have u6 : IntKind.i64.wrap (g : Int) = (g : Int) := IntWalk.i64_in _ (by omega)
      have y0 := keptS_cell (S := fun _ => False) (w := wr.drew) z0 id
      have y1 := keptS_cell (S := fun _ => False) (w := wr.drew) z1 id
      have y2 := keptS_cell (S := fun _ => False) (w := wr.drew) z2 id
      have y3 := keptS_cell (S := fun _ => False) (w := wr.drew) z3 id
      have y4 := keptS_cell (S := fun _ => False) (w := wr.drew) z4 id
      have y5 := keptS_cell (S := fun _ => False) (w := wr.drew) z5 id
      have Hres2 := hid hres
      have HE := hid hE
      have Ho := hid (show ofNums [a, b, c, d, f, g] = ⟨a, b, c, d, f, g⟩ from rfl)
      clear hcc hvals hown hvl hvin hbeh hres hE
      go_wp2_with fail
      refine stages_start (by kernel_rfl) 27 rfl ?_
      refine stagek (fun _ => False) [0, 1, 2, 3, 4, 5, 6, 7, 8, 9, 10, 11, 12, 13, 14, 15, 16, 17, 18, 19, 20, 21, 22, 23, 24] [25, 26] 0 rfl #[true, true, true, true, true, true, true, true, true, true, true, true, true, true, true, true, true, true, true, true, true, true, true, true, true, true, true] (by kernel_rfl) (by kernel_rfl) (fun _ _ _ d _ h => by cases d <;> exact h) ?_
      simp only [opsAt, List.map_cons, List.map_nil, List.getElem?_toArray, List.getElem?_cons_zero, List.getElem?_cons_succ, Option.getD_some]
      repeat (go_big_quiet_step (fail))
      refine wpQuiet_nil ?_
      refine links_cons (by first | rfl | simp [go_sem]) (fun K hK => ?_)
      go_simp
      refine hK _ _ (keptS (keeps_drew ((Keeps.refl _ wr).alloc _).drew)) ?_
      clear hK K
      try refine links_nil ?_
      refine links_cons (by first | rfl | simp [go_sem]) (fun K hK => ?_)
      go_simp
      refine hK _ _ (keptS (keeps_drew ((Keeps.refl _ wr).alloc _).drew)) ?_
      clear hK K
      try refine links_nil ?_
      refine stages_end (by kernel_rfl) ?_
      clear y0 y1 y2 y3 y4 y5 z0 z1 z2 z3 z4 z5 u1 u2 u3 u4 u5 u6
      obtain ⟨w2, hw2⟩ : ∃ w2, (wr.alloc (.cells #[.int .i64 (a : Nat), .int .u32 (b : Nat), .int .i64 (c : Nat), .int .i64 (d : Nat), .int .i64 (f : Nat), .int .i64 (g : Nat)] 63)).drew = w2 := ⟨_, rfl⟩
      have hk2 : Keeps (fun _ => False) wr w2 := by rw [← hw2]; exact ((Keeps.refl _ wr).alloc _).drew
      have hB2 : w2.heap[wr.heap.size]? = some (.cells #[.int .i64 (a : Nat), .int .u32 (b : Nat), .int .i64 (c : Nat), .int .i64 (d : Nat), .int .i64 (f : Nat), .int .i64 (g : Nat)] 63 (0, 0)) := by rw [← hw2]; exact blk_new wr _
      have hres2 := hk2.heap Hres2.out id
      have hW2 := hW.trans (hk2.below hW.size (fun k h1 h2 => h2))
      have hne : ¬ w.heap.size = wr.heap.size := by have := blk_lt Hres2.out; omega
      have hlw : wr.heap.size < w2.heap.size := blk_lt hB2
      have hlv : w.heap.size < w2.heap.size := blk_lt hres2
      rw [hw2]
      have hRt := fun W => ref_RightO ⟨a, b, c, d, f, g⟩ W
      clear hw2 hk2 Hres2 hW
      have hW := hW2
      clear hW2
      by_cases hro : RightO ⟨a, b, c, d, f, g⟩
      · rw [decide_eq_true hro] at hRt
        have HRt := hid hRt
        have hPt := fun W => ref_Pack_nat a b c d f g hro (by omega) ⟨a, b, c, d, f, g⟩ rfl W
        obtain ⟨V, hV⟩ : ∃ V : ByteArray, (⟨(packO ⟨a, b, c, d, f, g⟩).toArray⟩ : ByteArray) = V := ⟨_, rfl⟩
        rw [hV] at hPt
        have HPt := hid hPt
        have hpo : packO ⟨a, b, c, d, f, g⟩ = sealed (79 :: numsB [a, b, c, d, f, g]) := rfl
        have g0 := blk_cell hB2 (k := 0) rfl
        have g1 := blk_cell hB2 (k := 1) rfl
        have g2 := blk_cell hB2 (k := 2) rfl
        have g3 := blk_cell hB2 (k := 3) rfl
        have g4 := blk_cell hB2 (k := 4) rfl
        have g5 := blk_cell hB2 (k := 5) rfl
        by_cases hR0 : R.data.toList = []
        · have hVs : V = s := by
            rw [← hV, hpo]
            rw [hR0, List.append_nil] at htold
            rw [← htold, ← Hsd.out]
          rw [hVs] at HPt
          have hQ := HE.out
          rw [if_pos ⟨hR0, hro⟩] at hQ
          have HQ := hid hQ
          clear hRt hPt hV hpo hR0 hVs hQ HE hro htold
          go_wp2_with fail
          refine (HRt.out _).mono ?_
          rintro e w5 ⟨rfl, rfl⟩
          go_wp2_with fail
          refine (HPt.out _).mono ?_
          rintro e w9 ⟨rfl, hb9⟩
          have hk9 : Keeps (fun _ => False) _ w9 := Keeps.of_below (S := fun _ => False) hb9 (fun k h1 h2 => by omega)
          have hB := hk9.heap (blk_alloc hB2 _) id
          have hres := hk9.heap (blk_alloc hres2 _) id
          have hW9 := (hW.alloc hW.size (.cells #[.int .i64 (a : Nat), .int .u32 (b : Nat), .int .i64 (c : Nat), .int .i64 (d : Nat), .int .i64 (f : Nat), .int .i64 (g : Nat)] 63)).trans (hk9.below (hW.alloc hW.size (.cells #[.int .i64 (a : Nat), .int .u32 (b : Nat), .int .i64 (c : Nat), .int .i64 (d : Nat), .int .i64 (f : Nat), .int .i64 (g : Nat)] 63)).size (fun k h1 h2 => h2))
          clear hb9 hk9 hB2 hres2 hW g0 g1 g2 g3 g4 g5
          have hW := hW9
          clear hW9
          have g0 := blk_cell hB (k := 0) rfl
          have g1 := blk_cell hB (k := 1) rfl
          have g2 := blk_cell hB (k := 2) rfl
          have g3 := blk_cell hB (k := 3) rfl
          have g4 := blk_cell hB (k := 4) rfl
          have g5 := blk_cell hB (k := 5) rfl
          have f0 := blk_free hres 0
          have e0 := blk_cell hres (k := 0) rfl
          have f1 := blk_free hres 1
          have e1 := blk_cell hres (k := 1) rfl
          have f2 := blk_free hres 2
          have e2 := blk_cell hres (k := 2) rfl
          have f3 := blk_free hres 3
          have e3 := blk_cell hres (k := 3) rfl
          have f4 := blk_free hres 4
          have e4 := blk_cell hres (k := 4) rfl
          have f5 := blk_free hres 5
          have e5 := blk_cell hres (k := 5) rfl
          go_wp2_with fail
          have hf := blk_store6 hres (.int .i64 (a : Nat)) (.int .u32 (b : Nat)) (.int .i64 (c : Nat)) (.int .i64 (d : Nat)) (.int .i64 (f : Nat)) (.int .i64 (g : Nat))
          have d0 := blk_cell hf (k := 0) rfl
          have d1 := blk_cell hf (k := 1) rfl
          have d2 := blk_cell hf (k := 2) rfl
          have d3 := blk_cell hf (k := 3) rfl
          have d4 := blk_cell hf (k := 4) rfl
          have d5 := blk_cell hf (k := 5) rfl
          have hbl := below_store6 hW (Nat.le_refl _) (.int .i64 (a : Nat)) (.int .u32 (b : Nat)) (.int .i64 (c : Nat)) (.int .i64 (d : Nat)) (.int .i64 (f : Nat)) (.int .i64 (g : Nat))
          refine bodyPost_ret (v := .tuple #[.agg #[.int .i64 (a : Nat), .int .u32 (b : Nat), .int .i64 (c : Nat), .int .i64 (d : Nat), .int .i64 (f : Nat), .int .i64 (g : Nat)], .int .i64 0]) (by simp [results, Try.results33, go_sem, d0, d1, d2, d3, d4, d5]) rfl ?_
          exact ⟨by rw [HQ.out]; rfl, hbl⟩
        · have hVs : V ≠ s := by
            intro h
            rw [← hV, hpo] at h
            have h2 : sealed (79 :: numsB [a, b, c, d, f, g]) = s.data.toList := by rw [← h]
            rw [Hsd.out] at h2
            have h3 := sealed_inj' h2
            simp only [List.cons.injEq, true_and] at h3
            rw [htold] at h3
            have h4 := congrArg List.length h3
            simp only [List.length_append] at h4
            exact hR0 (List.eq_nil_of_length_eq_zero (by omega))
          have hq9 := str_ne hVs
          have hQ := HE.out
          rw [if_neg (fun h => hR0 h.1)] at hQ
          have HQ := hid hQ
          clear hRt hPt hV hpo hR0 hVs hQ HE hro htold
          go_wp2_with fail
          refine (HRt.out _).mono ?_
          rintro e w5 ⟨rfl, rfl⟩
          go_wp2_with fail
          refine (HPt.out _).mono ?_
          rintro e w9 ⟨rfl, hb9⟩
          have hk9 : Keeps (fun _ => False) _ w9 := Keeps.of_below (S := fun _ => False) hb9 (fun k h1 h2 => by omega)
          have hres := hk9.heap (blk_alloc hres2 _) id
          have hW9 := (hW.alloc hW.size (.cells #[.int .i64 (a : Nat), .int .u32 (b : Nat), .int .i64 (c : Nat), .int .i64 (d : Nat), .int .i64 (f : Nat), .int .i64 (g : Nat)] 63)).trans (hk9.below (hW.alloc hW.size (.cells #[.int .i64 (a : Nat), .int .u32 (b : Nat), .int .i64 (c : Nat), .int .i64 (d : Nat), .int .i64 (f : Nat), .int .i64 (g : Nat)] 63)).size (fun k h1 h2 => h2))
          clear hb9 hk9 hB2 hres2 hW g0 g1 g2 g3 g4 g5
          have hW := hW9
          clear hW9
          have f0 := blk_free hres 0
          have e0 := blk_cell hres (k := 0) rfl
          have f1 := blk_free hres 1
          have e1 := blk_cell hres (k := 1) rfl
          have f2 := blk_free hres 2
          have e2 := blk_cell hres (k := 2) rfl
          have f3 := blk_free hres 3
          have e3 := blk_cell hres (k := 3) rfl
          have f4 := blk_free hres 4
          have e4 := blk_cell hres (k := 4) rfl
          have f5 := blk_free hres 5
          have e5 := blk_cell hres (k := 5) rfl
          go_wp2_with fail
          have hf := blk_store6 hres (.int .i64 0) (.int .u32 0) (.int .i64 0) (.int .i64 0) (.int .i64 0) (.int .i64 0)
          have d0 := blk_cell hf (k := 0) rfl
          have d1 := blk_cell hf (k := 1) rfl
          have d2 := blk_cell hf (k := 2) rfl
          have d3 := blk_cell hf (k := 3) rfl
          have d4 := blk_cell hf (k := 4) rfl
          have d5 := blk_cell hf (k := 5) rfl
          have hbl := below_store6 hW (Nat.le_refl _) (.int .i64 0) (.int .u32 0) (.int .i64 0) (.int .i64 0) (.int .i64 0) (.int .i64 0)
          refine bodyPost_ret (v := .tuple #[.agg #[.int .i64 0, .int .u32 0, .int .i64 0, .int .i64 0, .int .i64 0, .int .i64 0], .int .i64 4]) (by simp [results, Try.results33, go_sem, d0, d1, d2, d3, d4, d5]) rfl ?_
          exact ⟨by rw [HQ.out]; rfl, hbl⟩
      · rw [decide_eq_false hro] at hRt
        have HRt := hid hRt
        have hQ := HE.out
        rw [if_neg (fun h => hro h.2)] at hQ
        have HQ := hid hQ
        have g0 := blk_cell hB2 (k := 0) rfl
        have g1 := blk_cell hB2 (k := 1) rfl
        have g2 := blk_cell hB2 (k := 2) rfl
        have g3 := blk_cell hB2 (k := 3) rfl
        have g4 := blk_cell hB2 (k := 4) rfl
        have g5 := blk_cell hB2 (k := 5) rfl
        have hres := hres2
        clear hRt hQ HE hro htold hres2
        have f0 := blk_free hres 0
        have e0 := blk_cell hres (k := 0) rfl
        have f1 := blk_free hres 1
        have e1 := blk_cell hres (k := 1) rfl
        have f2 := blk_free hres 2
        have e2 := blk_cell hres (k := 2) rfl
        have f3 := blk_free hres 3
        have e3 := blk_cell hres (k := 3) rfl
        have f4 := blk_free hres 4
        have e4 := blk_cell hres (k := 4) rfl
        have f5 := blk_free hres 5
        have e5 := blk_cell hres (k := 5) rfl
        go_wp2_with fail
        refine (HRt.out _).mono ?_
        rintro e w5 ⟨rfl, rfl⟩
        go_wp2_with fail
        have hf := blk_alloc (blk_store6 hres (.int .i64 0) (.int .u32 0) (.int .i64 0) (.int .i64 0) (.int .i64 0) (.int .i64 0)) (.cells #[.int .i64 (a : Nat), .int .u32 (b : Nat), .int .i64 (c : Nat), .int .i64 (d : Nat), .int .i64 (f : Nat), .int .i64 (g : Nat)] 63)
        have d0 := blk_cell hf (k := 0) rfl
        have d1 := blk_cell hf (k := 1) rfl
        have d2 := blk_cell hf (k := 2) rfl
        have d3 := blk_cell hf (k := 3) rfl
        have d4 := blk_cell hf (k := 4) rfl
        have d5 := blk_cell hf (k := 5) rfl
        have hbl := (below_store6 hW (Nat.le_refl _) (.int .i64 0) (.int .u32 0) (.int .i64 0) (.int .i64 0) (.int .i64 0) (.int .i64 0)).alloc (below_store6 hW (Nat.le_refl _) (.int .i64 0) (.int .u32 0) (.int .i64 0) (.int .i64 0) (.int .i64 0) (.int .i64 0)).size (.cells #[.int .i64 (a : Nat), .int .u32 (b : Nat), .int .i64 (c : Nat), .int .i64 (d : Nat), .int .i64 (f : Nat), .int .i64 (g : Nat)] 63)
        refine bodyPost_ret (v := .tuple #[.agg #[.int .i64 0, .int .u32 0, .int .i64 0, .int .i64 0, .int .i64 0, .int .i64 0], .int .i64 4]) (by simp [results, Try.results33, go_sem, d0, d1, d2, d3, d4, d5]) rfl ?_
        exact ⟨by rw [HQ.out]; rfl, hbl⟩
end Go.Proofs.Ytfepefohaadecaa
