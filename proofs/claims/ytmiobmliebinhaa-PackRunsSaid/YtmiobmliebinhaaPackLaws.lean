/- The first two statements of pack return true. -/
import Derived.Test.YtmiobmliebinhaaRun
namespace Go.Proofs.Ytmiobmliebinhaa
open Go.RowKit
theorem run_example : runBytes [5, 5, 5, 0] = [4, 5, 3, 0, 1] := by
  have e : runs [5, 5, 5, 0] = [(5, 3), (0, 1)] := by simp [runs, same]
  simp [runBytes, e, runsBytes, num_small]
theorem num_example : num 300 = [172, 2] := by
  rw [num_big 300 (by decide), num_small _ (by decide)]
  rfl
theorem awake06 (w : World) :
    Calls Try.prog 7 #[] w fun e w' => e = .returned (.bool true) ∧ Below w.heap.size w w' := by
  have hr := run_example
  have hn := num_example
  go_enter Try.func7, Try.ntmps7
  go_wp2_with fail
  have hB : IsBytes (w.alloc (.cells #[.int .u8 5, .int .u8 5, .int .u8 5, .int .u8 0] 5)) (some ⟨w.heap.size, 0, none⟩) 4 [5, 5, 5, 0] := by
    refine ⟨by simp, by unfold maxLen; omega, .inr ⟨w.heap.size, 0, rfl, fun i hi => ?_⟩⟩
    match i, hi with
    | 0, _ | 1, _ | 2, _ | 3, _ => go_simp; rfl
  refine (pack_Run _ _ 4 [5, 5, 5, 0] hB (by decide)).mono ?_
  rintro e w1 ⟨rfl, hb1⟩
  go_wp2_with fail
  refine (pack_Number 300 (by unfold two64; omega) _).mono ?_
  rintro e w2 ⟨rfl, hb2⟩
  go_wp2_with fail
  go_ret
  exact ⟨rfl, bnext (bnext ((Below.refl _ w).alloc (Nat.le_refl _) _) hb1) hb2⟩
theorem cat_data (l : List UInt8) (b : ByteArray) : (ByteArray.mk l.toArray ++ b).data.toList = l ++ b.data.toList := by simp [ByteArray.data_append]
theorem size_cat (l : List UInt8) (b : ByteArray) : (ByteArray.mk l.toArray ++ b).size = l.length + b.size := by
  rw [ByteArray.size_append]
  rfl
theorem law_PackNumbers (n m : Int) (b : ByteArray) (hn : 0 ≤ n ∧ n ≤ 18446744073709551615) (hm : -9223372036854775808 ≤ m ∧ m ≤ 9223372036854775807) (hb : b.size ≤ maxLen) (w : World) :
    Calls Try.prog 3 #[.int .u64 n, .int .i64 m, .string b] w fun e w' => e = .returned (.bool true) ∧ Below w.heap.size w w' := by
  obtain ⟨N, rfl⟩ := Int.eq_ofNat_of_zero_le hn.1
  have hN : N < two64 := by unfold two64; omega
  have hZ := zz_in m hm
  have hb' : b.size ≤ 9223372036854775807 := hb
  have Hm := hid hm
  clear hn hm
  by_cases h0 : 200 < b.size
  · go_enter Try.func3, Try.ntmps3
    go_wp2_with fail
    refine (awake06 _).mono ?_
    rintro e w1 ⟨rfl, hb1⟩
    go_wp2_with fail
    go_ret
    exact ⟨rfl, hb1⟩
  have r1 := rd_behind N hN b.data.toList
  have r2 := rd_behind (zz m) hZ b.data.toList
  have u := unzz_zz m
  have l1 := num_len10 N hN
  have l2 := num_len10 (zz m) hZ
  have r1' : rdNum (ByteArray.mk (num N).toArray ++ b).data.toList = (N, (num N).length, 0) := by rw [cat_data]; exact r1
  have r2' : rdNum (ByteArray.mk (num (zz m)).toArray ++ b).data.toList = (zz m, (num (zz m)).length, 0) := by rw [cat_data]; exact r2
  have q1 : (ByteArray.mk (num N).toArray ++ b).size ≤ maxLen := by rw [size_cat]; unfold maxLen; omega
  have q2 : (ByteArray.mk (num (zz m)).toArray ++ b).size ≤ maxLen := by rw [size_cat]; unfold maxLen; omega
  go_enter Try.func3, Try.ntmps3
  go_wp2_with fail
  refine (awake06 _).mono ?_
  rintro e w1 ⟨rfl, hb1⟩
  go_wp2_with fail
  refine (pack_Number N hN _).mono ?_
  rintro e w2 ⟨rfl, hb2⟩
  go_wp2_with fail
  refine (pack_Signed m Hm.out _).mono ?_
  rintro e w3 ⟨rfl, hb3⟩
  go_wp2_with fail
  refine (pack_ReadNumber _ q1 _).mono ?_
  rintro e w' ⟨rfl, rfl⟩
  go_wp2_with fail
  refine (pack_ReadSigned _ q2 _).mono ?_
  rintro e w' ⟨rfl, rfl⟩
  go_wp2_with fail
  refine (ref_Number N hN _).mono ?_
  rintro e w4 ⟨rfl, hb4⟩
  go_wp2_with fail
  refine (ref_Signed m Hm.out _).mono ?_
  rintro e w5 ⟨rfl, hb5⟩
  go_wp2_with fail
  go_ret
  exact ⟨rfl, bnext (bnext (bnext (bnext hb1 hb2) hb3) hb4) hb5⟩
theorem law_PackReads (s : ByteArray) (hs : s.size ≤ maxLen) (w : World) :
    Calls Try.prog 4 #[.string s] w fun e w' => e = .returned (.bool true) ∧ Below w.heap.size w w' := by
  have hs' : s.size ≤ 9223372036854775807 := hs
  by_cases h0 : 200 < s.size
  · go_enter Try.func4, Try.ntmps4
    go_wp2_with fail
    refine (awake06 _).mono ?_
    rintro e w1 ⟨rfl, hb1⟩
    go_wp2_with fail
    go_ret
    exact ⟨rfl, hb1⟩
  obtain ⟨i1, i2, i3⟩ := rd_in s.data.toList
  have hl : s.data.toList.length = s.size := by simp
  rw [hl] at i2
  by_cases he : (rdNum s.data.toList).2.2 = 0
  · obtain ⟨k1, k2, k3⟩ := rd_ok s.data.toList _ _ (Prod.ext rfl (Prod.ext rfl he))
    have u := zz_unzz (rdNum s.data.toList).1
    have ub := unzz_in _ i1
    have hx : (s.extract 0 (rdNum s.data.toList).2.1).toList = num (rdNum s.data.toList).1 := by rw [ByteArray.toList_eq, extract_data, k1]; simp
    have c0 := pack_ReadNumber s hs
    have c1 := ref_ReadNumber s hs
    have c2 := pack_ReadSigned s hs
    generalize rdNum s.data.toList = r at *
    obtain ⟨a, i, e⟩ := r
    simp only at *
    subst he
    have Ub := hid ub
    have I1 := hid i1
    have C0 := hid c0
    have C1 := hid c1
    have C2 := hid c2
    clear ub i1 k1 k2 k3 c0 c1 c2
    go_enter Try.func4, Try.ntmps4
    go_wp2_with fail
    refine (awake06 _).mono ?_
    rintro e w1 ⟨rfl, hb1⟩
    go_wp2_with fail
    refine (C0.out _).mono ?_
    rintro e w' ⟨rfl, rfl⟩
    go_wp2_with fail
    refine (C1.out _).mono ?_
    rintro e w' ⟨rfl, rfl⟩
    go_wp2_with fail
    refine (C2.out _).mono ?_
    rintro e w' ⟨rfl, rfl⟩
    go_wp2_with fail
    refine wp_region_after (by kernel_rfl) (by kernel_rfl) ?_
    repeat (go_big_quiet_step (first | (go_at_call 8; exact Calls.after_of (pack_Number a I1.out _)) | (go_at_call 9; exact Calls.after_of (pack_Signed _ Ub.out _))))
    refine wpQuiet_nil ?_
    intro _ hw2
    obtain ⟨x, hw3⟩ := hw2
    subst hw3
    go_wp2_with fail
    go_ret
    exact ⟨rfl, bnext hb1 x.below⟩
  · obtain ⟨k1, k2⟩ := rd_err s.data.toList 0 0 he
    have c0 := pack_ReadNumber s hs
    have c1 := ref_ReadNumber s hs
    have c2 := pack_ReadSigned s hs
    have k1' : (rdNum s.data.toList).1 = 0 := k1
    have k2' : (rdNum s.data.toList).2.1 = 0 := k2
    clear k1 k2
    generalize rdNum s.data.toList = r at *
    obtain ⟨a, i, e⟩ := r
    simp only at *
    subst k1' k2'
    have hz : unzz 0 = 0 := by decide
    have hne : (e == 0) = false := by simpa using he
    have C0 := hid c0
    have C1 := hid c1
    have C2 := hid c2
    clear i1 c0 c1 c2 he
    go_enter Try.func4, Try.ntmps4
    go_wp2_with fail
    refine (awake06 _).mono ?_
    rintro e w1 ⟨rfl, hb1⟩
    go_wp2_with fail
    refine (C0.out _).mono ?_
    rintro e w' ⟨rfl, rfl⟩
    go_wp2_with fail
    refine (C1.out _).mono ?_
    rintro e w' ⟨rfl, rfl⟩
    go_wp2_with fail
    refine (C2.out _).mono ?_
    rintro e w' ⟨rfl, rfl⟩
    go_wp2_with fail
    go_ret
    exact ⟨rfl, hb1⟩
end Go.Proofs.Ytmiobmliebinhaa
