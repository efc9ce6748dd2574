/- What pack.Signed, pack.ReadSigned, and the reference's Number and Signed return. -/
import Derived.Test.YtaobhbfhbmenfaaRead2
import Derived.Test.YtaobhbfhbmenfaaPackP
namespace Go.Proofs.Ytaobhbfhbmenfaa
open Go.RowKit
theorem xor_ones (a : Nat) (h : a < 18446744073709551616) : a ^^^ 18446744073709551615 = 18446744073709551615 - a := by
  have e : (BitVec.ofNat 64 a ^^^ BitVec.allOnes 64).toNat = (~~~ BitVec.ofNat 64 a).toNat := by rw [BitVec.xor_allOnes]
  rw [BitVec.toNat_xor, BitVec.toNat_not, BitVec.toNat_ofNat, BitVec.toNat_allOnes, Nat.mod_eq_of_lt (by omega)] at e
  simpa using e
theorem zig (n : Int) (h : -9223372036854775808 ≤ n ∧ n ≤ 9223372036854775807) : bits .xor .u64 (IntKind.u64.wrap (wrap64 (n * 2))) (IntKind.u64.wrap (n / 9223372036854775808)) = (zz n : Int) := by
  rw [wrap_u64, wrap_u64]
  by_cases h0 : 0 ≤ n
  · have e1 : wrap64 (n * 2) % 18446744073709551616 = 2 * n := by unfold wrap64; omega
    have e2 : n / 9223372036854775808 % 18446744073709551616 = 0 := by omega
    rw [e1, e2, u64_xor _ _ (by omega) (by omega) (by decide) (by decide)]
    unfold zz
    rw [if_pos h0]
    simp
  · have e1 : wrap64 (n * 2) % 18446744073709551616 = 2 * n + 18446744073709551616 := by unfold wrap64; omega
    have e2 : n / 9223372036854775808 % 18446744073709551616 = 18446744073709551615 := by omega
    rw [e1, e2, u64_xor _ _ (by omega) (by omega) (by decide) (by decide)]
    have e3 : (18446744073709551615 : Int).toNat = 18446744073709551615 := rfl
    rw [e3, xor_ones _ (by omega)]
    unfold zz
    rw [if_neg h0]
    omega
theorem ofInt_neg1 : BitVec.ofInt 64 (-1) = BitVec.allOnes 64 := by decide
theorem zag (a : Nat) (h : a < two64) : bits .xor .i64 (wrap64 ((a : Int) / 2)) (wrap64 (-wrap64 (bits .and .u64 (a : Int) 1))) = unzz a := by
  unfold two64 at h
  have e0 : bits .and .u64 (a : Int) 1 = ((a % 2 : Nat) : Int) := by
    have h1 := u64_and_nat a 1 h (by decide)
    rw [nat_mask1] at h1
    exact h1
  have e1 : wrap64 ((a : Int) / 2) = ((a / 2 : Nat) : Int) := by unfold wrap64; omega
  rw [e0, e1]
  unfold unzz
  have hx : (BitVec.ofInt 64 ((a / 2 : Nat) : Int)).toNat = a / 2 := ofInt_u64 _ (by omega)
  by_cases h2 : a % 2 = 0
  · rw [if_pos h2, h2]
    have e2 : wrap64 (-wrap64 ((0 : Nat) : Int)) = ((0 : Nat) : Int) := by unfold wrap64; omega
    rw [e2]
    show IntKind.i64.wrap ((BitVec.ofInt 64 ((a / 2 : Nat) : Int) ^^^ BitVec.ofInt 64 ((0 : Nat) : Int)).toNat : Int) = _
    rw [BitVec.toNat_xor, hx, ofInt_u64 0 (by decide), Nat.xor_zero, IntKind.wrap_i64]
    omega
  · rw [if_neg h2, show a % 2 = 1 by omega]
    have e2 : wrap64 (-wrap64 ((1 : Nat) : Int)) = -1 := by unfold wrap64; omega
    rw [e2]
    show IntKind.i64.wrap ((BitVec.ofInt 64 ((a / 2 : Nat) : Int) ^^^ BitVec.ofInt 64 (-1)).toNat : Int) = _
    rw [ofInt_neg1, BitVec.xor_allOnes, BitVec.toNat_not, hx, IntKind.wrap_i64]
    omega
theorem pack_Signed (n : Int) (h : -9223372036854775808 ≤ n ∧ n ≤ 9223372036854775807) (w : World) :
    Calls Try.prog 57 #[.int .i64 n] w fun e w' => e = .returned (.string ⟨(num (zz n)).toArray⟩) ∧ Below w.heap.size w w' := by
  have hz := zig n h
  have hz2 := zz_in n h
  clear h
  go_enter Try.func57, Try.ntmps57
  go_wp2_with fail
  refine (pack_Number _ hz2 _).mono ?_
  rintro e w1 ⟨rfl, hb⟩
  go_wp2_with fail
  go_ret
  exact ⟨rfl, hb⟩
theorem pack_ReadSigned (s : ByteArray) (hs : s.size ≤ maxLen) (w : World) :
    Calls Try.prog 49 #[.string s] w fun e w' => e = .returned (.tuple #[.int .i64 (unzz (rdNum s.data.toList).1), .int .i64 ((rdNum s.data.toList).2.1 : Int), .int .i64 (rdNum s.data.toList).2.2]) ∧ w = w' := by
  have hz := zag _ (rd_in s.data.toList).1
  go_enter Try.func49, Try.ntmps49
  go_wp2_with fail
  refine (pack_ReadNumber s hs _).mono ?_
  rintro e w' ⟨rfl, rfl⟩
  go_wp2_with fail
  go_ret3
  exact ⟨rfl, rfl⟩
theorem conv1 (w : World) (x : Int) :
    (convert 35 9 (.slice (some ⟨w.heap.size, 0, none⟩) 1 1)).run Try.prog (w.alloc (.cells #[.int .u8 x] 5)) = .ok (.string ⟨#[UInt8.ofNat x.toNat]⟩) (w.alloc (.cells #[.int .u8 x] 5)) := by
  refine run_convert_bytes_arg _ 35 5 Try.underlying35 Try.underlying5 w.heap.size 0 1 1 [x] rfl ?_ 9 Try.underlying9
  intro i hi
  match i, hi with
  | 0, _ => go_simp
theorem conv1_at (W : World) (B : Nat) (c : UInt8) (hc : W.cell? ⟨B, 0, none⟩ = some (.int .u8 c.toNat)) :
    (convert 35 9 (.slice (some ⟨B, 0, none⟩) 1 1)).run Try.prog W = .ok (.string ⟨#[c]⟩) W := by
  have := run_convert_bytes_back (P := Try.prog) W 35 9 5 ⟨B, 0, none⟩ 1 [c] Try.underlying35 Try.underlying5 Try.underlying9 (by
    intro j hj
    obtain rfl : j = 0 := by simpa using hj
    simpa [addr_add] using hc)
  simpa using this
theorem conv1_drew (w : World) (c : UInt8) :
    (convert 35 9 (.slice (some ⟨w.heap.size, 0, none⟩) 1 1)).run Try.prog (w.alloc (.cells #[.int .u8 c.toNat] 5)).drew = .ok (.string ⟨#[c]⟩) (w.alloc (.cells #[.int .u8 c.toNat] 5)).drew :=
  conv1_at _ _ c (by go_simp)
theorem conv1_byte (w : World) (c : UInt8) :
    (convert 35 9 (.slice (some ⟨w.heap.size, 0, none⟩) 1 1)).run Try.prog (w.alloc (.cells #[.int .u8 c.toNat] 5)) = .ok (.string ⟨#[c]⟩) (w.alloc (.cells #[.int .u8 c.toNat] 5)) :=
  conv1_at _ _ c (by go_simp)
theorem cat_one (l : List UInt8) (c : UInt8) : (ByteArray.mk l.toArray) ++ (ByteArray.mk #[c]) = ⟨(l ++ [c]).toArray⟩ := by
  apply ByteArray.ext
  simp [ByteArray.data_append]
theorem byte_add (m : Nat) : 128 + UInt8.ofNat (m % 128) = UInt8.ofNat (m % 128 + 128) := by
  apply UInt8.toNat_inj.1
  simp
  omega
set_option maxRecDepth 100000 in
theorem ref_Number (N : Nat) (hN : N < two64) (w : World) :
    Calls Try.prog 59 #[.int .u64 N] w fun e w' => e = .returned (.string ⟨(num N).toArray⟩) ∧ Below w.heap.size w w' := by
  have hlen := num_len10 N hN
  have hcv := conv1
  go_enter Try.func59, Try.ntmps59
  go_wp2_with fail
  go_loopw [0, 3] (fun n v wr => ∃ (m : Nat) (acc : List UInt8), n = .int .u64 m ∧ m ≤ N ∧ num N = acc ++ num m ∧ v = .string ⟨acc.toArray⟩ ∧ Below w.heap.size w wr)
    (fun n _ _ => (intOf n).toNat)
  case atStart => exact ⟨N, [], rfl, Nat.le_refl _, rfl, rfl, Below.refl _ _⟩
  case round =>
    obtain ⟨m, acc, rfl, hm, hacc, rfl, hb⟩ := hrel
    have hal : acc.length ≤ 10 := by have := congrArg List.length hacc; simp at this; omega
    have Hacc := hid hacc
    clear hacc
    by_cases hlt : m < 128
    · have hfin : num N = acc ++ [UInt8.ofNat m] := by rw [Hacc.out, num_small m hlt]
      have hcat := cat_one acc (UInt8.ofNat m)
      have Hfin := hid hfin
      clear hfin
      go_wp2_with fail
      go_ret
      refine ⟨?_, hb.alloc hb.size _⟩
      rw [Hfin.out]
      rfl
    · have hwr : IntKind.u64.wrap ((m : Int) / 128) = (m : Int) / 128 := IntWalk.u64_in _ (by unfold two64 at hN; omega)
      have hnx : num N = (acc ++ [UInt8.ofNat (m % 128 + 128)]) ++ num (m / 128) := by rw [Hacc.out, num_big m hlt]; simp
      have Hnx := hid hnx
      clear hnx
      go_wp2_with fail
      go_roundw
      case rel => exact ⟨m / 128, _, by go_num, Nat.le_trans (Nat.div_le_self _ _) hm, Hnx.out, by rw [cat_one, byte_add m], hb.alloc hb.size _⟩
      case measure =>
        have hd : m / 128 < m := Nat.div_lt_self (by omega) (by decide)
        simp [intOf]
        omega
theorem ref_Signed (n : Int) (h : -9223372036854775808 ≤ n ∧ n ≤ 9223372036854775807) (w : World) :
    Calls Try.prog 36 #[.int .i64 n] w fun e w' => e = .returned (.string ⟨(num (zz n)).toArray⟩) ∧ Below w.heap.size w w' := by
  have hz2 := zz_in n h
  by_cases h0 : 0 ≤ n
  · have e1 : IntKind.u64.wrap (2 * n) = (zz n : Int) := by rw [wrap_u64]; unfold zz; rw [if_pos h0]; omega
    go_enter Try.func36, Try.ntmps36
    go_wp2_with fail
    refine (ref_Number _ hz2 _).mono ?_
    rintro e w1 ⟨rfl, hb⟩
    go_wp2_with fail
    go_ret
    exact ⟨rfl, hb⟩
  · have e1 : 2 * -(n + 1) + 1 = (zz n : Int) := by unfold zz; rw [if_neg h0]; omega
    have E1 := hid e1
    clear e1
    go_enter Try.func36, Try.ntmps36
    go_wp2_with fail
    rw [E1.out]
    refine (ref_Number _ hz2 _).mono ?_
    rintro e w1 ⟨rfl, hb⟩
    go_wp2_with fail
    go_ret
    exact ⟨rfl, hb⟩
end Go.Proofs.Ytaobhbfhbmenfaa
