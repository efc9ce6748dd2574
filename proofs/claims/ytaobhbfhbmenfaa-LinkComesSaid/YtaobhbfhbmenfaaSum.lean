/- What the functions of package sum, and of its reference, return. -/
import Derived.Test.YtaobhbfhbmenfaaRows
import Derived.Test.YtaobhbfhbmenfaaBase
import Derived.Test.YtaobhbfhbmenfaaSumM
import Derived.Test.YtaobhbfhbmenfaaAfter
namespace Go.Proofs.Ytaobhbfhbmenfaa
open Go.RowKit
theorem conv4 (w : World) (x0 x1 x2 x3 : Int) :
    (convert 35 9 (.slice (some ⟨w.heap.size, 0, none⟩) 4 4)).run Try.prog (w.alloc (.cells #[.int .u8 x0, .int .u8 x1, .int .u8 x2, .int .u8 x3] 5)) = .ok (.string (strOfNums [x0, x1, x2, x3])) (w.alloc (.cells #[.int .u8 x0, .int .u8 x1, .int .u8 x2, .int .u8 x3] 5)) := by
  refine run_convert_bytes_arg _ 35 5 Try.underlying35 Try.underlying5 w.heap.size 0 4 4 [x0, x1, x2, x3] rfl ?_ 9 Try.underlying9
  intro i hi
  match i, hi with
  | 0, _ => go_simp
  | 1, _ => go_simp
  | 2, _ => go_simp
  | 3, _ => go_simp
theorem sum_tail (a : Int) (h : 0 ≤ a ∧ a < 4294967296) (w : World) :
    Calls Try.prog 64 #[.int .u32 a] w fun e w' => e = .returned (.string ⟨(tail4 a).toArray⟩) ∧ Below w.heap.size w w' := by
  have hcv := conv4
  have hs : strOfNums [a / 16777216, a / 65536 % 256, a / 256 % 256, a % 256] = ⟨(tail4 a).toArray⟩ := by
    unfold strOfNums tail4
    rw [show a / 16777216 % 256 = a / 16777216 by omega]
    rfl
  go_enter Try.func64, Try.ntmps64
  go_wp2
  go_ret
  exact ⟨rfl, (Below.refl _ _).alloc (Nat.le_refl _) _⟩
/-- what the outer round does to the reduced halves -/
theorem sum_round (p : Int × Int) (l m : List UInt8) (q : Int × Int) (hred : Red q) (hp : adl p l = q) :
    adl p (l ++ m) = ((raw q m).1 % 65521, (raw q m).2 % 65521) := by
  rw [adl_append, hp]
  obtain ⟨h1, h2⟩ := raw_adl m q q (by unfold Red at hred; omega) (by unfold Red at hred; omega)
  exact Prod.ext h1.symm h2.symm
set_option maxRecDepth 100000 in
theorem sum_More (n : Int) (h : 0 ≤ n ∧ n < 4294967296) (s : ByteArray) (hs : s.size ≤ maxLen) (w : World) :
    Calls Try.prog 81 #[.int .u32 n, .string s] w fun e w' => e = .returned (.int .u32 (more n s.data.toList)) ∧ w = w' := by
  unfold maxLen at hs
  have hb : bits .and .u32 n 65535 = n % 65536 := bits_mask .u32 32 (by decide) (fun m a b => by rw [wrap_u32]; omega) 16 (by decide) n h.1 h.2
  have Hb := hid hb
  go_enter Try.func81, Try.ntmps81
  go_wp2
  go_loop [1, 5, 6] (fun s' lo hi => ∃ (t : ByteArray) (j : Nat) (p : Int × Int), s' = .string t ∧ t.size + j = s.size ∧ t.data.toList = s.data.toList.drop j ∧ adl (n % 65536 % 65521, n / 65536 % 65521) (s.data.toList.take j) = p ∧ lo = .int .u32 p.1 ∧ hi = .int .u32 p.2) (fun s' _ _ => strLen s')
  case atStart => exact ⟨s, 0, _, rfl, by omega, by simp, rfl, rfl, rfl⟩
  case round =>
    obtain ⟨t, j, p, rfl, hj, ht, hp, rfl, rfl⟩ := hrel
    clear hb
    have Hj := hid hj
    have Ht := hid ht
    have Hp := hid hp
    have hj' : t.size ≤ s.size := by omega
    have hred : Red p := by rw [← hp]; exact red_adl _ _ (red_of n)
    clear hj ht hp
    by_cases h0 : 0 < t.size
    · by_cases h1 : t.size ≤ 5552
      · go_wp2
        go_loop [5, 6, 22] (fun lo hi i => ∃ k : Nat, k ≤ t.size ∧ i = .int .i64 k ∧ lo = .int .u32 (raw p (t.data.toList.take k)).1 ∧ hi = .int .u32 (raw p (t.data.toList.take k)).2) (fun _ _ i => t.size - (intOf i).toNat)
        case atStart => exact ⟨0, by omega, rfl, rfl, rfl⟩
        case round =>
          obtain ⟨k, hk, rfl, rfl, rfl⟩ := hrel
          have hin := raw_in p (t.data.toList.take k) hred (by simp; omega)
          by_cases hlt : k < t.size
          · have hts := take_snoc t k (by omega)
            have hin2 : (raw p (t.data.toList.take k)).2 + ((raw p (t.data.toList.take k)).1 + (t[k].toNat : Int)) ≤ 4294690200 := by
              have := (raw_in p (t.data.toList.take (k + 1)) hred (by simp; omega)).2.2
              rwa [hts, raw_snoc] at this
            have Hs := hid hts
            clear hts
            have hbyte : (0 : Int) ≤ (t[k].toNat : Int) ∧ (t[k].toNat : Int) ≤ 255 := by have := t[k].toNat_lt; omega
            go_wp2
            go_round
            case rel => exact ⟨k + 1, by omega, by go_num, by rw [Hs.out, raw_snoc]; rfl, by rw [Hs.out, raw_snoc]; rfl⟩
            case measure => simp [intOf]; omega
          · obtain rfl : k = t.size := by omega
            have hnx : adl (n % 65536 % 65521, n / 65536 % 65521) (s.data.toList.take (j + t.size)) = ((raw p (t.data.toList.take t.size)).1 % 65521, (raw p (t.data.toList.take t.size)).2 % 65521) := by
              rw [List.take_add, ← Ht.out]
              exact sum_round _ _ _ _ hred Hp.out
            have Hn := hid hnx
            clear hnx
            go_wp2
            go_round
            case rel => exact ⟨ByteArray.empty, j + t.size, _, rfl, by have := Hj.out; simp; omega, by rw [List.drop_eq_nil_of_le (by have := Hj.out; simp; omega)]; rfl, Hn.out, rfl, rfl⟩
            case measure => simp [strLen]; omega
      · go_wp2
        go_loop [5, 6, 22] (fun lo hi i => ∃ k : Nat, k ≤ 5552 ∧ i = .int .i64 k ∧ lo = .int .u32 (raw p (t.data.toList.take k)).1 ∧ hi = .int .u32 (raw p (t.data.toList.take k)).2) (fun _ _ i => 5552 - (intOf i).toNat)
        case atStart => exact ⟨0, by omega, rfl, rfl, rfl⟩
        case round =>
          obtain ⟨k, hk, rfl, rfl, rfl⟩ := hrel
          have hin := raw_in p (t.data.toList.take k) hred (by simp; omega)
          by_cases hlt : k < 5552
          · have hts := take_snoc t k (by omega)
            have hin2 : (raw p (t.data.toList.take k)).2 + ((raw p (t.data.toList.take k)).1 + (t[k].toNat : Int)) ≤ 4294690200 := by
              have := (raw_in p (t.data.toList.take (k + 1)) hred (by simp; omega)).2.2
              rwa [hts, raw_snoc] at this
            have Hs := hid hts
            clear hts
            have hbyte : (0 : Int) ≤ (t[k].toNat : Int) ∧ (t[k].toNat : Int) ≤ 255 := by have := t[k].toNat_lt; omega
            go_wp2
            go_round
            case rel => exact ⟨k + 1, by omega, by go_num, by rw [Hs.out, raw_snoc]; rfl, by rw [Hs.out, raw_snoc]; rfl⟩
            case measure => simp [intOf]; omega
          · obtain rfl : k = 5552 := by omega
            have hnx : adl (n % 65536 % 65521, n / 65536 % 65521) (s.data.toList.take (j + 5552)) = ((raw p (t.data.toList.take 5552)).1 % 65521, (raw p (t.data.toList.take 5552)).2 % 65521) := by
              rw [List.take_add, ← Ht.out]
              exact sum_round _ _ _ _ hred Hp.out
            have Hn := hid hnx
            clear hnx
            go_wp2
            go_round
            case rel => exact ⟨t.extract 5552 t.size, j + 5552, _, rfl, by have := Hj.out; simp; omega, by rw [extract_end, Ht.out, List.drop_drop], Hn.out, rfl, rfl⟩
            case measure => simp [strLen]; omega
    · have hm : more n s.data.toList = p.2 * 65536 + p.1 := by
        have e := Hp.out
        rw [List.take_of_length_le (by have := Hj.out; simp; omega)] at e
        rw [more, e]
      have Hm := hid hm
      clear hm
      have hr : (0 ≤ p.1 ∧ p.1 < 65521) ∧ (0 ≤ p.2 ∧ p.2 < 65521) := hred
      go_wp2
      go_ret
      refine ⟨ret_int ?_, rfl⟩
      rw [Hm.out]
      exact bits_join .u32 32 (by decide) (fun m a b => by rw [wrap_u32]; omega) 16 _ _ (by omega) (by omega) (by omega) (by omega) (by omega) (by omega)
end Go.Proofs.Ytaobhbfhbmenfaa
