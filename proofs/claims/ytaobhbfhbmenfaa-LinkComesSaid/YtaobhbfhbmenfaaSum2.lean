/- What the functions of package sum that seal and open return. -/
import Derived.Test.YtaobhbfhbmenfaaSum
namespace Go.Proofs.Ytaobhbfhbmenfaa
open Go.RowKit
theorem sum_Of (s : ByteArray) (hs : s.size ≤ maxLen) (w : World) :
    Calls Try.prog 65 #[.string s] w fun e w' => e = .returned (.int .u32 (more 1 s.data.toList)) ∧ w = w' := by
  go_enter Try.func65, Try.ntmps65
  go_wp2_with (go_at_call 81; refine (sum_More _ (by omega) _ hs _).mono ?_; rintro e w' ⟨rfl, rfl⟩)
  go_ret
  exact ⟨rfl, rfl⟩
def sealed (l : List UInt8) : List UInt8 := l ++ tail4 (more 1 l)
theorem tail4_length (n : Int) : (tail4 n).length = 4 := rfl
theorem sum_Seal (s : ByteArray) (hs : s.size ≤ 1000000) (w : World) :
    Calls Try.prog 58 #[.string s] w fun e w' => e = .returned (.string ⟨(sealed s.data.toList).toArray⟩) ∧ Below w.heap.size w w' := by
  have hl : (tail4 (more 1 s.data.toList)).length ≤ 4 := Nat.le_refl _
  have hfin : s ++ ⟨(tail4 (more 1 s.data.toList)).toArray⟩ = ⟨(sealed s.data.toList).toArray⟩ := by
    apply ByteArray.ext
    simp [sealed, ByteArray.data_append]
  have Hfin := hid hfin
  clear hfin
  go_enter Try.func58, Try.ntmps58
  go_wp2_with (first | (go_at_call 65; refine (sum_Of _ (by simp [maxLen]; omega) _).mono ?_; rintro e w' ⟨rfl, rfl⟩) | (go_at_call 64; refine (sum_tail _ (more_in _ _) _).mono ?_; rintro e w' ⟨rfl, hb⟩))
  go_ret
  exact ⟨by rw [← Hfin.out]; rfl, hb⟩
theorem sealed_size (l : List UInt8) : (ByteArray.mk (sealed l).toArray).size = l.length + 4 := by
  simp [sealed, tail4_length, ByteArray.size]
theorem sealed_le (s : ByteArray) (h : s.size ≤ 100000) : (ByteArray.mk (sealed s.data.toList).toArray).size ≤ maxLen := by
  rw [sealed_size]
  have : s.data.toList.length = s.size := by simp
  unfold maxLen
  omega
/-- what is opened, and the error -/
def opened (l : List UInt8) : List UInt8 × Int :=
  if l.length < 4 then ([], 3) else if sealed (l.take (l.length - 4)) = l then (l.take (l.length - 4), 0) else ([], 15)
theorem open_is (s : ByteArray) (m : Nat) (hm : s.size = m + 4) : opened s.data.toList = if (tail4 (more 1 (s.data.toList.take m)) == (s.extract m (m + 4)).toList) = true then (s.data.toList.take m, 0) else ([], 15) := by
  have hl : s.data.toList.length = m + 4 := by rw [← hm]; simp
  have e1 : (s.extract m (m + 4)).toList = s.data.toList.drop m := by
    rw [ByteArray.toList_eq, extract_data, List.take_of_length_le]
    simp; omega
  unfold opened
  rw [if_neg (by omega), show s.data.toList.length - 4 = m by omega, e1]
  have e2 : sealed (s.data.toList.take m) = s.data.toList ↔ tail4 (more 1 (s.data.toList.take m)) = s.data.toList.drop m := by
    unfold sealed
    constructor
    · intro h
      have := congrArg (List.drop m) h
      rwa [List.drop_left' (by simp; omega)] at this
    · intro h
      rw [h, List.take_append_drop]
  by_cases h : tail4 (more 1 (s.data.toList.take m)) = s.data.toList.drop m
  · rw [if_pos (e2.2 h), if_pos (by simpa using h)]
  · rw [if_neg (fun c => h (e2.1 c)), if_neg (by simpa using h)]
theorem open_bad (s : ByteArray) (m : Nat) (hm : s.size = m + 4) (h : (!tail4 (more 1 (s.data.toList.take m)) == (s.extract m (m + 4)).toList) = true) : opened s.data.toList = ([], 15) := by
  rw [open_is s m hm, if_neg (by simpa using h)]
theorem open_ok (s : ByteArray) (m : Nat) (hm : s.size = m + 4) (h : (!tail4 (more 1 (s.data.toList.take m)) == (s.extract m (m + 4)).toList) = false) : opened s.data.toList = (s.data.toList.take m, 0) := by
  rw [open_is s m hm, if_pos (by simpa using h)]
theorem of_list (s : ByteArray) (l : List UInt8) (h : s.data.toList = l) : s = ⟨l.toArray⟩ := by
  subst h; simp
theorem sum_Open (s : ByteArray) (hs : s.size ≤ maxLen) (w : World) :
    Calls Try.prog 42 #[.string s] w fun e w' => e = .returned (.tuple #[.string ⟨(opened s.data.toList).1.toArray⟩, .int .i64 (opened s.data.toList).2]) ∧ Below w.heap.size w w' := by
  unfold maxLen at hs
  by_cases h4 : s.size < 4
  · have hf : opened s.data.toList = ([], 3) := by unfold opened; rw [if_pos (by simpa using h4)]
    have Hf := hid hf
    clear hf
    go_enter Try.func42, Try.ntmps42
    go_wp2
    go_ret2
    exact ⟨by rw [Hf.out]; rfl, Below.refl _ _⟩
  · obtain ⟨m, hm⟩ : ∃ m, s.size = m + 4 := ⟨s.size - 4, by omega⟩
    go_enter Try.func42, Try.ntmps42
    go_wp2
    refine wp_region_after (by kernel_rfl) (by kernel_rfl) ?_
    repeat (go_big_quiet_step (first | (go_at_call 65; exact Calls.after_same (sum_Of _ (by simp [maxLen]; omega) _)) | (go_at_call 64; exact Calls.after_of (sum_tail _ (more_in _ _) _))))
    refine wpQuiet_nil ?_
    intro _ hw2
    obtain ⟨x, hw3⟩ := hw2
    subst hw3
    go_wp2
    · have hb := open_bad s m hm (by assumption)
      have Hb := hid hb
      clear hb
      go_ret2
      exact ⟨by rw [Hb.out]; rfl, x.below⟩
    · have hb := open_ok s m hm (by assumption)
      have Hb := hid hb
      clear hb
      go_ret2
      refine ⟨?_, x.below⟩
      rw [Hb.out]
      exact ret_two (congrArg Value.string (of_list (s.extract 0 m) (s.data.toList.take m) (by rw [extract_data]; simp))) rfl
theorem ref_More (n : Int) (h : 0 ≤ n ∧ n < 4294967296) (s : ByteArray) (hs : s.size ≤ maxLen) (w : World) :
    Calls Try.prog 77 #[.int .u32 n, .string s] w fun e w' => e = .returned (.int .u32 (more n s.data.toList)) ∧ w = w' := by
  unfold maxLen at hs
  go_enter Try.func77, Try.ntmps77
  go_wp2
  go_loop [5, 6, 7] (fun lo hi i => ∃ (k : Nat), k ≤ s.size ∧ i = .int .i64 k ∧ lo = .int .u64 (adl (n % 65536 % 65521, n / 65536 % 65521) (s.data.toList.take k)).1 ∧ hi = .int .u64 (adl (n % 65536 % 65521, n / 65536 % 65521) (s.data.toList.take k)).2) (fun _ _ i => s.size - (intOf i).toNat)
  case atStart => exact ⟨0, by omega, rfl, rfl, rfl⟩
  case round =>
    obtain ⟨k, hk, rfl, rfl, rfl⟩ := hrel
    have hr : (0 ≤ (adl (n % 65536 % 65521, n / 65536 % 65521) (s.data.toList.take k)).1 ∧ (adl (n % 65536 % 65521, n / 65536 % 65521) (s.data.toList.take k)).1 < 65521) ∧ (0 ≤ (adl (n % 65536 % 65521, n / 65536 % 65521) (s.data.toList.take k)).2 ∧ (adl (n % 65536 % 65521, n / 65536 % 65521) (s.data.toList.take k)).2 < 65521) := red_adl _ _ (red_of n)
    by_cases hlt : k < s.size
    · have hts := take_snoc s k hlt
      have Hs := hid hts
      clear hts
      have hbyte : (0 : Int) ≤ (s[k].toNat : Int) ∧ (s[k].toNat : Int) ≤ 255 := by have := s[k].toNat_lt; omega
      go_wp2
      go_round
      case rel => exact ⟨k + 1, by omega, by go_num, by rw [Hs.out, adl_snoc]; rfl, by rw [Hs.out, adl_snoc]; rfl⟩
      case measure => simp [intOf]; omega
    · obtain rfl : k = s.size := by omega
      go_wp2
      go_ret
      refine ⟨ret_int ?_, rfl⟩
      rw [List.take_of_length_le (by simp)]
      rfl
theorem ref_OfSum (s : ByteArray) (hs : s.size ≤ maxLen) (w : World) :
    Calls Try.prog 60 #[.string s] w fun e w' => e = .returned (.int .u32 (more 1 s.data.toList)) ∧ w = w' := by
  go_enter Try.func60, Try.ntmps60
  go_wp2_with (go_at_call 77; refine (ref_More _ (by omega) _ hs _).mono ?_; rintro e w' ⟨rfl, rfl⟩)
  go_ret
  exact ⟨rfl, rfl⟩
theorem ref_Seal (s : ByteArray) (hs : s.size ≤ 1000000) (w : World) :
    Calls Try.prog 37 #[.string s] w fun e w' => e = .returned (.string ⟨(sealed s.data.toList).toArray⟩) ∧ Below w.heap.size w w' := by
  have hl : (tail4 (more 1 s.data.toList)).length ≤ 4 := Nat.le_refl _
  have hfin : s ++ ⟨(tail4 (more 1 s.data.toList)).toArray⟩ = ⟨(sealed s.data.toList).toArray⟩ := by
    apply ByteArray.ext
    simp [sealed, ByteArray.data_append]
  have Hfin := hid hfin
  clear hfin
  have hin := more_in 1 s.data.toList
  have hcv := conv4
  have hs4 : strOfNums [more 1 s.data.toList / 16777216, more 1 s.data.toList / 65536 % 256, more 1 s.data.toList / 256 % 256, more 1 s.data.toList % 256] = ⟨(tail4 (more 1 s.data.toList)).toArray⟩ := by
    unfold strOfNums tail4
    rw [show more 1 s.data.toList / 16777216 % 256 = more 1 s.data.toList / 16777216 by omega]
    rfl
  go_enter Try.func37, Try.ntmps37
  go_wp2_with (go_at_call 60; refine (ref_OfSum _ (by simp [maxLen]; omega) _).mono ?_; rintro e w' ⟨rfl, rfl⟩)
  go_ret
  exact ⟨by rw [← Hfin.out]; rfl, (Below.refl _ _).alloc (Nat.le_refl _) _⟩
def isRight (a : Int) : Prop := a % 65536 < 65521 ∧ a / 65536 < 65521
end Go.Proofs.Ytaobhbfhbmenfaa
