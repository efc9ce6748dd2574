/- The statements of sum return true. -/
import Derived.Test.YtohkdoopechghaaSum3
import Derived.Test.YtohkdoopechghaaSumP
import Derived.Deep.RegionWith
namespace Go.Proofs.Ytohkdoopechghaa
open Go.RowKit
theorem law_SumOf (s : ByteArray) (n : Int) (hn : 0 ≤ n ∧ n < 4294967296) (hs : s.size ≤ maxLen) (w : World) :
    Calls Try.prog 7 #[.string s, .int .u32 n] w fun e w' => e = .returned (.bool true) ∧ w = w' := by
  have hs' : s.size ≤ 9223372036854775807 := hs
  go_enter Try.func7, Try.ntmps7
  go_wp2_with (first | (go_at_call 20; refine (awake05 _).mono ?_; rintro e w' ⟨rfl, rfl⟩) | (go_at_call 21; refine (sum_Of _ hs _).mono ?_; rintro e w' ⟨rfl, rfl⟩) | (go_at_call 22; refine (ref_OfSum _ hs _).mono ?_; rintro e w' ⟨rfl, rfl⟩) | (go_at_call 23; refine (sum_More _ hn _ hs _).mono ?_; rintro e w' ⟨rfl, rfl⟩) | (go_at_call 24; refine (ref_More _ hn _ hs _).mono ?_; rintro e w' ⟨rfl, rfl⟩))
  all_goals
    go_ret
    exact ⟨ret_bool (by simp), rfl⟩
set_option maxHeartbeats 1000000 in
theorem law_SumParts (s : ByteArray) (at' a b n : Int) (ha : 0 ≤ a ∧ a < 4294967296) (hb : 0 ≤ b ∧ b < 4294967296) (hs : s.size ≤ maxLen) (w : World) :
    Calls Try.prog 8 #[.string s, .int .i64 at', .int .u32 a, .int .u32 b, .int .i64 n] w fun e w' => e = .returned (.bool true) ∧ Below w.heap.size w w' := by
  have hs' : s.size ≤ 9223372036854775807 := hs
  by_cases h0 : 20000 < s.size
  · go_enter Try.func8, Try.ntmps8
    go_wp2_with ((go_at_call 20; refine (awake05 _).mono ?_; rintro e w' ⟨rfl, rfl⟩))
    go_ret
    exact ⟨rfl, Below.refl _ _⟩
  · obtain ⟨k, hk, he⟩ := pick_index at' (s.size + 1) (by omega) (by omega)
    rw [show ((s.size + 1 : Nat) : Int) = (s.size : Int) + 1 by omega] at he
    have hk' : k ≤ s.size := by omega
    have hp := join_parts (s.data.toList.take k) (s.data.toList.drop k) _ _ rfl rfl
    have hlen : ((s.data.toList.drop k).length : Int) = (s.size : Int) - (k : Int) := by simp; omega
    rw [List.take_append_drop, hlen] at hp
    have hj : joined (more 1 (s.data.toList.take k)) (more 1 (s.data.toList.drop k)) ((s.size : Int) - (k : Int)) = more 1 s.data.toList := hp.2
    have hc : canJoin (more 1 (s.data.toList.take k)) (more 1 (s.data.toList.drop k)) ((s.size : Int) - (k : Int)) := ⟨by omega, by omega, hp.1⟩
    have hm : more (more 1 (s.data.toList.take k)) (s.data.toList.drop k) = more 1 s.data.toList := by rw [more_append, List.take_append_drop]
    have hext : (s.extract 0 k).data.toList = s.data.toList.take k := by rw [extract_data]; simp
    have hext2 : (s.data.toList.drop k).take (s.size - k) = s.data.toList.drop k := List.take_of_length_le (by simp)
    clear hp hlen
    by_cases hcan : canJoin a b n
    · obtain ⟨c1, c2, c3⟩ := id hcan
      have r1 : isRight a := ⟨c3.1, c3.2.1⟩
      have r2 : isRight b := c3.2.2
      go_enter Try.func8, Try.ntmps8
      go_wp2_with fail
      refine (awake05 _).mono ?_
      rintro e w' ⟨rfl, rfl⟩
      go_wp2_with fail
      go_quiet ((go_at_call 21; exact Calls.quiet_of_same ((sum_Of _ (by simp [maxLen]; omega) _).mono fun _ _ ⟨h1, h2⟩ => ⟨h1, h2.symm⟩)))
      go_wp2_with fail
      refine (sum_Join_yes _ _ _ (more_in _ _) (more_in _ _) _ hc).mono ?_
      rintro e w' ⟨rfl, rfl⟩
      go_wp2_with fail
      refine (sum_Join_yes a b n ha hb _ hcan).mono ?_
      rintro e w' ⟨rfl, rfl⟩
      go_wp2_with fail
      refine (ref_Right_yes _ ha _ r1).mono ?_
      rintro e w' ⟨rfl, rfl⟩
      go_wp2_with fail
      refine (ref_Right_yes _ hb _ r2).mono ?_
      rintro e w' ⟨rfl, rfl⟩
      go_wp2_with fail
      refine (sum_More _ (more_in _ _) _ (by simp [maxLen]; omega) _).mono ?_
      rintro e w' ⟨rfl, rfl⟩
      go_wp2_with fail
      refine (sum_Of _ hs _).mono ?_
      rintro e w' ⟨rfl, rfl⟩
      go_wp2_with fail
      refine (sum_Of _ hs _).mono ?_
      rintro e w' ⟨rfl, rfl⟩
      go_wp2_with fail
      go_ret
      exact ⟨rfl, below_drewN (Below.refl _ _) _⟩
    by_cases c1 : n < 0
    · go_enter Try.func8, Try.ntmps8
      go_wp2_with fail
      refine (awake05 _).mono ?_
      rintro e w' ⟨rfl, rfl⟩
      go_wp2_with fail
      go_quiet ((go_at_call 21; exact Calls.quiet_of_same ((sum_Of _ (by simp [maxLen]; omega) _).mono fun _ _ ⟨h1, h2⟩ => ⟨h1, h2.symm⟩)))
      go_wp2_with fail
      refine (sum_Join_yes _ _ _ (more_in _ _) (more_in _ _) _ hc).mono ?_
      rintro e w' ⟨rfl, rfl⟩
      go_wp2_with fail
      refine (sum_Join_no a b n ha hb _ hcan).mono ?_
      rintro e w' ⟨rfl, rfl⟩
      go_wp2_with fail
      refine (sum_More _ (more_in _ _) _ (by simp [maxLen]; omega) _).mono ?_
      rintro e w' ⟨rfl, rfl⟩
      go_wp2_with fail
      refine (sum_Of _ hs _).mono ?_
      rintro e w' ⟨rfl, rfl⟩
      go_wp2_with fail
      refine (sum_Of _ hs _).mono ?_
      rintro e w' ⟨rfl, rfl⟩
      go_wp2_with fail
      go_ret
      exact ⟨rfl, below_drewN (Below.refl _ _) _⟩
    by_cases c2 : 2147483648 < n
    · go_enter Try.func8, Try.ntmps8
      go_wp2_with fail
      refine (awake05 _).mono ?_
      rintro e w' ⟨rfl, rfl⟩
      go_wp2_with fail
      go_quiet ((go_at_call 21; exact Calls.quiet_of_same ((sum_Of _ (by simp [maxLen]; omega) _).mono fun _ _ ⟨h1, h2⟩ => ⟨h1, h2.symm⟩)))
      go_wp2_with fail
      refine (sum_Join_yes _ _ _ (more_in _ _) (more_in _ _) _ hc).mono ?_
      rintro e w' ⟨rfl, rfl⟩
      go_wp2_with fail
      refine (sum_Join_no a b n ha hb _ hcan).mono ?_
      rintro e w' ⟨rfl, rfl⟩
      go_wp2_with fail
      refine (sum_More _ (more_in _ _) _ (by simp [maxLen]; omega) _).mono ?_
      rintro e w' ⟨rfl, rfl⟩
      go_wp2_with fail
      refine (sum_Of _ hs _).mono ?_
      rintro e w' ⟨rfl, rfl⟩
      go_wp2_with fail
      refine (sum_Of _ hs _).mono ?_
      rintro e w' ⟨rfl, rfl⟩
      go_wp2_with fail
      go_ret
      exact ⟨rfl, below_drewN (Below.refl _ _) _⟩
    by_cases c3 : ¬ isRight a
    · go_enter Try.func8, Try.ntmps8
      go_wp2_with fail
      refine (awake05 _).mono ?_
      rintro e w' ⟨rfl, rfl⟩
      go_wp2_with fail
      go_quiet ((go_at_call 21; exact Calls.quiet_of_same ((sum_Of _ (by simp [maxLen]; omega) _).mono fun _ _ ⟨h1, h2⟩ => ⟨h1, h2.symm⟩)))
      go_wp2_with fail
      refine (sum_Join_yes _ _ _ (more_in _ _) (more_in _ _) _ hc).mono ?_
      rintro e w' ⟨rfl, rfl⟩
      go_wp2_with fail
      refine (sum_Join_no a b n ha hb _ hcan).mono ?_
      rintro e w' ⟨rfl, rfl⟩
      go_wp2_with fail
      refine (ref_Right_no _ ha _ c3).mono ?_
      rintro e w' ⟨rfl, rfl⟩
      go_wp2_with fail
      refine (sum_More _ (more_in _ _) _ (by simp [maxLen]; omega) _).mono ?_
      rintro e w' ⟨rfl, rfl⟩
      go_wp2_with fail
      refine (sum_Of _ hs _).mono ?_
      rintro e w' ⟨rfl, rfl⟩
      go_wp2_with fail
      refine (sum_Of _ hs _).mono ?_
      rintro e w' ⟨rfl, rfl⟩
      go_wp2_with fail
      go_ret
      exact ⟨rfl, below_drewN (Below.refl _ _) _⟩
    by_cases c4 : ¬ isRight b
    · have c5 : isRight a := Classical.not_not.1 c3
      go_enter Try.func8, Try.ntmps8
      go_wp2_with fail
      refine (awake05 _).mono ?_
      rintro e w' ⟨rfl, rfl⟩
      go_wp2_with fail
      go_quiet ((go_at_call 21; exact Calls.quiet_of_same ((sum_Of _ (by simp [maxLen]; omega) _).mono fun _ _ ⟨h1, h2⟩ => ⟨h1, h2.symm⟩)))
      go_wp2_with fail
      refine (sum_Join_yes _ _ _ (more_in _ _) (more_in _ _) _ hc).mono ?_
      rintro e w' ⟨rfl, rfl⟩
      go_wp2_with fail
      refine (sum_Join_no a b n ha hb _ hcan).mono ?_
      rintro e w' ⟨rfl, rfl⟩
      go_wp2_with fail
      refine (ref_Right_yes _ ha _ c5).mono ?_
      rintro e w' ⟨rfl, rfl⟩
      go_wp2_with fail
      refine (ref_Right_no _ hb _ c4).mono ?_
      rintro e w' ⟨rfl, rfl⟩
      go_wp2_with fail
      refine (sum_More _ (more_in _ _) _ (by simp [maxLen]; omega) _).mono ?_
      rintro e w' ⟨rfl, rfl⟩
      go_wp2_with fail
      refine (sum_Of _ hs _).mono ?_
      rintro e w' ⟨rfl, rfl⟩
      go_wp2_with fail
      refine (sum_Of _ hs _).mono ?_
      rintro e w' ⟨rfl, rfl⟩
      go_wp2_with fail
      go_ret
      exact ⟨rfl, below_drewN (Below.refl _ _) _⟩
    · obtain ⟨d1, d2⟩ := Classical.not_not.1 c3
      obtain ⟨d3, d4⟩ := Classical.not_not.1 c4
      exact absurd ⟨by omega, by omega, d1, d2, d3, d4⟩ hcan
theorem law_SumSeals (s t : ByteArray) (hs : s.size ≤ maxLen) (ht : t.size ≤ maxLen) (w : World) :
    Calls Try.prog 9 #[.string s, .string t] w fun e w' => e = .returned (.bool true) ∧ Below w.heap.size w w' := by
  have hs' : s.size ≤ 9223372036854775807 := hs
  have ht' : t.size ≤ 9223372036854775807 := ht
  by_cases h0 : 20000 < s.size
  · go_enter Try.func9, Try.ntmps9
    go_wp2_with ((go_at_call 20; refine (awake05 _).mono ?_; rintro e w' ⟨rfl, rfl⟩))
    go_ret
    exact ⟨rfl, Below.refl _ _⟩
  by_cases h1 : 20000 < t.size
  · go_enter Try.func9, Try.ntmps9
    go_wp2_with ((go_at_call 20; refine (awake05 _).mono ?_; rintro e w' ⟨rfl, rfl⟩))
    go_ret
    exact ⟨rfl, Below.refl _ _⟩
  have ho : opened (sealed s.data.toList) = (s.data.toList, 0) := by
    unfold opened
    have e : (sealed s.data.toList).length - 4 = s.data.toList.length := by simp [sealed, tail4_length]
    rw [if_neg (by simp [sealed, tail4_length]), e]
    have e2 : (sealed s.data.toList).take s.data.toList.length = s.data.toList := by unfold sealed; exact List.take_left' rfl
    rw [e2, if_pos rfl]
  by_cases h2 : t.size < 4
  · have hp : opened t.data.toList = ([], 3) := by unfold opened; rw [if_pos (by simpa using h2)]
    go_enter Try.func9, Try.ntmps9
    go_wp2_with fail
    refine (awake05 _).mono ?_
    rintro e w' ⟨rfl, rfl⟩
    go_wp2_with fail
    refine (sum_Seal _ (by omega) _).mono ?_
    rintro e w1 ⟨rfl, hb1⟩
    go_wp2_with fail
    refine (sum_Open _ (sealed_le _ (by omega)) _).mono ?_
    rintro e w2 ⟨rfl, hb2⟩
    go_wp2_with fail
    refine (sum_Open t ht _).mono ?_
    rintro e w3 ⟨rfl, hb3⟩
    go_wp2_with fail
    refine (sum_Seal _ (by omega) _).mono ?_
    rintro e w4 ⟨rfl, hb4⟩
    go_wp2_with fail
    refine (ref_Seal _ (by omega) _).mono ?_
    rintro e w5 ⟨rfl, hb5⟩
    go_wp2_with fail
    go_ret
    exact ⟨rfl, bnext (bnext (bnext (bnext hb1 hb2) hb3) hb4) hb5⟩
  obtain ⟨m, hm⟩ : ∃ m, t.size = m + 4 := ⟨t.size - 4, by omega⟩
  have hl : t.data.toList.length = m + 4 := by rw [← hm]; simp
  have hx : (t.extract 0 m).data.toList = t.data.toList.take m := by rw [extract_data]; simp
  by_cases h3 : sealed (t.data.toList.take m) = t.data.toList
  · have hp : opened t.data.toList = (t.data.toList.take m, 0) := by unfold opened; rw [if_neg (by omega), show t.data.toList.length - 4 = m by omega, if_pos h3]
    have h3' : (!sealed (t.data.toList.take m) == t.toList) = false := by rw [ByteArray.toList_eq]; simpa using h3
    have hx2 : (t.extract 0 m).toList = t.data.toList.take m := by rw [ByteArray.toList_eq, hx]
    clear hl h3
    go_enter Try.func9, Try.ntmps9
    go_wp2_with fail
    refine (awake05 _).mono ?_
    rintro e w' ⟨rfl, rfl⟩
    go_wp2_with fail
    refine (sum_Seal _ (by omega) _).mono ?_
    rintro e w1 ⟨rfl, hb1⟩
    go_wp2_with fail
    refine (sum_Open _ (sealed_le _ (by omega)) _).mono ?_
    rintro e w2 ⟨rfl, hb2⟩
    go_wp2_with fail
    refine (sum_Open t ht _).mono ?_
    rintro e w3 ⟨rfl, hb3⟩
    go_wp2_with fail
    refine (sum_Seal _ (by omega) _).mono ?_
    rintro e w4 ⟨rfl, hb4⟩
    go_wp2_with fail
    refine (ref_Seal _ (by omega) _).mono ?_
    rintro e w5 ⟨rfl, hb5⟩
    go_wp2_with fail
    refine (ref_Seal _ (by simp; omega) _).mono ?_
    rintro e w6 ⟨rfl, hb6⟩
    go_wp2_with fail
    go_ret
    exact ⟨rfl, bnext (bnext (bnext (bnext (bnext hb1 hb2) hb3) hb4) hb5) hb6⟩
  · have hp : opened t.data.toList = ([], 15) := by unfold opened; rw [if_neg (by omega), show t.data.toList.length - 4 = m by omega, if_neg h3]
    have h3' : (!sealed (t.data.toList.take m) == t.toList) = true := by rw [ByteArray.toList_eq]; simpa using h3
    clear hl h3
    go_enter Try.func9, Try.ntmps9
    go_wp2_with fail
    refine (awake05 _).mono ?_
    rintro e w' ⟨rfl, rfl⟩
    go_wp2_with fail
    refine (sum_Seal _ (by omega) _).mono ?_
    rintro e w1 ⟨rfl, hb1⟩
    go_wp2_with fail
    refine (sum_Open _ (sealed_le _ (by omega)) _).mono ?_
    rintro e w2 ⟨rfl, hb2⟩
    go_wp2_with fail
    refine (sum_Open t ht _).mono ?_
    rintro e w3 ⟨rfl, hb3⟩
    go_wp2_with fail
    refine (sum_Seal _ (by omega) _).mono ?_
    rintro e w4 ⟨rfl, hb4⟩
    go_wp2_with fail
    refine (ref_Seal _ (by omega) _).mono ?_
    rintro e w5 ⟨rfl, hb5⟩
    go_wp2_with fail
    refine (ref_Seal _ (by simp; omega) _).mono ?_
    rintro e w6 ⟨rfl, hb6⟩
    go_wp2_with fail
    go_ret
    exact ⟨rfl, bnext (bnext (bnext (bnext (bnext hb1 hb2) hb3) hb4) hb5) hb6⟩
end Go.Proofs.Ytohkdoopechghaa
