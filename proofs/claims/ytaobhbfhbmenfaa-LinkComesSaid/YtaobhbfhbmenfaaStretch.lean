/- What pack.stretch returns. -/
import Derived.Test.YtaobhbfhbmenfaaRun
import Derived.Test.YtaobhbfhbmenfaaRunM
namespace Go.Proofs.Ytaobhbfhbmenfaa
open Go.RowKit
set_option maxRecDepth 10000
/-- the stretch that bytes begin with, of so many inputs left -/
def st (l : List UInt8) (left : Nat) : Nat × Nat × Nat × Int :=
  match l with
  | [] => (0, 0, 0, 3)
  | x :: r => if 63 < x.toNat then (0, 0, 0, 4) else if (rdNum r).2.2 ≠ 0 then (0, 0, 0, (rdNum r).2.2) else
    if (rdNum r).1 = 0 ∨ left < (rdNum r).1 then (0, 0, 0, 4) else (x.toNat, (rdNum r).1, (rdNum r).2.1 + 1, 0)
theorem toList_data (s : ByteArray) : s.toList = s.data.toList := ByteArray.toList_eq s
theorem results_tmp4 {fn : Func} {t u v x : Tmp} (h : fn.results = #[.tmp t, .tmp u, .tmp v, .tmp x]) (tmps : Array Value) (P : Program) (w : World) :
    (results fn tmps).run P w = .ok (.tuple #[tmps.getD t undef, tmps.getD u undef, tmps.getD v undef, tmps.getD x undef]) w := by
  simp [results, h]
theorem pack_stretch (s : ByteArray) (hs : s.size ≤ maxLen) (left : Nat) (hleft : left ≤ 64) (w : World) :
    Calls Try.prog 68 #[.string s, .int .i64 left] w fun e w' =>
      e = .returned (.tuple #[.int .u8 ((st s.data.toList left).1 : Int), .int .i64 ((st s.data.toList left).2.1 : Int), .int .i64 ((st s.data.toList left).2.2.1 : Int), .int .i64 (st s.data.toList left).2.2.2]) ∧ w = w' := by
  unfold maxLen at hs
  by_cases h0 : s.size = 0
  · have hst : st s.data.toList left = (0, 0, 0, 3) := by
      have : s.data.toList = [] := List.length_eq_zero_iff.1 (by simpa using h0)
      rw [this]; rfl
    have Hst := hid hst
    have hne : s.toList.isEmpty = true := by
      rw [toList_data, show s.data.toList = [] from List.length_eq_zero_iff.1 (by simpa using h0)]; rfl
    clear hst h0
    go_enter Try.func68, Try.ntmps68
    go_wp2
    try simp only [Exit.inBlock, Exit.then]
    refine bodyPost_ret (results_tmp4 rfl _ _ _) rfl ?_
    exact ⟨by rw [Hst.out]; rfl, rfl⟩
  · have hpos : 0 < s.size := by omega
    have hd : s.data.toList = s[0] :: s.data.toList.drop 1 := by
      have h2 : 0 < s.data.toList.length := by simpa using hpos
      have := List.drop_eq_getElem_cons h2
      rw [List.drop_zero] at this
      exact this
    have hne : s.toList.isEmpty = false := by rw [toList_data, hd]; rfl
    have hst : st s.data.toList left = if 63 < s[0].toNat then (0, 0, 0, 4) else if (rdNum (s.data.toList.drop 1)).2.2 ≠ 0 then (0, 0, 0, (rdNum (s.data.toList.drop 1)).2.2) else
        if (rdNum (s.data.toList.drop 1)).1 = 0 ∨ left < (rdNum (s.data.toList.drop 1)).1 then (0, 0, 0, 4) else (s[0].toNat, (rdNum (s.data.toList.drop 1)).1, (rdNum (s.data.toList.drop 1)).2.1 + 1, 0) := by
      rw [hd]; rfl
    have hex : (s.extract 1 s.size).data.toList = s.data.toList.drop 1 := extract_end s 1
    have hexs : (s.extract 1 s.size).size ≤ maxLen := by simp; unfold maxLen; omega
    have hin := rd_in (s.data.toList.drop 1)
    clear hd h0
    by_cases hb : 63 < s[0].toNat
    · rw [if_pos hb] at hst
      have Hst := hid hst
      clear hst hex hin
      go_enter Try.func68, Try.ntmps68
      go_wp2
      try simp only [Exit.inBlock, Exit.then]
      refine bodyPost_ret (results_tmp4 rfl _ _ _) rfl ?_
      exact ⟨by rw [Hst.out]; rfl, rfl⟩
    · rw [if_neg hb] at hst
      have Hst := hid hst
      clear hst
      have hx2 : ¬ (63 : Int) < (s[0].toNat : Int) := by omega
      have hrd := pack_ReadNumber (s.extract 1 s.size) hexs
      rw [hex] at hrd
      generalize s.data.toList.drop 1 = r at *
      clear hex hexs
      have hlw : IntKind.u64.wrap (left : Int) = (left : Int) := u64_nat _ (by unfold two64; omega)
      have hin1 := hin.1
      unfold two64 at hin1
      have hin2 := hin.2.1
      have hin3 := hin.2.2
      clear hin
      by_cases he : (rdNum r).2.2 = 0
      · rw [if_neg (by simpa using he)] at Hst
        generalize hR : rdNum r = R at *
        obtain ⟨n, k, e⟩ := R
        simp only at he hin1 hin2 hin3 Hst hrd
        subst he
        clear hR
        by_cases h1 : n = 0
        · rw [if_pos (.inl h1)] at Hst
          subst h1
          go_enter Try.func68, Try.ntmps68
          go_wp2_with fail
          refine (hrd w).mono ?_
          rintro e w' ⟨rfl, rfl⟩
          go_wp2
          try simp only [Exit.inBlock, Exit.then]
          refine bodyPost_ret (results_tmp4 rfl _ _ _) rfl ?_
          exact ⟨by rw [Hst.out]; rfl, rfl⟩
        · by_cases h2 : left < n
          · rw [if_pos (.inr h2)] at Hst
            go_enter Try.func68, Try.ntmps68
            go_wp2_with fail
            refine (hrd w).mono ?_
            rintro e w' ⟨rfl, rfl⟩
            go_wp2
            try simp only [Exit.inBlock, Exit.then]
            refine bodyPost_ret (results_tmp4 rfl _ _ _) rfl ?_
            exact ⟨by rw [Hst.out]; rfl, rfl⟩
          · rw [if_neg (by omega)] at Hst
            go_enter Try.func68, Try.ntmps68
            go_wp2_with fail
            refine (hrd w).mono ?_
            rintro e w' ⟨rfl, rfl⟩
            go_wp2
            try simp only [Exit.inBlock, Exit.then]
            refine bodyPost_ret (results_tmp4 rfl _ _ _) rfl ?_
            exact ⟨by rw [Hst.out]; rfl, rfl⟩
      · rw [if_pos he] at Hst
        have hq : ((rdNum r).2.2 == 0) = false := by rw [beq_eq_false_iff_ne]; exact he
        clear he
        go_enter Try.func68, Try.ntmps68
        go_wp2_with fail
        refine (hrd w).mono ?_
        rintro e w' ⟨rfl, rfl⟩
        go_wp2
        try simp only [Exit.inBlock, Exit.then]
        refine bodyPost_ret (results_tmp4 rfl _ _ _) rfl ?_
        exact ⟨by rw [Hst.out]; rfl, rfl⟩
end Go.Proofs.Ytaobhbfhbmenfaa
