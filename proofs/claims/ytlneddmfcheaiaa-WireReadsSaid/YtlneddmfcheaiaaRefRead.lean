/- What the reference's ReadRun returns. -/
import Derived.Test.YtlneddmfcheaiaaReadRun
import Derived.Test.YtlneddmfcheaiaaRead2
namespace Go.Proofs.Ytlneddmfcheaiaa
open Go.RowKit
set_option maxRecDepth 10000
set_option maxRecDepth 100000 in
set_option maxHeartbeats 4000000 in
theorem ref_ReadRun (s : ByteArray) (hs : s.size ≤ maxLen) (w : World) :
    Calls Try.prog 80 #[.string s] w (ReadsRun w s.data.toList) := by
  obtain ⟨i0, hi, hz0, hz1, hz2⟩ := info_parts info_u8
  have hrd := ref_ReadNumber s hs w
  unfold maxLen at hs
  have hin := rd_in s.data.toList
  by_cases h1 : (rdNum s.data.toList).2.2 = 0
  case neg =>
    have hr := hid (rdRun_err _ h1)
    have hq : ((rdNum s.data.toList).2.2 == 0) = false := by rw [beq_eq_false_iff_ne]; exact h1
    clear h1 hin
    go_enter Try.func80, Try.ntmps80
    go_wp2_with fail
    refine (hrd).mono ?_
    rintro e w' ⟨rfl, rfl⟩
    clear hrd
    go_wp2
    go_ret3
    exact reads_err hr.out (Below.refl _ _)
  by_cases h2 : 64 < (rdNum s.data.toList).1
  · have hr := hid (rdRun_long _ h1 h2)
    have hu := hin.1
    unfold two64 at hu
    clear hin
    rw [h1] at hrd
    go_enter Try.func80, Try.ntmps80
    go_wp2_with fail
    refine (hrd).mono ?_
    rintro e w' ⟨rfl, rfl⟩
    clear hrd
    go_wp2
    go_ret3
    exact reads_err hr.out (Below.refl _ _)
  have hr := hid (rdRun_go _ h1 h2)
  rw [h1] at hrd
  have hk0 : (rdNum s.data.toList).2.1 ≤ s.size := by simpa using hin.2.1
  clear h1 hin
  generalize (rdNum s.data.toList).2.1 = k0 at *
  generalize (rdNum s.data.toList).1 = count at *
  go_enter Try.func80, Try.ntmps80
  go_wp2_with fail
  refine (hrd).mono ?_
  rintro e w' ⟨rfl, rfl⟩
  clear hrd
  go_wp2_with fail
  go_loopw [6, 8] (fun at' v wr => ∃ (k : Nat) (out : List UInt8), at' = .int .i64 k ∧ k ≤ s.size ∧ out.length ≤ count ∧ Hid (rdRun s.data.toList = rr s.data.toList count out k) ∧ wr.ownsRow w.heap.size 5 1 v out.length (out.map byteV) ∧ Below w.heap.size w wr)
    (fun _ v _ => count - slLen v)
  case atStart => exact ⟨k0, [], rfl, hk0, Nat.zero_le _, hr, World.ownsRow_lit w #[] 0 (Nat.le_refl _) (Nat.zero_le _) rfl, (Below.refl _ _).alloc (Nat.le_refl _) _⟩
  case round =>
    clear hr
    obtain ⟨k, out, rfl, hk, hoc, hr, hown, hb⟩ := hrel
    obtain ⟨a, cap, rfl, hIB⟩ := own_bytes hown
    have hwc0 : IntKind.u64.wrap (out.length : Int) = (out.length : Int) := IntWalk.u64_in _ (by omega)
    by_cases hend : count ≤ out.length
    · have Hr := hid (hr.out.trans (rr_end _ _ _ _ hend))
      clear hIB
      go_wp2
      go_ret3
      exact reads_ok Hr.out hown hb
    by_cases hks : k < s.size
    case neg =>
      have Hr := hid (hr.out.trans (rr_short _ _ _ _ hend (List.drop_eq_nil_of_le (by simp; omega))))
      clear hIB
      go_wp2
      go_ret3
      exact reads_err Hr.out hb
    have hd : s.data.toList.drop k = s[k] :: s.data.toList.drop (k + 1) := by
      rw [List.drop_eq_getElem_cons (by simpa using hks)]; rfl
    have Hd := hid hd
    have hexs : (s.extract (k + 1) s.size).size ≤ maxLen := by simp; unfold maxLen; omega
    have hst := ref_ReadNumber (s.extract (k + 1) s.size) hexs wr
    rw [extract_end] at hst
    have hin := rd_in (s.data.toList.drop (k + 1))
    have hrl : (s.data.toList.drop (k + 1)).length = s.size - (k + 1) := by simp
    generalize s.data.toList.drop (k + 1) = r at *
    by_cases hb63 : 63 < s[k].toNat
    · have Hr := hid (hr.out.trans (rr_form _ _ _ _ hend _ _ hd (.inl hb63)))
      clear hin hIB
      clear hd hst
      go_wp2
      go_ret3
      exact reads_err Hr.out hb
    have hb63' : (s[k].toNat : Int) ≤ 63 := by omega
    by_cases ho : out.length = 0
    · have H2 := hid (show ¬ (63 < s[k].toNat ∨ out.getLast? = some s[k]) by
        rw [List.length_eq_zero_iff.1 ho]; simp; omega)
      have hown0 : wr.ownsRow w.heap.size 5 1 (.slice a 0 cap) out.length (out.map byteV) := by
        rw [show Value.slice a 0 cap = .slice a out.length cap by rw [ho]]
        exact hown
      clear hIB
      have Hst := hid hst
      clear hst hd
      go_wp2_with fail
      refine Hst.out.mono ?_
      rintro e w' ⟨rfl, rfl⟩
      clear Hst
      by_cases h4 : (rdNum r).2.2 = 0
      · have hin1 := hin.1
        have hin2 := hin.2.1
        unfold two64 at hin1
        by_cases h5 : (rdNum r).1 = 0 ∨ count - out.length < (rdNum r).1
        · have Hr := hid (hr.out.trans (rr_size _ _ _ _ hend _ _ Hd.out H2.out h4 h5))
          generalize hR : rdNum r = R at *
          obtain ⟨n, m, e⟩ := R
          simp only at h4 h5 hin1 hin2
          subst h4
          have HR := hid hR
          clear hR hin
          by_cases h6 : n = 0
          · subst h6
            clear h5
            go_wp2
            go_ret3
            exact reads_err Hr.out hb
          · have h7 : (count : Int) - (out.length : Int) < (n : Int) := by omega
            have hw7 : IntKind.u64.wrap ((count : Int) - (out.length : Int)) = (count : Int) - (out.length : Int) := IntWalk.u64_in _ (by omega)
            clear h5
            go_wp2
            go_ret3
            exact reads_err Hr.out hb
        · have Hrr := hid (hr.out.trans (rr_on _ _ _ _ hend _ _ Hd.out H2.out h4 h5))
          have hn1 : 1 ≤ (rdNum r).1 := by omega
          have hn2 : out.length + (rdNum r).1 ≤ count := by omega
          clear h5
          generalize hR : rdNum r = R at *
          obtain ⟨n, m, e⟩ := R
          simp only at h4 hn1 hn2 hin1 hin2 Hrr
          subst h4
          have HR := hid hR
          clear hR hin
          have hn3 : n ≤ count := by omega
          clear hin1
          have hn6 : decide (count < n) = false := by simp; omega
          have hn4 : n ≤ count - out.length := by omega
          have hn5 : ¬ (count : Int) - (out.length : Int) < (n : Int) := by omega
          have hq6 : ((n : Int) == 0) = false := by rw [beq_eq_false_iff_ne]; omega
          have hw7 : IntKind.u64.wrap ((count : Int) - (out.length : Int)) = (count : Int) - (out.length : Int) := IntWalk.u64_in _ (by omega)
          go_wp2
          go_loopw [8, 13] (fun v i w2 => ∃ j : Nat, j ≤ n ∧ i = .int .u64 j ∧ w2.ownsRow w.heap.size 5 1 v (out ++ List.replicate j s[k]).length ((out ++ List.replicate j s[k]).map byteV) ∧ Below w.heap.size w w2)
            (fun _ i _ => n - (intOf i).toNat)
          case atStart => exact ⟨0, Nat.zero_le _, rfl, by rw [List.replicate_zero, List.append_nil]; exact hown0, hb⟩
          case round =>
            clear hown hown0 hb
            obtain ⟨j, hj, rfl, hown, hb⟩ := hrel
            have hol : (out ++ List.replicate j s[k]).length = out.length + j := by simp
            generalize hacc : out ++ List.replicate j s[k] = acc at *
            have Hacc := hid hacc
            clear hacc
            by_cases hjn : j < n
            · have hwj : IntKind.u64.wrap ((j : Int) + 1) = (j : Int) + 1 := IntWalk.u64_in _ (by omega)
              go_wp2_with (at_builtin; refine wpList_append_own _ rfl (.tmp 83) (.tmp 85) 24 rfl w.heap.size 5 i0 (.int .u8 0) 1 1 Try.underlying24 hi hz0 hz1 hz2 rfl (by decide) _ _ _ rfl (hown.alloc _) ⟨wr.heap.size, 0, none⟩ 1 1 [.int .u8 (s[k].toNat : Int)] rfl rfl (cell_one_new _ _ _) (by simp [Value.oneCell']) (by unfold maxLen; omega) (by omega) (by have := hb.size; simp; omega) ?_)
              intro v' w1 hown' hgrow _
              have hb1 : Below w.heap.size w w1 := (hb.alloc hb.size _).grown hgrow (by simpa using Nat.le_succ_of_le hb.size) (fun kk e => ((hown.alloc (.cells #[.int .u8 (s[k].toNat : Int)] 5)).lt kk e).1)
              have hown2 := own_snoc2 s[k] (by omega) hown' rfl
              clear hown' hgrow hown
              go_wp2
              go_roundw
              case rel =>
                have hrep : out ++ List.replicate (j + 1) s[k] = acc ++ [s[k]] := by rw [List.replicate_succ', ← List.append_assoc, Hacc.out]
                exact ⟨j + 1, by omega, by go_num, hrep ▸ hown2, hb1⟩
              case measure => simp [intOf]; omega
            · obtain rfl : j = n := by omega
              go_wp2
              go_roundw
              case rel => exact ⟨k + 1 + m, acc, by go_num, by omega, by omega, Hrr.out.trans (by rw [Hacc.out]), hown, hb⟩
              case measure =>
                have hsl := own_len hown
                simp [slLen] at hsl ⊢
                omega
      · have Hr := hid (hr.out.trans (rr_err _ _ _ _ hend _ _ Hd.out H2.out h4))
        generalize hR : rdNum r = R at *
        obtain ⟨n, m, e9⟩ := R
        simp only at h4 Hr
        have HR := hid hR
        have hq9 : (e9 == 0) = false := by rw [beq_eq_false_iff_ne]; exact h4
        clear h4 hin hR
        go_wp2
        go_ret3
        exact reads_err Hr.out hb
    · have hone : out ≠ [] := fun e => ho (by rw [e]; rfl)
      obtain ⟨b, o, rfl, hc⟩ := hIB.at' hone
      have hck : wr.cell? ⟨b, o + (out.length - 1), none⟩ = some (.int .u8 out[out.length - 1].toNat) := hc _ (by omega)
      have hlst : out.getLast? = some out[out.length - 1] := by rw [List.getLast?_eq_getElem?, List.getElem?_eq_getElem]
      have hix : (out.length : Int) - 1 = ((out.length - 1 : Nat) : Int) := by omega
      clear hc hIB
      have hown0 := hown
      have hpos : 0 < out.length := by omega
      by_cases heq : s[k] = out[out.length - 1]
      · have Hr := hid (hr.out.trans (rr_form _ _ _ _ hend _ _ hd (.inr (by rw [hlst, heq]))))
        have hq : ((out[out.length - 1].toNat : Int) == (s[k].toNat : Int)) = true := by rw [beq_iff_eq, heq]
        clear hlst heq hin
        clear hd hst
        go_wp2
        go_ret3
        exact reads_err Hr.out hb
      · have hq : ((out[out.length - 1].toNat : Int) == (s[k].toNat : Int)) = false := by
          rw [beq_eq_false_iff_ne]
          intro h
          exact heq (UInt8.toNat_inj.1 (by omega))
        have H2 := hid (show ¬ (63 < s[k].toNat ∨ out.getLast? = some s[k]) by
          rw [hlst]
          simp
          exact ⟨by omega, fun h => heq h.symm⟩)
        clear hlst heq
        have Hst := hid hst
        clear hst hd
        go_wp2_with fail
        refine Hst.out.mono ?_
        rintro e w' ⟨rfl, rfl⟩
        clear Hst
        by_cases h4 : (rdNum r).2.2 = 0
        · have hin1 := hin.1
          have hin2 := hin.2.1
          unfold two64 at hin1
          by_cases h5 : (rdNum r).1 = 0 ∨ count - out.length < (rdNum r).1
          · have Hr := hid (hr.out.trans (rr_size _ _ _ _ hend _ _ Hd.out H2.out h4 h5))
            generalize hR : rdNum r = R at *
            obtain ⟨n, m, e⟩ := R
            simp only at h4 h5 hin1 hin2
            subst h4
            have HR := hid hR
            clear hR hin
            by_cases h6 : n = 0
            · subst h6
              clear h5
              go_wp2
              go_ret3
              exact reads_err Hr.out hb
            · have h7 : (count : Int) - (out.length : Int) < (n : Int) := by omega
              have hw7 : IntKind.u64.wrap ((count : Int) - (out.length : Int)) = (count : Int) - (out.length : Int) := IntWalk.u64_in _ (by omega)
              clear h5
              go_wp2
              go_ret3
              exact reads_err Hr.out hb
          · have Hrr := hid (hr.out.trans (rr_on _ _ _ _ hend _ _ Hd.out H2.out h4 h5))
            have hn1 : 1 ≤ (rdNum r).1 := by omega
            have hn2 : out.length + (rdNum r).1 ≤ count := by omega
            clear h5
            generalize hR : rdNum r = R at *
            obtain ⟨n, m, e⟩ := R
            simp only at h4 hn1 hn2 hin1 hin2 Hrr
            subst h4
            have HR := hid hR
            clear hR hin
            have hn3 : n ≤ count := by omega
            clear hin1
            have hn6 : decide (count < n) = false := by simp; omega
            have hn4 : n ≤ count - out.length := by omega
            have hn5 : ¬ (count : Int) - (out.length : Int) < (n : Int) := by omega
            have hq6 : ((n : Int) == 0) = false := by rw [beq_eq_false_iff_ne]; omega
            have hw7 : IntKind.u64.wrap ((count : Int) - (out.length : Int)) = (count : Int) - (out.length : Int) := IntWalk.u64_in _ (by omega)
            go_wp2
            go_loopw [8, 13] (fun v i w2 => ∃ j : Nat, j ≤ n ∧ i = .int .u64 j ∧ w2.ownsRow w.heap.size 5 1 v (out ++ List.replicate j s[k]).length ((out ++ List.replicate j s[k]).map byteV) ∧ Below w.heap.size w w2)
              (fun _ i _ => n - (intOf i).toNat)
            case atStart => exact ⟨0, Nat.zero_le _, rfl, by rw [List.replicate_zero, List.append_nil]; exact hown0, hb⟩
            case round =>
              clear hown hown0 hb
              obtain ⟨j, hj, rfl, hown, hb⟩ := hrel
              have hol : (out ++ List.replicate j s[k]).length = out.length + j := by simp
              generalize hacc : out ++ List.replicate j s[k] = acc at *
              have Hacc := hid hacc
              clear hacc
              by_cases hjn : j < n
              · have hwj : IntKind.u64.wrap ((j : Int) + 1) = (j : Int) + 1 := IntWalk.u64_in _ (by omega)
                go_wp2_with (at_builtin; refine wpList_append_own _ rfl (.tmp 83) (.tmp 85) 24 rfl w.heap.size 5 i0 (.int .u8 0) 1 1 Try.underlying24 hi hz0 hz1 hz2 rfl (by decide) _ _ _ rfl (hown.alloc _) ⟨wr.heap.size, 0, none⟩ 1 1 [.int .u8 (s[k].toNat : Int)] rfl rfl (cell_one_new _ _ _) (by simp [Value.oneCell']) (by unfold maxLen; omega) (by omega) (by have := hb.size; simp; omega) ?_)
                intro v' w1 hown' hgrow _
                have hb1 : Below w.heap.size w w1 := (hb.alloc hb.size _).grown hgrow (by simpa using Nat.le_succ_of_le hb.size) (fun kk e => ((hown.alloc (.cells #[.int .u8 (s[k].toNat : Int)] 5)).lt kk e).1)
                have hown2 := own_snoc2 s[k] (by omega) hown' rfl
                clear hown' hgrow hown
                go_wp2
                go_roundw
                case rel =>
                  have hrep : out ++ List.replicate (j + 1) s[k] = acc ++ [s[k]] := by rw [List.replicate_succ', ← List.append_assoc, Hacc.out]
                  exact ⟨j + 1, by omega, by go_num, hrep ▸ hown2, hb1⟩
                case measure => simp [intOf]; omega
              · obtain rfl : j = n := by omega
                go_wp2
                go_roundw
                case rel => exact ⟨k + 1 + m, acc, by go_num, by omega, by omega, Hrr.out.trans (by rw [Hacc.out]), hown, hb⟩
                case measure =>
                  have hsl := own_len hown
                  simp [slLen] at hsl ⊢
                  omega
        · have Hr := hid (hr.out.trans (rr_err _ _ _ _ hend _ _ Hd.out H2.out h4))
          generalize hR : rdNum r = R at *
          obtain ⟨n, m, e9⟩ := R
          simp only at h4 Hr
          have HR := hid hR
          have hq9 : (e9 == 0) = false := by rw [beq_eq_false_iff_ne]; exact h4
          clear h4 hin hR
          go_wp2
          go_ret3
          exact reads_err Hr.out hb
end Go.Proofs.Ytlneddmfcheaiaa
