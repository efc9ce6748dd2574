/- What pack.ReadRun returns. -/
import Derived.Test.YtaobhbfhbmenfaaStM
namespace Go.Proofs.Ytaobhbfhbmenfaa
open Go.RowKit
set_option maxRecDepth 10000
/-- what both ReadRuns return -/
def ReadsRun (w : World) (l : List UInt8) (e : Ending) (w' : World) : Prop :=
  ∃ v, e = .returned (.tuple #[v, .int .i64 ((rdRun l).2.1 : Int), .int .i64 (rdRun l).2.2]) ∧ w'.ownsRow w.heap.size 5 1 v (rdRun l).1.length ((rdRun l).1.map byteV) ∧ Below w.heap.size w w'
theorem reads_err {w w' : World} {l : List UInt8} {e : Int} (h : rdRun l = ([], 0, e)) (hb : Below w.heap.size w w') : ReadsRun w l (.returned (.tuple #[.slice none 0 0, .int .i64 0, .int .i64 e])) w' :=
  ⟨.slice none 0 0, by rw [h]; rfl, by rw [h]; exact World.ownsRow_nil _ _ _ _, hb⟩
theorem reads_ok {w w' : World} {l out : List UInt8} {v : Value} {k : Nat} (h : rdRun l = (out, k, 0)) (ho : w'.ownsRow w.heap.size 5 1 v out.length (out.map byteV)) (hb : Below w.heap.size w w') : ReadsRun w l (.returned (.tuple #[v, .int .i64 (k : Int), .int .i64 0])) w' :=
  ⟨v, by rw [h], by rw [h]; exact ho, hb⟩
set_option maxHeartbeats 1000000 in
theorem pack_ReadRun (s : ByteArray) (hs : s.size ≤ maxLen) (w : World) :
    Calls Try.prog 47 #[.string s] w (ReadsRun w s.data.toList) := by
  obtain ⟨i0, hi, hz0, hz1, hz2⟩ := info_parts info_u8
  have hrd := pack_ReadNumber s hs w
  unfold maxLen at hs
  have hin := rd_in s.data.toList
  by_cases h1 : (rdNum s.data.toList).2.2 = 0
  case neg =>
    have hr := hid (rdRun_err _ h1)
    have hq : ((rdNum s.data.toList).2.2 == 0) = false := by rw [beq_eq_false_iff_ne]; exact h1
    clear h1 hin
    go_enter Try.func47, Try.ntmps47
    go_wp2_with fail
    refine (hrd).mono ?_
    rintro e w' ⟨rfl, rfl⟩
    clear hrd
    go_wp2
    go_ret3
    exact reads_err hr.out (Below.refl _ _)
  by_cases h2 : 64 < (rdNum s.data.toList).1
  · have hr := hid (rdRun_long _ h1 h2)
    have hu := hin.1
    unfold two64 at hu
    clear hin
    rw [h1] at hrd
    go_enter Try.func47, Try.ntmps47
    go_wp2_with fail
    refine (hrd).mono ?_
    rintro e w' ⟨rfl, rfl⟩
    clear hrd
    go_wp2
    go_ret3
    exact reads_err hr.out (Below.refl _ _)
  have hr := hid (rdRun_go _ h1 h2)
  rw [h1] at hrd
  have hk0 : (rdNum s.data.toList).2.1 ≤ s.size := by simpa using hin.2.1
  clear h1 hin
  generalize (rdNum s.data.toList).2.1 = k0 at *
  generalize (rdNum s.data.toList).1 = count at *
  go_enter Try.func47, Try.ntmps47
  go_wp2_with fail
  refine (hrd).mono ?_
  rintro e w' ⟨rfl, rfl⟩
  clear hrd
  go_wp2_with fail
  go_loopw [6, 8] (fun at' v wr => ∃ (k : Nat) (out : List UInt8), at' = .int .i64 k ∧ k ≤ s.size ∧ out.length ≤ count ∧ Hid (rdRun s.data.toList = rr s.data.toList count out k) ∧ wr.ownsRow w.heap.size 5 1 v out.length (out.map byteV) ∧ Below w.heap.size w wr)
    (fun _ v _ => count - slLen v)
  case atStart => exact ⟨k0, [], rfl, hk0, Nat.zero_le _, hr, World.ownsRow_nil _ _ _ _, Below.refl _ _⟩
  case round =>
    clear hr
    obtain ⟨k, out, rfl, hk, hoc, hr, hown, hb⟩ := hrel
    obtain ⟨a, cap, rfl, hIB⟩ := own_bytes hown
    have hwc0 : IntKind.i64.wrap (count : Int) = (count : Int) := IntWalk.i64_in _ (by omega)
    by_cases hend : count ≤ out.length
    · have Hr := hid (hr.out.trans (rr_end _ _ _ _ hend))
      clear hIB
      go_wp2
      go_ret3
      exact reads_ok Hr.out hown hb
    by_cases ho : out.length = 0
    · have Hlast := hid (show ∀ x, (s.data.toList.drop k).head? = some x → out.getLast? ≠ some x from fun x _ h => by
        rw [List.length_eq_zero_iff.1 ho] at h; cases h)
      have hown0 : wr.ownsRow w.heap.size 5 1 (.slice a 0 cap) out.length (out.map byteV) := by
        rw [show Value.slice a 0 cap = .slice a out.length cap by rw [ho]]
        exact hown
      clear hIB
      go_wp2
      go_quiet (fail)
      obtain ⟨left, hleft⟩ : ∃ left, left = count - out.length := ⟨_, rfl⟩
      have hexs : (s.extract k s.size).size ≤ maxLen := by simp; unfold maxLen; omega
      have hst := pack_stretch (s.extract k s.size) hexs left (by omega) (wr.drewN nq)
      rw [extract_end, show (left : Int) = (count : Int) by omega] at hst
      have hcnt : ¬ count ≤ out.length := by omega
      have hwc : IntKind.i64.wrap (count : Int) = (count : Int) := IntWalk.i64_in _ (by omega)
      by_cases he : (st (s.data.toList.drop k) left).2.2.2 = 0
      · obtain ⟨x, n, m, hx, hrr, hn1, hn2, hkm⟩ := st_ok s.data.toList count out k hcnt Hlast.out (hleft ▸ he)
        rw [← hleft] at hx hn2
        rw [hx] at hst
        have Hrr := hid (hr.out.trans hrr)
        have hsl : k + m ≤ s.size := by simpa using hkm
        have Hst := hid hst
        have Hleft := hid hleft
        clear hx hrr he hkm hst hleft
        go_wp2_with fail
        refine Hst.out.mono ?_
        rintro e w' ⟨rfl, rfl⟩
        clear Hst
        go_wp2
        go_loopw [8, 70] (fun v i w2 => ∃ j : Nat, j ≤ n ∧ i = .int .i64 j ∧ w2.ownsRow w.heap.size 5 1 v (out ++ List.replicate j x).length ((out ++ List.replicate j x).map byteV) ∧ Below w.heap.size w w2)
          (fun _ i _ => n - (intOf i).toNat)
        case atStart => exact ⟨0, Nat.zero_le _, rfl, by rw [List.replicate_zero, List.append_nil]; exact hown0, ⟨hb.1, hb.2, hb.3, hb.4, hb.5⟩⟩
        case round =>
          clear hown hown0 hb
          obtain ⟨j, hj, rfl, hown, hb⟩ := hrel
          have hol : (out ++ List.replicate j x).length = out.length + j := by simp
          have hle : out.length + n ≤ count := by have := Hleft.out; omega
          generalize hacc : out ++ List.replicate j x = acc at *
          have Hacc := hid hacc
          clear hacc
          by_cases hjn : j < n
          · go_wp2_with (at_builtin; refine wpList_append_own _ rfl (.tmp 72) (.tmp 74) 35 rfl w.heap.size 5 i0 (.int .u8 0) 1 1 Try.underlying35 hi hz0 hz1 hz2 rfl (by decide) _ _ _ rfl (hown.alloc _) ⟨wr.heap.size, 0, none⟩ 1 1 [.int .u8 (x.toNat : Int)] rfl rfl (cell_one_new _ _ _) (by simp [Value.oneCell']) (by unfold maxLen; omega) (by omega) (by have := hb.size; simp; omega) ?_)
            intro v' w1 hown' hgrow _
            have hb1 : Below w.heap.size w w1 := (hb.alloc hb.size _).grown hgrow (by simpa using Nat.le_succ_of_le hb.size) (fun k e => ((hown.alloc (.cells #[.int .u8 (x.toNat : Int)] 5)).lt k e).1)
            have hown2 := own_snoc2 x (by omega) hown' rfl
            clear hown' hgrow hown
            go_wp2
            go_roundw
            case rel => exact ⟨j + 1, by omega, by go_num, by rw [List.replicate_succ', ← List.append_assoc, Hacc.out]; exact hown2, hb1⟩
            case measure => simp [intOf]; omega
          · obtain rfl : j = n := by omega
            go_wp2
            go_roundw
            case rel => exact ⟨k + m, acc, by go_num, hsl, by omega, Hrr.out.trans (by rw [Hacc.out]), hown, hb⟩
            case measure =>
              have hsl := own_len hown
              have hlf := Hleft.out
              simp [slLen] at hsl ⊢
              omega
      · have hrr := st_err s.data.toList count out k hcnt Hlast.out (hleft ▸ he)
        rw [← hleft] at hrr
        have Hrr := hid (hr.out.trans hrr)
        have hq : ((st (s.data.toList.drop k) left).2.2.2 == 0) = false := by rw [beq_eq_false_iff_ne]; exact he
        have Hst := hid hst
        clear hrr he hst hleft
        go_wp2_with fail
        refine Hst.out.mono ?_
        rintro e w' ⟨rfl, rfl⟩
        clear Hst
        go_wp2
        go_ret3
        exact reads_err Hrr.out ⟨hb.1, hb.2, hb.3, hb.4, hb.5⟩
    · have hone : out ≠ [] := fun e => ho (by rw [e]; rfl)
      obtain ⟨b, o, rfl, hc⟩ := hIB.at' hone
      have hck : wr.cell? ⟨b, o + (out.length - 1), none⟩ = some (.int .u8 out[out.length - 1].toNat) := hc _ (by omega)
      have hlst : out.getLast? = some out[out.length - 1] := by rw [List.getLast?_eq_getElem?, List.getElem?_eq_getElem]
      have hix : (out.length : Int) - 1 = ((out.length - 1 : Nat) : Int) := by omega
      clear hc hIB
      have hown0 := hown
      have hpos : 0 < out.length := by omega
      by_cases hks : k < s.size
      · have hd : s.data.toList.drop k = s[k] :: s.data.toList.drop (k + 1) := by
          rw [List.drop_eq_getElem_cons (by simpa using hks)]; rfl
        by_cases heq : s[k] = out[out.length - 1]
        · have Hr := hid (hr.out.trans (rr_form _ _ _ _ hend _ _ hd (.inr (by rw [hlst, heq]))))
          have hq : ((s[k].toNat : Int) == (out[out.length - 1].toNat : Int)) = true := by rw [beq_iff_eq, heq]
          clear hd hlst heq
          go_wp2
          go_quiet (fail)
          go_wp2
          go_ret3
          exact reads_err Hr.out ⟨hb.1, hb.2, hb.3, hb.4, hb.5⟩
        · have hq : ((s[k].toNat : Int) == (out[out.length - 1].toNat : Int)) = false := by
            rw [beq_eq_false_iff_ne]
            intro h
            exact heq (UInt8.toNat_inj.1 (by omega))
          have Hlast := hid (show ∀ x, (s.data.toList.drop k).head? = some x → out.getLast? ≠ some x from fun x h h2 => by
            rw [hd] at h
            rw [hlst] at h2
            exact heq (by simp at h h2; rw [h, h2]))
          clear hd hlst heq
          go_wp2
          go_quiet (fail)
          obtain ⟨left, hleft⟩ : ∃ left, left = count - out.length := ⟨_, rfl⟩
          have hexs : (s.extract k s.size).size ≤ maxLen := by simp; unfold maxLen; omega
          have hst := pack_stretch (s.extract k s.size) hexs left (by omega) (wr.drewN nq)
          rw [extract_end, show (left : Int) = (count : Int) - (out.length : Int) by omega] at hst
          have hcnt : ¬ count ≤ out.length := by omega
          have hwc : IntKind.i64.wrap (count : Int) = (count : Int) := IntWalk.i64_in _ (by omega)
          by_cases he : (st (s.data.toList.drop k) left).2.2.2 = 0
          · obtain ⟨x, n, m, hx, hrr, hn1, hn2, hkm⟩ := st_ok s.data.toList count out k hcnt Hlast.out (hleft ▸ he)
            rw [← hleft] at hx hn2
            rw [hx] at hst
            have Hrr := hid (hr.out.trans hrr)
            have hsl : k + m ≤ s.size := by simpa using hkm
            have Hst := hid hst
            have Hleft := hid hleft
            clear hx hrr he hkm hst hleft
            go_wp2_with fail
            refine Hst.out.mono ?_
            rintro e w' ⟨rfl, rfl⟩
            clear Hst
            go_wp2
            go_loopw [8, 70] (fun v i w2 => ∃ j : Nat, j ≤ n ∧ i = .int .i64 j ∧ w2.ownsRow w.heap.size 5 1 v (out ++ List.replicate j x).length ((out ++ List.replicate j x).map byteV) ∧ Below w.heap.size w w2)
              (fun _ i _ => n - (intOf i).toNat)
            case atStart => exact ⟨0, Nat.zero_le _, rfl, by rw [List.replicate_zero, List.append_nil]; exact hown0, ⟨hb.1, hb.2, hb.3, hb.4, hb.5⟩⟩
            case round =>
              clear hown hown0 hb
              obtain ⟨j, hj, rfl, hown, hb⟩ := hrel
              have hol : (out ++ List.replicate j x).length = out.length + j := by simp
              have hle : out.length + n ≤ count := by have := Hleft.out; omega
              generalize hacc : out ++ List.replicate j x = acc at *
              have Hacc := hid hacc
              clear hacc
              by_cases hjn : j < n
              · go_wp2_with (at_builtin; refine wpList_append_own _ rfl (.tmp 72) (.tmp 74) 35 rfl w.heap.size 5 i0 (.int .u8 0) 1 1 Try.underlying35 hi hz0 hz1 hz2 rfl (by decide) _ _ _ rfl (hown.alloc _) ⟨wr.heap.size, 0, none⟩ 1 1 [.int .u8 (x.toNat : Int)] rfl rfl (cell_one_new _ _ _) (by simp [Value.oneCell']) (by unfold maxLen; omega) (by omega) (by have := hb.size; simp; omega) ?_)
                intro v' w1 hown' hgrow _
                have hb1 : Below w.heap.size w w1 := (hb.alloc hb.size _).grown hgrow (by simpa using Nat.le_succ_of_le hb.size) (fun k e => ((hown.alloc (.cells #[.int .u8 (x.toNat : Int)] 5)).lt k e).1)
                have hown2 := own_snoc2 x (by omega) hown' rfl
                clear hown' hgrow hown
                go_wp2
                go_roundw
                case rel => exact ⟨j + 1, by omega, by go_num, by rw [List.replicate_succ', ← List.append_assoc, Hacc.out]; exact hown2, hb1⟩
                case measure => simp [intOf]; omega
              · obtain rfl : j = n := by omega
                go_wp2
                go_roundw
                case rel => exact ⟨k + m, acc, by go_num, hsl, by omega, Hrr.out.trans (by rw [Hacc.out]), hown, hb⟩
                case measure =>
                  have hsl := own_len hown
                  have hlf := Hleft.out
                  simp [slLen] at hsl ⊢
                  omega
          · have hrr := st_err s.data.toList count out k hcnt Hlast.out (hleft ▸ he)
            rw [← hleft] at hrr
            have Hrr := hid (hr.out.trans hrr)
            have hq : ((st (s.data.toList.drop k) left).2.2.2 == 0) = false := by rw [beq_eq_false_iff_ne]; exact he
            have Hst := hid hst
            clear hrr he hst hleft
            go_wp2_with fail
            refine Hst.out.mono ?_
            rintro e w' ⟨rfl, rfl⟩
            clear Hst
            go_wp2
            go_ret3
            exact reads_err Hrr.out ⟨hb.1, hb.2, hb.3, hb.4, hb.5⟩
      · have Hlast := hid (show ∀ x, (s.data.toList.drop k).head? = some x → out.getLast? ≠ some x from fun x h => by
          rw [List.drop_eq_nil_of_le (by simp; omega)] at h
          cases h)
        clear hlst
        go_wp2
        go_quiet (fail)
        obtain ⟨left, hleft⟩ : ∃ left, left = count - out.length := ⟨_, rfl⟩
        have hexs : (s.extract k s.size).size ≤ maxLen := by simp; unfold maxLen; omega
        have hst := pack_stretch (s.extract k s.size) hexs left (by omega) (wr.drewN nq)
        rw [extract_end, show (left : Int) = (count : Int) - (out.length : Int) by omega] at hst
        have hcnt : ¬ count ≤ out.length := by omega
        have hwc : IntKind.i64.wrap (count : Int) = (count : Int) := IntWalk.i64_in _ (by omega)
        by_cases he : (st (s.data.toList.drop k) left).2.2.2 = 0
        · obtain ⟨x, n, m, hx, hrr, hn1, hn2, hkm⟩ := st_ok s.data.toList count out k hcnt Hlast.out (hleft ▸ he)
          rw [← hleft] at hx hn2
          rw [hx] at hst
          have Hrr := hid (hr.out.trans hrr)
          have hsl : k + m ≤ s.size := by simpa using hkm
          have Hst := hid hst
          have Hleft := hid hleft
          clear hx hrr he hkm hst hleft
          go_wp2_with fail
          refine Hst.out.mono ?_
          rintro e w' ⟨rfl, rfl⟩
          clear Hst
          go_wp2
          go_loopw [8, 70] (fun v i w2 => ∃ j : Nat, j ≤ n ∧ i = .int .i64 j ∧ w2.ownsRow w.heap.size 5 1 v (out ++ List.replicate j x).length ((out ++ List.replicate j x).map byteV) ∧ Below w.heap.size w w2)
            (fun _ i _ => n - (intOf i).toNat)
          case atStart => exact ⟨0, Nat.zero_le _, rfl, by rw [List.replicate_zero, List.append_nil]; exact hown0, ⟨hb.1, hb.2, hb.3, hb.4, hb.5⟩⟩
          case round =>
            clear hown hown0 hb
            obtain ⟨j, hj, rfl, hown, hb⟩ := hrel
            have hol : (out ++ List.replicate j x).length = out.length + j := by simp
            have hle : out.length + n ≤ count := by have := Hleft.out; omega
            generalize hacc : out ++ List.replicate j x = acc at *
            have Hacc := hid hacc
            clear hacc
            by_cases hjn : j < n
            · go_wp2_with (at_builtin; refine wpList_append_own _ rfl (.tmp 72) (.tmp 74) 35 rfl w.heap.size 5 i0 (.int .u8 0) 1 1 Try.underlying35 hi hz0 hz1 hz2 rfl (by decide) _ _ _ rfl (hown.alloc _) ⟨wr.heap.size, 0, none⟩ 1 1 [.int .u8 (x.toNat : Int)] rfl rfl (cell_one_new _ _ _) (by simp [Value.oneCell']) (by unfold maxLen; omega) (by omega) (by have := hb.size; simp; omega) ?_)
              intro v' w1 hown' hgrow _
              have hb1 : Below w.heap.size w w1 := (hb.alloc hb.size _).grown hgrow (by simpa using Nat.le_succ_of_le hb.size) (fun k e => ((hown.alloc (.cells #[.int .u8 (x.toNat : Int)] 5)).lt k e).1)
              have hown2 := own_snoc2 x (by omega) hown' rfl
              clear hown' hgrow hown
              go_wp2
              go_roundw
              case rel => exact ⟨j + 1, by omega, by go_num, by rw [List.replicate_succ', ← List.append_assoc, Hacc.out]; exact hown2, hb1⟩
              case measure => simp [intOf]; omega
            · obtain rfl : j = n := by omega
              go_wp2
              go_roundw
              case rel => exact ⟨k + m, acc, by go_num, hsl, by omega, Hrr.out.trans (by rw [Hacc.out]), hown, hb⟩
              case measure =>
                have hsl := own_len hown
                have hlf := Hleft.out
                simp [slLen] at hsl ⊢
                omega
        · have hrr := st_err s.data.toList count out k hcnt Hlast.out (hleft ▸ he)
          rw [← hleft] at hrr
          have Hrr := hid (hr.out.trans hrr)
          have hq : ((st (s.data.toList.drop k) left).2.2.2 == 0) = false := by rw [beq_eq_false_iff_ne]; exact he
          have Hst := hid hst
          clear hrr he hst hleft
          go_wp2_with fail
          refine Hst.out.mono ?_
          rintro e w' ⟨rfl, rfl⟩
          clear Hst
          go_wp2
          go_ret3
          exact reads_err Hrr.out ⟨hb.1, hb.2, hb.3, hb.4, hb.5⟩
end Go.Proofs.Ytaobhbfhbmenfaa
