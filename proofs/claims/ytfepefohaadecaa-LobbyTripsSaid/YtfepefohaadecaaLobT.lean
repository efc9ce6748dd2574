/- The law LobbyTrips. -/
import Derived.Test.YtfepefohaadecaaSteady2
namespace Go.Proofs.Ytfepefohaadecaa
open Go.RowKit
variable {w : World}
theorem lob_At_p {a : Option Addr} {cap : Nat} {L : List Int} (p : Int) (hp : ¬ (1 ≤ p ∧ p ≤ 100)) :
    Calls Try.prog 23 #[.slice a L.length cap, .int .i64 p] w fun e w' => e = .returned (.tuple #[.int .i64 0, .int .i64 1]) ∧ Below w.heap.size w w' := by
  have hq : (decide (1 ≤ p) && decide (p ≤ 100)) = false := by
    rw [Bool.eq_false_iff]
    intro h
    rw [Bool.and_eq_true, decide_eq_true_eq, decide_eq_true_eq] at h
    exact hp h
  have hW := lob_within p 1 100 w
  rw [hq] at hW
  have HW := hid hW
  clear hp hq hW
  go_enter Try.func23, Try.ntmps23
  go_wp2_with fail
  refine (HW.out).mono ?_
  rintro e w' ⟨rfl, rfl⟩
  go_wp2_with fail
  go_ret2
  exact ⟨rfl, Below.refl _ w⟩
theorem lob_At_bad {a : Option Addr} {cap : Nat} {L : List Int} (hv : Vals w 1 a L.length cap (intsL L)) (p : Int) (hp : 1 ≤ p ∧ p ≤ 100) (ht : tripsB L = false) :
    Calls Try.prog 23 #[.slice a L.length cap, .int .i64 p] w fun e w' => e = .returned (.tuple #[.int .i64 0, .int .i64 1]) ∧ Below w.heap.size w w' := by
  have hW := lob_within p 1 100 w
  rw [show (decide (1 ≤ p) && decide (p ≤ 100)) = true by simp [hp]] at hW
  have hX := lob_wrong hv
  rw [ht] at hX
  have HW := hid hW
  have HX := hid hX
  clear hp hW hX ht
  go_enter Try.func23, Try.ntmps23
  go_wp2_with fail
  refine (HW.out).mono ?_
  rintro e w' ⟨rfl, rfl⟩
  go_wp2_with fail
  refine HX.out.mono ?_
  rintro e w1 ⟨rfl, q, rfl⟩
  go_wp2_with fail
  go_ret2
  exact ⟨rfl, below_dr w q⟩
theorem lob_At_ok {a : Option Addr} {cap : Nat} {L : List Int} (hv : Vals w 1 a L.length cap (intsL L)) (p : Int) (hp : 1 ≤ p ∧ p ≤ 100) (ht : tripsB L = true) (hmax : L.length ≤ 4096) :
    Calls Try.prog 23 #[.slice a L.length cap, .int .i64 p] w fun e w' => e = .returned (.tuple #[.int .i64 (if L.length = 0 then 0 else atV L p), .int .i64 (if L.length = 0 then 6 else 0)]) ∧ Below w.heap.size w w' := by
  have hW := lob_within p 1 100 w
  rw [show (decide (1 ≤ p) && decide (p ≤ 100)) = true by simp [hp]] at hW
  have hX := lob_wrong hv
  rw [ht] at hX
  have HW := hid hW
  have HX := hid hX
  rcases Nat.eq_zero_or_pos L.length with h0 | h0
  · rw [if_pos h0, if_pos h0]
    rw [h0] at HX ⊢
    clear hW hX ht h0
    go_enter Try.func23, Try.ntmps23
    go_wp2_with fail
    refine (HW.out).mono ?_
    rintro e w' ⟨rfl, rfl⟩
    go_wp2_with fail
    refine HX.out.mono ?_
    rintro e w1 ⟨rfl, q, rfl⟩
    go_wp2_with fail
    go_ret2
    exact ⟨rfl, below_dr w q⟩
  · rw [if_neg (by omega), if_neg (by omega)]
    have hne := pos_ne _ h0
    have H0 := hid h0
    have Hm := hid hmax
    have Hp := hid hp
    clear hW hX ht h0 hmax hp
    go_enter Try.func23, Try.ntmps23
    go_wp2_with fail
    refine (HW.out).mono ?_
    rintro e w' ⟨rfl, rfl⟩
    go_wp2_with fail
    refine HX.out.mono ?_
    rintro e w1 ⟨rfl, q, rfl⟩
    have hv1 := hv.keeps ((Keeps.refl (fun _ => False) w).drewN q) (fun _ _ _ => id)
    go_wp2_with fail
    refine (lob_at hv1 p Hp.out H0.out Hm.out).mono ?_
    rintro e w2 ⟨rfl, hb2⟩
    go_wp2_with fail
    go_ret2
    exact ⟨rfl, (below_dr w q).trans hb2⟩
set_option maxRecDepth 100000 in
set_option maxHeartbeats 1600000 in
theorem law_LobbyTrips {a : Option Addr} {cap : Nat} {L : List Int} (hv : Vals w 1 a L.length cap (intsL L)) (p : Int) :
    Calls Try.prog 7 #[.slice a L.length cap, .int .i64 p] w fun e w' => e = .returned (.bool true) ∧ Below w.heap.size w w' := by
  have hm := Nat.le_trans hv.2.1 hv.2.2.1
  unfold maxLen at hm
  by_cases h60 : 60 < L.length
  · go_enter Try.func7, Try.ntmps7
    go_wp2_with fail
    refine (awake35 w).mono ?_
    rintro e w1 ⟨rfl, hb1⟩
    go_wp2_with fail
    go_ret
    exact ⟨rfl, hb1⟩
  have h60' : L.length ≤ 60 := by omega
  have hvb : ∀ W, Below w.heap.size w W → Vals W 1 a L.length cap (intsL L) := fun W hb => hv.below hb (fun hn x hx => hv.lt (by omega) hn hx)
  have hmx : L.length ≤ 4096 := by omega
  have HD := hid (fun W hb => lob_Delay (w := W) (hvb W hb) hmx)
  have HWn := hid (fun W hb => lob_Window (w := W) (hvb W hb) hmx)
  have HS := hid (fun W hb => law_steady (w := W) (hvb W hb) hmx)
  have HT := hid (fun W hb => ref_Trips (w := W) (hvb W hb))
  have HRD := hid (fun W hb ht => ref_Delay (w := W) (hvb W hb) ht hmx)
  have HRW := hid (fun W hb ht => ref_Window (w := W) (hvb W hb) ht hmx)
  have HAb := hid (fun W hb hp ht => lob_At_bad (w := W) (hvb W hb) p hp ht)
  have HAo := hid (fun W hb hp ht => lob_At_ok (w := W) (hvb W hb) p hp ht hmx)
  have HRA := hid (fun W hb hp => ref_At (w := W) (hvb W hb) p hp hmx)
  have hAA := fun (hp : 1 ≤ p ∧ p ≤ 100) (ht : tripsB L = true) (h0 : 0 < L.length) => refAt_atV L p hp ht h0
  have HAA := hid hAA
  clear hvb hv hAA hmx
  cases ht : tripsB L with
  | false =>
    have HA : Hid (∀ W, Below w.heap.size w W → Calls Try.prog 23 #[.slice a L.length cap, .int .i64 p] W fun e w' => e = .returned (.tuple #[.int .i64 0, .int .i64 1]) ∧ Below W.heap.size W w') := by
      intro W hb
      by_cases hp : 1 ≤ p ∧ p ≤ 100
      · exact HAb.out W hb hp ht
      · exact lob_At_p p hp
    rw [ht] at HD HWn HT
    simp only [Bool.false_eq_true, if_false] at HD HWn
    clear ht HRD HRW HAb HAo HRA HAA h60
    go_enter Try.func7, Try.ntmps7
    go_wp2_with fail
    refine (awake35 w).mono ?_
    rintro e w1 ⟨rfl, hb1⟩
    go_wp2_with fail
    refine (HA.out _ hb1).mono ?_
    rintro e w2 ⟨rfl, hb2⟩
    have hb2 := bnext hb1 hb2
    go_wp2_with fail
    refine (HD.out _ hb2).mono ?_
    rintro e w3 ⟨rfl, hb3⟩
    have hb3 := bnext hb2 hb3
    go_wp2_with fail
    refine (HWn.out _ hb3).mono ?_
    rintro e w4 ⟨rfl, hb4⟩
    have hb4 := bnext hb3 hb4
    go_wp2_with fail
    refine (HS.out _ hb4).mono ?_
    rintro e w5 ⟨rfl, hb5⟩
    have hb5 := bnext hb4 hb5
    go_wp2_with fail
    refine (HT.out _ hb5).mono ?_
    rintro e w6 ⟨rfl, rfl⟩
    go_wp2_with fail
    go_ret
    exact ⟨rfl, hb5⟩
  | true =>
    have HRD2 := hid (fun W hb => HRD.out W hb ht)
    have HRW2 := hid (fun W hb => HRW.out W hb ht)
    rw [ht] at HD HWn HT
    simp only [if_true] at HD HWn
    by_cases hp : 1 ≤ p ∧ p ≤ 100
    · have HA := hid (fun W hb => HAo.out W hb hp ht)
      have HRA2 := hid (fun W hb => HRA.out W hb hp)
      rcases Nat.eq_zero_or_pos L.length with h0 | h0
      · have HA2 := HA.out
        simp only [if_pos h0] at HA2
        have HA3 := hid HA2
        have h0i : ((L.length : Int) == 0) = true := by simp [h0]
        obtain ⟨hp1, hp2⟩ := hp
        clear ht HRD HRW HAb HAo HRA HRA2 HAA HA HA2 h60 h0
        generalize delayV L = d1 at *
        generalize windowV L = d2 at *
        go_enter Try.func7, Try.ntmps7
        go_wp2_with fail
        refine (awake35 w).mono ?_
        rintro e w1 ⟨rfl, hb1⟩
        go_wp2_with fail
        refine (HA3.out _ hb1).mono ?_
        rintro e w2 ⟨rfl, hb2⟩
        have hb2 := bnext hb1 hb2
        go_wp2_with fail
        refine (HD.out _ hb2).mono ?_
        rintro e w3 ⟨rfl, hb3⟩
        have hb3 := bnext hb2 hb3
        go_wp2_with fail
        refine (HWn.out _ hb3).mono ?_
        rintro e w4 ⟨rfl, hb4⟩
        have hb4 := bnext hb3 hb4
        go_wp2_with fail
        refine (HS.out _ hb4).mono ?_
        rintro e w5 ⟨rfl, hb5⟩
        have hb5 := bnext hb4 hb5
        go_wp2_with fail
        refine (HT.out _ hb5).mono ?_
        rintro e w6 ⟨rfl, rfl⟩
        go_wp2_with fail
        refine (HRD2.out _ hb5).mono ?_
        rintro e w7 ⟨rfl, rfl⟩
        go_wp2_with fail
        refine (HRW2.out _ hb5).mono ?_
        rintro e w7 ⟨rfl, rfl⟩
        go_wp2_with fail
        go_ret
        exact ⟨rfl, hb5⟩
      · have HA2 := HA.out
        simp only [if_neg (show ¬ L.length = 0 by omega)] at HA2
        have HA3 := hid HA2
        have h0i := pos_ne _ h0
        have hq := HAA.out hp ht h0
        rw [hq] at HRA2
        obtain ⟨hp1, hp2⟩ := hp
        clear ht HRD HRW HAb HAo HRA HAA HA HA2 h60 h0 hq
        generalize delayV L = d1 at *
        generalize windowV L = d2 at *
        generalize atV L p = d3 at *
        go_enter Try.func7, Try.ntmps7
        go_wp2_with fail
        refine (awake35 w).mono ?_
        rintro e w1 ⟨rfl, hb1⟩
        go_wp2_with fail
        refine (HA3.out _ hb1).mono ?_
        rintro e w2 ⟨rfl, hb2⟩
        have hb2 := bnext hb1 hb2
        go_wp2_with fail
        refine (HD.out _ hb2).mono ?_
        rintro e w3 ⟨rfl, hb3⟩
        have hb3 := bnext hb2 hb3
        go_wp2_with fail
        refine (HWn.out _ hb3).mono ?_
        rintro e w4 ⟨rfl, hb4⟩
        have hb4 := bnext hb3 hb4
        go_wp2_with fail
        refine (HS.out _ hb4).mono ?_
        rintro e w5 ⟨rfl, hb5⟩
        have hb5 := bnext hb4 hb5
        go_wp2_with fail
        refine (HT.out _ hb5).mono ?_
        rintro e w6 ⟨rfl, rfl⟩
        go_wp2_with fail
        refine (HRD2.out _ hb5).mono ?_
        rintro e w7 ⟨rfl, rfl⟩
        go_wp2_with fail
        refine (HRW2.out _ hb5).mono ?_
        rintro e w7 ⟨rfl, rfl⟩
        go_wp2_with fail
        refine (HRA2.out _ hb5).mono ?_
        rintro e w7 ⟨rfl, rfl⟩
        go_wp2_with fail
        go_ret
        exact ⟨rfl, hb5⟩
    · have HA : Hid (∀ W, Below w.heap.size w W → Calls Try.prog 23 #[.slice a L.length cap, .int .i64 p] W fun e w' => e = .returned (.tuple #[.int .i64 0, .int .i64 1]) ∧ Below W.heap.size W w') := fun W hb => lob_At_p p hp
      have hpp : p < 1 ∨ 100 < p := by omega
      clear ht HRD HRW HAb HAo HRA HAA h60 hp
      generalize delayV L = d1 at *
      generalize windowV L = d2 at *
      rcases hpp with hp | hp
      · go_enter Try.func7, Try.ntmps7
        go_wp2_with fail
        refine (awake35 w).mono ?_
        rintro e w1 ⟨rfl, hb1⟩
        go_wp2_with fail
        refine (HA.out _ hb1).mono ?_
        rintro e w2 ⟨rfl, hb2⟩
        have hb2 := bnext hb1 hb2
        go_wp2_with fail
        refine (HD.out _ hb2).mono ?_
        rintro e w3 ⟨rfl, hb3⟩
        have hb3 := bnext hb2 hb3
        go_wp2_with fail
        refine (HWn.out _ hb3).mono ?_
        rintro e w4 ⟨rfl, hb4⟩
        have hb4 := bnext hb3 hb4
        go_wp2_with fail
        refine (HS.out _ hb4).mono ?_
        rintro e w5 ⟨rfl, hb5⟩
        have hb5 := bnext hb4 hb5
        go_wp2_with fail
        refine (HT.out _ hb5).mono ?_
        rintro e w6 ⟨rfl, rfl⟩
        go_wp2_with fail
        refine (HRD2.out _ hb5).mono ?_
        rintro e w7 ⟨rfl, rfl⟩
        go_wp2_with fail
        refine (HRW2.out _ hb5).mono ?_
        rintro e w7 ⟨rfl, rfl⟩
        go_wp2_with fail
        go_ret
        exact ⟨rfl, hb5⟩
      · go_enter Try.func7, Try.ntmps7
        go_wp2_with fail
        refine (awake35 w).mono ?_
        rintro e w1 ⟨rfl, hb1⟩
        go_wp2_with fail
        refine (HA.out _ hb1).mono ?_
        rintro e w2 ⟨rfl, hb2⟩
        have hb2 := bnext hb1 hb2
        go_wp2_with fail
        refine (HD.out _ hb2).mono ?_
        rintro e w3 ⟨rfl, hb3⟩
        have hb3 := bnext hb2 hb3
        go_wp2_with fail
        refine (HWn.out _ hb3).mono ?_
        rintro e w4 ⟨rfl, hb4⟩
        have hb4 := bnext hb3 hb4
        go_wp2_with fail
        refine (HS.out _ hb4).mono ?_
        rintro e w5 ⟨rfl, hb5⟩
        have hb5 := bnext hb4 hb5
        go_wp2_with fail
        refine (HT.out _ hb5).mono ?_
        rintro e w6 ⟨rfl, rfl⟩
        go_wp2_with fail
        refine (HRD2.out _ hb5).mono ?_
        rintro e w7 ⟨rfl, rfl⟩
        go_wp2_with fail
        refine (HRW2.out _ hb5).mono ?_
        rintro e w7 ⟨rfl, rfl⟩
        go_wp2_with fail
        go_ret
        exact ⟨rfl, hb5⟩
end Go.Proofs.Ytfepefohaadecaa
