/- The reference's trip at a part, by counting; its delay and window. -/
import Derived.Test.YtfepefohaadecaaRefLob
namespace Go.Proofs.Ytfepefohaadecaa
open Go.RowKit
variable {w : World}
theorem mem_succ (L : List Int) (k : Int) (j : Nat) (h : j < L.length) : decide (k ∈ L.take (j + 1)) = (decide (k ∈ L.take j) || (L[j] == k)) := by
  rw [List.take_succ_eq_append_getElem h, Bool.eq_iff_iff]
  simp only [List.mem_append, List.mem_singleton, decide_eq_true_eq, Bool.or_eq_true, beq_iff_eq]
  exact or_congr_right eq_comm
theorem cnt_succ (L : List Int) (k : Int) (j : Nat) (h : j < L.length) : cntL (L.take (j + 1)) k = cntL (L.take j) k + if L[j] ≤ k then 1 else 0 := by
  rw [List.take_succ_eq_append_getElem h, cntL_append]
  congr 1
  unfold cntL
  rw [List.countP_cons, List.countP_nil]
  by_cases h : L[j] ≤ k <;> simp [h]
theorem refAtF_hit (L : List Int) (p : Int) (f : Nat) (k : Int) (h1 : k ∈ L) (h2 : p * L.length ≤ 100 * (cntL L k : Int)) : refAtF L p (f + 1) k = k := by
  unfold refAtF; rw [if_pos ⟨h1, h2⟩]
theorem refAtF_miss (L : List Int) (p : Int) (f : Nat) (k : Int) (h : ¬ (k ∈ L ∧ p * L.length ≤ 100 * (cntL L k : Int))) : refAtF L p (f + 1) k = refAtF L p f (k + 1) := by
  rw [refAtF, if_neg h]
set_option maxRecDepth 10000 in
set_option maxHeartbeats 1600000 in
theorem ref_At {a : Option Addr} {cap : Nat} {L : List Int} (hv : Vals w 1 a L.length cap (intsL L)) (p : Int) (hp : 1 ≤ p ∧ p ≤ 100) (hmax : L.length ≤ 4096) :
    Calls Try.prog 27 #[.slice a L.length cap, .int .i64 p] w fun e w' => e = .returned (.int .i64 (refAtL L p)) ∧ w = w' := by
  have hm1 : p * (L.length : Int) ≤ 100 * (L.length : Int) := Int.mul_le_mul_of_nonneg_right hp.2 (by omega)
  have hm2 : 0 ≤ p * (L.length : Int) := Int.mul_nonneg (by omega) (by omega)
  have hm3 : p * (L.length : Int) ≤ 409600 := by omega
  obtain ⟨rv, hrv⟩ : ∃ rv, refAtL L p = rv := ⟨_, rfl⟩
  have Hrv : Hid (refAtF L p 1001 0 = rv) := hrv
  rw [hrv]
  clear hrv hm1
  go_enter Try.func27, Try.ntmps27
  go_wp2_with fail
  go_loop [5] (fun i => ∃ k : Nat, k ≤ 1001 ∧ i = .int .i64 k ∧ Hid (refAtF L p (1001 - k) k = rv)) (fun i => 1001 - (intOf i).toNat)
  case atStart => exact ⟨0, by omega, rfl, Hrv⟩
  case round =>
    obtain ⟨k, hk, rfl, hrest⟩ := hrel
    by_cases hlt : k < 1001
    · obtain ⟨f, hf⟩ : ∃ f, 1001 - k = f + 1 := ⟨1000 - k, by omega⟩
      have hf2 : 1001 - (k + 1) = f := by omega
      have hh := hrest.out
      rw [hf] at hh
      have Hhit := hid (fun (h1 : (k : Int) ∈ L) (h2 : p * L.length ≤ 100 * (cntL L k : Int)) => (refAtF_hit L p f k h1 h2).symm.trans hh)
      have Hmis := hid (fun (h : ¬ ((k : Int) ∈ L ∧ p * L.length ≤ 100 * (cntL L k : Int))) => (show refAtF L p (1001 - (k + 1)) ((k + 1 : Nat) : Int) = rv by rw [hf2]; exact (refAtF_miss L p f k h).symm.trans hh))
      clear hh hf hf2 hrest
      go_wp2_with fail
      go_loop [6, 7, 8] (fun h s i => ∃ (j c : Nat) (bb : Bool), j ≤ L.length ∧ i = .int .i64 j ∧ h = .int .i64 c ∧ s = .bool bb ∧ c ≤ j ∧ Hid (c = cntL (L.take j) k) ∧ Hid (bb = decide ((k : Int) ∈ L.take j))) (fun _ _ i => L.length - (intOf i).toNat)
      case atStart => exact ⟨0, 0, false, Nat.zero_le _, rfl, rfl, rfl, Nat.le_refl _, rfl, by simp [Hid]⟩
      case round =>
        obtain ⟨j, c, bb, hj, rfl, rfl, rfl, hcj, hc, hbb⟩ := hrel
        by_cases hjl : j < L.length
        · obtain ⟨b, o, rfl, hcc⟩ := hv.at' (by omega)
          have hck : w.cell? ⟨b, o + j, none⟩ = some (.int .i64 L[j]) := hcc j _ (intsL_get L j hjl)
          have h1 := hid (mem_succ L k j hjl)
          have h2 := hid (cnt_succ L k j hjl)
          have h3 := hid (hbb.out ▸ h1.out : decide ((k : Int) ∈ L.take (j + 1)) = (bb || (L[j] == (k : Int))))
          have h4 := hid (hc.out ▸ h2.out : cntL (L.take (j + 1)) k = c + if L[j] ≤ (k : Int) then 1 else 0)
          clear hcc h1 h2 hc hbb
          generalize L[j] = x at *
          by_cases hx : x ≤ (k : Int)
          · have h5 := h4.out
            rw [if_pos hx] at h5
            have H5 := hid h5
            clear h5 h4
            cases bb with
            | true =>
              have H3 := hid (h3.out.trans (Bool.true_or _))
              clear h3
              go_wp2_with fail
              go_round
              case rel => exact ⟨j + 1, c + 1, true, by omega, by go_num, by go_num, rfl, by omega, H5.out.symm, H3.out.symm⟩
              case measure => simp [intOf]; omega
            | false =>
              have H3 := hid (h3.out.trans (Bool.false_or _))
              clear h3
              go_wp2_with fail
              go_round
              case rel => exact ⟨j + 1, c + 1, _, by omega, by go_num, by go_num, rfl, by omega, H5.out.symm, H3.out.symm⟩
              case measure => simp [intOf]; omega
          · have h5 := h4.out
            rw [if_neg hx] at h5
            have H5 := hid h5
            clear h5 h4
            cases bb with
            | true =>
              have H3 := hid (h3.out.trans (Bool.true_or _))
              clear h3
              go_wp2_with fail
              go_round
              case rel => exact ⟨j + 1, c, true, by omega, by go_num, by go_num, rfl, by omega, H5.out.symm, H3.out.symm⟩
              case measure => simp [intOf]; omega
            | false =>
              have H3 := hid (h3.out.trans (Bool.false_or _))
              clear h3
              go_wp2_with fail
              go_round
              case rel => exact ⟨j + 1, c, _, by omega, by go_num, by go_num, rfl, by omega, H5.out.symm, H3.out.symm⟩
              case measure => simp [intOf]; omega
        · obtain rfl : j = L.length := by omega
          have hc2 := hc.out
          have hb2 := hbb.out
          rw [List.take_length] at hc2 hb2
          have Hc := hid hc2
          have Hb := hid hb2
          clear hc2 hb2 hc hbb
          cases bb with
          | false =>
            have Hmiss := hid (Hmis.out (fun h => by have := Hb.out; rw [eq_comm, decide_eq_false_iff_not] at this; exact this h.1))
            clear Hmis Hhit
            go_wp2_with fail
            go_round
            case rel => exact ⟨k + 1, by omega, by go_num, Hmiss⟩
            case measure => simp [intOf]; omega
          | true =>
            by_cases hge : p * (L.length : Int) ≤ 100 * (c : Int)
            · have hfin := Hhit.out (by have := Hb.out; rw [eq_comm, decide_eq_true_eq] at this; exact this) (by rw [← Hc.out]; exact hge)
              have Hfin := hid hfin
              clear hfin Hhit Hmis
              go_wp2_with fail
              go_ret
              exact ⟨ret_int Hfin.out, rfl⟩
            · have Hmiss := hid (Hmis.out (fun h => hge (by rw [Hc.out]; exact h.2)))
              clear Hmis Hhit
              go_wp2_with fail
              go_round
              case rel => exact ⟨k + 1, by omega, by go_num, Hmiss⟩
              case measure => simp [intOf]; omega
    · obtain rfl : k = 1001 := by omega
      have hz := hrest.out
      have hz : (0 : Int) = rv := hz
      subst hz
      go_wp2_with fail
      go_ret
      exact ⟨rfl, rfl⟩
theorem ref_Delay {a : Option Addr} {cap : Nat} {L : List Int} (hv : Vals w 1 a L.length cap (intsL L)) (ht : tripsB L = true) (hmax : L.length ≤ 4096) :
    Calls Try.prog 25 #[.slice a L.length cap] w fun e w' => e = .returned (.int .i64 (delayV L)) ∧ w = w' := by
  rcases Nat.eq_zero_or_pos L.length with h0 | h0
  · have hd : delayV L = 2 := by unfold delayV; rw [if_pos h0]
    rw [hd, h0]
    clear hd h0
    go_enter Try.func25, Try.ntmps25
    go_wp2_with fail
    go_ret
    exact ⟨rfl, rfl⟩
  · have hd : delayV L = min ((atV L 75 + 3) / 4) 8 := by unfold delayV; rw [if_neg (by omega)]
    obtain ⟨b1, b2⟩ := atV_in L 75 (by omega) ht h0
    have hA := ref_At hv 75 (by omega) hmax
    rw [refAt_atV L 75 (by omega) ht h0] at hA
    have HA := hid hA
    have hne := pos_ne _ h0
    rw [hd]
    generalize atV L 75 = x at *
    clear hd hA ht h0
    by_cases hx : 8 < (x + 3) / 4
    · rw [show min ((x + 3) / 4) 8 = 8 by omega]
      go_enter Try.func25, Try.ntmps25
      go_wp2_with fail
      refine HA.out.mono ?_
      rintro e w1 ⟨rfl, rfl⟩
      go_wp2_with fail
      go_ret
      exact ⟨rfl, rfl⟩
    · rw [show min ((x + 3) / 4) 8 = (x + 3) / 4 by omega]
      go_enter Try.func25, Try.ntmps25
      go_wp2_with fail
      refine HA.out.mono ?_
      rintro e w1 ⟨rfl, rfl⟩
      go_wp2_with fail
      go_ret
      exact ⟨rfl, rfl⟩
theorem ref_Window {a : Option Addr} {cap : Nat} {L : List Int} (hv : Vals w 1 a L.length cap (intsL L)) (ht : tripsB L = true) (hmax : L.length ≤ 4096) :
    Calls Try.prog 26 #[.slice a L.length cap] w fun e w' => e = .returned (.int .i64 (windowV L)) ∧ w = w' := by
  rcases Nat.eq_zero_or_pos L.length with h0 | h0
  · have hd : windowV L = 8 := by unfold windowV; rw [if_pos h0]
    rw [hd, h0]
    clear hd h0
    go_enter Try.func26, Try.ntmps26
    go_wp2_with fail
    go_ret
    exact ⟨rfl, rfl⟩
  · have hd : windowV L = min ((atV L 95 + 1) / 2 + 2) 16 := by unfold windowV; rw [if_neg (by omega)]
    obtain ⟨b1, b2⟩ := atV_in L 95 (by omega) ht h0
    have hA := ref_At hv 95 (by omega) hmax
    rw [refAt_atV L 95 (by omega) ht h0] at hA
    have HA := hid hA
    have hne := pos_ne _ h0
    rw [hd]
    generalize atV L 95 = x at *
    clear hd hA ht h0
    by_cases hx : 16 < (x + 1) / 2 + 2
    · rw [show min ((x + 1) / 2 + 2) 16 = 16 by omega]
      go_enter Try.func26, Try.ntmps26
      go_wp2_with fail
      refine HA.out.mono ?_
      rintro e w1 ⟨rfl, rfl⟩
      go_wp2_with fail
      go_ret
      exact ⟨rfl, rfl⟩
    · rw [show min ((x + 1) / 2 + 2) 16 = (x + 1) / 2 + 2 by omega]
      go_enter Try.func26, Try.ntmps26
      go_wp2_with fail
      refine HA.out.mono ?_
      rintro e w1 ⟨rfl, rfl⟩
      go_wp2_with fail
      go_ret
      exact ⟨rfl, rfl⟩
end Go.Proofs.Ytfepefohaadecaa
