/- lobby: what At, Delay and Window return. -/
import Derived.Test.YtfepefohaadecaaLobP
import Derived.Shelf.SlicesE.IndexFunc
import Derived.IntWalk
namespace Go.Proofs.Ytfepefohaadecaa
open Go.RowKit
open Go.Shelf
def cont_ren : Go.Shelf.Ren := ⟨fun | 6 => 97 | 8 => 76 | n => n, fun | 0 => 0 | 3 => 3 | 4 => 4 | 22 => 52 | 23 => 3 | 25 => 140 | n => n, fun | n => n⟩
theorem cont_lay : SlLaysH.n8 Try.prog cont_ren := {
  mixed := by kernel_rfl
  f6 := ⟨Try.f97.name, by decide, Try.func97.trans (congrArg some (by kernel_rfl))⟩
  f8 := ⟨Try.f76.name, by decide, Try.func76.trans (congrArg some (by kernel_rfl))⟩
  t0 := Try.underlying0
  a0 := Try.isAgg0
  z0 := Try.sizeOf0
  v0 := Try.zeroValue0
  t3 := Try.underlying3
  a3 := Try.isAgg3
  z3 := Try.sizeOf3
  v3 := Try.zeroValue3
  t4 := Try.underlying4
  a4 := Try.isAgg4
  z4 := Try.sizeOf4
  v4 := Try.zeroValue4
  t22 := Try.underlying52
  a22 := Try.isAgg52
  z22 := Try.sizeOf52
  v22 := Try.zeroValue52
  a23 := Try.isAgg3
  z23 := Try.sizeOf3
  t25 := Try.underlying140
  a25 := Try.isAgg140
  z25 := Try.sizeOf140
  v25 := Try.zeroValue140 }

variable {w : World}
theorem below_dr (w : World) (q : Nat) : Below w.heap.size w (w.drewN q) := ⟨rfl, rfl, rfl, Nat.le_refl _, fun _ _ => rfl⟩
theorem lob_within (n a b : Int) (w : World) : Calls Try.prog 52 #[.int .i64 n, .int .i64 a, .int .i64 b] w fun e w' => e = .returned (.bool (decide (a ≤ n) && decide (n ≤ b))) ∧ w = w' := by
  by_cases h1 : a ≤ n
  · by_cases h2 : n ≤ b
    · go_enter Try.func52, Try.ntmps52
      go_wp2
      go_ret
      exact ⟨by simp [h1, h2], rfl⟩
    · go_enter Try.func52, Try.ntmps52
      go_wp2
      go_ret
      exact ⟨by simp [h2], rfl⟩
  · go_enter Try.func52, Try.ntmps52
    go_wp2
    go_ret
    exact ⟨by rw [show decide (a ≤ n) = false by simpa using h1]; simp, rfl⟩
theorem lob_trip (n : Int) (w : World) : Calls Try.prog 78 #[.int .i64 n] w fun e w' => e = .returned (.bool (rangeT n)) ∧ w = w' := by
  go_enter Try.func78, Try.ntmps78
  go_wp2_with fail
  refine (lob_within n 0 1000 w).mono ?_
  rintro e w' ⟨rfl, rfl⟩
  go_wp2
  go_ret
  exact ⟨rfl, rfl⟩
theorem lob_wrong1 (n : Int) (w : World) : Calls Try.prog 77 #[.int .i64 n] w fun e w' => e = .returned (.bool (!rangeT n)) ∧ w = w' := by
  go_enter Try.func77, Try.ntmps77
  go_wp2_with fail
  refine (lob_trip n w).mono ?_
  rintro e w' ⟨rfl, rfl⟩
  go_wp2
  go_ret
  exact ⟨rfl, rfl⟩
theorem lob_wrong {a : Option Addr} {cap : Nat} {L : List Int} (hv : Vals w 1 a L.length cap (intsL L)) : Calls Try.prog 50 #[.slice a L.length cap] w fun e w' => e = .returned (.bool (!tripsB L)) ∧ ∃ q, w' = w.drewN q := by
  have hC : Calls Try.prog 76 #[.slice a L.length cap, .func (.func 77) #[] #[]] w fun e w' => e = .returned (.bool (!tripsB L)) ∧ ∃ q, w' = w.drewN q := by
    rcases Nat.eq_zero_or_pos L.length with h0 | h0
    · have hh := AnyE.slices_ContainsFunc_empty (P := Try.prog) (ρ := cont_ren) cont_lay a cap (.func (.func 77) #[] #[]) w
      change Calls Try.prog 76 _ _ _ at hh
      obtain rfl : L = [] := List.eq_nil_of_length_eq_zero h0
      exact hh.mono fun _ _ ⟨h1, h2⟩ => ⟨h1, 0, h2⟩
    · obtain ⟨b, o, rfl, hc⟩ := hv.at' h0
      have hm := Nat.le_trans hv.2.1 hv.2.2.1
      unfold maxLen at hm
      have hh := AnyE.slices_ContainsFunc (P := Try.prog) (ρ := cont_ren) cont_lay (Value.int .i64) (fun x => !rangeT x) 77 #[] (enters_of Try.func77 (by kernel_rfl) rfl) b o L.length cap L w
        (fun W x _ => (lob_wrong1 x W).mono fun _ _ ⟨h1, h2⟩ => ⟨h1, 0, h2.symm⟩) (Nat.le_refl _) (by omega) (fun j hj => hc j _ (by rw [intsL_get L j hj]; simp [hj]))
      change Calls Try.prog 76 _ _ _ at hh
      refine hh.mono fun _ _ ⟨h1, h2⟩ => ⟨h1.trans (ret_bool ?_), h2⟩
      rw [List.take_length]
      unfold tripsB
      simp only [List.any_eq_not_all_not, Bool.not_not]
  have HC := hid hC
  clear hC
  go_enter Try.func50, Try.ntmps50
  go_wp2_with fail
  refine HC.out.mono ?_
  rintro e w' ⟨rfl, q, rfl⟩
  go_wp2
  go_ret
  exact ⟨rfl, q, rfl⟩
theorem values_any (a : Option Addr) (n cap : Nat) (w : World) : Calls Try.prog 80 #[.slice a n cap] w fun e w' => e = .returned (.func (.func 100) #[] #[.pointer (some ⟨w.heap.size, 0, none⟩)]) ∧ w.alloc (.cells #[.slice a n cap] 52) = w' := by
  go_enter Try.func80, Try.ntmps80
  go_wp2
  go_ret
  exact ⟨rfl, rfl⟩
theorem lob_at {a : Option Addr} {cap : Nat} {L : List Int} (hv : Vals w 1 a L.length cap (intsL L)) (p : Int) (hp : 1 ≤ p ∧ p ≤ 100) (h0 : 0 < L.length) (hmax : L.length ≤ 4096) :
    Calls Try.prog 51 #[.slice a L.length cap, .int .i64 p] w fun e w' => e = .returned (.int .i64 (atV L p)) ∧ Below w.heap.size w w' := by
  have hm1 : p * (L.length : Int) ≤ 100 * (L.length : Int) := Int.mul_le_mul_of_nonneg_right hp.2 (by omega)
  have hm2 : 1 * (L.length : Int) ≤ p * (L.length : Int) := Int.mul_le_mul_of_nonneg_right hp.1 (by omega)
  have hm3 : p * (L.length : Int) ≤ 409600 := by omega
  have hm4 : 1 ≤ p * (L.length : Int) := by omega
  obtain ⟨hge, hget⟩ := atV_get L p hp h0
  have hS := hid (slices_Sorted (w := w.alloc (.cells #[.slice a L.length cap] 52)) w.heap.size a cap L (cell_one_new' _ _ _) (hv.keeps ((Keeps.refl (fun _ => False) w).alloc _) (fun _ _ _ => id)) h0 hmax)
  have hneed : (needL p L.length : Int) = (p * (L.length : Int) + 99) / 100 := by unfold needL; omega
  have hn1 := need_in p L.length hp h0
  have hsl := sortL_len L
  have Hsl := hid hsl
  have Hneed := hid hneed
  have Hget := hid hget
  clear hm1 hm2 hneed hget hsl hv
  go_enter Try.func51, Try.ntmps51
  go_wp2_with fail
  refine (values_any _ _ _ _).mono ?_
  rintro e w' ⟨rfl, rfl⟩
  go_wp2_with fail
  refine hS.out.mono ?_
  rintro e w1 ⟨v, rfl, hown, hb⟩
  obtain ⟨A, cap', rfl, hv, _⟩ := vals_of_own hown
  obtain ⟨b, o, rfl, hc⟩ := hv.at' h0
  obtain ⟨k, hk⟩ : ∃ k, needL p L.length - 1 = k := ⟨_, rfl⟩
  have hcc := hc k _ (intsL_get (sortL L) k (by rw [← hk]; exact hge))
  have hkk : (p * (L.length : Int) + 99) / 100 = k + 1 := by have := Hneed.out; omega
  have hix : ((max ((p * (L.length : Int) + 100 - 1) / 100) 1).toNat - 1) = k := by omega
  have hlt : (max ((p * (L.length : Int) + 100 - 1) / 100) 1) - 1 < (L.length : Int) := by omega
  have hval : (sortL L)[k]'(by rw [← hk]; exact hge) = atV L p := by rw [Hget.out]; simp only [hk]
  rw [hval, ← hix] at hcc
  clear hv hc hown hval hix hkk hS
  go_wp2_with fail
  go_ret
  exact ⟨rfl, ((Below.refl _ w).alloc (Nat.le_refl _) _).trans (hb.mono (by simp))⟩
theorem pos_ne (n : Nat) (h : 0 < n) : ((n : Int) == 0) = false := by rw [beq_eq_false_iff_ne]; omega
theorem lob_Delay {a : Option Addr} {cap : Nat} {L : List Int} (hv : Vals w 1 a L.length cap (intsL L)) (hmax : L.length ≤ 4096) :
    Calls Try.prog 21 #[.slice a L.length cap] w fun e w' => e = .returned (.tuple #[.int .i64 (if tripsB L = true then delayV L else 0), .int .i64 (if tripsB L = true then 0 else 1)]) ∧ Below w.heap.size w w' := by
  have hW := hid (lob_wrong hv)
  by_cases ht : tripsB L = true
  · rw [if_pos ht, if_pos ht]
    rcases Nat.eq_zero_or_pos L.length with h0 | h0
    · have hd : delayV L = 2 := by unfold delayV; rw [if_pos h0]
      rw [hd]
      rw [ht] at hW
      rw [h0] at hW ⊢
      clear hd h0
      go_enter Try.func21, Try.ntmps21
      go_wp2_with fail
      refine (hW.out).mono ?_
      rintro e w1 ⟨rfl, q, rfl⟩
      go_wp2_with fail
      go_ret2
      exact ⟨rfl, below_dr w q⟩
    · have hd : delayV L = min ((atV L 75 + 3) / 4) 8 := by unfold delayV; rw [if_neg (by omega)]
      obtain ⟨b1, b2⟩ := atV_in L 75 (by omega) ht h0
      rw [hd]
      rw [ht] at hW
      have hne := pos_ne _ h0
      have Hmax := hid hmax
      have H0 := hid h0
      clear hd ht h0 hmax
      go_enter Try.func21, Try.ntmps21
      go_wp2_with fail
      refine (hW.out).mono ?_
      rintro e w1 ⟨rfl, q, rfl⟩
      have hv1 := hv.keeps ((Keeps.refl (fun _ => False) w).drewN q) (fun _ _ _ => id)
      go_wp2_with fail
      refine (lob_at hv1 75 (by omega) H0.out Hmax.out).mono ?_
      rintro e w2 ⟨rfl, hb2⟩
      go_wp2_with fail
      go_ret2
      exact ⟨rfl, (below_dr w q).trans hb2⟩
  · rw [if_neg ht, if_neg ht]
    rw [Bool.not_eq_true] at ht
    rw [ht] at hW
    clear ht
    go_enter Try.func21, Try.ntmps21
    go_wp2_with fail
    refine (hW.out).mono ?_
    rintro e w1 ⟨rfl, q, rfl⟩
    go_wp2_with fail
    go_ret2
    exact ⟨rfl, below_dr w q⟩
theorem lob_Window {a : Option Addr} {cap : Nat} {L : List Int} (hv : Vals w 1 a L.length cap (intsL L)) (hmax : L.length ≤ 4096) :
    Calls Try.prog 22 #[.slice a L.length cap] w fun e w' => e = .returned (.tuple #[.int .i64 (if tripsB L = true then windowV L else 0), .int .i64 (if tripsB L = true then 0 else 1)]) ∧ Below w.heap.size w w' := by
  have hW := hid (lob_wrong hv)
  by_cases ht : tripsB L = true
  · rw [if_pos ht, if_pos ht]
    rcases Nat.eq_zero_or_pos L.length with h0 | h0
    · have hd : windowV L = 8 := by unfold windowV; rw [if_pos h0]
      rw [hd]
      rw [ht] at hW
      rw [h0] at hW ⊢
      clear hd h0
      go_enter Try.func22, Try.ntmps22
      go_wp2_with fail
      refine (hW.out).mono ?_
      rintro e w1 ⟨rfl, q, rfl⟩
      go_wp2_with fail
      go_ret2
      exact ⟨rfl, below_dr w q⟩
    · have hd : windowV L = min ((atV L 95 + 1) / 2 + 2) 16 := by unfold windowV; rw [if_neg (by omega)]
      obtain ⟨b1, b2⟩ := atV_in L 95 (by omega) ht h0
      rw [hd]
      rw [ht] at hW
      have hne := pos_ne _ h0
      have Hmax := hid hmax
      have H0 := hid h0
      clear hd ht h0 hmax
      go_enter Try.func22, Try.ntmps22
      go_wp2_with fail
      refine (hW.out).mono ?_
      rintro e w1 ⟨rfl, q, rfl⟩
      have hv1 := hv.keeps ((Keeps.refl (fun _ => False) w).drewN q) (fun _ _ _ => id)
      go_wp2_with fail
      refine (lob_at hv1 95 (by omega) H0.out Hmax.out).mono ?_
      rintro e w2 ⟨rfl, hb2⟩
      go_wp2_with fail
      go_ret2
      exact ⟨rfl, (below_dr w q).trans hb2⟩
  · rw [if_neg ht, if_neg ht]
    rw [Bool.not_eq_true] at ht
    rw [ht] at hW
    clear ht
    go_enter Try.func22, Try.ntmps22
    go_wp2_with fail
    refine (hW.out).mono ?_
    rintro e w1 ⟨rfl, q, rfl⟩
    go_wp2_with fail
    go_ret2
    exact ⟨rfl, below_dr w q⟩
end Go.Proofs.Ytfepefohaadecaa
