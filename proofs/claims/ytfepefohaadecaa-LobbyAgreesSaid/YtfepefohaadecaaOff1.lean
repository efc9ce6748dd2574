/- lobby: an offer that may be, and its bytes; the reference's. -/
import Derived.Test.YtfepefohaadecaaOffP
import Derived.Test.YtfepefohaadecaaSigned
import Derived.Test.YtfepefohaadecaaLob
import Derived.Test.YtfepefohaadecaaTail
import Derived.Test.YtfepefohaadecaaRelAt
import Derived.Test.YtfepefohaadecaaRowI
namespace Go.Proofs.Ytfepefohaadecaa
open Go.RowKit
set_option maxRecDepth 10000
variable {w : World}
theorem lob_span (a b l m : Int) (w : World) : Calls Try.prog 57 #[.int .i64 a, .int .i64 b, .int .i64 l, .int .i64 m] w fun e w' => e = .returned (.bool (decide (l ≤ a) && decide (a ≤ b) && decide (b ≤ m))) ∧ w = w' := by
  by_cases h1 : l ≤ a
  · by_cases h2 : a ≤ b
    · by_cases h3 : b ≤ m
      · go_enter Try.func57, Try.ntmps57
        go_wp2
        go_ret
        exact ⟨by simp [h1, h2, h3], rfl⟩
      · go_enter Try.func57, Try.ntmps57
        go_wp2
        go_ret
        exact ⟨by simp [h3], rfl⟩
    · go_enter Try.func57, Try.ntmps57
      go_wp2
      go_ret
      exact ⟨by rw [show decide (a ≤ b) = false by simpa using h2]; simp, rfl⟩
  · go_enter Try.func57, Try.ntmps57
    go_wp2
    go_ret
    exact ⟨by rw [show decide (l ≤ a) = false by simpa using h1]; simp, rfl⟩
def r1 (o : Offer) : Bool := decide (1 ≤ o.r) && decide (o.r ≤ 100)
def r2 (o : Offer) : Bool := decide (0 ≤ o.ld) && decide (o.ld ≤ o.md) && decide (o.md ≤ 8)
def r3 (o : Offer) : Bool := decide (1 ≤ o.lw) && decide (o.lw ≤ o.mw) && decide (o.mw ≤ 16)
theorem right_three (o : Offer) : decide (RightO o) = (r1 o && r2 o && r3 o) := by
  rw [Bool.eq_iff_iff, decide_eq_true_iff]
  unfold RightO r1 r2 r3
  simp only [decide_eq_true_eq, Bool.and_eq_true, and_assoc]
theorem lob_Right (o : Offer) (w : World) : Calls Try.prog 29 #[(.agg #[.int .i64 o.r, .int .u32 o.s, .int .i64 o.ld, .int .i64 o.md, .int .i64 o.lw, .int .i64 o.mw])] w fun e w' => e = .returned (.bool (decide (RightO o))) ∧ w.alloc (.cells #[.int .i64 o.r, .int .u32 o.s, .int .i64 o.ld, .int .i64 o.md, .int .i64 o.lw, .int .i64 o.mw] 63) = w' := by
  rw [right_three]
  have H1 := hid (fun W => lob_within o.r 1 100 W)
  have H2 := hid (fun W => lob_span o.ld o.md 0 8 W)
  have H3 := hid (fun W => lob_span o.lw o.mw 1 16 W)
  obtain ⟨b1, e1⟩ : ∃ b, r1 o = b := ⟨_, rfl⟩
  obtain ⟨b2, e2⟩ : ∃ b, r2 o = b := ⟨_, rfl⟩
  obtain ⟨b3, e3⟩ : ∃ b, r3 o = b := ⟨_, rfl⟩
  rw [e1, e2, e3]
  unfold r1 at e1
  unfold r2 at e2
  unfold r3 at e3
  rw [e1] at H1
  rw [e2] at H2
  rw [e3] at H3
  clear e1 e2 e3
  cases b1 with
  | false =>
    go_enter Try.func29, Try.ntmps29
    go_wp2_with fail
    refine (H1.out _).mono ?_
    rintro e w1 ⟨rfl, rfl⟩
    go_wp2_with fail
    go_ret
    exact ⟨rfl, rfl⟩
  | true =>
    cases b2 with
    | false =>
      go_enter Try.func29, Try.ntmps29
      go_wp2_with fail
      refine (H1.out _).mono ?_
      rintro e w1 ⟨rfl, rfl⟩
      go_wp2_with fail
      refine (H2.out _).mono ?_
      rintro e w1 ⟨rfl, rfl⟩
      go_wp2_with fail
      go_ret
      exact ⟨rfl, rfl⟩
    | true =>
      go_enter Try.func29, Try.ntmps29
      go_wp2_with fail
      refine (H1.out _).mono ?_
      rintro e w1 ⟨rfl, rfl⟩
      go_wp2_with fail
      refine (H2.out _).mono ?_
      rintro e w1 ⟨rfl, rfl⟩
      go_wp2_with fail
      refine (H3.out _).mono ?_
      rintro e w1 ⟨rfl, rfl⟩
      go_wp2_with fail
      go_ret
      exact ⟨by simp, rfl⟩
theorem ref_RightO (o : Offer) (w : World) : Calls Try.prog 30 #[(.agg #[.int .i64 o.r, .int .u32 o.s, .int .i64 o.ld, .int .i64 o.md, .int .i64 o.lw, .int .i64 o.mw])] w fun e w' => e = .returned (.bool (decide (RightO o))) ∧ w.alloc (.cells #[.int .i64 o.r, .int .u32 o.s, .int .i64 o.ld, .int .i64 o.md, .int .i64 o.lw, .int .i64 o.mw] 63) = w' := by
  by_cases h1 : o.r < 1
  · have hd : decide (RightO o) = false := decide_eq_false (by unfold RightO; omega)
    rw [hd]
    go_enter Try.func30, Try.ntmps30
    go_wp2
    go_ret
    exact ⟨rfl, rfl⟩
  by_cases h2 : 100 < o.r
  · have hd : decide (RightO o) = false := decide_eq_false (by unfold RightO; omega)
    rw [hd]
    go_enter Try.func30, Try.ntmps30
    go_wp2
    go_ret
    exact ⟨rfl, rfl⟩
  by_cases h3 : o.ld < 0
  · have hd : decide (RightO o) = false := decide_eq_false (by unfold RightO; omega)
    rw [hd]
    go_enter Try.func30, Try.ntmps30
    go_wp2
    go_ret
    exact ⟨rfl, rfl⟩
  by_cases h4 : 8 < o.md
  · have hd : decide (RightO o) = false := decide_eq_false (by unfold RightO; omega)
    rw [hd]
    go_enter Try.func30, Try.ntmps30
    go_wp2
    go_ret
    exact ⟨rfl, rfl⟩
  by_cases h5 : o.md < o.ld
  · have hd : decide (RightO o) = false := decide_eq_false (by unfold RightO; omega)
    rw [hd]
    go_enter Try.func30, Try.ntmps30
    go_wp2
    go_ret
    exact ⟨rfl, rfl⟩
  by_cases h6 : 1 ≤ o.lw
  · by_cases h7 : o.mw ≤ 16
    · by_cases h8 : o.lw ≤ o.mw
      · have hd : decide (RightO o) = true := decide_eq_true (by unfold RightO; omega)
        rw [hd]
        go_enter Try.func30, Try.ntmps30
        go_wp2
        go_ret
        exact ⟨by first | rfl | simp, rfl⟩
      · have hd : decide (RightO o) = false := decide_eq_false (by unfold RightO; omega)
        rw [hd]
        go_enter Try.func30, Try.ntmps30
        go_wp2
        go_ret
        exact ⟨by first | rfl | simp, rfl⟩
    · have hd : decide (RightO o) = false := decide_eq_false (by unfold RightO; omega)
      rw [hd]
      go_enter Try.func30, Try.ntmps30
      go_wp2
      go_ret
      exact ⟨rfl, rfl⟩
  · have hd : decide (RightO o) = false := decide_eq_false (by unfold RightO; omega)
    rw [hd]
    go_enter Try.func30, Try.ntmps30
    go_wp2
    go_ret
    exact ⟨rfl, rfl⟩
/-- the pointers to four fields -/
def fourP (B : Nat) : List Value := [.pointer (some ⟨B, 2, none⟩), .pointer (some ⟨B, 3, none⟩), .pointer (some ⟨B, 4, none⟩), .pointer (some ⟨B, 5, none⟩)]
theorem lob_fields (B : Nat) (c : Array Value) (hB : w.heap[B]? = some (.cells c 63 (0, 0))) (hc : c.size = 6) : Calls Try.prog 55 #[.pointer (some ⟨B, 0, none⟩)] w fun e w' => e = .returned (.slice (some ⟨w.heap.size, 0, none⟩) 4 4) ∧ ∃ q, w' = (w.alloc (.cells (fourP B).toArray 107)).drewN q := by
  obtain ⟨c0, e0⟩ : ∃ v, c[0]? = some v := ⟨c[0], by simp⟩
  have h0 := blk_cell hB e0
  clear hB e0
  go_enter Try.func55, Try.ntmps55
  go_wp2_with fail
  refine wp_region_taild 12 (by kernel_rfl) (by kernel_rfl) ?_
  simp only [List.take_succ_cons, List.take_zero, List.drop_succ_cons, List.drop_zero]
  repeat (go_big_quiet_step ((fail)))
  refine wpQuiet_nil ?_
  intro _ hw'
  obtain ⟨nq, hw''⟩ := hw'
  subst hw''
  go_wp2_with fail
  go_ret
  exact ⟨rfl, _, rfl⟩
end Go.Proofs.Ytfepefohaadecaa
