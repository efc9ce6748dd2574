/- The reference's Trips; the example of layer 35. -/
import Derived.Test.YtfepefohaadecaaLob
import Derived.Test.YtfepefohaadecaaRowI
import Derived.Test.YtfepefohaadecaaTail
namespace Go.Proofs.Ytfepefohaadecaa
open Go.RowKit
variable {w : World}
theorem tripsB_at {L : List Int} (k : Nat) (h : k < L.length) (hr : rangeT L[k] = false) : tripsB L = false := by
  rw [Bool.eq_false_iff]
  intro ht
  have := tripsB_iff.1 ht L[k] (List.getElem_mem h)
  rw [← rangeT_iff, hr] at this
  cases this
theorem tripsB_take {L : List Int} (h : tripsB (L.take L.length) = true) : tripsB L = true := by rwa [List.take_length] at h
theorem tripsB_succ {L : List Int} (k : Nat) (h : k < L.length) (h1 : tripsB (L.take k) = true) (h2 : rangeT L[k] = true) : tripsB (L.take (k + 1)) = true := by
  unfold tripsB at *
  rw [List.take_succ_eq_append_getElem h, List.all_append, h1]
  simp [h2]
theorem ref_Trips {a : Option Addr} {cap : Nat} {L : List Int} (hv : Vals w 1 a L.length cap (intsL L)) :
    Calls Try.prog 20 #[.slice a L.length cap] w fun e w' => e = .returned (.bool (tripsB L)) ∧ w = w' := by
  have hm := Nat.le_trans hv.2.1 hv.2.2.1
  unfold maxLen at hm
  go_enter Try.func20, Try.ntmps20
  go_wp2
  go_loop [3] (fun i => ∃ k : Nat, k ≤ L.length ∧ i = .int .i64 k ∧ Hid (tripsB (L.take k) = true)) (fun i => L.length - (intOf i).toNat)
  case atStart => exact ⟨0, Nat.zero_le _, rfl, rfl⟩
  case round =>
    obtain ⟨k, hk, rfl, hall⟩ := hrel
    by_cases hlt : k < L.length
    · obtain ⟨b, o, rfl, hc⟩ := hv.at' (by omega)
      have hck : w.cell? ⟨b, o + k, none⟩ = some (.int .i64 L[k]) := hc k _ (intsL_get L k hlt)
      have hno := hid (tripsB_at k hlt)
      have hyes := hid (tripsB_succ k hlt hall.out)
      clear hc hv
      generalize L[k] = x at *
      by_cases h1 : 0 ≤ x
      · by_cases h2 : x ≤ 1000
        · go_wp2
          go_round
          case rel => exact ⟨k + 1, by omega, by go_num, hyes.out (rangeT_iff.2 ⟨h1, h2⟩)⟩
          case measure => simp [intOf]; omega
        · have hf := hno.out (by rw [Bool.eq_false_iff]; intro h; exact h2 (rangeT_iff.1 h).2)
          have Hf := hid hf
          clear hf
          go_wp2
          go_ret
          exact ⟨by rw [Hf.out]; rfl, rfl⟩
      · have hf := hno.out (by rw [Bool.eq_false_iff]; intro h; exact h1 (rangeT_iff.1 h).1)
        have Hf := hid hf
        clear hf
        go_wp2
        go_ret
        exact ⟨by rw [Hf.out]; rfl, rfl⟩
    · obtain rfl : k = L.length := by omega
      have hf := hid (tripsB_take hall.out)
      go_wp2
      go_ret
      exact ⟨by rw [hf.out]; rfl, rfl⟩
theorem vals_four (w : World) (x y z u : Value) (t : TypeId) : Vals (w.alloc (.cells #[x, y, z, u] t)) 1 (some ⟨w.heap.size, 0, none⟩) 4 4 [x, y, z, u] :=
  ⟨rfl, Nat.le_refl _, by simp [maxLen], fun _ => ⟨_, _, rfl, fun j v hv => by
    match j, hv with
    | 0, hv => exact blk_cell (blk_new w _) hv
    | 1, hv => exact blk_cell (blk_new w _) hv
    | 2, hv => exact blk_cell (blk_new w _) hv
    | 3, hv => exact blk_cell (blk_new w _) hv
    | j + 4, hv => simp at hv⟩⟩
def four : List Int := [4, 4, 4, 8]
theorem four_need (p : Int) (n : Nat) (h : needL p four.length = n) (v : Int) (hm : v ∈ four) (h1 : n ≤ cntL four v) (h2 : ∀ k, k < v → cntL four k < n) (hp : 1 ≤ p ∧ p ≤ 100) : atV four p = v := by
  have := atV_at four p hp (by decide)
  rw [h] at this
  exact this.uniq ⟨hm, h1, h2⟩
theorem four_low (k : Int) (h : k < 8) : cntL four k ≤ 3 := by
  unfold cntL four
  simp only [List.countP_cons, List.countP_nil]
  have : ¬ (8 : Int) ≤ k := by omega
  by_cases h4 : (4 : Int) ≤ k <;> simp [h4, this]
theorem four_none (k : Int) (h : k < 4) : cntL four k = 0 := by
  unfold cntL four
  simp only [List.countP_cons, List.countP_nil]
  have h8 : ¬ (8 : Int) ≤ k := by omega
  have h4 : ¬ (4 : Int) ≤ k := by omega
  simp [h4, h8]
theorem four_delay : delayV four = 1 := by
  unfold delayV
  rw [if_neg (by decide), four_need 75 3 (by decide) 4 (by decide) (by decide) (fun k hk => by rw [four_none k hk]; decide) (by decide)]
  decide
theorem four_window : windowV four = 6 := by
  unfold windowV
  rw [if_neg (by decide), four_need 95 4 (by decide) 8 (by decide) (by decide) (fun k hk => by have := four_low k hk; omega) (by decide)]
  decide
theorem awake35 (w : World) : Calls Try.prog 19 #[] w fun e w' => e = .returned (.bool true) ∧ Below w.heap.size w w' := by
  have hv : Vals (w.alloc (.cells #[.int .i64 4, .int .i64 4, .int .i64 4, .int .i64 8] 3)) 1 (some ⟨w.heap.size, 0, none⟩) four.length 4 (intsL four) := vals_four w _ _ _ _ _
  have hD := lob_Delay hv (by decide)
  rw [if_pos (show tripsB four = true by decide), if_pos (show tripsB four = true by decide), four_delay] at hD
  have hW := fun (W : World) (hb : Below (w.alloc (.cells #[.int .i64 4, .int .i64 4, .int .i64 4, .int .i64 8] 3)).heap.size (w.alloc (.cells #[.int .i64 4, .int .i64 4, .int .i64 4, .int .i64 8] 3)) W) => lob_Window (w := W) (hv.below hb (fun hn x hx => hv.lt (by omega) hn hx)) (by decide)
  rw [if_pos (show tripsB four = true by decide), if_pos (show tripsB four = true by decide), four_window] at hW
  have HD := hid hD
  have HW := hid hW
  clear hD hW hv
  go_enter Try.func19, Try.ntmps19
  go_wp2_with fail
  refine HD.out.mono ?_
  rintro e w1 ⟨rfl, hb1⟩
  go_wp2_with fail
  refine (HW.out _ hb1).mono ?_
  rintro e w2 ⟨rfl, hb2⟩
  go_wp2_with fail
  go_ret
  exact ⟨rfl, (((Below.refl _ w).alloc (Nat.le_refl _) _).trans (hb1.mono (by simp))).trans (hb2.mono (by have := hb1.size; simp at this; omega))⟩
end Go.Proofs.Ytfepefohaadecaa
