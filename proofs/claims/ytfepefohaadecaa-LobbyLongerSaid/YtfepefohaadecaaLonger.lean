/- The law LobbyLonger. -/
import Derived.Test.YtfepefohaadecaaRefLob
namespace Go.Proofs.Ytfepefohaadecaa
open Go.RowKit
variable {w : World}
theorem own_set {base n g cap : Nat} {e : TypeId} {xs : List Value} (h : w.ownsRow base e 1 (.slice (some ⟨g, 0, none⟩) n cap) n xs) (k : Nat) (u : Value) :
    (w.setCell ⟨g, k, none⟩ u).ownsRow base e 1 (.slice (some ⟨g, 0, none⟩) n cap) n (xs.set k u) := by
  refine ⟨by simpa using h.1, ?_⟩
  rcases h.2 with ⟨h, _⟩ | ⟨g', cap', cur, h, hb, hh, q1, q2, q3, q4⟩
  · cases h
  · cases h
    refine .inr ⟨g, cap, cur.setIfInBounds k u, rfl, hb, blk_set hh k u, q1, q2, by simpa using q3, ?_⟩
    rw [Array.toList_setIfInBounds, List.take_set, q4]
theorem own_free {base n g cap : Nat} {e : TypeId} {xs : List Value} (h : w.ownsRow base e 1 (.slice (some ⟨g, 0, none⟩) n cap) n xs) (k : Nat) : w.frozen? ⟨g, k, none⟩ = false := by
  rcases h.2 with ⟨h, _⟩ | ⟨g', cap', cur, h, hb, hh, _⟩
  · cases h
  · cases h
    exact blk_free hh k
def LongerL (L M : List Int) : Prop := ∀ i (h : i < L.length) (h' : i < M.length), L[i] ≤ M[i]
theorem longer_set {L M : List Int} (k : Nat) (x : Int) (h : LongerL L M) (hk : k < L.length) (hx : L[k] ≤ x) : LongerL L (M.set k x) := by
  intro i h1 h2
  rw [List.getElem_set]
  split
  · rename_i e; subst e; exact hx
  · exact h i h1 (by simpa using h2)
theorem trips_set {M : List Int} (k : Nat) (x : Int) (h : tripsB M = true) (hx : 0 ≤ x ∧ x ≤ 1000) : tripsB (M.set k x) = true := by
  rw [tripsB_iff] at *
  intro y hy
  rcases List.mem_or_eq_of_mem_set hy with hy | rfl
  · exact h y hy
  · exact hx
theorem intsL_set (M : List Int) (k : Nat) (x : Int) : (intsL M).set k (.int .i64 x) = intsL (M.set k x) := by simp [intsL, List.map_set]
def u8L (K : List Int) : List Value := K.map fun x => .int .u8 x
theorem u8L_get (L : List Int) (k : Nat) (h : k < L.length) : (u8L L)[k]? = some (.int .u8 L[k]) := by simp [u8L, h]
set_option maxRecDepth 100000 in
set_option maxHeartbeats 1600000 in
theorem law_LobbyLonger {a b : Option Addr} {cap capb : Nat} {L K : List Int} (hv : Vals w 1 a L.length cap (intsL L)) (hK : Vals w 1 b K.length capb (u8L K)) (hwf : ∀ x ∈ K, 0 ≤ x ∧ x ≤ 255) :
    Calls Try.prog 6 #[.slice a L.length cap, .slice b K.length capb] w fun e w' => e = .returned (.bool true) ∧ Below w.heap.size w w' := by
  obtain ⟨i0, hi, hz0, hz1, hz2⟩ := info_parts info_int
  have Hi := hid hi
  have Hwf := hid hwf
  have hm := Nat.le_trans hv.2.1 hv.2.2.1
  have hm2 := Nat.le_trans hK.2.1 hK.2.2.1
  unfold maxLen at hm hm2
  clear hi hwf
  have hlt1 := fun (hn : 0 < L.length) x hx => hv.lt (by omega) hn (x := x) hx
  have hlt2 := fun (hn : 0 < K.length) x hx => hK.lt (by omega) hn (x := x) hx
  by_cases h60 : 60 < L.length
  · go_enter Try.func6, Try.ntmps6
    go_wp2_with fail
    refine (awake35 w).mono ?_
    rintro e w1 ⟨rfl, hb1⟩
    go_wp2_with fail
    go_ret
    exact ⟨rfl, hb1⟩
  by_cases ht : tripsB L = true
  rotate_left
  · rw [Bool.not_eq_true] at ht
    go_enter Try.func6, Try.ntmps6
    go_wp2_with fail
    refine (awake35 w).mono ?_
    rintro e w1 ⟨rfl, hb1⟩
    have hR := ref_Trips (hv.below hb1 hlt1)
    rw [ht] at hR
    clear ht
    go_wp2_with fail
    refine hR.mono ?_
    rintro e w2 ⟨rfl, rfl⟩
    go_wp2_with fail
    go_ret
    exact ⟨rfl, hb1⟩
  have h60' : L.length ≤ 60 := by omega
  go_enter Try.func6, Try.ntmps6
  go_wp2_with fail
  refine (awake35 w).mono ?_
  rintro e w1 ⟨rfl, hb1⟩
  have hv1 := hv.below hb1 hlt1
  have hK1 := hK.below hb1 hlt2
  have hR := ref_Trips hv1
  rw [ht] at hR
  have Ht := hid ht
  have HR := hid hR
  have Hl1 := hid hlt1
  have Hl2 := hid hlt2
  clear ht hR hlt1 hlt2 hv hK
  go_wp2_with fail
  refine HR.out.mono ?_
  rintro e w2 ⟨rfl, rfl⟩
  have hk1 : Keeps (fun _ => False) w1 (w1.alloc (.cells #[] 3)) := (Keeps.refl _ w1).alloc _
  go_wp2_with (at_builtin; refine wpList_append_vals _ rfl (.tmp 25) (.tmp 26) _ rfl w1.heap.size 3 i0 _ 1 8 Try.underlying52 Hi.out hz0 hz1 hz2 rfl (by omega) _ 0 [] rfl (own_empty (Nat.le_refl _) (blk_new _ _)) a L.length cap (intsL L) rfl (hv1.keeps hk1 (fun _ _ _ => id)) (by intro u hu; simp only [intsL, List.mem_map] at hu; obtain ⟨x, _, rfl⟩ := hu; rfl) (by simp only [maxLen]; omega) (by omega) (by simp) ?_)
  intro v' w2 hown hg _
  have hown : w2.ownsRow w1.heap.size 3 1 v' L.length (intsL L) := by simpa using hown
  have hk2 : Keeps (fun _ => False) w1 w2 := hk1.grown hg (fun k hk => .inr (by cases hk; exact Nat.le_refl _))
  obtain ⟨A, capm, rfl, hvv, hbb⟩ := vals_of_own hown
  have hA : 0 < L.length → ∃ g, A = some ⟨g, 0, none⟩ := by
    intro h0
    rcases hown.2 with ⟨h, h2⟩ | ⟨g', cap', cur, h, _⟩
    · have := hown.1; rw [h2] at this; simp at this; omega
    · cases h; exact ⟨_, rfl⟩
  have hk20 : Keeps (fun k => w1.heap.size ≤ k) w1 w2 := hk2.mono fun _ _ h => h.elim
  clear hvv hbb hg hk1 hk2
  go_wp2_with fail
  go_loopw [6] (fun i wr => ∃ (k : Nat) (M : List Int), k ≤ L.length ∧ i = .int .i64 k ∧ M.length = L.length ∧ Hid (LongerL L M) ∧ Hid (tripsB M = true) ∧ wr.ownsRow w1.heap.size 3 1 (.slice A L.length capm) L.length (intsL M) ∧ Keeps (fun k => w1.heap.size ≤ k) w1 wr) (fun i _ => L.length - (intOf i).toNat)
  case atStart => exact ⟨0, L, Nat.zero_le _, rfl, rfl, fun _ _ _ => Int.le_refl _, Ht.out, hown, hk20⟩
  case round =>
    obtain ⟨k, M, hk, rfl, hML, hlong, htr, hownM, hkr⟩ := hrel
    have HML := hid hML
    clear hown
    by_cases hlt : k < L.length
    · by_cases hlt2 : k < K.length
      · obtain ⟨g, rfl⟩ := hA (by omega)
        have h60i : w1.heap.size ≤ g := by
          rcases hownM.2 with ⟨h, _⟩ | ⟨g', cap', cur, h, hb, _⟩
          · cases h
          · cases h; exact hb
        obtain ⟨b2, o2, rfl, hc2⟩ := (hK1.keeps hkr (fun hn x hx h => by have := Hl2.out hn x hx; have := hb1.size; omega)).at' (by omega)
        have hck2 : wr.cell? ⟨b2, o2 + k, none⟩ = some (.int .u8 K[k]) := hc2 k _ (u8L_get K k hlt2)
        have hck1 : wr.cell? ⟨g, k, none⟩ = some (.int .i64 (M[k]'(by omega))) := by
          have h1 := hownM.cellAt k (by omega)
          rcases hownM.2 with ⟨h, _⟩ | ⟨g', cap', cur, h, hb, hh, q1, q2, q3, q4⟩
          · cases h
          · cases h
            refine blk_cell hh ?_
            have h2 : (intsL M)[k]? = some (.int .i64 (M[k]'(by omega))) := intsL_get M k (by omega)
            rw [← q4, List.getElem?_take] at h2
            split at h2
            · simpa using h2
            · cases h2
        have hfr := own_free hownM k
        have hx := Hwf.out K[k] (List.getElem_mem hlt2)
        have hy := tripsB_iff.1 htr.out (M[k]'(by omega)) (List.getElem_mem _)
        have hz := hlong.out k hlt (by omega)
        have hnx := hid (longer_set (M := M) k (min ((M[k]'(by omega)) + K[k]) 1000) hlong.out hlt (by have := tripsB_iff.1 Ht.out _ (List.getElem_mem hlt); omega))
        have hnt := hid (trips_set k (min ((M[k]'(by omega)) + K[k]) 1000) htr.out (by omega))
        have hno := own_set hownM k (.int .i64 (min ((M[k]'(by omega)) + K[k]) 1000))
        rw [intsL_set] at hno
        clear hc2 hz
        generalize M[k]'(by omega) = y at *
        generalize K[k] = x at *
        clear hML
        go_upto_region 9 with fail
        refine wp_region_taild 14 (by kernel_rfl) (by kernel_rfl) ?_
        simp only [List.take_succ_cons, List.take_zero, List.drop_succ_cons, List.drop_zero]
        repeat (go_big_quiet_step ((fail)))
        refine wpQuiet_nil ?_
        intro _ hw'
        obtain ⟨nq, hw''⟩ := hw'
        subst hw''
        go_wp2_with fail
        go_roundw
        case rel => exact ⟨k + 1, M.set k (min (y + x) 1000), by omega, by go_num, by simpa using HML.out, hnx, hnt, own_keeps hno ((Keeps.refl (fun _ => False) _).drewN _) (fun _ _ => id), (hkr.setCell (p := ⟨g, k, none⟩) h60i _).drewN _⟩
        case measure => simp [intOf]; omega
      · have hd : decide (k < K.length) = false := by simpa using hlt2
        obtain ⟨A2, cm2, hsl, hvM, hbM⟩ := vals_of_own hownM
        simp only [Value.slice.injEq, true_and] at hsl
        obtain ⟨rfl, rfl⟩ := hsl
        have hvr := hv1.keeps hkr (fun hn x hx h => by have := Hl1.out hn x hx; have := hb1.size; omega)
        rw [← HML.out] at hvM
        obtain ⟨hd1, hd2⟩ := delay_longer L M HML.out.symm hlong.out
        have hbr := hb1.trans (hkr.below hb1.size (fun k h1 h2 => by have := hb1.size; omega))
        have h60M : M.length ≤ 60 := by rw [HML.out]; exact h60'
        have HD1 := hid (fun W (hb : Below wr.heap.size wr W) => lob_Delay (w := W) (hvr.below hb (fun hn x hx => hvr.lt (by omega) hn hx)) (by omega))
        have HD2 := hid (fun W (hb : Below wr.heap.size wr W) => lob_Delay (w := W) (hvM.below hb (fun hn x hx => hvM.lt (by omega) hn hx)) (by omega))
        have HW1 := hid (fun W (hb : Below wr.heap.size wr W) => lob_Window (w := W) (hvr.below hb (fun hn x hx => hvr.lt (by omega) hn hx)) (by omega))
        have HW2 := hid (fun W (hb : Below wr.heap.size wr W) => lob_Window (w := W) (hvM.below hb (fun hn x hx => hvM.lt (by omega) hn hx)) (by omega))
        rw [if_pos Ht.out, if_pos Ht.out] at HD1 HW1
        rw [if_pos htr.out, if_pos htr.out, HML.out] at HD2 HW2
        generalize delayV L = d1 at *
        generalize delayV M = d2 at *
        generalize windowV L = d3 at *
        generalize windowV M = d4 at *
        have hd3 : decide (d1 ≤ d2) = true := by simpa using hd1
        have hd4 : decide (d3 ≤ d4) = true := by simpa using hd2
        clear hvM hvr hbM hML h60M
        go_wp2_with fail
        refine (HD1.out _ (Below.refl _ wr)).mono ?_
        rintro e w4 ⟨rfl, hb4⟩
        go_wp2_with fail
        refine (HD2.out _ hb4).mono ?_
        rintro e w5 ⟨rfl, hb5⟩
        have hb45 := bnext hb4 hb5
        go_wp2_with fail
        refine (HW1.out _ hb45).mono ?_
        rintro e w6 ⟨rfl, hb6⟩
        have hb46 := bnext hb45 hb6
        go_wp2_with fail
        refine (HW2.out _ hb46).mono ?_
        rintro e w7 ⟨rfl, hb7⟩
        have hb47 := bnext hb46 hb7
        go_wp2_with fail
        go_ret
        exact ⟨rfl, bnext hbr hb47⟩
    · obtain rfl : k = L.length := by omega
      obtain ⟨A2, cm2, hsl, hvM, hbM⟩ := vals_of_own hownM
      simp only [Value.slice.injEq, true_and] at hsl
      obtain ⟨rfl, rfl⟩ := hsl
      have hvr := hv1.keeps hkr (fun hn x hx h => by have := Hl1.out hn x hx; have := hb1.size; omega)
      rw [← HML.out] at hvM
      obtain ⟨hd1, hd2⟩ := delay_longer L M HML.out.symm hlong.out
      have hbr := hb1.trans (hkr.below hb1.size (fun k h1 h2 => by have := hb1.size; omega))
      have h60M : M.length ≤ 60 := by rw [HML.out]; exact h60'
      have HD1 := hid (fun W (hb : Below wr.heap.size wr W) => lob_Delay (w := W) (hvr.below hb (fun hn x hx => hvr.lt (by omega) hn hx)) (by omega))
      have HD2 := hid (fun W (hb : Below wr.heap.size wr W) => lob_Delay (w := W) (hvM.below hb (fun hn x hx => hvM.lt (by omega) hn hx)) (by omega))
      have HW1 := hid (fun W (hb : Below wr.heap.size wr W) => lob_Window (w := W) (hvr.below hb (fun hn x hx => hvr.lt (by omega) hn hx)) (by omega))
      have HW2 := hid (fun W (hb : Below wr.heap.size wr W) => lob_Window (w := W) (hvM.below hb (fun hn x hx => hvM.lt (by omega) hn hx)) (by omega))
      rw [if_pos Ht.out, if_pos Ht.out] at HD1 HW1
      rw [if_pos htr.out, if_pos htr.out, HML.out] at HD2 HW2
      generalize delayV L = d1 at *
      generalize delayV M = d2 at *
      generalize windowV L = d3 at *
      generalize windowV M = d4 at *
      have hd3 : decide (d1 ≤ d2) = true := by simpa using hd1
      have hd4 : decide (d3 ≤ d4) = true := by simpa using hd2
      clear hvM hvr hbM hML h60M
      go_wp2_with fail
      refine (HD1.out _ (Below.refl _ wr)).mono ?_
      rintro e w4 ⟨rfl, hb4⟩
      go_wp2_with fail
      refine (HD2.out _ hb4).mono ?_
      rintro e w5 ⟨rfl, hb5⟩
      have hb45 := bnext hb4 hb5
      go_wp2_with fail
      refine (HW1.out _ hb45).mono ?_
      rintro e w6 ⟨rfl, hb6⟩
      have hb46 := bnext hb45 hb6
      go_wp2_with fail
      refine (HW2.out _ hb46).mono ?_
      rintro e w7 ⟨rfl, hb7⟩
      have hb47 := bnext hb46 hb7
      go_wp2_with fail
      go_ret
      exact ⟨rfl, bnext hbr hb47⟩
end Go.Proofs.Ytfepefohaadecaa
