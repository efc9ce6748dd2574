/- How steady trips are: the program's answer, and the statement's own. -/
import Derived.Test.YtfepefohaadecaaRefAt
import Derived.Test.YtfepefohaadecaaDelI
import Derived.Shelf.Slices.Clone
namespace Go.Proofs.Ytfepefohaadecaa
open Go.RowKit
open Go.Shelf
def clone_ren : Go.Shelf.Ren := ⟨fun | 15 => 82 | n => n, fun | 3 => 3 | 4 => 4 | 22 => 52 | n => n, fun | n => n⟩
theorem clone_lay : Lays2.n15 Try.prog clone_ren := {
  mixed := by kernel_rfl
  f15 := Try.func82.trans (congrArg some (by kernel_rfl))
  t3 := Try.underlying3
  a3 := Try.isAgg3
  z3 := Try.sizeOf3
  v3 := Try.zeroValue3
  t4 := Try.underlying4
  a4 := Try.isAgg4
  z4 := Try.sizeOf4
  v4 := Try.zeroValue4
  t22 := Try.underlying52
  a22 := Try.isAgg52
  z22 := Try.sizeOf52
  v22 := Try.zeroValue52
  i3 := by kernel_rfl }

variable {w : World}
theorem clone_ints {a : Option Addr} {cap : Nat} {L : List Int} (hv : Vals w 1 a L.length cap (intsL L)) (hmax : L.length ≤ 4096) :
    Calls Try.prog 82 #[.slice a L.length cap] w fun e w' => ∃ v', e = .returned v' ∧ w'.ownsRow w.heap.size 3 1 v' L.length (L.map (Value.int .i64)) ∧ Below w.heap.size w w' := by
  rcases Nat.eq_zero_or_pos L.length with h0 | h0
  · obtain rfl : L = [] := List.eq_nil_of_length_eq_zero h0
    cases a with
    | none =>
      have hh := Any.slices_Clone_int_nil (P := Try.prog) (ρ := clone_ren) clone_lay 0 cap w
      change Calls Try.prog 82 _ _ _ at hh
      exact hh.mono fun _ _ ⟨h1, h2⟩ => ⟨_, h1, by subst h2; exact own_nil _ _ _ _, by subst h2; exact Below.refl _ _⟩
    | some x =>
      have hh := Any.slices_Clone_int_zero (P := Try.prog) (ρ := clone_ren) clone_lay x cap w
      change Calls Try.prog 82 _ _ _ at hh
      exact hh.mono fun _ _ ⟨v, h1, h2, _, h3⟩ => ⟨v, h1, h2, h3⟩
  · obtain ⟨b, o, rfl, hc⟩ := hv.at' h0
    have hh := Any.slices_Clone_int (P := Try.prog) (ρ := clone_ren) clone_lay b o L.length cap L w (Nat.le_refl _) (by omega) (fun j hj => (hc j _ (intsL_get L j hj)).trans (by simp [hj]))
    change Calls Try.prog 82 _ _ _ at hh
    rw [List.take_length] at hh
    exact hh.mono fun _ _ ⟨v, h1, h2, _, h3⟩ => ⟨v, h1, h2, h3⟩
theorem lob_steady1 (n : Int) (w : World) : Calls Try.prog 83 #[.int .i64 n] w fun e w' => e = .returned (.bool (!rangeT n)) ∧ w = w' := by
  go_enter Try.func83, Try.ntmps83
  go_wp2_with fail
  refine (lob_trip n w).mono ?_
  rintro e w' ⟨rfl, rfl⟩
  go_wp2
  go_ret
  exact ⟨rfl, rfl⟩
theorem cnt_all (L : List Int) (k : Int) : cntL (L.take L.length) k = cntL L k := by rw [List.take_length]
set_option maxRecDepth 10000 in
theorem lob_Steady {a : Option Addr} {cap : Nat} {L : List Int} (hv : Vals w 1 a L.length cap (intsL L)) (hmax : L.length ≤ 4096) :
    Calls Try.prog 53 #[.slice a L.length cap] w fun e w' => e = .returned (.int .i64 (steadyV L)) ∧ Below w.heap.size w w' := by
  have hC := hid (clone_ints hv hmax)
  have hgl : (goodL L).length ≤ L.length := List.length_filter_le _ _
  have hgood : (L.filter fun x => !(!rangeT x)) = goodL L := by unfold goodL; congr 1; funext x; simp
  have Hgood := hid hgood
  have Ht := hid (goodL_in L)
  obtain ⟨st, hst⟩ : ∃ st, steadyV L = st := ⟨_, rfl⟩
  rw [hst]
  have Hst := hid (show st = if (goodL L).length = 0 then 1000 else 1000 * (manyV (goodL L) : Int) / ((goodL L).length : Int) from hst.symm)
  clear hgood hv hst
  go_enter Try.func53, Try.ntmps53
  go_wp2_with fail
  refine hC.out.mono ?_
  rintro e w1 ⟨v1, rfl, hown1, hb1⟩
  go_wp2_with fail
  refine (del_ints L hown1 hmax (fun x => !rangeT x) 83 #[] (enters_of Try.func83 (by kernel_rfl) rfl) (fun W x _ => (lob_steady1 x W).mono fun _ _ ⟨h1, h2⟩ => ⟨h1, 0, h2.symm⟩)).mono ?_
  rintro e w2 ⟨v2, rfl, hown2, hk2⟩
  rw [Hgood.out] at hown2
  have hb2 : Below w.heap.size w w2 := hb1.trans (hk2.below hb1.size (fun k h1 h2 => by have := (hown1.lt k h2).1; omega))
  obtain ⟨A, cp, rfl, hvM, hbM⟩ := vals_of_own hown2
  have hvM : Vals w2 1 A (goodL L).length cp (intsL (goodL L)) := hvM
  clear hC hown1 hown2 hk2 hb1 hbM Hgood
  generalize goodL L = M at *
  rcases Nat.eq_zero_or_pos M.length with h0 | h0
  · have h1 := Hst.out
    rw [if_pos h0] at h1
    rw [h0]
    subst h1
    clear Hst h0
    go_wp2_with fail
    go_ret
    exact ⟨rfl, hb2⟩
  · have h1 := Hst.out
    rw [if_neg (by omega)] at h1
    have hne := pos_ne _ h0
    have H0 := hid h0
    obtain ⟨c1, c2⟩ := atV_in M 50 (by omega) Ht.out h0
    unfold manyV at h1
    have hat := hid (fun W (hb : Below w2.heap.size w2 W) => lob_at (w := W) (hvM.below hb (fun hn x hx => hvM.lt (by omega) hn hx)) 50 (by omega) h0 (by omega))
    have hml : M.length ≤ 4096 := by omega
    generalize atV M 50 = x at *
    have H1 := hid h1
    clear Hst hgl hmax Ht h1
    go_wp2_with fail
    refine (hat.out _ (Below.refl _ _)).mono ?_
    rintro e w3 ⟨rfl, hb3⟩
    have hv3 := hvM.below hb3 (fun hn x hx => hvM.lt (by omega) hn hx)
    have hbb := bnext hb2 hb3
    clear hat hb2 hb3 hvM h0
    go_wp2_with fail
    go_loop [5, 19] (fun n i => ∃ k c : Nat, k ≤ M.length ∧ i = .int .i64 k ∧ n = .int .i64 c ∧ c ≤ k ∧ Hid (c = cntL (M.take k) (x + 2))) (fun _ i => M.length - (intOf i).toNat)
    case atStart => exact ⟨0, 0, Nat.zero_le _, rfl, rfl, Nat.le_refl _, rfl⟩
    case round =>
      obtain ⟨k, c, hk, rfl, rfl, hck, hc⟩ := hrel
      by_cases hlt : k < M.length
      · obtain ⟨b, o, rfl, hcc⟩ := hv3.at' (by omega)
        have hck2 : w3.cell? ⟨b, o + k, none⟩ = some (.int .i64 M[k]) := hcc k _ (intsL_get M k hlt)
        have h2 := hid (cnt_succ M (x + 2) k hlt)
        have h4 := hid (hc.out ▸ h2.out : cntL (M.take (k + 1)) (x + 2) = c + if M[k] ≤ x + 2 then 1 else 0)
        clear hcc h2 hc
        generalize M[k] = y at *
        by_cases hy : y ≤ x + 2
        · have h5 := h4.out
          rw [if_pos hy] at h5
          have H5 := hid h5
          clear h5 h4
          go_wp2_with fail
          go_round
          case rel => exact ⟨k + 1, c + 1, by omega, by go_num, by go_num, by omega, H5.out.symm⟩
          case measure => simp [intOf]; omega
        · have h5 := h4.out
          rw [if_neg hy] at h5
          have H5 := hid h5
          clear h5 h4
          go_wp2_with fail
          go_round
          case rel => exact ⟨k + 1, c, by omega, by go_num, rfl, by omega, H5.out.symm⟩
          case measure => simp [intOf]; omega
      · obtain rfl : k = M.length := by omega
        have hc2 := hid (hc.out.trans (cnt_all M (x + 2)))
        have hmul : (c : Int) * 1000 = 1000 * (c : Int) := by omega
        have Hmul := hid hmul
        clear hc hmul
        have hpos := H0.out
        go_wp2_with fail
        go_ret
        exact ⟨ret_int (by rw [H1.out, ← hc2.out, Hmul.out]), hbb⟩
end Go.Proofs.Ytfepefohaadecaa
