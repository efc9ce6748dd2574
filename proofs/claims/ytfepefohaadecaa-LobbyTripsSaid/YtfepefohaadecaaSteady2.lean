/- The statement's own answer on how steady trips are. -/
import Derived.Test.YtfepefohaadecaaSteady
namespace Go.Proofs.Ytfepefohaadecaa
open Go.RowKit
variable {w : World}
theorem good_succ (L : List Int) (k : Nat) (h : k < L.length) : goodL (L.take (k + 1)) = goodL (L.take k) ++ if rangeT L[k] = true then [L[k]] else [] := by
  unfold goodL
  rw [List.take_succ_eq_append_getElem h, List.filter_append, List.filter_cons, List.filter_nil]
theorem good_take (L : List Int) : goodL (L.take L.length) = goodL L := by rw [List.take_length]
set_option maxRecDepth 10000 in
set_option maxHeartbeats 1600000 in
theorem law_steady {a : Option Addr} {cap : Nat} {L : List Int} (hv : Vals w 1 a L.length cap (intsL L)) (hmax : L.length ≤ 4096) :
    Calls Try.prog 24 #[.slice a L.length cap] w fun e w' => e = .returned (.bool true) ∧ Below w.heap.size w w' := by
  obtain ⟨i0, hi, hz0, hz1, hz2⟩ := info_parts info_int
  have Hi := hid hi
  have hS := fun (W : World) (hk : Keeps (fun _ => False) w W) => lob_Steady (w := W) (hv.keeps hk (fun _ _ _ => id)) hmax
  have hgl : (goodL L).length ≤ L.length := List.length_filter_le _ _
  have hst : steadyV L = if (goodL L).length = 0 then 1000 else 1000 * (manyV (goodL L) : Int) / ((goodL L).length : Int) := rfl
  have Ht := hid (goodL_in L)
  rw [hst] at hS
  clear hi hst
  go_enter Try.func24, Try.ntmps24
  go_wp2_with fail
  go_loopw [3, 4] (fun v i wr => ∃ k : Nat, k ≤ L.length ∧ i = .int .i64 k ∧ wr.ownsRow w.heap.size 3 1 v (goodL (L.take k)).length (intsL (goodL (L.take k))) ∧ Keeps (fun _ => False) w wr) (fun _ i _ => L.length - (intOf i).toNat)
  case atStart => exact ⟨0, Nat.zero_le _, rfl, own_empty (Nat.le_refl _) (blk_new _ _), (Keeps.refl _ w).alloc _⟩
  case round =>
    obtain ⟨k, hk, rfl, hown, hkr⟩ := hrel
    by_cases hlt : k < L.length
    · obtain ⟨b, o, rfl, hcc⟩ := (hv.keeps hkr (fun _ _ _ => id)).at' (by omega)
      have hck : wr.cell? ⟨b, o + k, none⟩ = some (.int .i64 L[k]) := hcc k _ (intsL_get L k hlt)
      have hs := good_succ L k hlt
      have hle : (goodL (L.take k)).length ≤ k := Nat.le_trans (List.length_filter_le _ _) (List.length_take_le _ _)
      clear hcc hv hS
      generalize L[k] = x at *
      generalize goodL (L.take k) = N at *
      by_cases h1 : 0 ≤ x
      · by_cases h2 : x ≤ 1000
        · rw [if_pos (rangeT_iff.2 ⟨h1, h2⟩)] at hs
          have Hs := hid hs
          clear hs
          go_wp2_with (at_builtin; refine wpList_append_vals _ rfl (.tmp 27) (.tmp 32) _ rfl w.heap.size 3 i0 _ 1 8 Try.underlying52 Hi.out hz0 hz1 hz2 rfl (by omega) _ N.length (intsL N) rfl (own_keeps hown ((Keeps.refl (fun _ => False) _).alloc _) (fun _ _ => id)) (some ⟨_, 0, none⟩) 1 1 [.int .i64 x] rfl (vals_one _ _ _) (by simp [Value.oneCell']) (by simp only [maxLen]; omega) (by omega) (by have := hkr.size; simp; omega) ?_)
          intro v1 w1 hown1 hg1 _
          have hk1 : Keeps (fun _ => False) w w1 := (hkr.alloc _).grown hg1 (fun k hk => .inr ((hown.lt k hk).1))
          go_wp2
          go_roundw
          case rel => exact ⟨k + 1, by omega, by go_num, by rw [Hs.out]; simpa [intsL] using hown1, hk1⟩
          case measure => simp [intOf]; omega
        · rw [if_neg (fun h => h2 (rangeT_iff.1 h).2), List.append_nil] at hs
          have Hs := hid hs
          clear hs
          go_wp2_with fail
          go_roundw
          case rel => exact ⟨k + 1, by omega, by go_num, by rw [Hs.out]; exact hown, hkr⟩
          case measure => simp [intOf]; omega
      · rw [if_neg (fun h => h1 (rangeT_iff.1 h).1), List.append_nil] at hs
        have Hs := hid hs
        clear hs
        go_wp2_with fail
        go_roundw
        case rel => exact ⟨k + 1, by omega, by go_num, by rw [Hs.out]; exact hown, hkr⟩
        case measure => simp [intOf]; omega
    · obtain rfl : k = L.length := by omega
      rw [good_take] at hown
      obtain ⟨A, cp, rfl, hvM, hbM⟩ := vals_of_own hown
      clear hown hbM hv
      generalize goodL L = M at *
      rcases Nat.eq_zero_or_pos M.length with h0 | h0
      · rw [if_pos h0] at hS
        have HS := hid hS
        rw [h0]
        clear hvM h0 hS
        go_wp2_with fail
        refine (HS.out _ hkr).mono ?_
        rintro e w9 ⟨rfl, hb9⟩
        go_wp2_with fail
        go_ret
        exact ⟨rfl, (hkr.below (Nat.le_refl _) (fun k h1 h2 => h2)).trans (hb9.mono hkr.size)⟩
      · rw [if_neg (by omega)] at hS
        have hA := hid (fun (W : World) (q : Nat) (hw : W = wr.drewN q) => ref_At (w := W) (by subst hw; exact hvM.keeps ((Keeps.refl (fun _ => False) wr).drewN q) (fun _ _ _ => id)) 50 (by omega) (Nat.le_trans hgl hmax))
        rw [refAt_atV M 50 (by omega) Ht.out h0] at hA
        obtain ⟨c1, c2⟩ := atV_in M 50 (by omega) Ht.out h0
        unfold manyV at hS
        have HS := hid hS
        have hml : M.length ≤ 4096 := by omega
        have hne := pos_ne _ h0
        generalize atV M 50 = y at *
        clear hS hgl hmax Ht
        go_wp2_with fail
        go_loopw [6, 7] (fun n i W => ∃ k c q : Nat, k ≤ M.length ∧ i = .int .i64 k ∧ n = .int .i64 c ∧ c ≤ k ∧ Hid (c = cntL (M.take k) (y + 2)) ∧ W = wr.drewN q) (fun _ i _ => M.length - (intOf i).toNat)
        case atStart => exact ⟨0, 0, 0, Nat.zero_le _, rfl, rfl, Nat.le_refl _, rfl, rfl⟩
        case round =>
          obtain ⟨k, c, q, hk, rfl, rfl, hck, hc, rfl⟩ := hrel
          by_cases hlt : k < M.length
          · obtain ⟨b, o, rfl, hcc⟩ := hvM.at' (by omega)
            have hck2 : wr.cell? ⟨b, o + k, none⟩ = some (.int .i64 M[k]) := hcc k _ (intsL_get M k hlt)
            have h2 := hid (cnt_succ M (y + 2) k hlt)
            have h4 := hid (hc.out ▸ h2.out : cntL (M.take (k + 1)) (y + 2) = c + if M[k] ≤ y + 2 then 1 else 0)
            clear hcc h2 hc hvM
            generalize M[k] = x at *
            have hwr : IntKind.i64.wrap (y + 2) = y + 2 := IntWalk.i64_in _ (by omega)
            by_cases hy : x ≤ y + 2
            · have h5 := h4.out
              rw [if_pos hy] at h5
              have H5 := hid h5
              have hd : decide (x ≤ y + 2) = true := by simpa using hy
              clear h5 h4
              go_wp2_with fail
              go_quiet ((go_at_call 27; first | exact Calls.quiet_of (quiet_s (hA.out _ _ rfl)) | exact quiet_d (quiet_s (hA.out _ _ rfl))))
              go_wp2_with fail
              go_roundw
              case rel => exact ⟨k + 1, c + 1, _, by omega, by go_num, by go_num, by omega, H5.out.symm, rfl⟩
              case measure => simp [intOf]; omega
            · have h5 := h4.out
              rw [if_neg hy] at h5
              have H5 := hid h5
              have hd : decide (x ≤ y + 2) = false := by simpa using hy
              clear h5 h4
              go_wp2_with fail
              go_quiet ((go_at_call 27; first | exact Calls.quiet_of (quiet_s (hA.out _ _ rfl)) | exact quiet_d (quiet_s (hA.out _ _ rfl))))
              go_wp2_with fail
              go_roundw
              case rel => exact ⟨k + 1, c, _, by omega, by go_num, rfl, by omega, H5.out.symm, rfl⟩
              case measure => simp [intOf]; omega
          · obtain rfl : k = M.length := by omega
            have hc2 := hc.out.trans (cnt_all M (y + 2))
            rw [← hc2] at HS
            have hkr := hkr.drewN q
            clear hc hc2
            go_wp2_with fail
            refine (HS.out _ hkr).mono ?_
            rintro e w9 ⟨rfl, hb9⟩
            go_wp2_with fail
            go_ret
            exact ⟨rfl, (hkr.below (Nat.le_refl _) (fun k h1 h2 => h2)).trans (hb9.mono hkr.size)⟩
end Go.Proofs.Ytfepefohaadecaa
