/- Cutting a cable; a cable that is not there. -/
import Derived.Test.YtdgbmnefpempaaaCable4
namespace Go.Proofs.Ytdgbmnefpempaaa
open Go.RowKit
def CS.total (s : CS) : Nat := s.a.length + s.b.length
section
variable {w w' : World} {c m most : Nat} {s : CS}
theorem drop_none (to : Int) (ht : okTo to) (h : s.get to = []) : copyC s to 0 = none := by
  unfold copyC
  rw [if_pos ⟨ht, Int.le_refl _⟩, h]
  rfl
theorem drop_some (to : Int) (ht : okTo to) (h : s.get to ≠ []) : (copyC s to 0).isSome = true ∧ (dropC s to 0).total + 1 = s.total ∧ (dropC s to 0).lost = s.lost + 1 ∧ (s.a = [] → (dropC s to 0).a = []) := by
  obtain ⟨v, L, hL⟩ := List.exists_cons_of_ne_nil h
  have hc : copyC s to 0 = some v := by
    unfold copyC
    rw [if_pos ⟨ht, Int.le_refl _⟩, hL]
    rfl
  have ht2 : takeC s to 0 = s.put to L := by
    unfold takeC
    rw [if_pos ⟨ht, Int.le_refl _⟩, hL]
    rfl
  unfold dropC
  rw [hc, ht2]
  refine ⟨rfl, ?_, rfl, ?_⟩
  · unfold CS.put CS.total
    unfold CS.get at hL
    rcases ht with rfl | rfl
    · simp at hL ⊢
      rw [hL]
      simp
      omega
    · simp at hL ⊢
      rw [hL]
      simp
      omega
  · intro ha
    unfold CS.put
    unfold CS.get at hL
    rcases ht with rfl | rfl
    · simp [ha] at hL
    · simpa using ha
/-- a cable on the way to being cut -/
structure CutSt (w wr : World) (c most : Nat) (s : CS) (k n : Nat) (s' : CS) : Prop where
  is : IsCable wr c most s'
  total : s'.total + n = s.total
  lost : s'.lost = s.lost + n
  a : 1 ≤ k → s'.a = []
  b : 2 ≤ k → s'.b = []
  keeps : Keeps (ofCable c) w wr
set_option maxHeartbeats 800000 in
theorem cable_Cut (h : IsCable w c most s) (hl : 0 ≤ s.lost ∧ s.lost ≤ 900000) (hm : most ≤ 64) :
    Calls Try.prog 14 #[.pointer (some ⟨c, 0, none⟩)] w fun e w' => e = .returned (.int .i64 s.total) ∧ IsCable w' c most ⟨[], [], s.lost + s.total⟩ ∧ Keeps (ofCable c) w w' := by
  have hst : s.total ≤ 128 := by
    have := (h.ra).le
    have := (h.rb).le
    unfold CS.total
    omega
  have h0 := hid (show CutSt w w c most s 0 0 s from ⟨h, rfl, by simp, fun h => by omega, fun h => by omega, Keeps.refl _ _⟩)
  go_enter Try.func14, Try.ntmps14
  go_wp2_with fail
  go_loopw [3, 5] (fun n i wr => ∃ (k m : Nat) (s' : CS), k ≤ 2 ∧ i = .int .i64 k ∧ n = .int .i64 m ∧ Hid (CutSt w wr c most s k m s')) (fun _ i _ => 2 - (intOf i).toNat)
  case atStart => exact ⟨0, 0, s, by omega, rfl, rfl, h0⟩
  case round =>
    obtain ⟨k, m, s1, hk, rfl, rfl, hC⟩ := hrel
    obtain ⟨wo, rfl⟩ : ∃ wo : World, wo = wr := ⟨_, rfl⟩
    clear h0
    by_cases hlt : (k : Int) < 2
    · go_wp2_with fail
      go_loopw [3] (fun n wr => ∃ (m : Nat) (s' : CS), n = .int .i64 m ∧ Hid (CutSt w wr c most s k m s')) (fun n _ => s.total - (intOf n).toNat)
      case atStart => exact ⟨m, s1, rfl, hC⟩
      case round =>
        clear hC
        obtain ⟨m, s1, rfl, hC⟩ := hrel
        obtain ⟨hI, ht, hlo, ha, hb, hkp⟩ := hC.out
        have hot : okTo k := by unfold okTo; omega
        have hD := cable_Drop hI (by omega) k 0
        have hms : m ≤ s.total := by omega
        by_cases he : s1.get k = []
        · rw [drop_none k hot he] at hD
          have hde : dropC s1 k 0 = s1 := by unfold dropC; rw [drop_none k hot he]; rfl
          rw [hde] at hD
          have HD := hid hD
          have He := hid he
          have Ha := hid ha
          have Hb := hid hb
          clear hD hde he hC ha hb
          go_wp2_with fail
          refine HD.out.mono ?_
          rintro e w2 ⟨rfl, h2, k2⟩
          go_wp2_with fail
          go_roundw
          case rel =>
            refine ⟨k + 1, m, s1, by omega, by go_num, rfl, ⟨h2, ht, hlo, fun _ => ?_, fun hk => ?_, hkp.trans k2⟩⟩
            · have hE := He.out
              by_cases h1 : 1 ≤ k
              · exact Ha.out h1
              · have : k = 0 := by omega
                subst this
                simpa [CS.get] using hE
            · have hE := He.out
              have : k = 1 := by omega
              subst this
              simpa [CS.get] using hE
          case measure => simp [intOf]; omega
        · obtain ⟨d1, d2, d3, d4⟩ := drop_some k hot he
          rw [d1] at hD
          have HD := hid hD
          have He := hid he
          have Ha := hid ha
          have Hb := hid hb
          have D4 := hid d4
          have D3 := hid d3
          clear hD he hC ha hb d1 d4 d3
          go_wp2_with fail
          refine HD.out.mono ?_
          rintro e w2 ⟨rfl, h2, k2⟩
          go_wp2_with fail
          go_roundw
          case rel =>
            have hcs : CutSt w w2 c most s k (m + 1) (dropC s1 k 0) := ⟨h2, by omega, by rw [D3.out]; omega, fun h1 => D4.out (Ha.out h1), fun h2 => by omega, hkp.trans k2⟩
            exact ⟨m + 1, dropC s1 k 0, by go_num, hcs⟩
          case measure => simp [intOf]; omega
    · obtain ⟨hI, ht, hlo, ha, hb, hkp⟩ := hC.out
      have hk2 : k = 2 := by omega
      subst hk2
      have e1 := ha (by omega)
      have e2 := hb (by omega)
      have e3 : m = s.total := by rw [CS.total, e1, e2] at ht; simpa using ht
      have e4 : s1 = ⟨[], [], s.lost + s.total⟩ := by cases s1; simp at e1 e2 hlo; subst e1 e2; rw [hlo, e3]
      rw [e4] at hI
      rw [e3]
      clear ha hb e1 e2 e3 e4 ht hlo hC hlt
      go_wp2_with fail
      go_ret
      exact ⟨rfl, hI, hkp⟩
theorem nilC_end (to : Int) (w : World) : Calls Try.prog 30 #[.pointer none, .int .i64 to] w fun e w' => e = .returned (.pointer none) ∧ w = w' := cable_end_nil to w
theorem nilC_Send (to : Int) (t : ByteArray) (w : World) : Calls Try.prog 10 #[.pointer none, .int .i64 to, .string t] w fun e w' => e = .returned (.tuple #[.bool false, .int .i64 2]) ∧ w = w' := by
  go_enter Try.func10, Try.ntmps10
  go_wp2_with fail
  refine (cable_end_nil to w).mono ?_
  rintro e w' ⟨rfl, rfl⟩
  go_wp2
  go_ret2
  exact ⟨rfl, rfl⟩
theorem nilC_Take (to i : Int) (w : World) : Calls Try.prog 11 #[.pointer none, .int .i64 to, .int .i64 i] w fun e w' => e = .returned (.tuple #[.string ByteArray.empty, .bool false]) ∧ w = w' := by
  go_enter Try.func11, Try.ntmps11
  go_wp2_with fail
  refine (cable_end_nil to w).mono ?_
  rintro e w' ⟨rfl, rfl⟩
  go_wp2_with fail
  refine (nil_Take i w).mono ?_
  rintro e w' ⟨rfl, rfl⟩
  go_wp2
  go_ret2
  exact ⟨rfl, rfl⟩
theorem nilC_Copy (to i : Int) (w : World) : Calls Try.prog 12 #[.pointer none, .int .i64 to, .int .i64 i] w fun e w' => e = .returned (.tuple #[.string ByteArray.empty, .bool false]) ∧ w = w' := by
  go_enter Try.func12, Try.ntmps12
  go_wp2_with fail
  refine (cable_end_nil to w).mono ?_
  rintro e w' ⟨rfl, rfl⟩
  go_wp2_with fail
  refine (nil_At i w).mono ?_
  rintro e w' ⟨rfl, rfl⟩
  go_wp2
  go_ret2
  exact ⟨rfl, rfl⟩
theorem nilC_Drop (to i : Int) (w : World) : Calls Try.prog 13 #[.pointer none, .int .i64 to, .int .i64 i] w fun e w' => e = .returned (.bool false) ∧ w = w' := by
  go_enter Try.func13, Try.ntmps13
  go_wp2_with fail
  refine (nilC_Take to i w).mono ?_
  rintro e w' ⟨rfl, rfl⟩
  go_wp2
  go_ret
  exact ⟨rfl, rfl⟩
theorem nilC_Spoil (to i x b : Int) (w : World) : Calls Try.prog 18 #[.pointer none, .int .i64 to, .int .i64 i, .int .i64 x, .int .u8 b] w fun e w' => e = .returned (.tuple #[.string ByteArray.empty, .bool false]) ∧ w = w' := by
  go_enter Try.func18, Try.ntmps18
  go_wp2_with fail
  refine (nilC_Take to i w).mono ?_
  rintro e w' ⟨rfl, rfl⟩
  go_wp2
  go_ret2
  exact ⟨rfl, rfl⟩
theorem nilC_Flying (to : Int) (w : World) : Calls Try.prog 16 #[.pointer none, .int .i64 to] w fun e w' => e = .returned (.int .i64 0) ∧ w = w' := by
  go_enter Try.func16, Try.ntmps16
  go_wp2_with fail
  refine (cable_end_nil to w).mono ?_
  rintro e w' ⟨rfl, rfl⟩
  go_wp2_with fail
  refine (nil_Len w).mono ?_
  rintro e w' ⟨rfl, rfl⟩
  go_wp2
  go_ret
  exact ⟨rfl, rfl⟩
theorem nilC_Lost (w : World) : Calls Try.prog 15 #[.pointer none] w fun e w' => e = .returned (.int .i64 0) ∧ w = w' := by
  go_enter Try.func15, Try.ntmps15
  go_wp2
  go_ret
  exact ⟨rfl, rfl⟩
theorem nilC_Cut (w : World) : Calls Try.prog 14 #[.pointer none] w fun e w' => e = .returned (.int .i64 0) ∧ ∃ q, w' = w.drewN q := by
  go_enter Try.func14, Try.ntmps14
  go_wp2_with fail
  go_loopw [3, 5] (fun n i wr => ∃ k q : Nat, k ≤ 2 ∧ i = .int .i64 k ∧ n = .int .i64 0 ∧ w.drewN q = wr) (fun _ i _ => 2 - (intOf i).toNat)
  case atStart => exact ⟨0, 0, by omega, rfl, rfl, rfl⟩
  case round =>
    obtain ⟨k, q, hk, rfl, rfl, rfl⟩ := hrel
    by_cases hlt : (k : Int) < 2
    · go_wp2_with fail
      go_loopw [3] (fun n wr => n = .int .i64 0 ∧ w.drewN q = wr) (fun _ _ => 0)
      case atStart => exact ⟨rfl, rfl⟩
      case round =>
        obtain ⟨rfl, rfl⟩ := hrel
        go_wp2_with fail
        refine (nilC_Drop k 0 _).mono ?_
        rintro e w' ⟨rfl, rfl⟩
        go_wp2_with fail
        go_roundw
        case rel => exact ⟨k + 1, q, by omega, by go_num, rfl, rfl⟩
        case measure => simp [intOf]; omega
    · go_wp2_with fail
      go_ret
      exact ⟨rfl, q, rfl⟩
end
end Go.Proofs.Ytdgbmnefpempaaa
