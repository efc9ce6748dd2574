/- The law on taking anew from the first wrong frame on. -/
import Derived.Test.YtdgbmnefpempaaaFeedR
import Derived.Deep.DeepCutAuto
import Derived.Deep.LoopGhost
namespace Go.Proofs.Ytdgbmnefpempaaa
open Go.RowKit
variable {w : World}
/-- what a round of the law keeps: the feed, and the call that is looked at -/
structure Mid (w0 : World) (D m xb : Nat) (c : FAct) (w : World) : Prop where
  feed : AnyFeed D m w
  x0 : w.cell? ⟨xb, 0, none⟩ = some (.int .i64 c.kind)
  below : Below w0.heap.size w0 w
  lD : w0.heap.size ≤ D
  lx : D + 4 < xb
theorem Mid.next {w0 w w' : World} {D m m' xb : Nat} {c : FAct} (h : Mid w0 D m xb c w) (hk : Keeps (fun b => Feeds D b) w w') (hf : AnyFeed D m' w') : Mid w0 D m' xb c w' :=
  ⟨hf, hk.cell h.x0 (by have := h.lx; unfold Feeds; simp; omega), h.below.trans (hk.below h.below.size (fun k hk => by have := h.lD; unfold Feeds; omega)), h.lD, h.lx⟩
theorem clean_step {first j : Nat} {K U : List (Nat × Int)} {x : Int} (h : Clean j K U) (hx : lookL K j = some x) (hj : j < first + 64) : Clean (j + 1) K (takeU first U j x) := by
  intro g y z hg hy hz
  unfold takeU at hy
  rw [if_pos hj, lookL_put] at hy
  split at hy
  · rename_i e
    subst e
    rw [hx] at hz
    cases hz
    exact Option.some.inj hy
  · exact h g y z (by omega) hy hz
set_option maxRecDepth 100000 in
set_option maxHeartbeats 4000000 in
theorem law_FeedRight (w : World) (la : Option Addr) (lc : Nat) (M : List FAct) (hM : Vals w 3 la M.length lc (facts M)) (hMw : ∀ c ∈ M, c.wf) :
    Calls Try.prog 6 #[.slice la M.length lc] w fun e w' => e = .returned (.bool true) ∧ Below w.heap.size w w' := by
  have hm1 : M.length ≤ 9223372036854775807 := Nat.le_trans hM.2.1 hM.2.2.1
  have HMw := hid hMw
  clear hMw
  go_enter Try.func6, Try.ntmps6
  go_wp2_with fail
  refine (awake14 _).mono ?_
  rintro e w1 ⟨rfl, hb1⟩
  go_wp2_with fail
  refine (feed_New w1).mono ?_
  rintro e w2 ⟨rfl, h2, hb2⟩
  have hb0 := hb1.trans (hb2.mono hb1.size)
  have hlD := hb1.size
  have hf0 : AnyFeed w1.heap.size 0 w2 := ⟨0, 0, 0, [], [], h2, ⟨Nat.le_refl _, fun f h1 h2 => by omega, fun f x h => by cases h⟩, Nat.le_refl _⟩
  clear hb1 hb2 h2
  generalize w1.heap.size = D at *
  go_wp2_with fail
  go_loopg [4] 250 (fun g i wr => ∃ k : Nat, g = 250 - k ∧ k ≤ 250 ∧ i = .int .i64 k ∧ AnyFeed D k wr ∧ Below w.heap.size w wr)
  case atStart => exact ⟨0, rfl, by omega, rfl, hf0, hb0⟩
  case round =>
    obtain ⟨k, hg, hk, rfl, hR, hW⟩ := hrel
    clear hf0 hb0
    by_cases hlt : k < M.length
    · by_cases hl2 : k < 250
      · obtain ⟨b, o, rfl, hc⟩ := (hM.below hW (fun hn x hx => hM.lt (by omega) hn hx)).at' (by omega)
        obtain ⟨a0, a1, a2⟩ := facts_at M k hlt
        have hc0 : wr.cell? ⟨b, o + k * 3, none⟩ = some (.int .i64 M[k].kind) := hc _ _ a0
        have hc1 : wr.cell? ⟨b, o + k * 3 + 1, none⟩ = some (.int .i64 M[k].n) := by rw [Nat.add_assoc]; exact hc _ _ a1
        have hc2 : wr.cell? ⟨b, o + k * 3 + 2, none⟩ = some (.int .u8 M[k].x) := by rw [Nat.add_assoc]; exact hc _ _ a2
        have hwf := HMw.out M[k] (List.getElem_mem hlt)
        have hcr := wf_i64 hwf.2.1
        clear hc a0 a1 a2 hwf
        generalize M[k] = c at *
        go_upto_region 8 with fail
        have hxb := blk_new wr (.cells #[.int .i64 c.kind, .int .i64 c.n, .int .u8 c.x] 50)
        have hk0 : Keeps (fun _ => False) wr (wr.alloc (.cells #[.int .i64 c.kind, .int .i64 c.n, .int .u8 c.x] 50)) := (Keeps.refl _ wr).alloc _
        have hM0 : Mid w D k wr.heap.size c (wr.alloc (.cells #[.int .i64 c.kind, .int .i64 c.n, .int .u8 c.x] 50)) :=
          ⟨by obtain ⟨a1, a2, a3, a4, a5, a6, a7⟩ := hR; exact ⟨a1, a2, a3, a4, a5, a6.keep hk0, a7⟩, blk_cell (k := 0) hxb rfl, hW.alloc hW.size _, hlD, by obtain ⟨a1, a2, a3, a4, a5, a6, a7⟩ := hR; exact a6.lt⟩
        have x1 := blk_cell (k := 1) hxb rfl
        have x2 := blk_cell (k := 2) hxb rfl
        have x0 := hM0.x0
        generalize wr.alloc (.cells #[.int .i64 c.kind, .int .i64 c.n, .int .u8 c.x] 50) = W0 at *
        generalize wr.heap.size = xb at *
        clear hxb hc0 hc1 hc2 hR hW hk0
        by_cases hk1 : c.kind = 1
        · have hq1 : (c.kind == 1) = true := by rw [beq_iff_eq]; exact hk1
          have hq3 : (c.kind == 3) = false := by rw [hk1]; rfl
          clear hk1
          as_aux_lemma =>
            go_wp2_with fail
            refine (any_Put hM0.feed (by omega) c.x c.n hcr).mono ?_
            rintro e w1 ⟨⟨cc, rfl⟩, hf1, hk1⟩
            have hM1 := hM0.next hk1 hf1
            clear x0 x1 x2 hM0 hk1 hf1
            obtain ⟨first, next, last, K, U, hF, hI, hn⟩ := id hM1.feed
            go_wp2_with fail
            refine (feed_Wrong hF).mono ?_
            rintro e w2 ⟨rfl, hk2⟩
            have hF2 := hF.keep hk2
            have hM2 := hM1.next (keeps_any hk2) ⟨_, _, _, _, _, hF2, hI, hn⟩
            have x0 := hM2.x0
            cases hwr : wrongL K U with
            | none =>
              simp only [Option.getD_none, Option.isSome_none]
              clear hwr
              have hMf := hM2
              go_wp2_with fail
              go_roundg (250 - (k + 1))
              case measure => omega
              case rel => exact ⟨k + 1, rfl, by omega, by go_num, hMf.feed, hMf.below⟩
            | some n =>
              have hle := hI.le
              obtain ⟨hcl, v, hv⟩ := wrong_some hF.used.asc hwr
              obtain ⟨l1, l2⟩ := hI.lt n v hv
              obtain ⟨v', hv', hv63⟩ := hI.all n l1 l2
              rw [hv] at hv'
              cases hv'
              have hKn : Calls Try.prog 25 #[.pointer (some ⟨D + 4, 0, none⟩), .int .i64 ((n : Nat) : Int)] w2 fun e w' => e = .returned (.tuple #[.int .u8 v, .bool true]) ∧ ∃ q2, w' = w2.drewN q2 := by
                have := feed_Known hF2 (n : Int) (by omega)
                rw [lookI_nat, hv] at this
                exact this
              have HKn := hid hKn
              have Hcl := hid hcl
              have Hv := hid hv
              simp only [Option.getD_some, Option.isSome_some]
              clear hKn hcl hv hwr
              have l1' : (first : Int) ≤ (n : Int) := by omega
              have l2' : (n : Int) < (next : Int) := by omega
              have d1 : decide (n < first) = false := by simp; omega
              have d2 : decide (next ≤ n) = false := by simp; omega
              have d3 : decide (63 < v) = false := by simp; omega
              go_wp2_with fail
              refine HKn.out.mono ?_
              rintro e w3 ⟨rfl, q3, rfl⟩
              have hF3 := hF2.drew q3
              have hM3 := hM2.next ((Keeps.refl _ w2).drewN q3) ⟨_, _, _, _, _, hF3, hI, hn⟩
              clear hF2 hM2 x0
              generalize w2.drewN q3 = w3 at *
              have x0 := hM3.x0
              go_wp2_with fail
              refine (feed_First hF3).mono ?_
              rintro e w4 ⟨rfl, rfl⟩
              go_wp2_with fail
              refine (feed_Next hF3).mono ?_
              rintro e w4 ⟨rfl, rfl⟩
              go_wp2_with fail
              have hMf := hM3
              go_roundg (250 - (k + 1))
              case measure => omega
              case rel => exact ⟨k + 1, rfl, by omega, by go_num, hMf.feed, hMf.below⟩
        by_cases hk2 : c.kind = 2
        · have hq1 : (c.kind == 1) = false := by rw [hk2]; rfl
          have hq2 : (c.kind == 2) = true := by rw [beq_iff_eq]; exact hk2
          have hq3 : (c.kind == 3) = false := by rw [hk2]; rfl
          clear hk1 hk2
          as_aux_lemma =>
            go_wp2_with fail
            refine (any_Take hM0.feed c.n).mono ?_
            rintro e w1 ⟨⟨cc, bb, rfl⟩, hf1, hk1⟩
            have hM1 := hM0.next hk1 hf1
            clear x0 x1 x2 hM0 hk1 hf1
            obtain ⟨first, next, last, K, U, hF, hI, hn⟩ := id hM1.feed
            go_wp2_with fail
            refine (feed_Wrong hF).mono ?_
            rintro e w2 ⟨rfl, hk2⟩
            have hF2 := hF.keep hk2
            have hM2 := hM1.next (keeps_any hk2) ⟨_, _, _, _, _, hF2, hI, hn⟩
            have x0 := hM2.x0
            cases hwr : wrongL K U with
            | none =>
              simp only [Option.getD_none, Option.isSome_none]
              clear hwr
              have hMf := hM2
              go_wp2_with fail
              go_roundg (250 - (k + 1))
              case measure => omega
              case rel => exact ⟨k + 1, rfl, by omega, by go_num, hMf.feed, hMf.below⟩
            | some n =>
              have hle := hI.le
              obtain ⟨hcl, v, hv⟩ := wrong_some hF.used.asc hwr
              obtain ⟨l1, l2⟩ := hI.lt n v hv
              obtain ⟨v', hv', hv63⟩ := hI.all n l1 l2
              rw [hv] at hv'
              cases hv'
              have hKn : Calls Try.prog 25 #[.pointer (some ⟨D + 4, 0, none⟩), .int .i64 ((n : Nat) : Int)] w2 fun e w' => e = .returned (.tuple #[.int .u8 v, .bool true]) ∧ ∃ q2, w' = w2.drewN q2 := by
                have := feed_Known hF2 (n : Int) (by omega)
                rw [lookI_nat, hv] at this
                exact this
              have HKn := hid hKn
              have Hcl := hid hcl
              have Hv := hid hv
              simp only [Option.getD_some, Option.isSome_some]
              clear hKn hcl hv hwr
              have l1' : (first : Int) ≤ (n : Int) := by omega
              have l2' : (n : Int) < (next : Int) := by omega
              have d1 : decide (n < first) = false := by simp; omega
              have d2 : decide (next ≤ n) = false := by simp; omega
              have d3 : decide (63 < v) = false := by simp; omega
              go_wp2_with fail
              refine HKn.out.mono ?_
              rintro e w3 ⟨rfl, q3, rfl⟩
              have hF3 := hF2.drew q3
              have hM3 := hM2.next ((Keeps.refl _ w2).drewN q3) ⟨_, _, _, _, _, hF3, hI, hn⟩
              clear hF2 hM2 x0
              generalize w2.drewN q3 = w3 at *
              have x0 := hM3.x0
              go_wp2_with fail
              refine (feed_First hF3).mono ?_
              rintro e w4 ⟨rfl, rfl⟩
              go_wp2_with fail
              refine (feed_Next hF3).mono ?_
              rintro e w4 ⟨rfl, rfl⟩
              go_wp2_with fail
              have hMf := hM3
              go_roundg (250 - (k + 1))
              case measure => omega
              case rel => exact ⟨k + 1, rfl, by omega, by go_num, hMf.feed, hMf.below⟩
        have hq1 : (c.kind == 1) = false := by rw [beq_eq_false_iff_ne]; exact hk1
        have hq2 : (c.kind == 2) = false := by rw [beq_eq_false_iff_ne]; exact hk2
        by_cases hk3 : c.kind = 3
        · have hq3 : (c.kind == 3) = true := by rw [beq_iff_eq]; exact hk3
          clear hk1 hk2 hk3
          as_aux_lemma =>
            go_wp2_with fail
            refine (any_Trim hM0.feed (by omega) c.n).mono ?_
            rintro e w1 ⟨⟨cc, rfl⟩, hf1, hk1⟩
            have hM1 := hM0.next hk1 hf1
            clear x0 x1 x2 hM0 hk1 hf1
            obtain ⟨first, next, last, K, U, hF, hI, hn⟩ := id hM1.feed
            go_wp2_with fail
            refine (feed_Wrong hF).mono ?_
            rintro e w2 ⟨rfl, hk2⟩
            have hF2 := hF.keep hk2
            have hM2 := hM1.next (keeps_any hk2) ⟨_, _, _, _, _, hF2, hI, hn⟩
            have x0 := hM2.x0
            cases hwr : wrongL K U with
            | none =>
              simp only [Option.getD_none, Option.isSome_none]
              clear hwr
              have hMf := hM2
              go_wp2_with fail
              go_roundg (250 - (k + 1))
              case measure => omega
              case rel => exact ⟨k + 1, rfl, by omega, by go_num, hMf.feed, hMf.below⟩
            | some n =>
              have hle := hI.le
              obtain ⟨hcl, v, hv⟩ := wrong_some hF.used.asc hwr
              obtain ⟨l1, l2⟩ := hI.lt n v hv
              obtain ⟨v', hv', hv63⟩ := hI.all n l1 l2
              rw [hv] at hv'
              cases hv'
              have hKn : Calls Try.prog 25 #[.pointer (some ⟨D + 4, 0, none⟩), .int .i64 ((n : Nat) : Int)] w2 fun e w' => e = .returned (.tuple #[.int .u8 v, .bool true]) ∧ ∃ q2, w' = w2.drewN q2 := by
                have := feed_Known hF2 (n : Int) (by omega)
                rw [lookI_nat, hv] at this
                exact this
              have HKn := hid hKn
              have Hcl := hid hcl
              have Hv := hid hv
              simp only [Option.getD_some, Option.isSome_some]
              clear hKn hcl hv hwr
              have l1' : (first : Int) ≤ (n : Int) := by omega
              have l2' : (n : Int) < (next : Int) := by omega
              have d1 : decide (n < first) = false := by simp; omega
              have d2 : decide (next ≤ n) = false := by simp; omega
              have d3 : decide (63 < v) = false := by simp; omega
              go_wp2_with fail
              refine HKn.out.mono ?_
              rintro e w3 ⟨rfl, q3, rfl⟩
              have hF3 := hF2.drew q3
              have hM3 := hM2.next ((Keeps.refl _ w2).drewN q3) ⟨_, _, _, _, _, hF3, hI, hn⟩
              clear hF2 hM2 x0
              generalize w2.drewN q3 = w3 at *
              have x0 := hM3.x0
              go_wp2_with fail
              refine (feed_First hF3).mono ?_
              rintro e w4 ⟨rfl, rfl⟩
              go_wp2_with fail
              refine (feed_Next hF3).mono ?_
              rintro e w4 ⟨rfl, rfl⟩
              go_wp2_with fail
              have hnx : next ≤ 251 := by omega
              go_loopg [10] (300 - n) (fun g v wr => ∃ (j : Nat) (U2 : List (Nat × Int)), g = 300 - j ∧ n ≤ j ∧ j ≤ next ∧ v = .int .i64 j ∧ IsFeed wr D first next last K U2 ∧ Hid (Clean j K U2) ∧ Keeps (fun b => Feeds D b) w3 wr)
              case atStart => exact ⟨n, U, rfl, Nat.le_refl _, by omega, rfl, hF3, Hcl, Keeps.refl _ _⟩
              case round =>
                obtain ⟨j, U2, hg2, hj1, hj2, rfl, hF4, hcl2, hkr⟩ := hrel
                by_cases hjl : j < next
                · obtain ⟨x, hx, _⟩ := hI.all j (by omega) hjl
                  have hT := feed_Take hF4 j (j : Int) rfl ⟨by omega, by omega⟩
                  unfold takeV at hT
                  rw [hx] at hT
                  simp only [Option.getD_some, Option.isSome_some] at hT
                  have HT := hid hT
                  have hx' : lookI K (j : Int) = some x := by rw [lookI_nat, hx]
                  have hin := hF4.known.inwin _ (lookL_mem hx)
                  have Hcl2 := hid (clean_step hcl2.out hx hin.2)
                  have Hx := hid hx'
                  have hq : (x != x) = false := by simp
                  clear hT hx hx' hin
                  go_wp2_with fail
                  refine (feed_Next hF4).mono ?_
                  rintro e w4 ⟨rfl, rfl⟩
                  go_wp2_with fail
                  refine HT.out.mono ?_
                  rintro e w5 ⟨rfl, hF5, hk5⟩
                  have hK5 := feed_Known hF5 (j : Int) (by omega)
                  rw [Hx.out] at hK5
                  simp only [Option.getD_some, Option.isSome_some] at hK5
                  have HK5 := hid hK5
                  clear hK5
                  go_wp2_with fail
                  refine HK5.out.mono ?_
                  rintro e w6 ⟨rfl, q6, rfl⟩
                  go_wp2_with fail
                  go_roundg (300 - (j + 1))
                  case measure => omega
                  case rel => exact ⟨j + 1, _, rfl, by omega, by omega, by go_num, hF5.drew q6, Hcl2, (hkr.trans hk5).drewN q6⟩
                · obtain rfl : j = next := by omega
                  have hno := wrong_none hF4.used.asc (fun g y x hy hx => hcl2.out g y x (hI.lt g x hx).2 hy hx)
                  have hW4 := feed_Wrong hF4
                  rw [hno] at hW4
                  simp only [Option.getD_none, Option.isSome_none] at hW4
                  have HW4 := hid hW4
                  clear hno hW4
                  go_wp2_with fail
                  refine (feed_Next hF4).mono ?_
                  rintro e w4 ⟨rfl, rfl⟩
                  go_wp2_with fail
                  refine HW4.out.mono ?_
                  rintro e w5 ⟨rfl, hk5⟩
                  have hMf := hM3.next (m' := k + 1) (hkr.trans (keeps_any hk5)) ⟨_, _, _, _, _, hF4.keep hk5, hI, hn⟩
                  go_wp2_with fail
                  go_roundg (250 - (k + 1))
                  case measure => omega
                  case rel => exact ⟨k + 1, rfl, by omega, by go_num, hMf.feed, hMf.below⟩
        · have hq3 : (c.kind == 3) = false := by rw [beq_eq_false_iff_ne]; exact hk3
          clear hk1 hk2 hk3
          as_aux_lemma =>
            have hM1 := hM0.next (m' := k + 1) (Keeps.refl _ W0) (by obtain ⟨a1, a2, a3, a4, a5, a6, a7, a8⟩ := hM0.feed; exact ⟨a1, a2, a3, a4, a5, a6, a7, by omega⟩)
            clear x1 x2 hM0
            obtain ⟨first, next, last, K, U, hF, hI, hn⟩ := id hM1.feed
            go_wp2_with fail
            refine (feed_Wrong hF).mono ?_
            rintro e w2 ⟨rfl, hk2⟩
            have hF2 := hF.keep hk2
            have hM2 := hM1.next (keeps_any hk2) ⟨_, _, _, _, _, hF2, hI, hn⟩
            have x0 := hM2.x0
            cases hwr : wrongL K U with
            | none =>
              simp only [Option.getD_none, Option.isSome_none]
              clear hwr
              have hMf := hM2
              go_wp2_with fail
              go_roundg (250 - (k + 1))
              case measure => omega
              case rel => exact ⟨k + 1, rfl, by omega, by go_num, hMf.feed, hMf.below⟩
            | some n =>
              have hle := hI.le
              obtain ⟨hcl, v, hv⟩ := wrong_some hF.used.asc hwr
              obtain ⟨l1, l2⟩ := hI.lt n v hv
              obtain ⟨v', hv', hv63⟩ := hI.all n l1 l2
              rw [hv] at hv'
              cases hv'
              have hKn : Calls Try.prog 25 #[.pointer (some ⟨D + 4, 0, none⟩), .int .i64 ((n : Nat) : Int)] w2 fun e w' => e = .returned (.tuple #[.int .u8 v, .bool true]) ∧ ∃ q2, w' = w2.drewN q2 := by
                have := feed_Known hF2 (n : Int) (by omega)
                rw [lookI_nat, hv] at this
                exact this
              have HKn := hid hKn
              have Hcl := hid hcl
              have Hv := hid hv
              simp only [Option.getD_some, Option.isSome_some]
              clear hKn hcl hv hwr
              have l1' : (first : Int) ≤ (n : Int) := by omega
              have l2' : (n : Int) < (next : Int) := by omega
              have d1 : decide (n < first) = false := by simp; omega
              have d2 : decide (next ≤ n) = false := by simp; omega
              have d3 : decide (63 < v) = false := by simp; omega
              go_wp2_with fail
              refine HKn.out.mono ?_
              rintro e w3 ⟨rfl, q3, rfl⟩
              have hF3 := hF2.drew q3
              have hM3 := hM2.next ((Keeps.refl _ w2).drewN q3) ⟨_, _, _, _, _, hF3, hI, hn⟩
              clear hF2 hM2 x0
              generalize w2.drewN q3 = w3 at *
              have x0 := hM3.x0
              go_wp2_with fail
              refine (feed_First hF3).mono ?_
              rintro e w4 ⟨rfl, rfl⟩
              go_wp2_with fail
              refine (feed_Next hF3).mono ?_
              rintro e w4 ⟨rfl, rfl⟩
              go_wp2_with fail
              have hMf := hM3
              go_roundg (250 - (k + 1))
              case measure => omega
              case rel => exact ⟨k + 1, rfl, by omega, by go_num, hMf.feed, hMf.below⟩
      · go_wp2_with fail
        go_ret
        exact ⟨rfl, hW⟩
    · go_wp2_with fail
      go_ret
      exact ⟨rfl, hW⟩
end Go.Proofs.Ytdgbmnefpempaaa
