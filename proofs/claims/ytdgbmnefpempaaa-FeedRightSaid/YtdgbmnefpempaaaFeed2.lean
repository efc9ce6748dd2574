/- A feed's Trim and Wrong; a feed that is not there; the chapter's example. -/
import Derived.Test.YtdgbmnefpempaaaFeed
namespace Go.Proofs.Ytdgbmnefpempaaa
open Go.RowKit
variable {w w' : World} {D first next : Nat} {last : Int} {K U : List (Nat × Int)}
def cutL (n : Nat) (L : List (Nat × Int)) : List (Nat × Int) := L.filter fun p => !decide (p.1 < n)
theorem feed_Trim_no (h : IsFeed w D first next last K U) (hfn : first ≤ next) (f : Int) (hf : f < first) :
    Calls Try.prog 23 #[.pointer (some ⟨D + 4, 0, none⟩), .int .i64 f] w fun e w' => SomeNum e ∧ IsFeed w' D first next last K U ∧ Keeps (fun b => Feeds D b) w w' := by
  have c1 := h.c1
  have c2 := h.c2
  have hM := hid (is_Move_no h.used f (.inl hf))
  have h1 : f ≤ (next : Int) := by omega
  have h1b : min f (next : Int) = f := by omega
  have h2 : ¬ (next : Int) < f := by omega
  have H := hid h
  have Hf := hid hf
  clear h hf hfn
  go_enter Try.func23, Try.ntmps23
  go_wp2_with fail
  refine hM.out.mono ?_
  rintro e w1 ⟨rfl, hU, hk⟩
  have d0 := (H.out.keep hk).c0
  go_wp2_with fail
  refine (is_Move_no (H.out.keep hk).known f (.inl Hf.out)).mono ?_
  rintro e w2 ⟨rfl, hK, hk2⟩
  go_wp2_with fail
  go_ret
  exact ⟨⟨_, rfl⟩, (H.out.keep hk).keep hk2, keeps_any (hk.trans hk2)⟩
theorem feed_Trim (h : IsFeed w D first next last K U) (n : Nat) (f : Int) (hn : first ≤ n ∧ n ≤ 1073741824) (hf : (f = n ∧ n ≤ next) ∨ (n = next ∧ (next : Int) < f)) :
    Calls Try.prog 23 #[.pointer (some ⟨D + 4, 0, none⟩), .int .i64 f] w fun e w' => SomeNum e ∧ IsFeed w' D n next last (cutL n K) (cutL n U) ∧ Keeps (fun b => Feeds D b) w w' := by
  have c1 := h.c1
  have c2 := h.c2
  have Hn := hid hn
  rcases hf with ⟨hf, h1⟩ | ⟨hf, h1⟩
  · have h1' : f ≤ (next : Int) := by omega
    have h1b : min f (next : Int) = f := by omega
    have h2 : ¬ (next : Int) < f := by omega
    have hM := hid (is_Move h.used n f hf hn)
    have Hf := hid hf
    have H := hid h
    clear h hf hn h1
    go_enter Try.func23, Try.ntmps23
    go_wp2_with fail
    refine hM.out.mono ?_
    rintro e w1 ⟨rfl, hU, hk⟩
    have d0 := hk.cell (p := ⟨D + 4, 0, none⟩) H.out.c0 (by simp)
    have hKw := H.out.known.keeps hk (by omega) (by omega)
    go_wp2_with fail
    refine (is_Move hKw n _ Hf.out Hn.out).mono ?_
    rintro e w2 ⟨rfl, hK, hk2⟩
    have hfin : IsFeed w2 D n next last (cutL n K) (cutL n U) := ⟨hk2.heap (hk.heap H.out.head (by omega)) (by omega), hK, hU.keeps hk2 (by omega) (by omega)⟩
    have hkk : Keeps (fun b => Feeds D b) w w2 := (hk.mono (fun b _ e => by unfold Feeds; omega)).trans (hk2.mono (fun b _ e => by unfold Feeds; omega))
    clear hK hU hk hk2 hKw
    go_wp2_with fail
    go_ret
    exact ⟨⟨_, rfl⟩, hfin, hkk⟩
  · have h1b : min f (next : Int) = next := by omega
    have h2 : ¬ f ≤ (next : Int) := by omega
    have hM := hid (is_Move h.used n (next : Int) (by omega) hn)
    have Hf := hid (show (next : Int) = (n : Int) by omega)
    have H := hid h
    clear h hf hn
    go_enter Try.func23, Try.ntmps23
    go_wp2_with fail
    refine hM.out.mono ?_
    rintro e w1 ⟨rfl, hU, hk⟩
    have d0 := hk.cell (p := ⟨D + 4, 0, none⟩) H.out.c0 (by simp)
    have hKw := H.out.known.keeps hk (by omega) (by omega)
    go_wp2_with fail
    refine (is_Move hKw n _ Hf.out Hn.out).mono ?_
    rintro e w2 ⟨rfl, hK, hk2⟩
    have hfin : IsFeed w2 D n next last (cutL n K) (cutL n U) := ⟨hk2.heap (hk.heap H.out.head (by omega)) (by omega), hK, hU.keeps hk2 (by omega) (by omega)⟩
    have hkk : Keeps (fun b => Feeds D b) w w2 := (hk.mono (fun b _ e => by unfold Feeds; omega)).trans (hk2.mono (fun b _ e => by unfold Feeds; omega))
    clear hK hU hk hk2 hKw
    go_wp2_with fail
    go_ret
    exact ⟨⟨_, rfl⟩, hfin, hkk⟩
/-- the first frame of which something else was used than is known -/
def wrongL (K : List (Nat × Int)) : List (Nat × Int) → Option Nat
  | [] => none
  | (g, y) :: r => match lookL K g with
    | some x => if x = y then wrongL K r else some g
    | none => wrongL K r
set_option maxHeartbeats 800000 in
theorem feed_Wrong (h : IsFeed w D first next last K U) :
    Calls Try.prog 24 #[.pointer (some ⟨D + 4, 0, none⟩)] w fun e w' => e = .returned (.tuple #[.int .i64 (((wrongL K U).getD 0 : Nat) : Int), .bool (wrongL K U).isSome]) ∧ Keeps (fun _ => False) w w' := by
  have c1 := h.c1
  have hF := hid (is_Frames h.used)
  have H := hid h
  have hasc : ∀ j (hj : j < U.length), lookL U U[j].1 = some U[j].2 := fun j hj => by
    obtain ⟨S, _, hs⟩ := h.used
    exact mem_lookL hs.asc (List.getElem_mem hj)
  have Hasc := hid hasc
  have hin : ∀ j (hj : j < U.length), U[j].1 ≤ 1073741824 := fun j hj => h.used.most' _ (List.getElem_mem hj)
  have Hin := hid hin
  obtain ⟨rv, hr⟩ : ∃ rv, wrongL K U = rv := ⟨_, rfl⟩
  rw [hr]
  have Hr := hid hr
  have hUl : U.length ≤ 64 := h.used.le.1
  clear hasc hin hr h
  go_enter Try.func24, Try.ntmps24
  go_wp2_with fail
  refine hF.out.mono ?_
  rintro e w1 ⟨v, rfl, ho, hb⟩
  obtain ⟨A, cap, rfl, hv, _⟩ := vals_of_own ho
  have hk1 : Keeps (fun _ => False) w w1 := Keeps.of_below hb (fun k h1 h2 => by omega)
  have hll : (U.map (·.1)).length = U.length := by simp
  rw [hll] at hv ⊢
  have Hll := hid hll
  clear ho hb hF hll
  go_wp2_with fail
  go_loopg [18] 64 (fun g i wr => ∃ j : Nat, g = 64 - j ∧ j ≤ U.length ∧ i = .int .i64 j ∧ Hid (wrongL K (U.drop j) = rv) ∧ Keeps (fun _ => False) w1 wr)
  case atStart => exact ⟨0, rfl, Nat.zero_le _, rfl, Hr, Keeps.refl _ _⟩
  case round =>
    obtain ⟨j, hg, hj, rfl, hrest, hkr⟩ := hrel
    by_cases hjl : j < U.length
    · obtain ⟨b, o, rfl, hc⟩ := hv.at' (by omega)
      have k0 : w1.cell? ⟨b, o + j, none⟩ = some (.int .i64 (U[j].1 : Nat)) := hc _ _ (by simp [intsL, natsL, hjl])
      have k0r := hkr.cell k0 id
      have hl := Hasc.out j hjl
      have hn := Hin.out j hjl
      have hrest2 := hrest.out
      rw [List.drop_eq_getElem_cons hjl] at hrest2
      have HB := H.out.keep (hk1.trans hkr)
      have c1r := HB.c1
      clear hc k0 hrest
      generalize U[j] = p at *
      obtain ⟨f, y⟩ := p
      simp only at hl hn k0r
      have hG := is_Get HB.used (f : Int) (by omega)
      rw [lookI_nat, hl] at hG
      simp only [Option.getD_some, Option.isSome_some] at hG
      have HG := hid hG
      have hKn : ∀ q, Calls Try.prog 25 #[.pointer (some ⟨D + 4, 0, none⟩), .int .i64 (f : Int)] (wr.drewN q) fun e w' => e = .returned (.tuple #[.int .u8 ((lookL K f).getD 0), .bool (lookL K f).isSome]) ∧ ∃ q2, w' = (wr.drewN q).drewN q2 := fun q => by
        have := feed_Known (HB.drew q) (f : Int) (by omega)
        rwa [lookI_nat] at this
      have HKn := hid hKn
      simp only [wrongL] at hrest2
      clear hl hG hKn HB
      cases hlk : lookL K f with
      | none =>
        rw [hlk] at hrest2 HKn
        simp only [Option.getD_none, Option.isSome_none] at hrest2 HKn
        have Hrest := hid hrest2
        clear hrest2 hlk
        go_wp2_with fail
        refine HG.out.mono ?_
        rintro e w2 ⟨rfl, q, rfl⟩
        go_wp2_with fail
        refine (HKn.out q).mono ?_
        rintro e w3 ⟨rfl, q2, rfl⟩
        go_wp2_with fail
        go_roundg (64 - (j + 1))
        case measure => omega
        case rel => exact ⟨j + 1, rfl, by omega, by go_num, Hrest, hkr.drewN (q + q2)⟩
      | some x =>
        rw [hlk] at hrest2 HKn
        simp only [Option.getD_some, Option.isSome_some] at hrest2 HKn
        by_cases hxy : x = y
        · rw [if_pos hxy] at hrest2
          have Hrest := hid hrest2
          have hq : (x != y) = false := by simp [hxy]
          clear hrest2 hlk hxy
          go_wp2_with fail
          refine HG.out.mono ?_
          rintro e w2 ⟨rfl, q, rfl⟩
          go_wp2_with fail
          refine (HKn.out q).mono ?_
          rintro e w3 ⟨rfl, q2, rfl⟩
          go_wp2_with fail
          go_roundg (64 - (j + 1))
          case measure => omega
          case rel => exact ⟨j + 1, rfl, by omega, by go_num, Hrest, hkr.drewN (q + q2)⟩
        · rw [if_neg hxy] at hrest2
          subst hrest2
          have hq : (x != y) = true := by simp [hxy]
          clear hlk hxy
          have hkf := hk1.trans hkr
          go_wp2_with fail
          refine HG.out.mono ?_
          rintro e w2 ⟨rfl, q, rfl⟩
          go_wp2_with fail
          refine (HKn.out q).mono ?_
          rintro e w3 ⟨rfl, q2, rfl⟩
          go_wp2_with fail
          go_ret2
          exact ⟨rfl, hkf.drewN (q + q2)⟩
    · have hrest2 := hrest.out
      rw [List.drop_of_length_le (by omega)] at hrest2
      simp only [wrongL] at hrest2
      subst hrest2
      have hkf := hk1.trans hkr
      clear hrest
      go_wp2_with fail
      go_ret2
      exact ⟨rfl, hkf⟩
/-! a feed that is not there -/
theorem fnil_First (w : World) : Calls Try.prog 26 #[.pointer none] w fun e w' => e = .returned (.int .i64 0) ∧ w = w' := by
  go_enter Try.func26, Try.ntmps26
  go_wp2_with fail
  go_ret
  exact ⟨rfl, rfl⟩
theorem fnil_Next (w : World) : Calls Try.prog 27 #[.pointer none] w fun e w' => e = .returned (.int .i64 0) ∧ w = w' := by
  go_enter Try.func27, Try.ntmps27
  go_wp2_with fail
  go_ret
  exact ⟨rfl, rfl⟩
theorem fnil_Known (f : Int) (w : World) : Calls Try.prog 25 #[.pointer none, .int .i64 f] w fun e w' => e = .returned (.tuple #[.int .u8 0, .bool false]) ∧ w = w' := by
  go_enter Try.func25, Try.ntmps25
  go_wp2_with fail
  go_ret2
  exact ⟨rfl, rfl⟩
theorem fnil_Put (f x : Int) (w : World) : Calls Try.prog 21 #[.pointer none, .int .i64 f, .int .u8 x] w fun e w' => e = .returned (.int .i64 2) ∧ w = w' := by
  go_enter Try.func21, Try.ntmps21
  go_wp2_with fail
  go_ret
  exact ⟨rfl, rfl⟩
theorem fnil_Take (f : Int) (w : World) : Calls Try.prog 22 #[.pointer none, .int .i64 f] w fun e w' => e = .returned (.tuple #[.int .u8 0, .bool false]) ∧ w = w' := by
  go_enter Try.func22, Try.ntmps22
  go_wp2_with fail
  go_ret2
  exact ⟨rfl, rfl⟩
theorem fnil_Wrong (w : World) : Calls Try.prog 24 #[.pointer none] w fun e w' => e = .returned (.tuple #[.int .i64 0, .bool false]) ∧ w = w' := by
  go_enter Try.func24, Try.ntmps24
  go_wp2_with fail
  go_ret2
  exact ⟨rfl, rfl⟩
theorem fnil_Trim (f : Int) (w : World) : Calls Try.prog 23 #[.pointer none, .int .i64 f] w fun e w' => e = .returned (.int .i64 0) ∧ w = w' := by
  go_enter Try.func23, Try.ntmps23
  go_wp2_with fail
  go_ret
  exact ⟨rfl, rfl⟩
theorem fnil_From (f : Int) (w : World) : Calls Try.prog 28 #[.pointer none, .int .i64 f] w fun e w' => e = .returned (.slice none 0 0) ∧ w = w' := by
  go_enter Try.func28, Try.ntmps28
  go_wp2_with fail
  refine (fnil_First w).mono ?_
  rintro e w' ⟨rfl, rfl⟩
  go_wp2_with fail
  go_loopg [1, 5] 1 (fun _ s1 s5 wr => (∃ x : Int, s1 = .int .i64 x) ∧ s5 = .slice none 0 0 ∧ w = wr)
  case atStart => exact ⟨⟨_, rfl⟩, rfl, rfl⟩
  case round =>
    obtain ⟨⟨x, rfl⟩, rfl, rfl⟩ := hrel
    go_wp2_with fail
    refine (fnil_Known x w).mono ?_
    rintro e w' ⟨rfl, rfl⟩
    go_wp2_with fail
    go_ret
    exact ⟨rfl, rfl⟩
/-- the chapter's example -/
theorem awake14 (w : World) : Calls Try.prog 19 #[] w fun e w' => e = .returned (.bool true) ∧ Below w.heap.size w w' := by
  go_enter Try.func19, Try.ntmps19
  go_wp2_with fail
  refine (feed_New w).mono ?_
  rintro e w1 ⟨rfl, h1, hb1⟩
  generalize hD : w.heap.size = D at *
  have HD := hid hD
  clear hD
  go_wp2_with fail
  refine (feed_Put h1 5 (by omega) 0 rfl (by omega) (by omega)).mono ?_
  rintro e w2 ⟨rfl, h2, hk2⟩
  go_wp2_with fail
  refine (feed_Take h2 1 1 rfl (by omega)).mono ?_
  rintro e w3 ⟨rfl, h3, hk3⟩
  go_wp2_with fail
  refine (feed_Put h3 6 (by omega) 1 rfl (by omega) (by omega)).mono ?_
  rintro e w4 ⟨rfl, h4, hk4⟩
  go_wp2_with fail
  refine (feed_Wrong h4).mono ?_
  rintro e w5 ⟨rfl, hk5⟩
  have e1 : takeV (putL [] 0 (5 : Int)) 1 5 = 5 := rfl
  have e2 : (lookL (putL [] 0 (5 : Int)) 1).isSome = false := rfl
  have e3 : wrongL (putL (putL [] 0 5) (0 + 1) 6) (takeU 0 [] 1 5) = some 1 := by decide
  rw [e1, e2, e3]
  have hb : Below w.heap.size w w5 := by
    rw [HD.out]
    refine hb1.trans (Keeps.below (S := fun b => Feeds D b) ?_ (by have := hb1.size; have := HD.out; omega) (fun k hk => by unfold Feeds; omega))
    exact ((hk2.trans hk3).trans hk4).trans (keeps_any hk5)
  clear h1 h2 h3 h4 hk2 hk3 hk4 hk5 hb1 e1 e2 e3
  go_wp2_with fail
  go_ret
  exact ⟨rfl, hb⟩
theorem law_FeedNil (f x : Int) (w : World) : Calls Try.prog 7 #[.int .i64 f, .int .u8 x] w fun e w' => e = .returned (.bool true) ∧ Below w.heap.size w w' := by
  go_enter Try.func7, Try.ntmps7
  go_wp2_with fail
  refine (awake14 _).mono ?_
  rintro e w1 ⟨rfl, hb1⟩
  go_wp2_with fail
  refine (fnil_Known _ _).mono ?_
  rintro e w' ⟨rfl, rfl⟩
  go_wp2_with fail
  refine (fnil_Take _ _).mono ?_
  rintro e w' ⟨rfl, rfl⟩
  go_wp2_with fail
  refine (fnil_Wrong _).mono ?_
  rintro e w' ⟨rfl, rfl⟩
  go_wp2_with fail
  refine (fnil_Put _ _ _).mono ?_
  rintro e w' ⟨rfl, rfl⟩
  go_wp2_with fail
  refine (fnil_Next _).mono ?_
  rintro e w' ⟨rfl, rfl⟩
  go_wp2_with fail
  refine (fnil_From _ _).mono ?_
  rintro e w' ⟨rfl, rfl⟩
  go_wp2_with fail
  refine (fnil_Trim _ _).mono ?_
  rintro e w' ⟨rfl, rfl⟩
  go_wp2_with fail
  refine (fnil_First _).mono ?_
  rintro e w' ⟨rfl, rfl⟩
  go_wp2_with fail
  go_ret
  exact ⟨rfl, hb1⟩
end Go.Proofs.Ytdgbmnefpempaaa
