/- A stage whose calls and the like may come in more than one order. -/
import Derived.Test.YtaobhbfhbmenfaaStage
namespace Go.Proofs.Ytaobhbfhbmenfaa
open Go.RowKit
section
variable {P : Program} {ops : Array Oper} {md : Region.Mode} {C : World → Prop} {Q : Exit → Act → World → Prop}
def stageH (md : Region.Mode) (ops : Array Oper) (late : Nat → Bool) : List Nat → Array Bool → Bool
  | [], _ => true
  | k :: H, listed => (Region.ready md ops listed).contains k && Region.free md ops listed k && (match ops[k]? with | some o => plainC o | none => false) && !late k && reachB md ops late listed k (reachOf md ops listed k) && stageH md ops late H (listed.setIfInBounds k true)
theorem wpAnyS'_headsT {late : Nat → Bool} {m : Nat} {R : Act → World → Prop} (full : Array Bool) (hsel : Region.noSelect ops = true) (hQ : ∀ c a w d u, Q (.panic c) (Act.put a d u) w → Q (.panic c) a w)
    {w : World} (hw : C w) (hfull : ∀ j ∈ Region.ready md ops full, late j = true) :
    ∀ (H : List Nat) (listed : Array Bool) (a : Act), stageH md ops late H listed = true →
      wpQuiet P ops C (fun a' => wpAnyS' P md ops C Q late (fun l a w => l = full ∧ R a w) m (listAll listed H) a' w) (opsAt ops H) a → wpAnyS' P md ops C Q late (fun l a w => l = full ∧ R a w) (H.length + m) listed a w
  | [], listed, a, _, h => by
    rw [List.length_nil, Nat.zero_add]
    simpa [opsAt, wpQuiet, listAll] using h
  | k :: H, listed, a, hB, h => by
    simp only [stageH, Bool.and_eq_true, Bool.not_eq_true'] at hB
    obtain ⟨⟨⟨⟨⟨hr, hfr⟩, hp⟩, hlk⟩, hre⟩, hB'⟩ := hB
    have hr' : k ∈ Region.ready md ops listed := by simpa using hr
    obtain ⟨_, o, ho, _⟩ := mem_ready.1 hr'
    rw [opsAt_cons ho] at h
    rw [ho] at hp
    have hq : qOp P ops C k (wpQuiet P ops C (fun a' => wpAnyS' P md ops C Q late (fun l a w => l = full ∧ R a w) m (listAll (listed.setIfInBounds k true) H) a' w) (opsAt ops H)) a := by unfold qOp; simp only [ho]; exact h
    obtain ⟨v, hy, hK⟩ := yieldsC_of_quiet hp ho hq
    obtain ⟨h1, h2⟩ := reach_of hre
    rw [show (k :: H).length + m = (H.length + m) + 1 by simp; omega]
    exact wpAnyS'_first ho (Region.noSelect_spec hsel) hQ h1 hlk (fun l a w hl j hj => hfull j (by rw [← hl.1]; exact hj)) _ listed a w h2 (Region.free_spec ho hfr) hr' hy hw (wpAnyS'_headsT full hsel hQ hw hfull H _ _ hB' hK)
def stageTB (md : Region.Mode) (ops : Array Oper) (H M : List Nat) (listed full : Array Bool) : Bool :=
  Region.noSelect ops && stageH md ops (lateOf listed (H ++ M)) H listed && (Region.ready md ops full).all (lateOf listed (H ++ M)) && (listAll listed (H ++ M) == full)
/-- what is open behind the heads: the tree of the orders of M -/
def Tree (P : Program) (md : Region.Mode) (ops : Array Oper) (S : Nat → Prop) (w0 : World) (Q : Exit → Act → World → Prop) (listed0 : Array Bool) (HM : List Nat) (full : Array Bool) (g m : Nat) (listed : Array Bool) (a : Act) (w : World) : Prop :=
  wpAnyS' P md ops (fun w' => ∃ x : KeptS S w0, w' = x.to) Q (lateOf listed0 HM) (fun l a w => l = full ∧ wpAny P md ops Q g full a w) m listed a w
theorem staget (S : Nat → Prop) {listed : Array Bool} {a : Act} {w : World} {n : Nat} (H M : List Nat) (g : Nat) (hn : n = H.length + M.length + g) (full mid : Array Bool) (hm : listAll listed H = mid) (hB : stageTB md ops H M listed full = true) (hQ : ∀ c a w d u, Q (.panic c) (Act.put a d u) w → Q (.panic c) a w)
    (h : wpQuiet P ops (fun w' => ∃ x : KeptS S w, w' = x.to) (fun a' => Tree P md ops S w Q listed (H ++ M) full g M.length mid a' w) (opsAt ops H) a) : wpAny P md ops Q n listed a w := by
  subst hn hm
  simp only [stageTB, Bool.and_eq_true] at hB
  obtain ⟨⟨⟨hsel, hH⟩, hfull⟩, hls⟩ := hB
  refine wpAny_of_S' (C := fun w' => ∃ x : KeptS S w, w' = x.to) (late := lateOf listed (H ++ M)) (R := fun l a w => l = full ∧ wpAny P md ops Q g full a w) (fun l a w hl => by rw [hl.1]; exact hl.2) _ _ _ _ ?_
  exact wpAnyS'_headsT full hsel hQ (keptS (Keeps.refl _ w)) (fun j hj => List.all_eq_true.1 hfull j hj) H listed a hH h
section
variable {S : Nat → Prop} {w0 : World} {listed0 full listed : Array Bool} {HM : List Nat} {g m : Nat} {a : Act} {w : World}
theorem tree_nil (hl : (listed == full) = true) (h : wpAny P md ops Q g full a w) : Tree P md ops S w0 Q listed0 HM full g 0 listed a w := ⟨by simpa using hl, h⟩
def opAt (ops : Array Oper) (k : Nat) : Oper := ops[k]?.getD opNone
theorem opAt_some {k : Nat} (h : (ops[k]?).isSome = true) : ops[k]? = some (opAt ops k) := by
  unfold opAt
  cases hk : ops[k]? with
  | none => rw [hk] at h; cases h
  | some o => rfl
theorem tree_op {k : Nat} (listed' : Array Bool) (ho : (ops[k]?).isSome = true) (hs : listed.setIfInBounds k true = listed') (hw : Region.wanted (opAt ops k) (yielded ops a.tmps) = true)
    (h : ∀ K : Act → World → Prop, (∀ a' w', Keeps S w0 w' → Tree P md ops S w0 Q listed0 HM full g m listed' a' w' → K a' w') → (opAt ops k).wp P a w K Q) :
    wpOp P ops Q k (fun a' w' => (∃ x : KeptS S w0, w' = x.to) ∧ Tree P md ops S w0 Q listed0 HM full g m (listed.setIfInBounds k true) a' w') a w := by
  unfold Go.wpOp
  simp only [opAt_some ho]
  rw [if_pos hw, hs]
  exact .inl (h _ fun _ _ h1 h2 => ⟨keptS h1, h2⟩)
theorem tree_one (k : Nat) (listed' : Array Bool) (hr : (Region.ready md ops listed == [k]) = true) (hl : lateOf listed0 HM k = false) (ho : (ops[k]?).isSome = true) (hs : listed.setIfInBounds k true = listed') (hw : Region.wanted (opAt ops k) (yielded ops a.tmps) = true)
    (h : ∀ K : Act → World → Prop, (∀ a' w', Keeps S w0 w' → Tree P md ops S w0 Q listed0 HM full g m listed' a' w' → K a' w') → (opAt ops k).wp P a w K Q) : Tree P md ops S w0 Q listed0 HM full g (m + 1) listed a w := by
  have hr' : Region.ready md ops listed = [k] := by simpa using hr
  refine ⟨by rw [hr']; simp, fun i hi => ?_⟩
  rw [hr'] at hi
  obtain rfl : i = k := by simpa using hi
  exact ⟨hl, tree_op listed' ho hs hw h⟩
theorem tree_two (k j : Nat) (listed1 listed2 : Array Bool) (hr : (Region.ready md ops listed == [k, j]) = true) (hl : lateOf listed0 HM k = false) (hl2 : lateOf listed0 HM j = false) (ho : (ops[k]?).isSome = true) (hp : (ops[j]?).isSome = true)
    (hs : listed.setIfInBounds k true = listed1) (hs2 : listed.setIfInBounds j true = listed2) (hw : Region.wanted (opAt ops k) (yielded ops a.tmps) = true) (hw2 : Region.wanted (opAt ops j) (yielded ops a.tmps) = true)
    (h : ∀ K : Act → World → Prop, (∀ a' w', Keeps S w0 w' → Tree P md ops S w0 Q listed0 HM full g m listed1 a' w' → K a' w') → (opAt ops k).wp P a w K Q)
    (h2 : ∀ K : Act → World → Prop, (∀ a' w', Keeps S w0 w' → Tree P md ops S w0 Q listed0 HM full g m listed2 a' w' → K a' w') → (opAt ops j).wp P a w K Q) : Tree P md ops S w0 Q listed0 HM full g (m + 1) listed a w := by
  have hr' : Region.ready md ops listed = [k, j] := by simpa using hr
  refine ⟨by rw [hr']; simp, fun i hi => ?_⟩
  rw [hr'] at hi
  rcases List.mem_cons.1 hi with rfl | hi
  · exact ⟨hl, tree_op listed1 ho hs hw h⟩
  · obtain rfl : i = j := by simpa using hi
    exact ⟨hl2, tree_op listed2 hp hs2 hw2 h2⟩
end
end
end Go.Proofs.Ytaobhbfhbmenfaa
