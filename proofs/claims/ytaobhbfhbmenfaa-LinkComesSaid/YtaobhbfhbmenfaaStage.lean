/- A region that draws its order, met stage by stage: in each stage what only reads may be met first, in whatever order; then a chain of calls and the like, which keep what was read. -/
import Derived.Test.YtaobhbfhbmenfaaMix
namespace Go.Proofs.Ytaobhbfhbmenfaa
open Go.RowKit
section
variable {P : Program} {ops : Array Oper} {md : Region.Mode} {C : World → Prop} {Q : Exit → Act → World → Prop}
def plainC (o : Oper) : Bool := plainB o || (match o.op with | .call c => (match c.callee with | .builtin .len => true | .builtin .min => true | .builtin .max => true | _ => false) | .pick .. => true | .build .. => true | _ => false)
theorem NE.ok {α : Type} {s : Sem α} {g : α → Sem Next} (h : ∀ x, NE P (g x)) : NE P (s >>= g) := NE.bind h
theorem plainC_enter {o : Oper} (h : plainC o = true) (ρ : Operand → Value) : NE P (execOp ρ o) := by
  unfold plainC at h
  rw [Bool.or_eq_true] at h
  rcases h with h | h
  · exact fun w f args w' => plain_enter h ρ w w' f args
  · unfold execOp
    cases ho : o.op <;> rw [ho] at h <;> first
      | (cases h; done)
      | exact NE.bind fun _ => NE.value _
      | skip
    rename_i c
    obtain ⟨callee, args, ts⟩ := c
    cases callee <;> first | (cases h; done) | skip
    rename_i b
    cases b <;> first | (cases h; done) | skip
    all_goals
      simp only [resolve]
      intro w f args2 w' e
      simp only [Sem.run_bind, Sem.run_pure, Result.andThen_ok, invoke, builtin] at e
      first
        | (rcases hs : (Builtin.len_ ts o.type (args.map ρ)).run P w with _ | _ <;> (rw [hs] at e; cases e))
        | (rcases hs : (Builtin.min_ ts o.type (args.map ρ)).run P w with _ | _ <;> (rw [hs] at e; cases e))
        | (rcases hs : (Builtin.max_ ts o.type (args.map ρ)).run P w with _ | _ <;> (rw [hs] at e; cases e))
theorem yieldsC_of_quiet {i : Nat} {o : Oper} {a : Act} {K : Act → Prop} (hp : plainC o = true) (hi : ops[i]? = some o) (h : qOp P ops C i K a) : ∃ v, YieldsP P ops C o v a ∧ K (a.put o.dst v) := by
  obtain ⟨v, hy, hk⟩ := yieldsIn_of_qOp hi h
  refine ⟨v, ?_, hk⟩
  rcases hy with ⟨hw, hv⟩ | hn
  · refine .inl ⟨hw, fun w hw2 => ?_⟩
    have h1 := hv w hw2
    have h2 := plainC_enter (P := P) hp a.eval w
    unfold Oper.quietAt at h1
    cases hr : (execOp a.eval o).run P w with
    | ok x w' =>
      rw [hr] at h1
      cases x <;> simp only [Oper.quietUpon] at h1
      case value u => obtain ⟨rfl, rfl⟩ := h1; exact .inl rfl
      case skip => obtain ⟨rfl, rfl⟩ := h1; exact .inr ⟨rfl, rfl⟩
      case enter f args => exact absurd hr (h2 f args w')
    | halt x w' => rw [hr] at h1; simp only [Oper.quietUpon] at h1
  · exact .inr hn
/-- within the stage: behind an operation that belongs to it the world is of the class; R: what is asked when its f operations are over -/
def wpAnyS' (P : Program) (md : Region.Mode) (ops : Array Oper) (C : World → Prop) (Q : Exit → Act → World → Prop) (late : Nat → Bool) (R : Array Bool → Act → World → Prop) : Nat → Array Bool → Act → World → Prop
  | 0, listed, a, w => R listed a w
  | f + 1, listed, a, w => Region.ready md ops listed ≠ [] ∧ ∀ i ∈ Region.ready md ops listed, late i = false ∧ wpOp P ops Q i (fun a' w' => C w' ∧ wpAnyS' P md ops C Q late R f (listed.setIfInBounds i true) a' w') a w
theorem wpAny_of_S' {late : Nat → Bool} {R : Array Bool → Act → World → Prop} {g : Nat} (hR : ∀ listed a w, R listed a w → wpAny P md ops Q g listed a w) : ∀ (f : Nat) (listed : Array Bool) (a : Act) (w : World), wpAnyS' P md ops C Q late R f listed a w → wpAny P md ops Q (f + g) listed a w
  | 0, listed, a, w, h => by rw [Nat.zero_add]; exact hR _ _ _ h
  | f + 1, listed, a, w, h => by
    rw [show f + 1 + g = (f + g) + 1 by omega]
    exact ⟨fun h0 => absurd h0 h.1, fun i hi => wpOp_mono (fun a' w' hh => wpAny_of_S' hR f _ a' w' hh.2) (h.2 i hi).2⟩
/-- what may have come up while i has not -/
structure Reach (md : Region.Mode) (ops : Array Oper) (late : Nat → Bool) (i : Nat) (reach : Nat → Bool) : Prop where
  next : ∀ j o, ops[j]? = some o → j ≠ i → (∀ e ∈ o.after, Region.binds md e = true → reach e.on = true) → reach j = true
  early : ∀ j, reach j = true → late j = false
theorem wpAnyS'_first {late : Nat → Bool} {R : Array Bool → Act → World → Prop} {i : Nat} {oi : Oper} {v : Value} {reach : Nat → Bool} (hi : ops[i]? = some oi) (hsel : ∀ (j : Nat) (o : Oper) cs b, ops[j]? = some o → o.op ≠ .select cs b)
    (hQ : ∀ c a w d u, Q (.panic c) (Act.put a d u) w → Q (.panic c) a w) (hre : Reach md ops late i reach) (hli : late i = false)
    (hend : ∀ listed a w, R listed a w → ∀ j ∈ Region.ready md ops listed, late j = true) :
    ∀ (f : Nat) (listed : Array Bool) (a : Act) (w : World), (∀ j, listed.getD j false = true → reach j = true) →
      (∀ j oj, ops[j]? = some oj → j ≠ i → listed.getD j true = false → (∀ e ∈ oj.after, Region.binds md e = true → e.on ≠ i) → oi.apart ops oj = true) →
      i ∈ Region.ready md ops listed → YieldsP P ops C oi v a → C w →
      wpAnyS' P md ops C Q late R f (listed.setIfInBounds i true) (a.put oi.dst v) w → wpAnyS' P md ops C Q late R (f + 1) listed a w := by
  have hearly : ∀ (listed : Array Bool), (∀ j, listed.getD j false = true → reach j = true) → ∀ j ∈ Region.ready md ops listed, j ≠ i → reach j = true ∧ late j = false := by
    intro listed hs j hj hne
    obtain ⟨_, oj, hoj, hall⟩ := mem_ready.1 hj
    have h1 := hre.next j oj hoj hne (fun e he hb => hs _ (hall e he hb))
    exact ⟨h1, hre.early j h1⟩
  intro f
  induction f with
  | zero =>
    intro listed a w hs _ hr hy hw H
    refine ⟨fun h => (by rw [h] at hr; cases hr), fun j hj => ?_⟩
    by_cases hji : j = i
    · subst hji; exact ⟨hli, hy.wpOp hi hw ⟨hw, H⟩⟩
    · have h1 := hend _ _ _ H j (ready_mono hj hji)
      rw [(hearly listed hs j hj hji).2] at h1
      cases h1
  | succ f ih =>
    intro listed a w hs hfree hr hy hw H
    have hun := (mem_ready.1 hr).1
    refine ⟨fun h => (by rw [h] at hr; cases hr), fun j hj => ?_⟩
    by_cases hji : j = i
    · subst hji; exact ⟨hli, hy.wpOp hi hw ⟨hw, H⟩⟩
    · obtain ⟨hjun, oj, hoj, hall⟩ := mem_ready.1 hj
      have hnot : ∀ e ∈ oj.after, Region.binds md e = true → e.on ≠ i := fun e he hb heq => by
        have h1 := hall e he hb
        rw [heq, getD_both hun] at h1
        cases h1
      obtain ⟨hrj, hnl⟩ := hearly listed hs j hj hji
      have h1 := (H.2 j (ready_mono hj hji)).2
      have h2 := wpOp_putP hoj (hfree j oj hoj hji hjun hnot) (fun cs b => hsel i oi cs b hi) (fun cs b => hsel j oj cs b hoj) hQ hy h1
      refine ⟨hnl, wpOp_mono (fun a' w' h3 => ⟨h3.2.1, ih (listed.setIfInBounds j true) a' w' (fun k hk => ?_) (fun k ok hk hki hunk hno => ?_) (ready_mono hr (Ne.symm hji)) h3.1 h3.2.1 ?_⟩) h2⟩
      · by_cases hjk : j = k
        · subst hjk; exact hrj
        · rw [getD_set_ne false hjk] at hk; exact hs k hk
      · refine hfree k ok hk hki ?_ hno
        by_cases hjk : j = k
        · subst hjk; exact hjun
        · rw [getD_set_ne true hjk] at hunk; exact hunk
      · rw [Array.setIfInBounds_comm _ _ hji]
        exact h3.2.2
def reachOf (md : Region.Mode) (ops : Array Oper) (listed : Array Bool) (i : Nat) : Array Bool :=
  (List.range ops.size).foldl (fun acc j => acc.push (listed.getD j false || (j != i && (match ops[j]? with | some o => o.after.all (fun e => !Region.binds md e || acc.getD e.on false) | none => false)))) #[]
def reachB (md : Region.Mode) (ops : Array Oper) (late : Nat → Bool) (listed : Array Bool) (i : Nat) (reach : Array Bool) : Bool :=
  (List.range ops.size).all (fun j => (j == i || reach.getD j false || (match ops[j]? with | some o => o.after.any (fun e => Region.binds md e && !reach.getD e.on false) | none => true)) && (!reach.getD j false || !late j) && (!listed.getD j false || reach.getD j false)) && decide (reach.size = ops.size) && decide (listed.size = ops.size)
theorem reach_of {late : Nat → Bool} {listed : Array Bool} {i : Nat} {reach : Array Bool} (h : reachB md ops late listed i reach = true) :
    Reach md ops late i (fun j => reach.getD j false) ∧ ∀ j, listed.getD j false = true → reach.getD j false = true := by
  simp only [reachB, Bool.and_eq_true, decide_eq_true_eq] at h
  obtain ⟨⟨h, hsz⟩, hlz⟩ := h
  rw [List.all_eq_true] at h
  have hin : ∀ j, reach.getD j false = true → j < ops.size := fun j hj => by
    rcases Nat.lt_or_ge j reach.size with h' | h'
    · omega
    · simp [Array.getElem?_eq_none h'] at hj
  refine ⟨⟨fun j o ho hne hall => ?_, fun j hj => ?_⟩, fun j hj => ?_⟩
  · have hj := (Array.getElem?_eq_some_iff.1 ho).1
    have h1 := h j (List.mem_range.2 hj)
    simp only [Bool.and_eq_true, Bool.or_eq_true, beq_iff_eq, ho] at h1
    rcases h1.1.1 with (h2 | h2) | h2
    · exact absurd h2 hne
    · exact h2
    · obtain ⟨e, he, h3⟩ := Array.any_eq_true'.1 h2
      simp only [Bool.and_eq_true, Bool.not_eq_true'] at h3
      have := hall e he h3.1
      simp only [h3.2] at this
      cases this
  · have h1 := h j (List.mem_range.2 (hin j hj))
    simp only [Bool.and_eq_true, Bool.or_eq_true, Bool.not_eq_true'] at h1
    rcases h1.1.2 with h2 | h2
    · rw [hj] at h2; cases h2
    · exact h2
  · have hjl : j < ops.size := by
      rcases Nat.lt_or_ge j listed.size with h' | h'
      · omega
      · simp [Array.getElem?_eq_none h'] at hj
    have h1 := h j (List.mem_range.2 hjl)
    simp only [Bool.and_eq_true, Bool.or_eq_true, Bool.not_eq_true'] at h1
    rcases h1.2 with h2 | h2
    · rw [hj] at h2; cases h2
    · exact h2
/-- the chain of a stage -/
def wpLinksS (P : Program) (ops : Array Oper) (C : World → Prop) (Q : Exit → Act → World → Prop) (R : Act → World → Prop) : List Oper → Act → World → Prop
  | [], a, w => R a w
  | o :: rest, a, w => if Region.wanted o (yielded ops a.tmps) then o.wp P a w (fun a' w' => C w' ∧ wpLinksS P ops C Q R rest a' w') Q else wpLinksS P ops C Q R rest (a.put o.dst undef) w
def chainS (md : Region.Mode) (ops : Array Oper) (late : Nat → Bool) : List Nat → Array Bool → Bool
  | [], listed => (Region.ready md ops listed).all late
  | k :: T, listed => decide (Region.ready md ops listed = [k]) && !late k && chainS md ops late T (listed.setIfInBounds k true)
def stageL (md : Region.Mode) (ops : Array Oper) (late : Nat → Bool) (M : List Nat) : List Nat → Array Bool → Bool
  | [], listed => chainS md ops late M listed
  | k :: H, listed => (Region.ready md ops listed).contains k && Region.free md ops listed k && (match ops[k]? with | some o => plainC o | none => false) && !late k && reachB md ops late listed k (reachOf md ops listed k) && stageL md ops late M H (listed.setIfInBounds k true)
def listAll (listed : Array Bool) (L : List Nat) : Array Bool := L.foldl (fun l k => l.setIfInBounds k true) listed
def lateOf (listed : Array Bool) (L : List Nat) (j : Nat) : Bool := !(listed.getD j false || L.contains j)
def stageB (md : Region.Mode) (ops : Array Oper) (H M : List Nat) (listed : Array Bool) : Bool := Region.noSelect ops && stageL md ops (lateOf listed (H ++ M)) M H listed
theorem wpAnyS'_links {late : Nat → Bool} {R : Act → World → Prop} (full : Array Bool) : ∀ (M : List Nat) (listed : Array Bool) (a : Act) (w : World), C w → chainS md ops late M listed = true → listAll listed M = full →
    wpLinksS P ops C Q R (opsAt ops M) a w → wpAnyS' P md ops C Q late (fun l a w => l = full ∧ R a w) M.length listed a w
  | [], listed, a, w, _, _, hf, h => ⟨hf, h⟩
  | k :: M, listed, a, w, hw, hB, hf, h => by
    simp only [chainS, Bool.and_eq_true, decide_eq_true_eq, Bool.not_eq_true'] at hB
    obtain ⟨⟨hr, hl⟩, hB'⟩ := hB
    obtain ⟨_, o, ho, _⟩ := mem_ready.1 (show k ∈ Region.ready md ops listed by rw [hr]; simp)
    rw [opsAt_cons ho] at h
    refine ⟨fun h1 => (by rw [hr] at h1; cases h1), fun i hi => ?_⟩
    rw [hr] at hi
    obtain rfl : i = k := by simpa using hi
    refine ⟨hl, ?_⟩
    have key : wpOp P ops Q i (fun a' w' => C w' ∧ wpLinksS P ops C Q R (opsAt ops M) a' w') a w := by
      unfold Go.wpOp
      unfold wpLinksS at h
      simp only [ho]
      split
      · rename_i hw2; rw [if_pos hw2] at h; exact .inl h
      · rename_i hw2; rw [if_neg hw2] at h; exact ⟨hw, h⟩
    exact wpOp_mono (fun a' w' h' => ⟨h'.1, wpAnyS'_links full M _ a' w' h'.1 hB' hf h'.2⟩) key
theorem chainS_end {late : Nat → Bool} : ∀ (M : List Nat) (listed : Array Bool), chainS md ops late M listed = true → ∀ j ∈ Region.ready md ops (listAll listed M), late j = true
  | [], _, h, j, hj => List.all_eq_true.1 h j hj
  | k :: M, listed, h, j, hj => by
    simp only [chainS, Bool.and_eq_true] at h
    exact chainS_end M _ h.2 j hj
theorem stageL_end {late : Nat → Bool} {M : List Nat} : ∀ (H : List Nat) (listed : Array Bool), stageL md ops late M H listed = true → ∀ j ∈ Region.ready md ops (listAll listed (H ++ M)), late j = true
  | [], _, h, j, hj => chainS_end M _ h j hj
  | k :: H, listed, h, j, hj => by
    simp only [stageL, Bool.and_eq_true] at h
    exact stageL_end H _ h.2 j hj
theorem wpAnyS'_heads {late : Nat → Bool} {M : List Nat} {R : Act → World → Prop} (full : Array Bool) (hsel : Region.noSelect ops = true) (hQ : ∀ c a w d u, Q (.panic c) (Act.put a d u) w → Q (.panic c) a w)
    {w : World} (hw : C w) (hfull : ∀ j ∈ Region.ready md ops full, late j = true) :
    ∀ (H : List Nat) (listed : Array Bool) (a : Act), stageL md ops late M H listed = true → listAll listed (H ++ M) = full →
      wpQuiet P ops C (fun a' => wpLinksS P ops C Q R (opsAt ops M) a' w) (opsAt ops H) a → wpAnyS' P md ops C Q late (fun l a w => l = full ∧ R a w) (H.length + M.length) listed a w
  | [], listed, a, hB, hf, h => by
    rw [List.length_nil, Nat.zero_add]
    exact wpAnyS'_links full M listed a w hw hB hf (by simpa [opsAt, wpQuiet] using h)
  | k :: H, listed, a, hB, hf, h => by
    simp only [stageL, Bool.and_eq_true, Bool.not_eq_true'] at hB
    obtain ⟨⟨⟨⟨⟨hr, hfr⟩, hp⟩, hlk⟩, hre⟩, hB'⟩ := hB
    have hr' : k ∈ Region.ready md ops listed := by simpa using hr
    obtain ⟨_, o, ho, _⟩ := mem_ready.1 hr'
    rw [opsAt_cons ho] at h
    rw [ho] at hp
    have hq : qOp P ops C k (wpQuiet P ops C (fun a' => wpLinksS P ops C Q R (opsAt ops M) a' w) (opsAt ops H)) a := by unfold qOp; simp only [ho]; exact h
    obtain ⟨v, hy, hK⟩ := yieldsC_of_quiet hp ho hq
    obtain ⟨h1, h2⟩ := reach_of hre
    rw [show (k :: H).length + M.length = (H.length + M.length) + 1 by simp; omega]
    exact wpAnyS'_first ho (Region.noSelect_spec hsel) hQ h1 hlk (fun l a w hl j hj => hfull j (by rw [← hl.1]; exact hj)) _ listed a w h2 (Region.free_spec ho hfr) hr' hy hw (wpAnyS'_heads full hsel hQ hw hfull H _ _ hB' hf hK)
/-- ONE STAGE. -/
theorem stage {listed : Array Bool} {a : Act} {w : World} {g : Nat} (H M : List Nat) (hB : stageB md ops H M listed = true) (hw : C w) (hQ : ∀ c a w d u, Q (.panic c) (Act.put a d u) w → Q (.panic c) a w)
    (h : wpQuiet P ops C (fun a' => wpLinksS P ops C Q (fun a w => wpAny P md ops Q g (listAll listed (H ++ M)) a w) (opsAt ops M) a' w) (opsAt ops H) a) : wpAny P md ops Q (H.length + M.length + g) listed a w := by
  simp only [stageB, Bool.and_eq_true] at hB
  refine wpAny_of_S' (C := C) (late := lateOf listed (H ++ M)) (R := fun l a w => l = listAll listed (H ++ M) ∧ wpAny P md ops Q g (listAll listed (H ++ M)) a w) (fun l a w hl => by rw [hl.1]; exact hl.2) _ _ _ _ ?_
  exact wpAnyS'_heads (listAll listed (H ++ M)) hB.1 hQ hw (stageL_end H listed hB.2) H listed a hB.2 rfl h
theorem stages_start {id : Nat} {a : Act} {w : World} {l : List Oper} (hm : P.follows .mixedOrders = true) (n : Nat) (hn : l.length = n) (h : wpAny P .any l.toArray Q n (Array.replicate n false) a w.drew) : (Code.region id l.toArray true).wp P Q a w := by
  subst hn
  exact wp_region_any hm (by rw [List.size_toArray]; exact h)
theorem stages_end {listed : Array Bool} {a : Act} {w : World} (hr : (Region.ready md ops listed).isEmpty = true) (h : Q .normal a w) : wpAny P md ops Q 0 listed a w := ⟨by simpa using hr, h⟩
/-- a world behind w, in which all but the blocks of S stands as it was -/
structure KeptS (S : Nat → Prop) (w : World) where
  to : World
  keeps : Keeps S w to
instance (S : Nat → Prop) (w : World) : Nonempty (KeptS S w) := ⟨⟨w, Keeps.refl _ w⟩⟩
theorem keptS {S : Nat → Prop} {w w' : World} (h : Keeps S w w') : ∃ x : KeptS S w, w' = x.to := ⟨⟨w', h⟩, rfl⟩
theorem keptS_cell {S : Nat → Prop} {w : World} {p : Addr} {v : Value} (h : w.cell? p = some v) (hs : ¬ S p.block) : ∀ x : KeptS S w, x.to.cell? p = some v := fun x => x.keeps.cell h hs
theorem stagek (S : Nat → Prop) {listed : Array Bool} {a : Act} {w : World} {n : Nat} (H M : List Nat) (g : Nat) (hn : n = H.length + M.length + g) (listed' : Array Bool) (hl : listAll listed (H ++ M) = listed') (hB : stageB md ops H M listed = true) (hQ : ∀ c a w d u, Q (.panic c) (Act.put a d u) w → Q (.panic c) a w)
    (h : wpQuiet P ops (fun w' => ∃ x : KeptS S w, w' = x.to) (fun a' => wpLinksS P ops (fun w' => ∃ x : KeptS S w, w' = x.to) Q (fun a w => wpAny P md ops Q g listed' a w) (opsAt ops M) a' w) (opsAt ops H) a) : wpAny P md ops Q n listed a w := by
  subst hn hl
  exact stage H M hB (keptS (Keeps.refl _ w)) hQ h
theorem links_nil {R : Act → World → Prop} {a : Act} {w : World} (h : R a w) : wpLinksS P ops C Q R [] a w := h
theorem links_cons {R : Act → World → Prop} {o : Oper} {rest : List Oper} {a : Act} {w : World} (hw : Region.wanted o (yielded ops a.tmps) = true)
    (h : ∀ K : Act → World → Prop, (∀ a' w', C w' → wpLinksS P ops C Q R rest a' w' → K a' w') → o.wp P a w K Q) : wpLinksS P ops C Q R (o :: rest) a w := by
  unfold wpLinksS
  rw [if_pos hw]
  exact h _ fun _ _ h1 h2 => ⟨h1, h2⟩
theorem links_skip {R : Act → World → Prop} {o : Oper} {rest : List Oper} {a : Act} {w : World} (hw : Region.wanted o (yielded ops a.tmps) = false) (h : wpLinksS P ops C Q R rest (a.put o.dst undef) w) : wpLinksS P ops C Q R (o :: rest) a w := by
  unfold wpLinksS
  rw [if_neg (by rw [hw]; exact Bool.false_ne_true)]
  exact h
end
end Go.Proofs.Ytaobhbfhbmenfaa
