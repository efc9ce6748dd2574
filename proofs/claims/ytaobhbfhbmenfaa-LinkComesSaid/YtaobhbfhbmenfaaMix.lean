/- A region that draws its order: operations that only read, in whatever order the text has them among others, may be met first; the others stand in a chain: those ahead of the last phase keep a class of worlds, in which what is read stays as it is. -/
import Derived.Test.YtaobhbfhbmenfaaTail
namespace Go.Proofs.Ytaobhbfhbmenfaa
open Go.RowKit
section
variable {P : Program} {ops : Array Oper} {md : Region.Mode} {C : World → Prop} {Q : Exit → Act → World → Prop}
def plainB (o : Oper) : Bool := match o.op with | .move _ | .assign _ | .load .. | .fieldAddr .. | .indexAddr .. | .slice .. | .binOp .. | .unOp .. | .convert .. | .extract .. | .index .. | .field .. | .nilCheck _ => true | _ => false
/-- o, plain, hands back v in every world of the class, and leaves it as it is -/
def YieldsP (P : Program) (ops : Array Oper) (C : World → Prop) (o : Oper) (v : Value) (a : Act) : Prop :=
  (Region.wanted o (yielded ops a.tmps) = true ∧ ∀ w, C w → (execOp a.eval o).run P w = .ok (.value v) w ∨ ((execOp a.eval o).run P w = .ok .skip w ∧ v = undef)) ∨
  (Region.wanted o (yielded ops a.tmps) = false ∧ v = undef)
theorem YieldsP.wpOp {i : Nat} {o : Oper} {v : Value} {a : Act} (hi : ops[i]? = some o) (hy : YieldsP P ops C o v a) {K : Act → World → Prop} {w : World} (hw : C w) (h : K (a.put o.dst v) w) : wpOp P ops Q i K a w := by
  unfold Go.wpOp
  simp only [hi]
  rcases hy with ⟨h1, h2⟩ | ⟨h1, rfl⟩
  · simp only [h1, if_true]
    rcases h2 w hw with e | ⟨e, rfl⟩
    · exact .inl (by unfold Oper.wp; rw [e]; exact h)
    · exact .inl (by unfold Oper.wp; rw [e]; exact h)
  · simp only [h1, Bool.false_eq_true, if_false]; exact h
theorem YieldsP.of_same {o : Oper} {v : Value} {a a' : Act} (hy : YieldsP P ops C o v a) (he : execOp a'.eval o = execOp a.eval o)
    (hw : Region.wanted o (yielded ops a'.tmps) = Region.wanted o (yielded ops a.tmps)) : YieldsP P ops C o v a' := by
  unfold YieldsP at *
  rw [he, hw]
  exact hy
theorem wpOp_putP {j : Nat} {oi oj : Oper} {v : Value} (hj : ops[j]? = some oj) (hap : oi.apart ops oj = true) (hsi : ∀ cs b, oi.op ≠ .select cs b) (hsj : ∀ cs b, oj.op ≠ .select cs b)
    (hQ : ∀ c a w d u, Q (.panic c) (Act.put a d u) w → Q (.panic c) a w) {K : Act → World → Prop} {a : Act} {w : World} (hy : YieldsP P ops C oi v a) (h : wpOp P ops Q j K (a.put oi.dst v) w) :
    wpOp P ops Q j (fun a' w' => YieldsP P ops C oi v a' ∧ K (a'.put oi.dst v) w') a w := by
  obtain ⟨h1, h2, h3⟩ := Oper.apart_spec hap
  have keep : ∀ u, YieldsP P ops C oi v (a.put oj.dst u) := fun u => hy.of_same (execOp_put oi hsi a oj.dst u h3) (wanted_put oi a oj.dst u h3)
  unfold Go.wpOp at *
  simp only [hj] at *
  rw [wanted_put oj a oi.dst v h1] at h
  by_cases hw : Region.wanted oj (yielded ops a.tmps) = true
  · rw [if_pos hw] at h ⊢
    rcases h with h | ⟨ha, hl⟩
    · left
      unfold Oper.wp at *
      rw [execOp_put oj hsj a oi.dst v h1] at h
      cases hr : (execOp a.eval oj).run P w with
      | ok n w' =>
        rw [hr] at h
        cases n <;> simp only [Oper.upon] at h ⊢
        case value u => exact ⟨keep u, by rw [← Act.put_comm a v u h2]; exact h⟩
        case skip => exact ⟨keep _, by rw [← Act.put_comm a v undef h2]; exact h⟩
        case defer d =>
          refine ⟨(hy.of_same (a' := { a with defers := d :: a.defers }) rfl rfl).of_same (execOp_put oi hsi _ oj.dst undef h3) (wanted_put oi _ oj.dst undef h3), ?_⟩
          rw [← Act.put_comm _ v undef h2, ← Act.put_defers]
          exact h
        case enter f args =>
          refine h.mono fun e w2 he => ?_
          cases e with
          | returned u => exact ⟨keep u, by rw [← Act.put_comm a v u h2]; exact he⟩
          | panicked c => exact hQ _ _ _ _ _ he
          | outgrown => exact he
        case row row args => exact Rows.mono h fun u w2 he => ⟨keep u, by rw [← Act.put_comm a v u h2]; exact he⟩
      | halt x w' =>
        rw [hr] at h
        cases x <;> simp only [Oper.upon] at h ⊢
        case panic u => exact hQ _ _ _ _ _ h
    · right
      exact ⟨by unfold Oper.asks at *; rw [execOp_put oj hsj a oi.dst v h1] at ha; exact ha, hl⟩
  · rw [if_neg hw] at h ⊢
    exact ⟨keep _, by rw [← Act.put_comm a v undef h2]; exact h⟩
/-- whatever order is picked; behind an operation that is not late the world is of the class -/
def wpAnyC (P : Program) (md : Region.Mode) (ops : Array Oper) (C : World → Prop) (Q : Exit → Act → World → Prop) (late : Nat → Bool) : Nat → Array Bool → Act → World → Prop
  | 0, listed, a, w => Region.ready md ops listed = [] ∧ Q .normal a w
  | f + 1, listed, a, w => (Region.ready md ops listed = [] → Q .normal a w) ∧ ∀ i ∈ Region.ready md ops listed, wpOp P ops Q i (fun a' w' => (late i = false → C w') ∧ wpAnyC P md ops C Q late f (listed.setIfInBounds i true) a' w') a w
theorem wpAny_of_C {late : Nat → Bool} : ∀ (f : Nat) (listed : Array Bool) (a : Act) (w : World), wpAnyC P md ops C Q late f listed a w → wpAny P md ops Q f listed a w
  | 0, _, _, _, h => h
  | f + 1, _, _, _, h => ⟨h.1, fun i hi => wpOp_mono (fun a' w' hh => wpAny_of_C f _ a' w' hh.2) (h.2 i hi)⟩
theorem wpAnyC_first {late : Nat → Bool} {i : Nat} {oi : Oper} {v : Value} (hi : ops[i]? = some oi) (hsel : ∀ (j : Nat) (o : Oper) cs b, ops[j]? = some o → o.op ≠ .select cs b)
    (hQ : ∀ c a w d u, Q (.panic c) (Act.put a d u) w → Q (.panic c) a w) (hlate : ∀ j o, ops[j]? = some o → late j = true → ∃ e ∈ o.after, Region.binds md e = true ∧ e.on = i) :
    ∀ (f : Nat) (listed : Array Bool) (a : Act) (w : World),
      (∀ j oj, ops[j]? = some oj → j ≠ i → listed.getD j true = false → (∀ e ∈ oj.after, Region.binds md e = true → e.on ≠ i) → oi.apart ops oj = true) →
      i ∈ Region.ready md ops listed → YieldsP P ops C oi v a → C w →
      wpAnyC P md ops C Q late f (listed.setIfInBounds i true) (a.put oi.dst v) w → wpAnyC P md ops C Q late (f + 1) listed a w := by
  intro f
  induction f with
  | zero =>
    intro listed a w _ hr hy hw H
    refine ⟨fun h => (by rw [h] at hr; cases hr), fun j hj => ?_⟩
    by_cases hji : j = i
    · subst hji; exact hy.wpOp hi hw ⟨fun _ => hw, H⟩
    · have := ready_mono hj hji
      rw [H.1] at this
      cases this
  | succ f ih =>
    intro listed a w hfree hr hy hw H
    have hun := (mem_ready.1 hr).1
    refine ⟨fun h => (by rw [h] at hr; cases hr), fun j hj => ?_⟩
    by_cases hji : j = i
    · subst hji; exact hy.wpOp hi hw ⟨fun _ => hw, H⟩
    · obtain ⟨hjun, oj, hoj, hall⟩ := mem_ready.1 hj
      have hnot : ∀ e ∈ oj.after, Region.binds md e = true → e.on ≠ i := fun e he hb heq => by
        have h1 := hall e he hb
        rw [heq, getD_both hun] at h1
        cases h1
      have hnl : late j = false := by
        cases hl : late j with
        | false => rfl
        | true =>
          obtain ⟨e, he, hb, hon⟩ := hlate j oj hoj hl
          exact absurd hon (hnot e he hb)
      have h1 := H.2 j (ready_mono hj hji)
      have h2 := wpOp_putP hoj (hfree j oj hoj hji hjun hnot) (fun cs b => hsel i oi cs b hi) (fun cs b => hsel j oj cs b hoj) hQ hy h1
      refine wpOp_mono (fun a' w' h3 => ⟨fun _ => h3.2.1 hnl, ih (listed.setIfInBounds j true) a' w' (fun k ok hk hki hunk hno => ?_) (ready_mono hr (Ne.symm hji)) h3.1 (h3.2.1 hnl) ?_⟩) h2
      · refine hfree k ok hk hki ?_ hno
        by_cases hjk : j = k
        · subst hjk; exact hjun
        · rw [getD_set_ne true hjk] at hunk; exact hunk
      · rw [Array.setIfInBounds_comm _ _ hji]
        exact h3.2.2
/-- a chain: those ahead of the last phase -/
def wpLinks (P : Program) (ops : Array Oper) (C : World → Prop) (Q : Exit → Act → World → Prop) (R : Act → World → Prop) : List Oper → Act → World → Prop
  | [], a, w => R a w
  | o :: rest, a, w => o.guard = none ∧ o.wp P a w (fun a' w' => C w' ∧ wpLinks P ops C Q R rest a' w') Q
def chainL (md : Region.Mode) (ops : Array Oper) : List Nat → Array Bool → Bool
  | [], listed => (Region.ready md ops listed).isEmpty
  | k :: T, listed => decide (Region.ready md ops listed = [k]) && chainL md ops T (listed.setIfInBounds k true)
def mixL (md : Region.Mode) (ops : Array Oper) (T : List Nat) : List Nat → Array Bool → Bool
  | [], listed => chainL md ops T listed
  | k :: H, listed => (Region.ready md ops listed).contains k && Region.free md ops listed k && (match ops[k]? with | some o => plainB o | none => false) && mixL md ops T H (listed.setIfInBounds k true)
/-- H: what is met first; M: the chain ahead of the last phase; T: the last phase -/
def mixB (md : Region.Mode) (ops : Array Oper) (H M T : List Nat) : Bool :=
  Region.noSelect ops && decide (H.length + M.length + T.length = ops.size) && T.all (fun t => H.all fun h => Region.waitsFor md ops t h) && M.all (fun m => !T.contains m) && mixL md ops (M ++ T) H (Array.replicate ops.size false)
def opNone : Oper := { dst := none, op := .move (.tmp 0), type := 0, pos := "", after := #[], guard := none }
def opsAt (ops : Array Oper) (L : List Nat) : List Oper := L.map fun k => ops[k]?.getD opNone
theorem opsAt_cons {k : Nat} {L : List Nat} {o : Oper} (h : ops[k]? = some o) : opsAt ops (k :: L) = o :: opsAt ops L := by simp [opsAt, h]
theorem wpAnyC_seq {late : Nat → Bool} : ∀ (T : List Nat) (listed : Array Bool) (a : Act) (w : World), (∀ t ∈ T, late t = true) → chainL md ops T listed = true →
    wpList P ops Q (opsAt ops T) a w → wpAnyC P md ops C Q late T.length listed a w
  | [], _, _, _, _, hB, h => ⟨by simpa [chainL] using hB, h⟩
  | k :: T, listed, a, w, hl, hB, h => by
    simp only [chainL, Bool.and_eq_true, decide_eq_true_eq] at hB
    obtain ⟨hr, hB'⟩ := hB
    obtain ⟨_, o, ho, _⟩ := mem_ready.1 (show k ∈ Region.ready md ops listed by rw [hr]; simp)
    rw [opsAt_cons ho] at h
    refine ⟨fun h1 => (by rw [hr] at h1; cases h1), fun i hi => ?_⟩
    rw [hr] at hi
    obtain rfl : i = k := by simpa using hi
    have hw : wpOp P ops Q i (wpList P ops Q (opsAt ops T)) a w := by unfold Go.wpOp; simp only [ho]; exact h
    exact wpOp_mono (fun a' w' h' => ⟨fun hf => (by rw [hl i (by simp)] at hf; cases hf), wpAnyC_seq T _ a' w' (fun t ht => hl t (by simp [ht])) hB' h'⟩) hw
theorem wpAnyC_links {late : Nat → Bool} (T : List Nat) (hT : ∀ t ∈ T, late t = true) : ∀ (M : List Nat) (listed : Array Bool) (a : Act) (w : World), chainL md ops (M ++ T) listed = true →
    wpLinks P ops C Q (wpList P ops Q (opsAt ops T)) (opsAt ops M) a w → wpAnyC P md ops C Q late (M.length + T.length) listed a w
  | [], listed, a, w, hB, h => by
    have := wpAnyC_seq (C := C) T listed a w hT (by simpa using hB) (by simpa [opsAt, wpLinks] using h)
    simpa using this
  | k :: M, listed, a, w, hB, h => by
    simp only [List.cons_append, chainL, Bool.and_eq_true, decide_eq_true_eq] at hB
    obtain ⟨hr, hB'⟩ := hB
    obtain ⟨_, o, ho, _⟩ := mem_ready.1 (show k ∈ Region.ready md ops listed by rw [hr]; simp)
    rw [opsAt_cons ho] at h
    obtain ⟨hg, h⟩ := h
    rw [show (k :: M).length + T.length = (M.length + T.length) + 1 by simp; omega]
    refine ⟨fun h1 => (by rw [hr] at h1; cases h1), fun i hi => ?_⟩
    rw [hr] at hi
    obtain rfl : i = k := by simpa using hi
    have hw : wpOp P ops Q i (fun a' w' => C w' ∧ wpLinks P ops C Q (wpList P ops Q (opsAt ops T)) (opsAt ops M) a' w') a w := by
      unfold Go.wpOp
      simp only [ho, Region.wanted, hg, if_true]
      exact .inl h
    exact wpOp_mono (fun a' w' h' => ⟨fun _ => h'.1, wpAnyC_links T hT M _ a' w' hB' h'.2⟩) hw
def NE (P : Program) (m : Sem Next) : Prop := ∀ w f args w', m.run P w ≠ .ok (.enter f args) w'
theorem NE.value (v : Value) : NE P (pure (.value v)) := fun _ _ _ _ e => by simp only [Sem.run_pure] at e; cases e
theorem NE.bind {α : Type} {s : Sem α} {g : α → Sem Next} (h : ∀ x, NE P (g x)) : NE P (s >>= g) := fun w f args w' e => by
  simp only [Sem.run_bind] at e
  cases hs : s.run P w with
  | ok x w2 => rw [hs] at e; exact h x w2 f args w' e
  | halt k w2 => rw [hs] at e; cases e
theorem NE.panic (v : Value) : NE P (goPanic v : Sem Next) := fun w f args w' e => by cases e
theorem NE.nilDeref : NE P (runtimePanic .nilDeref : Sem Next) := by
  unfold runtimePanic
  exact NE.bind fun p => NE.panic _
theorem plain_enter {o : Oper} (h : plainB o = true) (ρ : Operand → Value) (w w' : World) (f : FuncId) (args : Array Value) : (execOp ρ o).run P w ≠ .ok (.enter f args) w' := by
  suffices H : NE P (execOp ρ o) from H w f args w'
  unfold plainB at h
  unfold execOp
  cases ho : o.op <;> rw [ho] at h <;> first
    | (cases h; done)
    | exact NE.value _
    | exact NE.bind fun _ => NE.value _
    | skip
  simp only []
  split
  · exact NE.nilDeref
  · exact NE.nilDeref
  · exact NE.nilDeref
  · split
    · exact NE.nilDeref
    · refine NE.bind fun a => NE.bind fun y => ?_
      split
      · exact NE.bind fun _ => NE.value _
      · exact NE.value _
    · exact NE.value _
  · exact NE.value _
/-- what a quiet, plain operation is -/
theorem yieldsP_of_quiet {i : Nat} {o : Oper} {a : Act} {K : Act → Prop} (hp : plainB o = true) (hi : ops[i]? = some o) (h : qOp P ops C i K a) : ∃ v, YieldsP P ops C o v a ∧ K (a.put o.dst v) := by
  obtain ⟨v, hy, hk⟩ := yieldsIn_of_qOp hi h
  refine ⟨v, ?_, hk⟩
  rcases hy with ⟨hw, hv⟩ | hn
  · refine .inl ⟨hw, fun w hw2 => ?_⟩
    have h1 := hv w hw2
    have h2 := plain_enter (P := P) hp a.eval w
    unfold Oper.quietAt at h1
    cases hr : (execOp a.eval o).run P w with
    | ok x w' =>
      rw [hr] at h1
      cases x <;> simp only [Oper.quietUpon] at h1
      case value u => obtain ⟨rfl, rfl⟩ := h1; exact .inl rfl
      case skip => obtain ⟨rfl, rfl⟩ := h1; exact .inr ⟨rfl, rfl⟩
      case enter f args => exact absurd hr (h2 w' f args)
    | halt x w' => rw [hr] at h1; simp only [Oper.quietUpon] at h1
  · exact .inr hn
theorem wpAnyC_heads {late : Nat → Bool} {T : List Nat} {R : Act → World → Prop} {g : Nat} (hsel : Region.noSelect ops = true) (hQ : ∀ c a w d u, Q (.panic c) (Act.put a d u) w → Q (.panic c) a w)
    (hR : ∀ listed a w, chainL md ops T listed = true → R a w → wpAnyC P md ops C Q late g listed a w) {w : World} (hw : C w) :
    ∀ (H : List Nat) (listed : Array Bool) (a : Act), (∀ h ∈ H, ∀ j o, ops[j]? = some o → late j = true → ∃ e ∈ o.after, Region.binds md e = true ∧ e.on = h) → mixL md ops T H listed = true →
      wpQuiet P ops C (fun a' => R a' w) (opsAt ops H) a → wpAnyC P md ops C Q late (H.length + g) listed a w
  | [], listed, a, _, hB, h => by
    rw [List.length_nil, Nat.zero_add]
    exact hR _ _ _ hB (by simpa [opsAt, wpQuiet] using h)
  | k :: H, listed, a, hl, hB, h => by
    simp only [mixL, Bool.and_eq_true] at hB
    obtain ⟨⟨⟨hr, hf⟩, hp⟩, hB'⟩ := hB
    have hr' : k ∈ Region.ready md ops listed := by simpa using hr
    obtain ⟨_, o, ho, _⟩ := mem_ready.1 hr'
    rw [opsAt_cons ho] at h
    rw [ho] at hp
    have hq : qOp P ops C k (wpQuiet P ops C (fun a' => R a' w) (opsAt ops H)) a := by unfold qOp; simp only [ho]; exact h
    obtain ⟨v, hy, hK⟩ := yieldsP_of_quiet hp ho hq
    rw [show (k :: H).length + g = (H.length + g) + 1 by simp; omega]
    exact wpAnyC_first ho (Region.noSelect_spec hsel) hQ (hl k (by simp)) _ listed a w (Region.free_spec ho hf) hr' hy hw (wpAnyC_heads hsel hQ hR hw H _ _ (fun h hh => hl h (by simp [hh])) hB' hK)
/-- THE LAW. -/
theorem wp_region_mix {id : Nat} {a : Act} {w : World} {l : List Oper} (H M T : List Nat) (hm : P.follows .mixedOrders = true) (hB : mixB .any l.toArray H M T = true) (hC : C { w with drawn := w.drawn + 1 })
    (hQ : ∀ c a w d u, Q (.panic c) (Act.put a d u) w → Q (.panic c) a w)
    (h : wpQuiet P l.toArray C (fun a' => wpLinks P l.toArray C Q (wpList P l.toArray Q (opsAt l.toArray T)) (opsAt l.toArray M) a' { w with drawn := w.drawn + 1 }) (opsAt l.toArray H) a) : (Code.region id l.toArray true).wp P Q a w := by
  simp only [mixB, Bool.and_eq_true, decide_eq_true_eq] at hB
  obtain ⟨⟨⟨⟨hsel, hlen⟩, hT⟩, _⟩, hmix⟩ := hB
  refine wp_region_any hm (wpAny_of_C (C := C) (late := fun t => T.contains t) _ _ _ _ ?_)
  have key : wpAnyC P .any l.toArray C Q (fun t => T.contains t) (H.length + (M.length + T.length)) (Array.replicate l.toArray.size false) a { w with drawn := w.drawn + 1 } := by
    refine wpAnyC_heads hsel hQ (fun listed a w hch hR => wpAnyC_links T (fun t ht => by simpa using ht) M listed a w hch hR) hC H _ _ (fun h hh j o hj hl => ?_) hmix h
    have hjT : j ∈ T := by simpa using hl
    have h1 := List.all_eq_true.1 (List.all_eq_true.1 hT j hjT) h hh
    obtain ⟨o', ho', e, he, hb, hon⟩ := Region.waitsFor_spec h1
    rw [hj] at ho'
    cases ho'
    exact ⟨e, he, hb, hon⟩
  rwa [← Nat.add_assoc, hlen] at key
/-- a world behind w, in which all that w held stands as it was -/
structure Kept (w : World) where
  to : World
  keeps : Keeps (fun _ => False) w to
instance (w : World) : Nonempty (Kept w) := ⟨⟨w, Keeps.refl _ w⟩⟩
theorem kept {w w' : World} (h : Keeps (fun _ => False) w w') : ∃ x : Kept w, w' = x.to := ⟨⟨w', h⟩, rfl⟩
theorem kept_cell {w : World} {p : Addr} {v : Value} (h : w.cell? p = some v) : ∀ x : Kept w, x.to.cell? p = some v := fun x => x.keeps.cell h id
theorem wp_region_mixk {id : Nat} {a : Act} {w : World} {l : List Oper} (H M T : List Nat) (hm : P.follows .mixedOrders = true) (hB : mixB .any l.toArray H M T = true)
    (hQ : ∀ c a w d u, Q (.panic c) (Act.put a d u) w → Q (.panic c) a w)
    (h : wpQuiet P l.toArray (fun w' => ∃ x : Kept w, w' = x.to) (fun a' => wpLinks P l.toArray (fun w' => ∃ x : Kept w, w' = x.to) Q (wpList P l.toArray Q (opsAt l.toArray T)) (opsAt l.toArray M) a' { w with drawn := w.drawn + 1 }) (opsAt l.toArray H) a) : (Code.region id l.toArray true).wp P Q a w :=
  wp_region_mix H M T hm hB (kept (Keeps.refl _ w).drew) hQ h
end
end Go.Proofs.Ytaobhbfhbmenfaa
