/- Groups of guarded operations in a quiet region ('b || c || ..'): walked once, the two ways meet again behind each group. -/
import Derived.Test.YtfepefohaadecaaAfter
namespace Go.Proofs.Ytfepefohaadecaa
open Go.RowKit
section
variable {P : Program} {ops : Array Oper} {C : World → Prop} {Q : Act → Prop} {rest : List Oper} {a : Act}
theorem quiet_pick {o : Oper} {K : Act → Prop} {s x y : Operand} {b : Bool} {v : Value} (ho : o.op = .pick s x y) (hs : a.eval s = .bool b) (hv : (if b then a.eval x else a.eval y) = v) (hk : K (a.put o.dst v)) : o.quiet P a C K :=
  ⟨v, fun w _ => by
    unfold Oper.quietAt execOp
    simp only [ho, hs]
    cases b
    · simp only [Bool.false_eq_true, if_false] at hv
      subst hv
      simp [asBool, Sem.run_pure, Oper.quietUpon]
    · simp only [if_true] at hv
      subst hv
      simp [asBool, Sem.run_pure, Oper.quietUpon], hk⟩
theorem wpQuiet_append {R : Act → Prop} : ∀ (l : List Oper) (a : Act), wpQuiet P ops C (fun a' => wpQuiet P ops C R rest a') l a → wpQuiet P ops C R (l ++ rest) a
  | [], _, h => h
  | o :: l, a, h => by
    unfold wpQuiet at h
    show wpQuiet P ops C R (o :: (l ++ rest)) a
    unfold wpQuiet
    split at h
    · rename_i hw
      rw [if_pos hw]
      exact Oper.quiet_mono (fun a' h' => wpQuiet_append l a' h') h
    · rename_i hw
      rw [if_neg hw]
      exact wpQuiet_append l _ h
theorem or_3 {o1 o2 o3 oo : Oper} {b : Bool} (c : Bool) {s t : Operand} (g : ∀ x1 x2 x3, Region.wanted oo (yielded ops (((a.put o1.dst x1).put o2.dst x2).put o3.dst x3).tmps) = true) (p : oo.op = .pick s (.const (.bool true)) t)
    (hs : ∀ x1 x2 x3, (((a.put o1.dst x1).put o2.dst x2).put o3.dst x3).eval s = .bool b) (ht : ∀ x1 x2 x3, (((a.put o1.dst x1).put o2.dst x2).put o3.dst x3).eval t = x3)
    (wt : b = true → ∀ Q' : Act → Prop, Q' (((a.put o1.dst undef).put o2.dst undef).put o3.dst undef) → wpQuiet P ops C Q' [o1, o2, o3] a)
    (wf : b = false → ∀ Q' : Act → Prop, (∀ v1 v2, Q' (((a.put o1.dst v1).put o2.dst v2).put o3.dst (.bool c))) → wpQuiet P ops C Q' [o1, o2, o3] a)
    (key : ∀ x1 x2 x3, wpQuiet P ops C Q rest ((((a.put o1.dst x1).put o2.dst x2).put o3.dst x3).put oo.dst (.bool (b || c)))) : wpQuiet P ops C Q (o1 :: o2 :: o3 :: oo :: rest) a := by
  have hp : ∀ x1 x2 x3, (b = false → x3 = .bool c) → wpQuiet P ops C Q (oo :: rest) (((a.put o1.dst x1).put o2.dst x2).put o3.dst x3) := by
    intro x1 x2 x3 hx
    unfold wpQuiet
    rw [if_pos (g x1 x2 x3)]
    refine quiet_pick (b := b) (v := .bool (b || c)) p (hs x1 x2 x3) ?_ (key x1 x2 x3)
    rw [ht]
    cases b
    · rw [hx rfl]; rfl
    · rfl
  refine wpQuiet_append [o1, o2, o3] a ?_
  cases b
  · exact wf rfl _ (fun v1 v2 => hp v1 v2 (.bool c) (fun _ => rfl))
  · exact wt rfl _ (hp undef undef undef (fun h => by cases h))
theorem or_5 {o1 o2 o3 o4 o5 oo : Oper} {b : Bool} (c : Bool) {s t : Operand} (g : ∀ x1 x2 x3 x4 x5, Region.wanted oo (yielded ops (((((a.put o1.dst x1).put o2.dst x2).put o3.dst x3).put o4.dst x4).put o5.dst x5).tmps) = true) (p : oo.op = .pick s (.const (.bool true)) t)
    (hs : ∀ x1 x2 x3 x4 x5, (((((a.put o1.dst x1).put o2.dst x2).put o3.dst x3).put o4.dst x4).put o5.dst x5).eval s = .bool b) (ht : ∀ x1 x2 x3 x4 x5, (((((a.put o1.dst x1).put o2.dst x2).put o3.dst x3).put o4.dst x4).put o5.dst x5).eval t = x5)
    (wt : b = true → ∀ Q' : Act → Prop, Q' (((((a.put o1.dst undef).put o2.dst undef).put o3.dst undef).put o4.dst undef).put o5.dst undef) → wpQuiet P ops C Q' [o1, o2, o3, o4, o5] a)
    (wf : b = false → ∀ Q' : Act → Prop, (∀ v1 v2 v3 v4, Q' (((((a.put o1.dst v1).put o2.dst v2).put o3.dst v3).put o4.dst v4).put o5.dst (.bool c))) → wpQuiet P ops C Q' [o1, o2, o3, o4, o5] a)
    (key : ∀ x1 x2 x3 x4 x5, wpQuiet P ops C Q rest ((((((a.put o1.dst x1).put o2.dst x2).put o3.dst x3).put o4.dst x4).put o5.dst x5).put oo.dst (.bool (b || c)))) : wpQuiet P ops C Q (o1 :: o2 :: o3 :: o4 :: o5 :: oo :: rest) a := by
  have hp : ∀ x1 x2 x3 x4 x5, (b = false → x5 = .bool c) → wpQuiet P ops C Q (oo :: rest) (((((a.put o1.dst x1).put o2.dst x2).put o3.dst x3).put o4.dst x4).put o5.dst x5) := by
    intro x1 x2 x3 x4 x5 hx
    unfold wpQuiet
    rw [if_pos (g x1 x2 x3 x4 x5)]
    refine quiet_pick (b := b) (v := .bool (b || c)) p (hs x1 x2 x3 x4 x5) ?_ (key x1 x2 x3 x4 x5)
    rw [ht]
    cases b
    · rw [hx rfl]; rfl
    · rfl
  refine wpQuiet_append [o1, o2, o3, o4, o5] a ?_
  cases b
  · exact wf rfl _ (fun v1 v2 v3 v4 => hp v1 v2 v3 v4 (.bool c) (fun _ => rfl))
  · exact wt rfl _ (hp undef undef undef undef undef (fun h => by cases h))
theorem or_7 {o1 o2 o3 o4 o5 o6 o7 oo : Oper} {b : Bool} (c : Bool) {s t : Operand} (g : ∀ x1 x2 x3 x4 x5 x6 x7, Region.wanted oo (yielded ops (((((((a.put o1.dst x1).put o2.dst x2).put o3.dst x3).put o4.dst x4).put o5.dst x5).put o6.dst x6).put o7.dst x7).tmps) = true) (p : oo.op = .pick s (.const (.bool true)) t)
    (hs : ∀ x1 x2 x3 x4 x5 x6 x7, (((((((a.put o1.dst x1).put o2.dst x2).put o3.dst x3).put o4.dst x4).put o5.dst x5).put o6.dst x6).put o7.dst x7).eval s = .bool b) (ht : ∀ x1 x2 x3 x4 x5 x6 x7, (((((((a.put o1.dst x1).put o2.dst x2).put o3.dst x3).put o4.dst x4).put o5.dst x5).put o6.dst x6).put o7.dst x7).eval t = x7)
    (wt : b = true → ∀ Q' : Act → Prop, Q' (((((((a.put o1.dst undef).put o2.dst undef).put o3.dst undef).put o4.dst undef).put o5.dst undef).put o6.dst undef).put o7.dst undef) → wpQuiet P ops C Q' [o1, o2, o3, o4, o5, o6, o7] a)
    (wf : b = false → ∀ Q' : Act → Prop, (∀ v1 v2 v3 v4 v5 v6, Q' (((((((a.put o1.dst v1).put o2.dst v2).put o3.dst v3).put o4.dst v4).put o5.dst v5).put o6.dst v6).put o7.dst (.bool c))) → wpQuiet P ops C Q' [o1, o2, o3, o4, o5, o6, o7] a)
    (key : ∀ x1 x2 x3 x4 x5 x6 x7, wpQuiet P ops C Q rest ((((((((a.put o1.dst x1).put o2.dst x2).put o3.dst x3).put o4.dst x4).put o5.dst x5).put o6.dst x6).put o7.dst x7).put oo.dst (.bool (b || c)))) : wpQuiet P ops C Q (o1 :: o2 :: o3 :: o4 :: o5 :: o6 :: o7 :: oo :: rest) a := by
  have hp : ∀ x1 x2 x3 x4 x5 x6 x7, (b = false → x7 = .bool c) → wpQuiet P ops C Q (oo :: rest) (((((((a.put o1.dst x1).put o2.dst x2).put o3.dst x3).put o4.dst x4).put o5.dst x5).put o6.dst x6).put o7.dst x7) := by
    intro x1 x2 x3 x4 x5 x6 x7 hx
    unfold wpQuiet
    rw [if_pos (g x1 x2 x3 x4 x5 x6 x7)]
    refine quiet_pick (b := b) (v := .bool (b || c)) p (hs x1 x2 x3 x4 x5 x6 x7) ?_ (key x1 x2 x3 x4 x5 x6 x7)
    rw [ht]
    cases b
    · rw [hx rfl]; rfl
    · rfl
  refine wpQuiet_append [o1, o2, o3, o4, o5, o6, o7] a ?_
  cases b
  · exact wf rfl _ (fun v1 v2 v3 v4 v5 v6 => hp v1 v2 v3 v4 v5 v6 (.bool c) (fun _ => rfl))
  · exact wt rfl _ (hp undef undef undef undef undef undef undef (fun h => by cases h))
end
end Go.Proofs.Ytfepefohaadecaa
