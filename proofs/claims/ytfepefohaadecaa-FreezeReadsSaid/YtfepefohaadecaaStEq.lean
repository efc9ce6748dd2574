/- freeze: whole states, their players and shots compared; loading them where nothing is written. -/
import Derived.Test.YtfepefohaadecaaRgt
import Derived.DeepKeys
namespace Go.Proofs.Ytfepefohaadecaa
open Go.RowKit
set_option maxRecDepth 10000
section
variable {P : Program} {o : Oper} {a : Act} {C : World → Prop} {K : Act → Prop}
theorem quiet_run_load {T : TypeId} {x : Operand} {p v : Value} (hrun : ∀ w, C w → (Instr.loadAt T p).run P w = .ok v w) (ho : o.op = .load T x) (hx : a.eval x = p) (hk : K (a.put o.dst v)) : o.quiet P a C K :=
  ⟨v, fun w hw => by
    unfold Oper.quietAt execOp
    simp only [ho, hx, Sem.run_bind, hrun w hw, Result.andThen_ok, Sem.run_pure]
    exact ⟨rfl, rfl⟩, hk⟩
theorem wpQuiet_run_load {ops : Array Oper} {Q : Act → Prop} {rest : List Oper} {T : TypeId} {x : Operand} {p v : Value} (hrun : ∀ w, C w → (Instr.loadAt T p).run P w = .ok v w) (hg : o.guard = none) (ho : o.op = .load T x) (hx : a.eval x = p) (hk : wpQuiet P ops C Q rest (a.put o.dst v)) : wpQuiet P ops C Q (o :: rest) a := by
  unfold wpQuiet
  rw [if_pos (by unfold Region.wanted; rw [hg])]
  exact quiet_run_load hrun ho hx hk
end
theorem lits_map {n : Nat} {f g : Nat → Lit} : (List.range n).map f = (List.range n).map g ↔ ∀ k, k < n → f k = g k := by
  rw [List.map_inj_left]
  simp
/-- the numbers of a type that is made of numbers alone -/
def intLits (P : Program) : Nat → TypeId → List Value → Option (List Lit)
  | 0, _, _ => none
  | d + 1, t, cs => match P.underlying t with
    | some (.int q) => match cs with
      | [.int q' n] => if q' = q then some [.int q n] else none
      | _ => none
    | some (.array n e) => if cs.length = P.cellsOf t then ((List.range n).mapM fun i => intLits P d e ((cs.drop (i * P.cellsOf e)).take (P.cellsOf e))).map List.flatten else none
    | some (.struct fs) => if cs.length = P.cellsOf t ∧ fs.all (·.name != "_") = true then (fs.toList.mapM fun f => intLits P d f.type ((cs.drop f.offset).take (P.cellsOf f.type))).map List.flatten else none
    | _ => none
theorem mapM_to {α β : Type} {f g : α → Option (List β)} {ok : β → Prop} (h : ∀ x r, f x = some r → (∀ b ∈ r, ok b) → g x = some r) : ∀ (l : List α) (rs : List (List β)), l.mapM f = some rs → (∀ r ∈ rs, ∀ b ∈ r, ok b) → l.mapM g = some rs
  | [], rs, he, _ => by simpa using he
  | x :: l, rs, he, hk => by
    rw [List.mapM_cons] at he ⊢
    cases hx : f x with
    | none => rw [hx] at he; cases he
    | some r =>
      cases hl : l.mapM f with
      | none => rw [hx, hl] at he; cases he
      | some q =>
        rw [hx, hl] at he
        obtain rfl : r :: q = rs := by simpa using he
        rw [h x r hx (hk r (by simp)), mapM_to h l q hl (fun a ha => hk a (by simp [ha]))]
        rfl
theorem keyLits_of {P : Program} : ∀ (d : Nat) (t : TypeId) (cs : List Value) (la : List Lit), intLits P d t cs = some la → (∀ l ∈ la, l.wf = true) → P.keyLits d t cs = some la
  | 0, _, _, _, h, _ => by cases h
  | d + 1, t, cs, la, h, hw => by
    unfold intLits at h
    unfold Program.keyLits
    cases hu : P.underlying t with
    | none => rw [hu] at h; cases h
    | some k =>
      rw [hu] at h
      cases k <;> simp only at h <;> (try (cases h; done))
      case int q =>
        split at h
        · rename_i q' n
          split at h
          · rename_i e
            subst e
            obtain rfl : [Lit.int q' n] = la := by simpa using h
            simp only
            rw [if_pos ⟨trivial, hw _ (by simp)⟩]
          · cases h
        · cases h
      case array n e =>
        split at h
        · rename_i hl
          simp only
          rw [if_pos hl]
          cases hm : (List.range n).mapM fun i => intLits P d e ((cs.drop (i * P.cellsOf e)).take (P.cellsOf e)) with
          | none => rw [hm] at h; cases h
          | some rs =>
            rw [hm] at h
            obtain rfl : rs.flatten = la := by simpa using h
            rw [mapM_to (ok := fun l => Lit.wf l = true) (fun i r => keyLits_of d e _ r) (List.range n) rs hm (fun r hr b hb => hw b (by simp; exact ⟨r, hr, hb⟩))]
            rfl
        · cases h
      case struct fs =>
        split at h
        · rename_i hl
          simp only
          rw [if_pos hl]
          cases hm : fs.toList.mapM fun f => intLits P d f.type ((cs.drop f.offset).take (P.cellsOf f.type)) with
          | none => rw [hm] at h; cases h
          | some rs =>
            rw [hm] at h
            obtain rfl : rs.flatten = la := by simpa using h
            rw [mapM_to (ok := fun l => Lit.wf l = true) (fun (f : Field) r => keyLits_of d f.type _ r) fs.toList rs hm (fun r hr b hb => hw b (by simp; exact ⟨r, hr, hb⟩))]
            rfl
        · cases h
/-- a state's numbers are of their kinds, as a law's parameter has them -/
def WfL (v : Nat → Int) : Prop := ∀ j, j < 60 → (Lit.int (kindAt j) (v j)).wf = true
theorem wfl_map {v : Nat → Int} (h : WfL v) (o n : Nat) (ho : o + n ≤ 60) {f : Nat → Lit} (hf : ∀ k, f k = Lit.int (kindAt (o + k)) (v (o + k))) : ∀ l ∈ (List.range n).map f, l.wf = true := by
  intro l hl
  obtain ⟨k, hk, rfl⟩ := List.mem_map.1 hl
  rw [hf]
  exact h _ (by have := List.mem_range.1 hk; omega)
theorem ints_ply4 (v : Nat → Int) : intLits Try.prog 6 27 (plyC v 4).toList = some ((List.range 10).map fun k => Lit.int (kindAt (4 + k)) (v (4 + k))) := by kernel_rfl
theorem lits_ply4 (v : Nat → Int) (h : WfL v) : Try.prog.keyLits 6 27 (plyC v 4).toList = some ((List.range 10).map fun k => Lit.int (kindAt (4 + k)) (v (4 + k))) := keyLits_of _ _ _ _ (ints_ply4 v) (wfl_map h 4 10 (by decide) fun k => by simp)
theorem ints_ply14 (v : Nat → Int) : intLits Try.prog 6 27 (plyC v 14).toList = some ((List.range 10).map fun k => Lit.int (kindAt (14 + k)) (v (14 + k))) := by kernel_rfl
theorem lits_ply14 (v : Nat → Int) (h : WfL v) : Try.prog.keyLits 6 27 (plyC v 14).toList = some ((List.range 10).map fun k => Lit.int (kindAt (14 + k)) (v (14 + k))) := keyLits_of _ _ _ _ (ints_ply14 v) (wfl_map h 14 10 (by decide) fun k => by simp)
theorem ints_shos (v : Nat → Int) : intLits Try.prog 6 31 (shosC v).toList = some ((List.range 36).map fun k => Lit.int (kindAt (24 + k)) (v (24 + k))) := by kernel_rfl
theorem lits_shos (v : Nat → Int) (h : WfL v) : Try.prog.keyLits 6 31 (shosC v).toList = some ((List.range 36).map fun k => Lit.int (kindAt (24 + k)) (v (24 + k))) := keyLits_of _ _ _ _ (ints_shos v) (wfl_map h 24 36 (by decide) fun k => by simp)
theorem ints_state (v : Nat → Int) : intLits Try.prog 8 33 (mkC v).toList = some ((List.range 60).map fun k => Lit.int (kindAt k) (v k)) := by kernel_rfl
theorem lits_state (v : Nat → Int) (h : WfL v) : Try.prog.keyLits 8 33 (mkC v).toList = some ((List.range 60).map fun k => Lit.int (kindAt k) (v k)) := keyLits_of _ _ _ _ (ints_state v) (wfl_map h 0 60 (by decide) fun k => by simp)
theorem form_ply4 (v : Nat → Int) : (Value.agg (plyC v 4)).formed Try.prog 27 = true := by kernel_rfl
theorem form_ply14 (v : Nat → Int) : (Value.agg (plyC v 14)).formed Try.prog 27 = true := by kernel_rfl
theorem form_shos (v : Nat → Int) : (Value.agg (shosC v)).formed Try.prog 31 = true := by kernel_rfl
theorem form_state (v : Nat → Int) : (Value.agg (mkC v)).formed Try.prog 33 = true := by kernel_rfl
theorem key_ply : Try.prog.keyTypeAt 10 27 = true := by kernel_rfl
theorem key_shos : Try.prog.keyTypeAt 10 31 = true := by kernel_rfl
theorem key_state : Try.prog.keyTypeAt 10 33 = true := by kernel_rfl
/-- the same numbers from a place on -/
def sameN (a b : Nat → Int) (o n : Nat) : Prop := ∀ k, k < n → a (o + k) = b (o + k)
instance (a b : Nat → Int) (o n : Nat) : Decidable (sameN a b o n) := by unfold sameN; infer_instance
theorem eql_of {t : TypeId} {m D : Nat} {xs ys : Array Value} {la lb : List Lit} {p : Prop} [Decidable p] (hm : m ≤ 10000) (hk : Try.prog.keyTypeAt m t = true) (fx : (Value.agg xs).formed Try.prog t = true) (fy : (Value.agg ys).formed Try.prog t = true)
    (hx : Try.prog.keyLits D t xs.toList = some la) (hy : Try.prog.keyLits D t ys.toList = some lb) (h : la = lb ↔ p) (w : World) : (binOp .eql t (.agg xs) (.agg ys)).run Try.prog w = .ok (.bool (decide p)) w := by
  obtain ⟨r, hr, hi⟩ := run_equalIn_deep (10000 - m) m t hk w D D (.agg xs) (.agg ys) la lb fx fy hx hy
  rw [show 10000 - m + m = 10000 by omega] at hr
  rw [run_eql_struct, hr, Result.andThen_ok]
  congr 2
  rw [Bool.eq_iff_iff, hi, h, decide_eq_true_iff]
theorem lits_iff {a b : Nat → Int} {o n : Nat} {f : Nat → IntKind} : ((List.range n).map fun k => Lit.int (f k) (a (o + k))) = ((List.range n).map fun k => Lit.int (f k) (b (o + k))) ↔ sameN a b o n := by
  rw [lits_map]
  unfold sameN
  simp
theorem eql_ply4 (a b : Nat → Int) (ha : WfL a) (hb : WfL b) (w : World) : (binOp .eql 27 (.agg (plyC a 4)) (.agg (plyC b 4))).run Try.prog w = .ok (.bool (decide (sameN a b 4 10))) w :=
  eql_of (m := 10) (by omega) key_ply (form_ply4 a) (form_ply4 b) (lits_ply4 a ha) (lits_ply4 b hb) lits_iff w
theorem eql_ply14 (a b : Nat → Int) (ha : WfL a) (hb : WfL b) (w : World) : (binOp .eql 27 (.agg (plyC a 14)) (.agg (plyC b 14))).run Try.prog w = .ok (.bool (decide (sameN a b 14 10))) w :=
  eql_of (m := 10) (by omega) key_ply (form_ply14 a) (form_ply14 b) (lits_ply14 a ha) (lits_ply14 b hb) lits_iff w
theorem eql_shos (a b : Nat → Int) (ha : WfL a) (hb : WfL b) (w : World) : (binOp .eql 31 (.agg (shosC a)) (.agg (shosC b))).run Try.prog w = .ok (.bool (decide (sameN a b 24 36))) w :=
  eql_of (m := 10) (by omega) key_shos (form_shos a) (form_shos b) (lits_shos a ha) (lits_shos b hb) lits_iff w
theorem eql_state (a b : Nat → Int) (ha : WfL a) (hb : WfL b) (w : World) : (binOp .eql 33 (.agg (mkC a)) (.agg (mkC b))).run Try.prog w = .ok (.bool (decide (sameN a b 0 60))) w :=
  eql_of (m := 10) (by omega) key_state (form_state a) (form_state b) (lits_state a ha) (lits_state b hb) (by rw [lits_map]; unfold sameN; simp) w
theorem sameN_iff (a b : Nat → Int) : sameN a b 0 60 ↔ (a 0 = b 0 ∧ a 1 = b 1 ∧ a 2 = b 2 ∧ a 3 = b 3 ∧ sameN a b 4 10 ∧ sameN a b 14 10 ∧ sameN a b 24 36) := by
  constructor
  · intro h
    have g : ∀ k, k < 60 → a k = b k := fun k hk => by have := h k hk; rwa [Nat.zero_add] at this
    exact ⟨g 0 (by omega), g 1 (by omega), g 2 (by omega), g 3 (by omega), fun k hk => g _ (by omega), fun k hk => g _ (by omega), fun k hk => g _ (by omega)⟩
  · rintro ⟨h0, h1, h2, h3, h4, h5, h6⟩ k hk
    rw [Nat.zero_add]
    rcases (show k = 0 ∨ k = 1 ∨ k = 2 ∨ k = 3 ∨ (4 ≤ k ∧ k < 14) ∨ (14 ≤ k ∧ k < 24) ∨ 24 ≤ k by omega) with rfl | rfl | rfl | rfl | h | h | h
    · exact h0
    · exact h1
    · exact h2
    · exact h3
    · have := h4 (k - 4) (by omega); rwa [show 4 + (k - 4) = k by omega] at this
    · have := h5 (k - 14) (by omega); rwa [show 14 + (k - 14) = k by omega] at this
    · have := h6 (k - 24) (by omega); rwa [show 24 + (k - 24) = k by omega] at this
end Go.Proofs.Ytfepefohaadecaa
