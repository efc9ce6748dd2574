/- freeze: a state's cells, a codec, and what it does to both numbers of a vector, to a shot. -/
import Derived.Test.YtfepefohaadecaaFrz1
namespace Go.Proofs.Ytfepefohaadecaa
open Go.RowKit
set_option maxRecDepth 10000
variable {w : World}
/-- of which kind each number of a state is -/
def kindAt (j : Nat) : IntKind := if j = 1 then .u32 else if j < 4 then .i64 else if j < 24 then (if (j - 4) % 10 < 4 then .i32 else .i64) else if (j - 24) % 6 < 4 then .i32 else .i64
def mkC (v : Nat → Int) : Array Value := ((List.range 60).map fun j => Value.int (kindAt j) (v j)).toArray
def updI (v : Nat → Int) (o : Nat) (x : Int) : Nat → Int := fun j => if j = o then x else v j
theorem mkC_size (v : Nat → Int) : (mkC v).size = 60 := by simp [mkC]
theorem mkC_get (v : Nat → Int) {o : Nat} (h : o < 60) : (mkC v)[o]? = some (.int (kindAt o) (v o)) := by simp [mkC, h]
theorem mkC_set (v : Nat → Int) (o : Nat) (x : Int) : (mkC v).setIfInBounds o (.int (kindAt o) x) = mkC (updI v o x) := by
  apply Array.ext_getElem?
  intro k
  by_cases hk : k < 60
  · rw [mkC_get _ hk, Array.getElem?_setIfInBounds, mkC_size, mkC_get _ hk]
    by_cases e : o = k
    · subst e
      rw [if_pos rfl, if_pos hk]
      simp [updI]
    · rw [if_neg e]
      simp [updI, show ¬ k = o from fun h => e h.symm]
  · rw [Array.getElem?_eq_none (by simp [mkC_size]; omega), Array.getElem?_eq_none (by simp [mkC_size]; omega)]
def fitsI (k : IntKind) (n : Int) : Prop := match k with
  | .i32 => -2147483648 ≤ n ∧ n ≤ 2147483647
  | .u32 => 0 ≤ n ∧ n ≤ 4294967295
  | _ => -9223372036854775808 ≤ n ∧ n ≤ 9223372036854775807
structure Codec (σ : Type) where
  T : TypeId
  r : Nat
  fN : FuncId
  fS : FuncId
  St : σ → Nat → World → Prop
  nF : σ → Int → σ × Int
  sF : σ → Int → σ × Int
  okN : Int → Prop
variable {σ : Type}
abbrev Codec.at (c : Codec σ) : Value := .pointer (some ⟨c.r, 0, none⟩)
abbrev Codec.val (c : Codec σ) : Value := .iface c.T c.at
structure Codec.Right (c : Codec σ) : Prop where
  aN : ∀ w, (nilAhead 390 c.T c.at "promptbook/freeze.number").run Try.prog w = .ok (some false) w
  aS : ∀ w, (nilAhead 390 c.T c.at "promptbook/freeze.signed").run Try.prog w = .ok (some false) w
  mN : ∀ w, (method 390 c.T c.at "promptbook/freeze.number").run Try.prog w = .ok (c.fN, c.at) w
  mS : ∀ w, (method 390 c.T c.at "promptbook/freeze.signed").run Try.prog w = .ok (c.fS, c.at) w
  eN : ∀ x y w, (callFunc c.fN #[x, y]).run Try.prog w = .ok (.enter c.fN #[x, y]) w
  eS : ∀ x y w, (callFunc c.fS #[x, y]).run Try.prog w = .ok (.enter c.fS #[x, y]) w
  keeps : ∀ {S : Nat → Prop} {s k w w'}, c.St s k w → Keeps S w w' → ¬ S c.r → c.St s k w'
  less : ∀ {s k j w}, c.St s (k + j) w → c.St s k w
  there : ∀ {s k w}, c.St s k w → c.r < w.heap.size
  num : ∀ {s k B o cs t n} (w : World), c.St s (k + 1) w → w.heap[B]? = some (.cells cs t (0, 0)) → B ≠ c.r → cs[o]? = some (.int .i64 n) → fitsI .i64 n → c.okN n →
    Calls Try.prog c.fN #[c.at, .pointer (some ⟨B, o, none⟩)] w fun e w' => e = .returned (.tuple #[]) ∧ c.St (c.nF s n).1 k w' ∧ w'.heap[B]? = some (.cells (cs.setIfInBounds o (.int .i64 (c.nF s n).2)) t (0, 0)) ∧ Keeps (fun b => b = c.r ∨ b = B) w w'
  sgn : ∀ {s k B o cs t n} (w : World), c.St s (k + 1) w → w.heap[B]? = some (.cells cs t (0, 0)) → B ≠ c.r → cs[o]? = some (.int .i32 n) → fitsI .i32 n →
    Calls Try.prog c.fS #[c.at, .pointer (some ⟨B, o, none⟩)] w fun e w' => e = .returned (.tuple #[]) ∧ c.St (c.sF s n).1 k w' ∧ w'.heap[B]? = some (.cells (cs.setIfInBounds o (.int .i32 (c.sF s n).2)) t (0, 0)) ∧ Keeps (fun b => b = c.r ∨ b = B) w w'
  fN64 : ∀ s n, fitsI .i64 n → fitsI .i64 (c.nF s n).2
  ok : ∀ s n, fitsI .i64 n → c.okN n → c.okN (c.nF s n).2
  okB : ∀ n, 0 ≤ n → c.okN n
  okW : ∀ s n, fitsI .u32 n → c.okN n → c.okN (IntKind.u32.wrap (c.nF s n).2)
  fS32 : ∀ s n, fitsI .i32 n → fitsI .i32 (c.sF s n).2
def Codec.step (c : Codec σ) (p : σ × (Nat → Int)) (o : Nat) : σ × (Nat → Int) := match kindAt o with
  | .i32 => ((c.sF p.1 (p.2 o)).1, updI p.2 o (c.sF p.1 (p.2 o)).2)
  | .u32 => ((c.nF p.1 (p.2 o)).1, updI p.2 o (IntKind.u32.wrap (c.nF p.1 (p.2 o)).2))
  | _ => ((c.nF p.1 (p.2 o)).1, updI p.2 o (c.nF p.1 (p.2 o)).2)
structure Fr (c : Codec σ) (w : World) (B : Nat) (p : σ × (Nat → Int)) (k : Nat) : Prop where
  st : c.St p.1 k w
  blk : w.heap[B]? = some (.cells (mkC p.2) 33 (0, 0))
  ne : B ≠ c.r
  fit : ∀ j, j < 60 → fitsI (kindAt j) (p.2 j) ∧ (kindAt j ≠ .i32 → c.okN (p.2 j))
def ofFr (c : Codec σ) (B : Nat) (b : Nat) : Prop := b = c.r ∨ b = B
section
variable {c : Codec σ} {B : Nat} {p : σ × (Nat → Int)} {k : Nat}
theorem Fr.keeps (hc : c.Right) {S : Nat → Prop} {w w' : World} (h : Fr c w B p k) (hk : Keeps S w w') (h1 : ¬ S c.r) (h2 : ¬ S B) : Fr c w' B p k := ⟨hc.keeps h.st hk h1, hk.heap h.blk h2, h.ne, h.fit⟩
theorem fr_num (hc : c.Right) (o : Nat) (ho : o < 60) (hk : kindAt o = .i64) (w : World) (h : Fr c w B p (k + 1)) :
    Calls Try.prog c.fN #[c.at, .pointer (some ⟨B, o, none⟩)] w fun e w' => e = .returned (.tuple #[]) ∧ Fr c w' B (c.step p o) k ∧ Keeps (ofFr c B) w w' := by
  have hf := h.fit o ho
  rw [hk] at hf
  have hg := mkC_get p.2 ho
  rw [hk] at hg
  refine (hc.num w h.st h.blk h.ne hg hf.1 (hf.2 (by simp))).mono ?_
  rintro e w' ⟨rfl, h1, h2, h3⟩
  refine ⟨rfl, ⟨?_, ?_, h.ne, ?_⟩, h3⟩
  · simpa only [Codec.step, hk] using h1
  · have := mkC_set p.2 o (c.nF p.1 (p.2 o)).2
    rw [hk] at this
    rw [h2, this]
    simp only [Codec.step, hk]
  · intro j hj
    simp only [Codec.step, hk, updI]
    by_cases e : j = o
    · subst e
      rw [if_pos rfl, hk]
      exact ⟨hc.fN64 _ _ hf.1, fun _ => hc.ok _ _ hf.1 (hf.2 (by simp))⟩
    · rw [if_neg e]
      exact h.fit j hj
theorem fr_sgn (hc : c.Right) (o : Nat) (ho : o < 60) (hk : kindAt o = .i32) (w : World) (h : Fr c w B p (k + 1)) :
    Calls Try.prog c.fS #[c.at, .pointer (some ⟨B, o, none⟩)] w fun e w' => e = .returned (.tuple #[]) ∧ Fr c w' B (c.step p o) k ∧ Keeps (ofFr c B) w w' := by
  have hf := h.fit o ho
  rw [hk] at hf
  have hg := mkC_get p.2 ho
  rw [hk] at hg
  refine (hc.sgn w h.st h.blk h.ne hg hf.1).mono ?_
  rintro e w' ⟨rfl, h1, h2, h3⟩
  refine ⟨rfl, ⟨?_, ?_, h.ne, ?_⟩, h3⟩
  · simpa only [Codec.step, hk] using h1
  · have := mkC_set p.2 o (c.sF p.1 (p.2 o)).2
    rw [hk] at this
    rw [h2, this]
    simp only [Codec.step, hk]
  · intro j hj
    simp only [Codec.step, hk, updI]
    by_cases e : j = o
    · subst e
      rw [if_pos rfl, hk]
      exact ⟨hc.fS32 _ _ hf.1, fun h => absurd rfl h⟩
    · rw [if_neg e]
      exact h.fit j hj
theorem Fr.drew (hc : c.Right) {w : World} (h : Fr c w B p k) : Fr c w.drew B p k := h.keeps hc (Keeps.refl (fun _ => False) w).drew id id
theorem fr_vec (hc : c.Right) (o : Nat) (ho : o + 1 < 60) (h1 : kindAt o = .i32) (h2 : kindAt (o + 1) = .i32) (w : World) (h : Fr c w B p (k + 2)) :
    Calls Try.prog 96 #[c.val, .pointer (some ⟨B, o, none⟩)] w fun e w' => e = .returned (.tuple #[]) ∧ Fr c w' B (c.step (c.step p o) (o + 1)) k ∧ Keeps (ofFr c B) w w' := by
  have hF := h.drew hc
  have hA := hc.aS
  have hM := hc.mS
  have hE := hc.eS
  have hG := fun w p k => fr_sgn (B := B) (p := p) (k := k) hc o (by omega) h1 w
  have hH := fun w p k => fr_sgn (B := B) (p := p) (k := k) hc (o + 1) ho h2 w
  clear h
  go_enter Try.func96, Try.ntmps96
  go_wp2_with fail
  refine stages_start (by kernel_rfl) 8 rfl ?_
  refine stagek (fun _ => True) [0, 1, 2, 3] [4, 5, 6, 7] 0 rfl #[true, true, true, true, true, true, true, true] (by kernel_rfl) (by kernel_rfl) (fun _ _ _ d _ h => by cases d <;> exact h) ?_
  simp only [opsAt, List.map_cons, List.map_nil, List.getElem?_toArray, List.getElem?_cons_zero, List.getElem?_cons_succ, Option.getD_some]
  repeat (go_big_quiet_step (fail))
  refine wpQuiet_nil ?_
  refine links_cons (by first | rfl | simp [go_sem]) (fun K hK => ?_)
  go_simp
  refine hK _ _ (keptS (Keeps.refl _ _)) ?_
  clear hK K
  try refine links_nil ?_
  refine links_cons (by first | rfl | simp [go_sem]) (fun K hK => ?_)
  go_simp
  refine hK _ _ (keptS (Keeps.refl _ _)) ?_
  clear hK K
  try refine links_nil ?_
  refine links_cons (by first | rfl | simp [go_sem]) (fun K hK => ?_)
  go_simp
  refine hK _ _ (keptS (Keeps.refl _ _)) ?_
  clear hK K
  try refine links_nil ?_
  refine links_cons (by first | rfl | simp [go_sem]) (fun K hK => ?_)
  go_simp
  refine (hG _ _ _ hF).mono ?_
  rintro e w1 ⟨rfl, hF1, hk1⟩
  refine hK _ _ (keptS (hk1.mono fun _ _ _ => trivial)) ?_
  clear hK K
  try refine links_nil ?_
  refine stages_end (by kernel_rfl) ?_
  have hF1d := hF1.drew hc
  go_wp2_with fail
  refine stages_start (by kernel_rfl) 8 rfl ?_
  refine stagek (fun _ => True) [0, 1, 2, 3] [4, 5, 6, 7] 0 rfl #[true, true, true, true, true, true, true, true] (by kernel_rfl) (by kernel_rfl) (fun _ _ _ d _ h => by cases d <;> exact h) ?_
  simp only [opsAt, List.map_cons, List.map_nil, List.getElem?_toArray, List.getElem?_cons_zero, List.getElem?_cons_succ, Option.getD_some]
  repeat (go_big_quiet_step (fail))
  refine wpQuiet_nil ?_
  refine links_cons (by first | rfl | simp [go_sem]) (fun K hK => ?_)
  go_simp
  refine hK _ _ (keptS (Keeps.refl _ _)) ?_
  clear hK K
  try refine links_nil ?_
  refine links_cons (by first | rfl | simp [go_sem]) (fun K hK => ?_)
  go_simp
  refine hK _ _ (keptS (Keeps.refl _ _)) ?_
  clear hK K
  try refine links_nil ?_
  refine links_cons (by first | rfl | simp [go_sem]) (fun K hK => ?_)
  go_simp
  refine hK _ _ (keptS (Keeps.refl _ _)) ?_
  clear hK K
  try refine links_nil ?_
  refine links_cons (by first | rfl | simp [go_sem]) (fun K hK => ?_)
  go_simp
  refine (hH _ _ _ hF1d).mono ?_
  rintro e w2 ⟨rfl, hF2, hk2⟩
  refine hK _ _ (keptS (hk2.mono fun _ _ _ => trivial)) ?_
  clear hK K
  try refine links_nil ?_
  refine stages_end (by kernel_rfl) ?_
  go_wp2
  refine bodyPost_end (v := .tuple #[]) (by first | rfl | simp [results, go_sem]) rfl ?_
  exact ⟨rfl, hF2, ((Keeps.refl _ w).drew.trans hk1).drew.trans hk2⟩
def Codec.steps (c : Codec σ) (p : σ × (Nat → Int)) (l : List Nat) : σ × (Nat → Int) := l.foldl c.step p
def shotAt (o : Nat) : List Nat := [o, o + 1, o + 2, o + 3, o + 4, o + 5]
theorem fr_shot (hc : c.Right) (o : Nat) (ho : o + 5 < 60) (h0 : kindAt o = .i32) (h1 : kindAt (o + 1) = .i32) (h2 : kindAt (o + 2) = .i32) (h3 : kindAt (o + 3) = .i32) (h4 : kindAt (o + 4) = .i64) (h5 : kindAt (o + 5) = .i64) (w : World) (h : Fr c w B p (k + 6)) :
    Calls Try.prog 71 #[c.val, .pointer (some ⟨B, o, none⟩)] w fun e w' => e = .returned (.tuple #[]) ∧ Fr c w' B (c.steps p (shotAt o)) k ∧ Keeps (ofFr c B) w w' := by
  have hA := hc.aN
  have hM := hc.mN
  have hE := hc.eN
  have hG := fun w p k => fr_num (B := B) (p := p) (k := k) hc (o + 4) (by omega) h4 w
  have hH := fun w p k => fr_num (B := B) (p := p) (k := k) hc (o + 5) ho h5 w
  have hV := fun w p k => fr_vec (B := B) (p := p) (k := k) hc o (by omega) h0 h1 w
  have hW := fun w p k => fr_vec (B := B) (p := p) (k := k) hc (o + 2) (by omega) h2 h3 w
  go_enter Try.func71, Try.ntmps71
  go_wp2_with fail
  refine (hV _ _ _ h).mono ?_
  rintro e w1 ⟨rfl, hF1, hk1⟩
  go_wp2_with fail
  refine (hW _ _ _ hF1).mono ?_
  rintro e w2 ⟨rfl, hF2, hk2⟩
  have hF2d := hF2.drew hc
  go_wp2_with fail
  refine stages_start (by kernel_rfl) 8 rfl ?_
  refine stagek (fun _ => True) [0, 1, 2, 3] [4, 5, 6, 7] 0 rfl #[true, true, true, true, true, true, true, true] (by kernel_rfl) (by kernel_rfl) (fun _ _ _ d _ h => by cases d <;> exact h) ?_
  simp only [opsAt, List.map_cons, List.map_nil, List.getElem?_toArray, List.getElem?_cons_zero, List.getElem?_cons_succ, Option.getD_some]
  repeat (go_big_quiet_step (fail))
  refine wpQuiet_nil ?_
  refine links_cons (by first | rfl | simp [go_sem]) (fun K hK => ?_)
  go_simp
  refine hK _ _ (keptS (Keeps.refl _ _)) ?_
  clear hK K
  try refine links_nil ?_
  refine links_cons (by first | rfl | simp [go_sem]) (fun K hK => ?_)
  go_simp
  refine hK _ _ (keptS (Keeps.refl _ _)) ?_
  clear hK K
  try refine links_nil ?_
  refine links_cons (by first | rfl | simp [go_sem]) (fun K hK => ?_)
  go_simp
  refine hK _ _ (keptS (Keeps.refl _ _)) ?_
  clear hK K
  try refine links_nil ?_
  refine links_cons (by first | rfl | simp [go_sem]) (fun K hK => ?_)
  go_simp
  refine (hG _ _ _ hF2d).mono ?_
  rintro e w3 ⟨rfl, hF3, hk3⟩
  refine hK _ _ (keptS (hk3.mono fun _ _ _ => trivial)) ?_
  clear hK K
  try refine links_nil ?_
  refine stages_end (by kernel_rfl) ?_
  have hF3d := hF3.drew hc
  go_wp2_with fail
  refine stages_start (by kernel_rfl) 8 rfl ?_
  refine stagek (fun _ => True) [0, 1, 2, 3] [4, 5, 6, 7] 0 rfl #[true, true, true, true, true, true, true, true] (by kernel_rfl) (by kernel_rfl) (fun _ _ _ d _ h => by cases d <;> exact h) ?_
  simp only [opsAt, List.map_cons, List.map_nil, List.getElem?_toArray, List.getElem?_cons_zero, List.getElem?_cons_succ, Option.getD_some]
  repeat (go_big_quiet_step (fail))
  refine wpQuiet_nil ?_
  refine links_cons (by first | rfl | simp [go_sem]) (fun K hK => ?_)
  go_simp
  refine hK _ _ (keptS (Keeps.refl _ _)) ?_
  clear hK K
  try refine links_nil ?_
  refine links_cons (by first | rfl | simp [go_sem]) (fun K hK => ?_)
  go_simp
  refine hK _ _ (keptS (Keeps.refl _ _)) ?_
  clear hK K
  try refine links_nil ?_
  refine links_cons (by first | rfl | simp [go_sem]) (fun K hK => ?_)
  go_simp
  refine hK _ _ (keptS (Keeps.refl _ _)) ?_
  clear hK K
  try refine links_nil ?_
  refine links_cons (by first | rfl | simp [go_sem]) (fun K hK => ?_)
  go_simp
  refine (hH _ _ _ hF3d).mono ?_
  rintro e w4 ⟨rfl, hF4, hk4⟩
  refine hK _ _ (keptS (hk4.mono fun _ _ _ => trivial)) ?_
  clear hK K
  try refine links_nil ?_
  refine stages_end (by kernel_rfl) ?_
  go_wp2
  refine bodyPost_end (v := .tuple #[]) (by first | rfl | simp [results, go_sem]) rfl ?_
  exact ⟨rfl, hF4, (((hk1.trans hk2).drew.trans hk3).drew.trans hk4)⟩
end
end Go.Proofs.Ytfepefohaadecaa
