/- A slice that reads as a list of cells; rows of the call's own as such; an append whose source may be nil. -/
import Derived.Test.YtaobhbfhbmenfaaKeeps
import Derived.Test.YtaobhbfhbmenfaaBlk
import Derived.Below
import Derived.Laws.OwnMore
import Derived.Deep.AppendLies
import Derived.Maps.AppendAt
import Derived.OwnWalk
namespace Go.Proofs.Ytaobhbfhbmenfaa
open Go.RowKit
/-- the slice '.slice A n cap', of elements of sz cells, holds the cells xs -/
def Vals (w : World) (sz : Nat) (A : Option Addr) (n cap : Nat) (xs : List Value) : Prop :=
  xs.length = n * sz ∧ n ≤ cap ∧ cap ≤ maxLen ∧ (0 < n → ∃ b o, A = some ⟨b, o, none⟩ ∧ ∀ j u, xs[j]? = some u → w.cell? ⟨b, o + j, none⟩ = some u)
section
variable {w w' : World} {sz n cap : Nat} {A : Option Addr} {xs : List Value}
theorem Vals.nil (w : World) (sz : Nat) : Vals w sz none 0 0 [] := ⟨by simp, Nat.le_refl _, Nat.zero_le _, fun h => absurd h (Nat.lt_irrefl _)⟩
theorem Vals.at' (h : Vals w sz A n cap xs) (hn : 0 < n) : ∃ b o, A = some ⟨b, o, none⟩ ∧ ∀ j u, xs[j]? = some u → w.cell? ⟨b, o + j, none⟩ = some u := h.2.2.2 hn
theorem Vals.lt (h : Vals w sz A n cap xs) (hs : 0 < sz) (hn : 0 < n) {x : Addr} (hx : A = some x) : x.block < w.heap.size := by
  obtain ⟨b, o, e, hc⟩ := h.at' hn
  rw [hx] at e
  cases e
  have hl : 0 < xs.length := by rw [h.1]; exact Nat.mul_pos hn hs
  exact World.block_lt_of_cell? w ⟨b, o + 0, none⟩ (hc 0 xs[0] (by simp))
theorem Vals.keeps {S : Nat → Prop} (h : Vals w sz A n cap xs) (hk : Keeps S w w') (hs : 0 < n → ∀ x, A = some x → ¬ S x.block) : Vals w' sz A n cap xs :=
  ⟨h.1, h.2.1, h.2.2.1, fun hn => by
    obtain ⟨b, o, rfl, hc⟩ := h.at' hn
    exact ⟨b, o, rfl, fun j u hu => hk.cell (p := ⟨b, o + j, none⟩) (hc j u hu) (hs hn ⟨b, o, none⟩ rfl)⟩⟩
theorem Vals.below (h : Vals w sz A n cap xs) {B : Nat} (hb : Below B w w') (hlt : 0 < n → ∀ x, A = some x → x.block < B) : Vals w' sz A n cap xs :=
  ⟨h.1, h.2.1, h.2.2.1, fun hn => by
    obtain ⟨b, o, rfl, hc⟩ := h.at' hn
    exact ⟨b, o, rfl, fun j u hu => hb.cell (p := ⟨b, o + j, none⟩) (hlt hn ⟨b, o, none⟩ rfl) |>.trans (hc j u hu)⟩⟩
/-- a row of the call's own -/
theorem vals_of_own {base : Nat} {e : TypeId} {v : Value} (h : w.ownsRow base e sz v n xs) : ∃ A cap, v = .slice A n cap ∧ Vals w sz A n cap xs ∧ (∀ x, A = some x → base ≤ x.block ∧ x.block < w.heap.size ∧ v.ownBlock = some x.block) := by
  rcases h.2 with ⟨rfl, rfl⟩ | ⟨g, cap, cur, rfl, hg, hh, hn, hm, hs, ht⟩
  · exact ⟨none, 0, rfl, ⟨h.1, Nat.le_refl _, Nat.zero_le _, fun h => absurd h (Nat.lt_irrefl _)⟩, fun x h => by cases h⟩
  · refine ⟨_, cap, rfl, ⟨h.1, hn, hm, fun _ => ⟨g, 0, rfl, fun j u hu => ?_⟩⟩, fun x hx => by cases hx; exact ⟨hg, blk_lt hh, rfl⟩⟩
    rw [Nat.zero_add]
    refine blk_cell hh ?_
    rw [← ht, List.getElem?_take] at hu
    split at hu
    · simpa using hu
    · cases hu
theorem own_keeps {base : Nat} {e : TypeId} {v : Value} {S : Nat → Prop} (h : w.ownsRow base e sz v n xs) (hk : Keeps S w w') (hs : ∀ b, v.ownBlock = some b → ¬ S b) : w'.ownsRow base e sz v n xs := by
  refine ⟨h.1, ?_⟩
  rcases h.2 with h2 | ⟨g, cap, cur, rfl, hg, hh, r⟩
  · exact .inl h2
  · exact .inr ⟨g, cap, cur, rfl, hg, hk.heap hh (hs g rfl), r⟩
theorem own_nil (w : World) (base : Nat) (e : TypeId) (sz : Nat) : w.ownsRow base e sz (.slice none 0 0) 0 [] := World.ownsRow_nil w base e sz
/-- an empty row just made -/
theorem own_empty {base b : Nat} {e : TypeId} {sz : Nat} (hb : base ≤ b) (h : w.heap[b]? = some (.cells #[] e (0, 0))) : w.ownsRow base e sz (.slice (some ⟨b, 0, none⟩) 0 0) 0 [] :=
  ⟨by simp, .inr ⟨b, 0, #[], rfl, hb, h, Nat.le_refl _, Nat.zero_le _, by simp, by simp⟩⟩
end
/-- a block of one cell just made -/
theorem vals_one (w : World) (u : Value) (t : TypeId) : Vals (w.alloc (.cells #[u] t)) 1 (some ⟨w.heap.size, 0, none⟩) 1 1 [u] :=
  ⟨rfl, Nat.le_refl _, by simp [maxLen], fun _ => ⟨_, _, rfl, fun j v hv => by
    match j, hv with
    | 0, hv =>
      rw [Option.some.inj (show some u = some v from hv)]
      exact cell_one_new' _ _ _
    | j + 1, hv => simp at hv⟩⟩
/-- a piece of a slice, from i on -/
theorem Vals.drop {w : World} {n cap : Nat} {A : Option Addr} {xs : List Value} (h : Vals w 1 A n cap xs) (i : Nat) (hi : i ≤ n) :
    Vals w 1 (if cap = i then A else A.map (·.add i)) (n - i) (cap - i) (xs.drop i) := by
  obtain ⟨h1, h2, h3, h4⟩ := h
  refine ⟨by simp [h1], by omega, by omega, fun hn => ?_⟩
  obtain ⟨b, o, rfl, hc⟩ := h4 (by omega)
  rw [if_neg (by omega)]
  refine ⟨b, o + i, by simp [addr_add], fun j u hu => ?_⟩
  rw [Nat.add_assoc]
  exact hc (i + j) u (by simpa using hu)
theorem Vals.take {w : World} {n cap : Nat} {A : Option Addr} {xs : List Value} (h : Vals w 1 A n cap xs) (i : Nat) (hi : i ≤ n) : Vals w 1 A i cap (xs.take i) := by
  obtain ⟨h1, h2, h3, h4⟩ := h
  refine ⟨by simp [h1]; omega, by omega, h3, fun hn => ?_⟩
  obtain ⟨b, o, rfl, hc⟩ := h4 (by omega)
  refine ⟨b, o, rfl, fun j u hu => hc j u ?_⟩
  rw [List.getElem?_take] at hu
  split at hu
  · exact hu
  · cases hu
section
variable {P : Program} (w : World)
/-- append, nothing known of the source but what it holds -/
theorem run_append_vals (base : Nat) (t ty e : TypeId) (i : TypeInfo) (z : Value) (sz bytes : Nat) (ht : P.underlying t = some (.slice e)) (hi : P.info? e = some i) (hz : i.zero = some z)
    (hsize : i.size = sz) (hby : i.bytes = bytes) (hzs : z.cells.size = sz) (hsz : 0 < sz)
    (v : Value) (n : Nat) (xs : List Value) (hown : w.ownsRow base e sz v n xs)
    (A : Option Addr) (m c : Nat) (news : List Value) (hr : Vals w sz A m c news) (h1 : ∀ u ∈ news, u.oneCell' = true)
    (h63 : n + m ≤ maxLen) (hbytes : (n + m) * bytes ≤ 140737488355328) (hbase : base ≤ w.heap.size) :
    ∃ v' w', (Builtin.append_ #[t, t] ty #[v, .slice A m c]).run P w = .ok v' w' ∧ w'.ownsRow base e sz v' (n + m) (xs ++ news) ∧ w.grownBy w' v.ownBlock ∧
      (v'.ownBlock = v.ownBlock ∨ v'.ownBlock = some w.heap.size) := by
  cases A with
  | none =>
    obtain rfl : m = 0 := by
      rcases Nat.eq_zero_or_pos m with h0 | h0
      · exact h0
      · obtain ⟨b, o, h, _⟩ := hr.at' h0
        cases h
    obtain rfl : news = [] := List.eq_nil_of_length_eq_zero (by simpa using hr.1)
    refine ⟨v, w, ?_, by simpa using hown, World.grownBy.refl w _, .inl rfl⟩
    rcases hown.2 with ⟨rfl, rfl⟩ | ⟨g, cap, cur, rfl, _, _, hnc, _⟩
    · simp [Builtin.append_, run_underlying ht, sizeOf, typeInfo, hi, Builtin.lenOf, Builtin.firstCells]
    · simp [Builtin.append_, run_underlying ht, sizeOf, typeInfo, hi, Builtin.lenOf, Builtin.firstCells, hnc, storeCells]
  | some ad =>
    have hcells : ∀ j u, news[j]? = some u → w.cell? (ad.add j) = some u := by
      intro j u hu
      rcases Nat.eq_zero_or_pos m with h0 | h0
      · subst h0
        obtain rfl : news = [] := List.eq_nil_of_length_eq_zero (by simpa using hr.1)
        simp at hu
      · obtain ⟨b, o, h, hc⟩ := hr.at' h0
        cases h
        rw [addr_add]
        exact hc j u hu
    obtain ⟨v', w', hrun, h2, h3, _, h5⟩ := run_append_own_at (P := P) w base t ty e i z sz bytes ht hi hz hsize hby hzs hsz v n xs hown ad m c news hr.1 hcells h1 h63 hbytes hbase
    exact ⟨v', w', hrun, h2, h3, h5⟩
theorem wp_append_vals {o : Oper} {a : Act} {K : Act → World → Prop} {Q : Exit → Act → World → Prop} (s x : Operand) (t : TypeId)
    (ho : o.op = .call { callee := .builtin .append, args := #[s, x], argTypes := #[t, t] })
    (base : Nat) (e : TypeId) (i : TypeInfo) (z : Value) (sz bytes : Nat) (ht : P.underlying t = some (.slice e)) (hi : P.info? e = some i) (hz : i.zero = some z)
    (hsize : i.size = sz) (hby : i.bytes = bytes) (hzs : z.cells.size = sz) (hsz : 0 < sz)
    (v : Value) (n : Nat) (xs : List Value) (hs : a.eval s = v) (hown : w.ownsRow base e sz v n xs)
    (A : Option Addr) (m c : Nat) (news : List Value) (hx : a.eval x = .slice A m c) (hr : Vals w sz A m c news) (h1 : ∀ u ∈ news, u.oneCell' = true)
    (h63 : n + m ≤ maxLen) (hbytes : (n + m) * bytes ≤ 140737488355328) (hbase : base ≤ w.heap.size)
    (h : ∀ v' w', w'.ownsRow base e sz v' (n + m) (xs ++ news) → w.grownBy w' v.ownBlock → (v'.ownBlock = v.ownBlock ∨ v'.ownBlock = some w.heap.size) → K (a.put o.dst v') w') : o.wp P a w K Q := by
  obtain ⟨v', w', hrun, h2, h3, h4⟩ := run_append_vals (P := P) w base t o.type e i z sz bytes ht hi hz hsize hby hzs hsz v n xs hown A m c news hr h1 h63 hbytes hbase
  unfold Oper.wp execOp
  simp only [ho, resolve, invoke, builtin, Sem.run_bind, Sem.run_pure, Result.andThen_ok, List.map_toArray, List.map_cons, List.map_nil, hs, hx, hrun]
  exact h v' w' h2 h3 h4
theorem wpList_append_vals {ops : Array Oper} {rest : List Oper} {o : Oper} {a : Act} {Q : Exit → Act → World → Prop} (hgd : o.guard = none) (s x : Operand) (t : TypeId)
    (ho : o.op = .call { callee := .builtin .append, args := #[s, x], argTypes := #[t, t] })
    (base : Nat) (e : TypeId) (i : TypeInfo) (z : Value) (sz bytes : Nat) (ht : P.underlying t = some (.slice e)) (hi : P.info? e = some i) (hz : i.zero = some z)
    (hsize : i.size = sz) (hby : i.bytes = bytes) (hzs : z.cells.size = sz) (hsz : 0 < sz)
    (v : Value) (n : Nat) (xs : List Value) (hs : a.eval s = v) (hown : w.ownsRow base e sz v n xs)
    (A : Option Addr) (m c : Nat) (news : List Value) (hx : a.eval x = .slice A m c) (hr : Vals w sz A m c news) (h1 : ∀ u ∈ news, u.oneCell' = true)
    (h63 : n + m ≤ maxLen) (hbytes : (n + m) * bytes ≤ 140737488355328) (hbase : base ≤ w.heap.size)
    (h : ∀ v' w', w'.ownsRow base e sz v' (n + m) (xs ++ news) → w.grownBy w' v.ownBlock → (v'.ownBlock = v.ownBlock ∨ v'.ownBlock = some w.heap.size) → wpList P ops Q rest (a.put o.dst v') w') : wpList P ops Q (o :: rest) a w :=
  wpList_plain hgd fun _ hK => wp_append_vals w s x t ho base e i z sz bytes ht hi hz hsize hby hzs hsz v n xs hs hown A m c news hx hr h1 h63 hbytes hbase fun v' w' h2 h3 h4 => hK _ _ (h v' w' h2 h3 h4)
/-- .. of an operation behind a guard that is met -/
theorem wpList_append_valsg {ops : Array Oper} {rest : List Oper} {o : Oper} {a : Act} {Q : Exit → Act → World → Prop} (hw : Region.wanted o (yielded ops a.tmps) = true) (s x : Operand) (t : TypeId)
    (ho : o.op = .call { callee := .builtin .append, args := #[s, x], argTypes := #[t, t] })
    (base : Nat) (e : TypeId) (i : TypeInfo) (z : Value) (sz bytes : Nat) (ht : P.underlying t = some (.slice e)) (hi : P.info? e = some i) (hz : i.zero = some z)
    (hsize : i.size = sz) (hby : i.bytes = bytes) (hzs : z.cells.size = sz) (hsz : 0 < sz)
    (v : Value) (n : Nat) (xs : List Value) (hs : a.eval s = v) (hown : w.ownsRow base e sz v n xs)
    (A : Option Addr) (m c : Nat) (news : List Value) (hx : a.eval x = .slice A m c) (hr : Vals w sz A m c news) (h1 : ∀ u ∈ news, u.oneCell' = true)
    (h63 : n + m ≤ maxLen) (hbytes : (n + m) * bytes ≤ 140737488355328) (hbase : base ≤ w.heap.size)
    (h : ∀ v' w', w'.ownsRow base e sz v' (n + m) (xs ++ news) → w.grownBy w' v.ownBlock → (v'.ownBlock = v.ownBlock ∨ v'.ownBlock = some w.heap.size) → wpList P ops Q rest (a.put o.dst v') w') : wpList P ops Q (o :: rest) a w := by
  unfold wpList
  rw [if_pos hw]
  exact .inl (wp_append_vals w s x t ho base e i z sz bytes ht hi hz hsize hby hzs hsz v n xs hs hown A m c news hx hr h1 h63 hbytes hbase h)
theorem step_append_vals {ops : Array Oper} {o : Oper} {a : Act} {K : Act → World → Prop} {Q : Exit → Act → World → Prop} {E : Prop} (hgd : o.guard = none) (s x : Operand) (t : TypeId)
    (ho : o.op = .call { callee := .builtin .append, args := #[s, x], argTypes := #[t, t] })
    (base : Nat) (e : TypeId) (i : TypeInfo) (z : Value) (sz bytes : Nat) (ht : P.underlying t = some (.slice e)) (hi : P.info? e = some i) (hz : i.zero = some z)
    (hsize : i.size = sz) (hby : i.bytes = bytes) (hzs : z.cells.size = sz) (hsz : 0 < sz)
    (v : Value) (n : Nat) (xs : List Value) (hs : a.eval s = v) (hown : w.ownsRow base e sz v n xs)
    (A : Option Addr) (m c : Nat) (news : List Value) (hx : a.eval x = .slice A m c) (hr : Vals w sz A m c news) (h1 : ∀ u ∈ news, u.oneCell' = true)
    (h63 : n + m ≤ maxLen) (hbytes : (n + m) * bytes ≤ 140737488355328) (hbase : base ≤ w.heap.size)
    (h : ∀ v' w', w'.ownsRow base e sz v' (n + m) (xs ++ news) → w.grownBy w' v.ownBlock → (v'.ownBlock = v.ownBlock ∨ v'.ownBlock = some w.heap.size) → K (a.put o.dst v') w') :
    if Region.wanted o (yielded ops a.tmps) = true then Oper.wp P o a w K Q else E := by
  have hw : Region.wanted o (yielded ops a.tmps) = true := by simp [Region.wanted, hgd]
  rw [if_pos hw]
  exact wp_append_vals w s x t ho base e i z sz bytes ht hi hz hsize hby hzs hsz v n xs hs hown A m c news hx hr h1 h63 hbytes hbase h
end
end Go.Proofs.Ytaobhbfhbmenfaa
