/- What a step of the program leaves as it was: all blocks but those of a set, and new ones. -/
import Derived.Test.YtaobhbfhbmenfaaBase
import Derived.Test.YtaobhbfhbmenfaaAfter
import Derived.RangeFuncRecord
namespace Go.Proofs.Ytaobhbfhbmenfaa
open Go.RowKit
/-- Outside S nothing that w held has changed in w'. -/
structure Keeps (S : Nat → Prop) (w w' : World) : Prop where
  os : w'.os = w.os
  tape : w'.tape = w.tape
  output : w'.output = w.output
  size : w.heap.size ≤ w'.heap.size
  block : ∀ k, k < w.heap.size → ¬ S k → w'.heap[k]? = w.heap[k]?
namespace Keeps
variable {S T : Nat → Prop} {w w' a b c : World}
theorem refl (S : Nat → Prop) (w : World) : Keeps S w w := ⟨rfl, rfl, rfl, Nat.le_refl _, fun _ _ _ => rfl⟩
theorem trans (h : Keeps S a b) (k : Keeps S b c) : Keeps S a c :=
  ⟨k.os.trans h.os, k.tape.trans h.tape, k.output.trans h.output, Nat.le_trans h.size k.size, fun i hi hs => (k.block i (Nat.lt_of_lt_of_le hi h.size) hs).trans (h.block i hi hs)⟩
theorem mono (h : Keeps S a b) (hs : ∀ k, k < a.heap.size → S k → T k) : Keeps T a b :=
  ⟨h.os, h.tape, h.output, h.size, fun k hk ht => h.block k hk (fun s => ht (hs k hk s))⟩
theorem alloc (h : Keeps S a b) (o : Obj) : Keeps S a (b.alloc o) :=
  h.trans ⟨rfl, rfl, rfl, by simp, fun k hk _ => Below.heap_alloc _ _ _ hk⟩
theorem setCell (h : Keeps S a b) {p : Addr} (hp : S p.block) (u : Value) : Keeps S a (b.setCell p u) :=
  h.trans ⟨rfl, rfl, rfl, by simp [World.setCell], fun k _ hs => Below.heap_setCell _ _ _ _ (fun e => hs (e ▸ hp))⟩
/-- a store into a block that a did not hold -/
theorem setNew (h : Keeps S a b) {p : Addr} (hp : a.heap.size ≤ p.block) (u : Value) : Keeps S a (b.setCell p u) :=
  ⟨h.os, h.tape, h.output, by simp only [World.setCell, Array.size_modify]; exact h.size, fun k hk hs => (Below.heap_setCell _ _ _ _ (by omega)).trans (h.block k hk hs)⟩
theorem drew (h : Keeps S a b) : Keeps S a b.drew := ⟨h.os, h.tape, h.output, h.size, h.block⟩
theorem drewN (h : Keeps S a b) (n : Nat) : Keeps S a (b.drewN n) := h.trans ⟨rfl, rfl, rfl, Nat.le_refl _, fun _ _ _ => rfl⟩
theorem putObj (h : Keeps S a b) {l : Nat} (hl : S l) (o : Obj) : Keeps S a (b.putObj l o) :=
  h.trans ⟨rfl, rfl, rfl, by simp, fun _ _ hs => World.putObj_heap_other (fun e => hs (e ▸ hl))⟩
theorem of_below {B : Nat} (h : Below B a b) (hB : ∀ k, k < a.heap.size → B ≤ k → S k) : Keeps S a b :=
  ⟨h.os, h.tape, h.output, h.size, fun k hk hs => h.block k (Nat.lt_of_not_le fun c => hs (hB k hk c))⟩
theorem below {B : Nat} (h : Keeps S a b) (hB : B ≤ a.heap.size) (hs : ∀ k, k < B → ¬ S k) : Below B a b :=
  ⟨h.os, h.tape, h.output, h.size, fun k hk => h.block k (Nat.lt_of_lt_of_le hk hB) (hs k hk)⟩
/-- behind a call that has written nothing of what was there -/
theorem then_below (h : Keeps S a b) (k : Below b.heap.size b c) : Keeps S a c :=
  h.trans (of_below k fun _ hk hB => absurd hk (Nat.not_lt.2 hB))
theorem grown (h : Keeps S a b) {row : Option Nat} (hg : b.grownBy c row) (hr : ∀ k, row = some k → S k ∨ a.heap.size ≤ k) : Keeps S a c :=
  ⟨hg.os.trans h.os, hg.tape.trans h.tape, hg.output.trans h.output, Nat.le_trans h.size hg.size, fun k hk hs => by
    refine (hg.block k (Nat.lt_of_lt_of_le hk h.size) (fun e => ?_)).trans (h.block k hk hs)
    rcases hr k e.symm with c | c
    · exact hs c
    · omega⟩
theorem heap (h : Keeps S a b) {k : Nat} {o : Obj} (ho : a.heap[k]? = some o) (hs : ¬ S k) : b.heap[k]? = some o :=
  (h.block k (Array.getElem?_eq_some_iff.1 ho).1 hs).trans ho
theorem cell (h : Keeps S a b) {p : Addr} {v : Value} (hc : a.cell? p = some v) (hs : ¬ S p.block) : b.cell? p = some v :=
  (World.cell?_of_block (h.block p.block (World.block_lt_of_cell? a p hc) hs)).trans hc
theorem frozen (h : Keeps S a b) {p : Addr} (hp : p.block < a.heap.size) (hs : ¬ S p.block) : b.frozen? p = a.frozen? p :=
  World.frozen?_of_block (h.block p.block hp hs)
end Keeps
/-- a cell that is there is there behind a new block -/
theorem cell_past {w : World} {p : Addr} {v : Value} (h : w.cell? p = some v) (o : Obj) : (w.alloc o).cell? p = some v := ((Keeps.refl (fun _ => False) w).alloc o).cell h id
theorem frozen_past {w : World} {p : Addr} {v : Value} (h : w.cell? p = some v) {b : Bool} (hf : w.frozen? p = b) (o : Obj) : (w.alloc o).frozen? p = b :=
  (((Keeps.refl (fun _ => False) w).alloc o).frozen (World.block_lt_of_cell? w p h) id).trans hf
theorem cell_one_drew (w : World) (v : Value) (t : TypeId) : (w.alloc (.cells #[v] t)).drew.cell? ⟨w.heap.size, 0, none⟩ = some v := by go_simp
theorem size_one_drew (w : World) (o : Obj) : w.heap.size < (w.alloc o).drew.heap.size := by simp
theorem cell_one_new' (w : World) (v : Value) (t : TypeId) : (w.alloc (.cells #[v] t)).cell? ⟨w.heap.size, 0, none⟩ = some v := by go_simp
theorem frozen_one_new (w : World) (v : Value) (t : TypeId) : (w.alloc (.cells #[v] t)).frozen? ⟨w.heap.size, 0, none⟩ = false := by go_simp
end Go.Proofs.Ytaobhbfhbmenfaa
