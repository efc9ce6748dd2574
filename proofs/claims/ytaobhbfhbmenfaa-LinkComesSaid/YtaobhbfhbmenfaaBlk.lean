/- What is known of a block of cells: each cell, that it may be written, what it is behind a store. -/
import Derived.Test.YtaobhbfhbmenfaaKeeps
namespace Go.Proofs.Ytaobhbfhbmenfaa
open Go.RowKit
variable {w : World} {b k : Nat} {vs : Array Value} {t : TypeId} {v : Value}
theorem blk_cell (h : w.heap[b]? = some (.cells vs t (0, 0))) (hv : vs[k]? = some v) : w.cell? ⟨b, k, none⟩ = some v := by
  unfold World.cell?
  rw [h]
  exact hv
theorem blk_free (h : w.heap[b]? = some (.cells vs t (0, 0))) (k : Nat) : w.frozen? ⟨b, k, none⟩ = false := by
  unfold World.frozen?
  rw [h]
  simp
theorem blk_lt {o : Obj} (h : w.heap[b]? = some o) : b < w.heap.size := (Array.getElem?_eq_some_iff.1 h).1
theorem blk_set (h : w.heap[b]? = some (.cells vs t (0, 0))) (k : Nat) (u : Value) : (w.setCell ⟨b, k, none⟩ u).heap[b]? = some (.cells (vs.setIfInBounds k u) t (0, 0)) := by
  have hlt := blk_lt h
  have h' : w.heap[b] = .cells vs t (0, 0) := by simpa [Array.getElem?_eq_getElem hlt] using h
  show (w.heap.modify b _)[b]? = _
  rw [Array.getElem?_eq_getElem (by simpa using hlt), Array.getElem_modify_self, h']
  rfl
theorem blk_other {o : Obj} {p : Addr} (h : w.heap[b]? = some o) (hne : b ≠ p.block) (u : Value) : (w.setCell p u).heap[b]? = some o := (Below.heap_setCell _ _ _ _ hne).trans h
theorem blk_alloc {o : Obj} (h : w.heap[b]? = some o) (x : Obj) : (w.alloc x).heap[b]? = some o := (Below.heap_alloc _ _ _ (blk_lt h)).trans h
theorem blk_new (w : World) (o : Obj) : (w.alloc o).heap[w.heap.size]? = some o := World.alloc_heap_new w o
theorem drewN_heap (w : World) (n : Nat) : (w.drewN n).heap = w.heap := rfl
theorem keeps_any {S : Nat → Prop} {w w' : World} (h : Keeps (fun _ => False) w w') : Keeps S w w' := h.mono fun _ _ x => x.elim
theorem keeps_drew {S : Nat → Prop} {w w' : World} (h : Keeps S w w') : Keeps S w.drew w' := ⟨h.os, h.tape, h.output, h.size, h.block⟩
end Go.Proofs.Ytaobhbfhbmenfaa
