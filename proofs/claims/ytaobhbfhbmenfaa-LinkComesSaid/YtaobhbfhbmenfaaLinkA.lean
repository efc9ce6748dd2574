/- AggS · AggIn · MRing · MRing2 · MRing3 · RingIs · RingNil · Ser · IterF · Link1 · Link2 · Link3, in one text. -/
import Derived.Test.YtaobhbfhbmenfaaRows
import Derived.Test.YtaobhbfhbmenfaaAgg
import Derived.Test.YtaobhbfhbmenfaaBlk
import Derived.OwnWalkIn
import Derived.Test.YtaobhbfhbmenfaaRing
import Derived.Test.YtaobhbfhbmenfaaMsgM
import Derived.Test.YtaobhbfhbmenfaaRing2
import Derived.Test.YtaobhbfhbmenfaaBase
import Derived.Test.YtaobhbfhbmenfaaKeeps
import Derived.RangeFuncCalls
import Derived.RangeFuncBound
import Derived.Deep.LoopGhost
import Derived.Test.YtaobhbfhbmenfaaVals
import Derived.Test.YtaobhbfhbmenfaaTree
import Derived.Test.YtaobhbfhbmenfaaRuns
/- Whole structs behind one name: stores, loads, allocs (generic parts of the freeze texts). -/
namespace Go.Proofs.Ytaobhbfhbmenfaa
open Go.RowKit
theorem box_load (w : World) (b : Nat) (c : Array Value) (t : TypeId) (hB : w.heap[b]? = some (.cells c t (0, 0))) (k : Nat) (hk : c.size = k) : (loadCellsFrom ⟨b, 0, none⟩ 0 k #[]).run Try.prog w = .ok c w := by
  have h := run_loadCells_list (P := Try.prog) w ⟨b, 0, none⟩ c.toList (fun j v hj => by
    rw [addr_add, Nat.zero_add]
    exact blk_cell hB (by simpa using hj))
  simp only [Array.length_toList, Array.toArray_toList, hk, loadCells] at h
  exact h
theorem splice_all (cur c : Array Value) (h : c.size = cur.size) : spliceA cur 0 c = c := by
  apply Array.ext_getElem?
  intro k
  rw [splice_get _ _ _ (by omega)]
  split
  · simp
  · rename_i hh
    rw [Array.getElem?_eq_none (by omega), Array.getElem?_eq_none (by omega)]
theorem setRow_at (w : World) (b : Nat) (cs c : Array Value) (t : TypeId) (hB : w.heap[b]? = some (.cells cs t (0, 0))) : (w.setRow b c).heap[b]? = some (.cells c t (0, 0)) := by
  have hlt := blk_lt hB
  have h' : w.heap[b] = .cells cs t (0, 0) := by simpa [Array.getElem?_eq_getElem hlt] using hB
  show (w.heap.modify b _)[b]? = _
  rw [Array.getElem?_eq_getElem (by simpa using hlt), Array.getElem_modify_self, h']
theorem store_all (w : World) (T : TypeId) (k b : Nat) (c cur : Array Value) (hz : ∀ w, (Go.sizeOf T).run Try.prog w = .ok k w) (hc : c.size = k) (hcur : cur.size = k)
    (hB : w.heap[b]? = some (.cells cur T (0, 0))) (h1 : c.toList.all (fun v => v.oneCell') = true) :
    (Instr.storeAt T (.pointer (some ⟨b, 0, none⟩)) (.agg c)).run Try.prog w = .ok () (w.setRow b c) ∧ (loadCellsFrom ⟨b, 0, none⟩ 0 k #[]).run Try.prog (w.setRow b c) = .ok c (w.setRow b c) ∧ Keeps (fun x => x = b) w (w.setRow b c) := by
  have h := run_store_agg (P := Try.prog) T k b 0 c cur T hz hc hB (by omega) (List.all_eq_true.1 h1)
  rw [splice_all cur c (by omega)] at h
  exact ⟨h, box_load _ _ _ _ (setRow_at w b cur c T hB) k hc, keeps_setRow w b c⟩
theorem keeps_past {S T : Nat → Prop} {a b d : World} (h : Keeps S a b) (h2 : Keeps T b d) (hs : ∀ k, k < a.heap.size → T k → S k) : Keeps S a d :=
  ⟨h2.os.trans h.os, h2.tape.trans h.tape, h2.output.trans h.output, Nat.le_trans h.size h2.size, fun i hi hn => (h2.block i (Nat.lt_of_lt_of_le hi h.size) (fun t => hn (hs i hi t))).trans (h.block i hi hn)⟩
section
variable {P : Program} {o : Oper} {a : Act} {K : Act → World → Prop} {Q : Exit → Act → World → Prop} {ops : Array Oper} {rest : List Oper} {w w' : World} {v p : Value}
theorem wpList_run_alloc {T : TypeId} (hrun : (Instr.alloc T true (.tuple #[])).run P w = .ok v w') (hgd : o.guard = none) (ho : o.op = .alloc T) (h : wpList P ops Q rest (a.put o.dst v) w') : wpList P ops Q (o :: rest) a w :=
  wpList_plain hgd fun _ hK => by
    unfold Oper.wp execOp
    simp only [ho, Sem.run_bind, hrun, Result.andThen_ok, Sem.run_pure]
    exact hK _ _ h
end
section
variable {P : Program} {o : Oper} {a : Act} {C : World → Prop} {K : Act → Prop}
theorem quiet_run_load {T : TypeId} {x : Operand} {p v : Value} (hrun : ∀ w, C w → (Instr.loadAt T p).run P w = .ok v w) (ho : o.op = .load T x) (hx : a.eval x = p) (hk : K (a.put o.dst v)) : o.quiet P a C K :=
  ⟨v, fun w hw => by
    unfold Oper.quietAt execOp
    simp only [ho, hx, Sem.run_bind, hrun w hw, Result.andThen_ok, Sem.run_pure]
    exact ⟨rfl, rfl⟩, hk⟩
theorem wpQuiet_run_load {ops : Array Oper} {Q : Act → Prop} {rest : List Oper} {T : TypeId} {x : Operand} {p v : Value} (hrun : ∀ w, C w → (Instr.loadAt T p).run P w = .ok v w) (hg : o.guard = none) (ho : o.op = .load T x) (hx : a.eval x = p) (hk : wpQuiet P ops C Q rest (a.put o.dst v)) : wpQuiet P ops C Q (o :: rest) a := by
  unfold wpQuiet
  rw [if_pos (by unfold Region.wanted; rw [hg])]
  exact quiet_run_load hrun ho hx hk
end
end Go.Proofs.Ytaobhbfhbmenfaa
/- Whole structs behind one name, inside a fence: loads, stores, allocs. -/
namespace Go.Proofs.Ytaobhbfhbmenfaa
open Go.RowKit
section
variable {F : Fence} {n : Nat} {P : Program} {w w' : World} {ops : Array Oper} {rest : List Oper} {o : Oper} {a : Act} {Q : Exit → Act → World → Prop} {v p : Value}
theorem wpListIn_run_load {T : TypeId} {x : Operand} (hrun : (Instr.loadAt T p).run P w = .ok v w') (hg : o.guard = none) (ho : o.op = .load T x) (hx : a.eval x = p) (h : wpListIn F n P ops Q rest (a.put o.dst v) w') : wpListIn F n P ops Q (o :: rest) a w := by
  refine wpListIn_plain hg fun K hK' => ?_
  unfold Oper.wpIn
  refine ⟨?_, ?_⟩
  · simp [Oper.about, ho]
  · rw [Oper.semAt_plain F _ _ (by rw [ho]; intro c hc'; cases hc')]
    simp only [execOp, ho, hx, Sem.run_bind, hrun, Result.andThen_ok, Sem.run_pure]
    exact hK' _ _ h
theorem wpListIn_run_store {T : TypeId} {x y : Operand} {u : Value} (hrun : (Instr.storeAt T p u).run P w = .ok () w') (hg : o.guard = none) (ho : o.op = .store T x y) (hx : a.eval x = p) (hy : a.eval y = u) (h : wpListIn F n P ops Q rest (a.put o.dst undef) w') : wpListIn F n P ops Q (o :: rest) a w := by
  refine wpListIn_plain hg fun K hK' => ?_
  unfold Oper.wpIn
  refine ⟨?_, ?_⟩
  · simp [Oper.about, ho]
  · rw [Oper.semAt_plain F _ _ (by rw [ho]; intro c hc'; cases hc')]
    simp only [execOp, ho, hx, hy, Sem.run_bind, hrun, Result.andThen_ok, Sem.run_pure]
    exact hK' _ _ h
theorem wpListIn_run_alloc {T : TypeId} (hrun : (Instr.alloc T true (.tuple #[])).run P w = .ok v w') (hg : o.guard = none) (ho : o.op = .alloc T) (h : wpListIn F n P ops Q rest (a.put o.dst v) w') : wpListIn F n P ops Q (o :: rest) a w := by
  refine wpListIn_plain hg fun K hK' => ?_
  unfold Oper.wpIn
  refine ⟨?_, ?_⟩
  · simp [Oper.about, ho]
  · rw [Oper.semAt_plain F _ _ (by rw [ho]; intro c hc'; cases hc')]
    simp only [execOp, ho, Sem.run_bind, hrun, Result.andThen_ok, Sem.run_pure]
    exact hK' _ _ h
end
end Go.Proofs.Ytaobhbfhbmenfaa
/- A ring of datagrams without inputs (seven cells a thing): what its methods return, and what they leave in memory. -/
namespace Go.Proofs.Ytaobhbfhbmenfaa
open Go.RowKit
set_option maxRecDepth 10000
/-- the cells of a datagram without inputs -/
def mC (m : Msg) : Array Value := #[.int .i64 m.kind, .int .u32 m.nonce, .int .u16 m.serial, .int .u16 m.ack, .slice none 0 0, .int .u32 m.sum, .int .i64 m.lead]
def mB (A : List Msg) : Array Value := (A.flatMap fun m => (mC m).toList).toArray
theorem mC_size (m : Msg) : (mC m).size = 7 := rfl
theorem mB_size (A : List Msg) : (mB A).size = 7 * A.length := by
  show ((A.flatMap fun m => (mC m).toList)).length = _
  induction A with
  | nil => rfl
  | cons a A ih => rw [List.flatMap_cons, List.length_append, ih, List.length_cons, show (mC a).toList.length = 7 from rfl]; omega
theorem mB_get : ∀ (A : List Msg) (k : Nat) (m : Msg), A[k]? = some m → ∀ j, j < 7 → (mB A)[7 * k + j]? = (mC m)[j]?
  | [], k, m, h, _, _ => by simp at h
  | a :: A, 0, m, h, j, hj => by
    simp only [List.getElem?_cons_zero, Option.some.injEq] at h
    subst h
    unfold mB
    rw [List.getElem?_toArray, List.flatMap_cons, List.getElem?_append_left (by show _ < 7; omega)]
    simp
  | a :: A, k + 1, m, h, j, hj => by
    rw [List.getElem?_cons_succ] at h
    have ih := mB_get A k m h j hj
    unfold mB at ih ⊢
    rw [List.getElem?_toArray] at ih ⊢
    have hl : (mC a).toList.length = 7 := rfl
    rw [List.flatMap_cons, List.getElem?_append_right (by omega), hl, ← ih]
    congr 1
    omega
theorem mB_set (A : List Msg) (k : Nat) (hk : k < A.length) (m : Msg) : spliceA (mB A) (7 * k) (mC m) = mB (A.set k m) := by
  apply Array.ext_getElem?
  intro i
  rw [splice_get _ _ _ (by rw [mB_size, mC_size]; omega), mC_size]
  by_cases hi : i < 7 * A.length
  · obtain ⟨q, j, hj, rfl⟩ : ∃ q j, j < 7 ∧ i = 7 * q + j := ⟨i / 7, i % 7, Nat.mod_lt _ (by omega), (Nat.div_add_mod i 7).symm⟩
    have hq : q < A.length := by omega
    by_cases e : q = k
    · subst e
      rw [if_pos (by omega), mB_get (A.set q m) q m (by rw [List.getElem?_set_self hq]) j hj, show 7 * q + j - 7 * q = j by omega]
    · rw [if_neg (by omega), mB_get A q A[q] (List.getElem?_eq_getElem hq) j hj, mB_get (A.set k m) q A[q] (by rw [List.getElem?_set_ne (fun h => e h.symm), List.getElem?_eq_getElem hq]) j hj]
  · rw [if_neg (by omega), Array.getElem?_eq_none (by rw [mB_size]; omega), Array.getElem?_eq_none (by rw [mB_size, List.length_set]; omega)]
theorem mC_one (m : Msg) : (mC m).toList.all (fun v => v.oneCell') = true := by kernel_rfl
structure MRingAt (w : World) (r B size : Nat) (A : List Msg) (first n : Nat) : Prop where
  head : w.heap[r]? = some (.cells #[.slice (some ⟨B, 0, none⟩) size size, .int .i64 first, .int .i64 n] 107 (0, 0))
  body : w.heap[B]? = some (.cells (mB A) 49 (0, 0))
  alen : A.length = size
  pos : 1 ≤ size
  most : size ≤ 4096
  fst : first < size
  cnt : n ≤ size
  ne : r ≠ B
namespace MRingAt
variable {w w' : World} {r B size first n : Nat} {A : List Msg}
theorem drew (h : MRingAt w r B size A first n) (m : Nat) : MRingAt (w.drewN m) r B size A first n := ⟨h.head, h.body, h.alen, h.pos, h.most, h.fst, h.cnt, h.ne⟩
theorem keeps {S : Nat → Prop} (h : MRingAt w r B size A first n) (hk : Keeps S w w') (hr : ¬ S r) (hB : ¬ S B) : MRingAt w' r B size A first n :=
  ⟨hk.heap h.head hr, hk.heap h.body hB, h.alen, h.pos, h.most, h.fst, h.cnt, h.ne⟩
theorem c0 (h : MRingAt w r B size A first n) : w.cell? ⟨r, 0, none⟩ = some (.slice (some ⟨B, 0, none⟩) size size) := blk_cell h.head rfl
theorem c1 (h : MRingAt w r B size A first n) : w.cell? ⟨r, 1, none⟩ = some (.int .i64 first) := blk_cell h.head rfl
theorem c2 (h : MRingAt w r B size A first n) : w.cell? ⟨r, 2, none⟩ = some (.int .i64 n) := blk_cell h.head rfl
theorem f1 (h : MRingAt w r B size A first n) : w.frozen? ⟨r, 1, none⟩ = false := blk_free h.head 1
theorem f2 (h : MRingAt w r B size A first n) : w.frozen? ⟨r, 2, none⟩ = false := blk_free h.head 2
theorem load (h : MRingAt w r B size A first n) {k : Nat} {x : Msg} (hx : A[k]? = some x) : (Instr.loadAt 49 (.pointer (some ⟨B, k * 7, none⟩))).run Try.prog w = .ok (.agg (mC x)) w :=
  run_load_agg 49 7 B (k * 7) (mC x) (mB A) 49 Try.isAgg49 Try.sizeOf49 rfl h.body (fun j v hj => by
    have : j < 7 := (Array.getElem?_eq_some_iff.1 hj).1
    rw [Nat.mul_comm, mB_get A k x hx j this]
    exact hj)
theorem store (h : MRingAt w r B size A first n) {k : Nat} (hk : k < size) (x : Msg) : (Instr.storeAt 49 (.pointer (some ⟨B, k * 7, none⟩)) (.agg (mC x))).run Try.prog w = .ok () (w.setRow B (mB (A.set k x))) := by
  have := run_store_agg (P := Try.prog) (w := w) 49 7 B (k * 7) (mC x) (mB A) 49 Try.sizeOf49 rfl h.body (by rw [mB_size, h.alen]; omega) (List.all_eq_true.1 (mC_one x))
  rwa [Nat.mul_comm k 7, mB_set A k (by rw [h.alen]; exact hk), Nat.mul_comm 7 k] at this
/-- a store into the array -/
theorem setBody (h : MRingAt w r B size A first n) (k : Nat) (x : Msg) : MRingAt (w.setRow B (mB (A.set k x))) r B size (A.set k x) first n :=
  ⟨(keeps_setRow w B _).heap h.head h.ne, setRow_at w B _ _ _ h.body, by simpa using h.alen, h.pos, h.most, h.fst, h.cnt, h.ne⟩
theorem setFirst (h : MRingAt w r B size A first n) (f : Nat) (hf : f < size) : MRingAt (w.setCell ⟨r, 1, none⟩ (.int .i64 f)) r B size A f n :=
  ⟨by have := blk_set h.head 1 (.int .i64 f); simpa using this, blk_other h.body (Ne.symm h.ne) _, h.alen, h.pos, h.most, hf, h.cnt, h.ne⟩
theorem setCount (h : MRingAt w r B size A first n) (m : Nat) (hm : m ≤ size) : MRingAt (w.setCell ⟨r, 2, none⟩ (.int .i64 m)) r B size A first m :=
  ⟨by have := blk_set h.head 2 (.int .i64 m); simpa using this, blk_other h.body (Ne.symm h.ne) _, h.alen, h.pos, h.most, h.fst, hm, h.ne⟩
end MRingAt
variable {w : World} {r B size first n : Nat} {A : List Msg}
theorem mr_place (h : MRingAt w r B size A first n) (i k : Nat) (x : Int) (hx : x = i) (hi : i ≤ 100000) (hk : (first + i) % size = k) :
    Calls Try.prog 63 #[.pointer (some ⟨r, 0, none⟩), .int .i64 x] w fun e w' => e = .returned (.int .i64 k) ∧ ∃ m, w' = w.drewN m := by
  subst hx
  have c0 := h.c0
  have c1 := h.c1
  have hz : ((size : Int) == 0) = false := by have := h.pos; rw [beq_eq_false_iff_ne]; omega
  have b1 := h.fst
  have b2 := h.most
  have Hk := hid hk
  clear hk
  go_enter Try.func63, Try.ntmps63
  go_wp2
  go_quiet (fail)
  go_wp2
  go_ret
  exact ⟨ret_int (by rw [← Hk.out]; simp), _, rfl⟩
theorem alloc_msg (w : World) : (Instr.alloc 49 true (.tuple #[])).run Try.prog w = .ok (.pointer (some ⟨w.heap.size, 0, none⟩)) (w.alloc (.cells (mC Msg.zero) 49)) := by kernel_rfl
theorem load_msg {w : World} {b : Nat} {x : Msg} (h : w.heap[b]? = some (.cells (mC x) 49 (0, 0))) : (Instr.loadAt 49 (.pointer (some ⟨b, 0, none⟩))).run Try.prog w = .ok (.agg (mC x)) w :=
  run_load_agg 49 7 b 0 (mC x) (mC x) 49 Try.isAgg49 Try.sizeOf49 rfl h (fun j v hj => by rw [Nat.zero_add]; exact hj)
theorem mr_At_no (h : MRingAt w r B size A first n) (x : Int) (hx : x < 0 ∨ (n : Int) ≤ x) :
    Calls Try.prog 83 #[.pointer (some ⟨r, 0, none⟩), .int .i64 x] w fun e w' => e = .returned (.tuple #[.agg (mC Msg.zero), .bool false]) ∧ Below w.heap.size w w' := by
  have hk0 := ((Keeps.refl (fun _ => False) w).alloc (.cells (mC Msg.zero) 49)).alloc (.cells (mC Msg.zero) 49)
  have h0 := h.keeps hk0 id id
  have hB0 := blk_alloc (blk_new w (.cells (mC Msg.zero) 49)) (.cells (mC Msg.zero) 49)
  have hB1 := blk_new (w.alloc (.cells (mC Msg.zero) 49)) (.cells (mC Msg.zero) 49)
  have hsz : (w.alloc (.cells (mC Msg.zero) 49)).heap.size = w.heap.size + 1 := by simp
  rw [hsz] at hB1
  have hl1 := load_msg hB1
  obtain ⟨hst, hload, hk2⟩ := store_all ((w.alloc (.cells (mC Msg.zero) 49)).alloc (.cells (mC Msg.zero) 49)) 49 7 w.heap.size (mC Msg.zero) _ Try.sizeOf49 rfl rfl hB0 (mC_one _)
  have hbf : Below w.heap.size w (((w.alloc (.cells (mC Msg.zero) 49)).alloc (.cells (mC Msg.zero) 49)).setRow w.heap.size (mC Msg.zero)) := ((hk0.mono fun _ _ x => x.elim).trans hk2).below (Nat.le_refl _) (fun k h1 h2 => by omega)
  have c0 := h0.c0
  have c2 := h0.c2
  have al0 := alloc_msg w
  have al1 := alloc_msg (w.alloc (.cells (mC Msg.zero) 49))
  rw [hsz] at al1
  clear hk0 hk2 hB0 hB1 hsz h0
  generalize (w.alloc (.cells (mC Msg.zero) 49)).alloc (.cells (mC Msg.zero) 49) = w0 at *
  generalize w0.setRow w.heap.size (mC Msg.zero) = w1 at *
  generalize w.alloc (.cells (mC Msg.zero) 49) = wa at *
  by_cases h0 : x < 0
  · clear hx
    go_enter Try.func83, Try.ntmps83
    go_wp2_with (first | (refine wpList_run_alloc al0 rfl rfl ?_) | (refine wpList_run_alloc al1 rfl rfl ?_) | (refine wpList_run_load hl1 rfl rfl rfl ?_) | (refine wpList_run_store hst rfl rfl rfl rfl ?_))
    refine bodyPost_ret (v := .tuple #[.agg (mC Msg.zero), .bool false]) (by simp [results, Try.results83, asAddr, loadVar, loadCells, Try.isAgg49, Try.sizeOf49, hload]) rfl ?_
    exact ⟨rfl, hbf⟩
  · have h1 : (n : Int) ≤ x := by omega
    clear hx
    go_enter Try.func83, Try.ntmps83
    go_wp2_with (first | (refine wpList_run_alloc al0 rfl rfl ?_) | (refine wpList_run_alloc al1 rfl rfl ?_) | (refine wpList_run_load hl1 rfl rfl rfl ?_) | (refine wpList_run_store hst rfl rfl rfl rfl ?_))
    refine bodyPost_ret (v := .tuple #[.agg (mC Msg.zero), .bool false]) (by simp [results, Try.results83, asAddr, loadVar, loadCells, Try.isAgg49, Try.sizeOf49, hload]) rfl ?_
    exact ⟨rfl, hbf⟩
end Go.Proofs.Ytaobhbfhbmenfaa
/- A ring of datagrams without inputs: At, Push, Pop, New. -/
namespace Go.Proofs.Ytaobhbfhbmenfaa
open Go.RowKit
set_option maxRecDepth 10000
variable {w : World} {r B size first n : Nat} {A : List Msg}
set_option maxHeartbeats 1000000 in
theorem mr_At (h : MRingAt w r B size A first n) (i k : Nat) (x : Int) (hx : x = i) (hi : i < n) (hk : (first + i) % size = k) (v : Msg) (hv : A[k]? = some v) :
    Calls Try.prog 83 #[.pointer (some ⟨r, 0, none⟩), .int .i64 x] w fun e w' => e = .returned (.tuple #[.agg (mC v), .bool true]) ∧ Below w.heap.size w w' := by
  subst hx
  have hk0 := ((Keeps.refl (fun _ => False) w).alloc (.cells (mC Msg.zero) 49)).alloc (.cells (mC Msg.zero) 49)
  have h0 := h.keeps hk0 id id
  have hB0 := blk_alloc (blk_new w (.cells (mC Msg.zero) 49)) (.cells (mC Msg.zero) 49)
  have hsz : (w.alloc (.cells (mC Msg.zero) 49)).heap.size = w.heap.size + 1 := by simp
  have c0 := h0.c0
  have c2 := h0.c2
  have al0 := alloc_msg w
  have al1 := alloc_msg (w.alloc (.cells (mC Msg.zero) 49))
  rw [hsz] at al1
  have b1 := h.cnt
  have b2 := h.most
  have hkl : k < size := hk ▸ Nat.mod_lt _ h.pos
  clear hsz h
  generalize (w.alloc (.cells (mC Msg.zero) 49)).alloc (.cells (mC Msg.zero) 49) = w0 at *
  generalize w.alloc (.cells (mC Msg.zero) 49) = wa at *
  have hp := fun a => mr_place (h0.drew a) i k i rfl (by omega) hk
  have Hp := hid hp
  have hl : ∀ w', (∃ n, w' = w0.drewN n) → (Instr.loadAt 49 (.pointer (some ⟨B, k * 7, none⟩))).run Try.prog w' = .ok (.agg (mC v)) w' := by
    rintro w' ⟨m, rfl⟩
    exact (h0.drew m).load hv
  have H0 := hid h0
  clear hp hk hv h0
  go_enter Try.func83, Try.ntmps83
  go_wp2_with (first | (refine wpList_run_alloc al0 rfl rfl ?_) | (refine wpList_run_alloc al1 rfl rfl ?_))
  refine wp_region_taild 9 (by kernel_rfl) (by kernel_rfl) ?_
  simp only [List.take_succ_cons, List.take_zero, List.drop_succ_cons, List.drop_zero]
  repeat (first | (refine wpQuiet_run_load hl rfl rfl rfl ?_; simp only [Act.put, List.setIfInBounds_toArray, List.set_cons_succ, List.set_cons_zero]) | go_big_quiet_step ((go_at_call 63; exact Calls.quiet_of (Hp.out _))))
  refine wpQuiet_nil ?_
  intro _ hw'
  obtain ⟨nq, hw''⟩ := hw'
  subst hw''
  have hB1 : (w0.drewN nq).heap[w.heap.size]? = some (.cells (mC Msg.zero) 49 (0, 0)) := hB0
  obtain ⟨hst, hload, hk2⟩ := store_all (w0.drewN nq) 49 7 w.heap.size (mC v) _ Try.sizeOf49 rfl rfl hB1 (mC_one _)
  have hbf : Below w.heap.size w ((w0.drewN nq).setRow w.heap.size (mC v)) := (((hk0.drewN nq).mono fun _ _ x => x.elim).trans hk2).below (Nat.le_refl _) (fun k h1 h2 => by omega)
  clear hk0 hk2 hB0 hB1
  generalize (w0.drewN nq).setRow w.heap.size (mC v) = w1 at *
  go_wp2_with (refine wpList_run_store hst rfl rfl rfl rfl ?_)
  refine bodyPost_ret (v := .tuple #[.agg (mC v), .bool true]) (by simp [results, Try.results83, asAddr, loadVar, loadCells, Try.isAgg49, Try.sizeOf49, hload]) rfl ?_
  exact ⟨rfl, hbf⟩
theorem mr_Push_full (h : MRingAt w r B size A first n) (hn : n = size) (v : Msg) :
    Calls Try.prog 40 #[.pointer (some ⟨r, 0, none⟩), .agg (mC v)] w fun e w' => e = .returned (.int .i64 8) ∧ Below w.heap.size w w' := by
  subst hn
  have hk0 := (Keeps.refl (fun _ => False) w).alloc (.cells (mC v) 49)
  have h0 := h.keeps hk0 id id
  have hbe := (Below.refl w.heap.size w).alloc (Nat.le_refl _) (.cells (mC v) 49)
  have c0 := h0.c0
  have c2 := h0.c2
  clear hk0 h0 h
  unfold mC at *
  go_enter Try.func40, Try.ntmps40
  go_wp2
  go_quiet (fail)
  go_wp2
  go_ret
  exact ⟨rfl, hbe.trans ((Keeps.drewN (Keeps.refl (fun _ => False) _) _).below hbe.size (fun _ _ x => x))⟩
set_option maxHeartbeats 1000000 in
theorem mr_Push (h : MRingAt w r B size A first n) (hn : n < size) (k : Nat) (hk : (first + n) % size = k) (v : Msg) :
    Calls Try.prog 40 #[.pointer (some ⟨r, 0, none⟩), .agg (mC v)] w fun e w' => e = .returned (.int .i64 0) ∧ MRingAt w' r B size (A.set k v) first (n + 1) ∧ Keeps (fun b => b = r ∨ b = B) w w' := by
  have hk0 := (Keeps.refl (fun _ => False) w).alloc (.cells (mC v) 49)
  have h0 := h.keeps hk0 id id
  have hX := blk_new w (.cells (mC v) 49)
  have c0 := h0.c0
  have c2 := h0.c2
  have b1 := h.cnt
  have b2 := h.most
  have ne := h.ne
  have hkl : k < size := hk ▸ Nat.mod_lt _ h.pos
  have hq : ((n : Int) == (size : Int)) = false := by rw [beq_eq_false_iff_ne]; omega
  have HX := hid hX
  have H0 := hid h0
  have Hk := hid hk
  have HK0 := hid hk0
  clear hk h hX h0 hk0
  go_enter Try.func40, Try.ntmps40
  go_wp2
  generalize hw0 : w.alloc (.cells (mC v) 49) = w0 at *
  go_quiet (fail)
  go_wp2
  have H1 := hid (H0.out.drew nq)
  have X1 : (w0.drewN nq).heap[w.heap.size]? = some (.cells (mC v) 49 (0, 0)) := HX.out
  have HK1 := hid (HK0.out.drewN nq)
  clear c0 c2 HX H0 HK0
  generalize w0.drewN nq = w1 at *
  have c0 := H1.out.c0
  have c2 := H1.out.c2
  have hl : ∀ w', (∃ n, w' = w1.drewN n) → (Instr.loadAt 49 (.pointer (some ⟨w.heap.size, 0, none⟩))).run Try.prog w' = .ok (.agg (mC v)) w' := by
    rintro w' ⟨m, rfl⟩
    exact load_msg X1
  have hp := fun a => mr_place (H1.out.drew a) n k n rfl (by omega) Hk.out
  have Hp := hid hp
  clear hp X1
  refine wp_region_taild 12 (by kernel_rfl) (by kernel_rfl) ?_
  simp only [List.take_succ_cons, List.take_zero, List.drop_succ_cons, List.drop_zero]
  repeat (first | (refine wpQuiet_run_load hl rfl rfl rfl ?_; simp only [Act.put, List.setIfInBounds_toArray, List.set_cons_succ, List.set_cons_zero]) | go_big_quiet_step ((go_at_call 63; exact Calls.quiet_of (Hp.out _))))
  refine wpQuiet_nil ?_
  intro _ hw'
  obtain ⟨nq, hw''⟩ := hw'
  subst hw''
  have hst := (H1.out.drew nq).store hkl v
  have H2 := hid ((H1.out.drew nq).setBody k v)
  have HK2 := hid (((HK1.out.drewN nq).mono (T := fun b => b = r ∨ b = B) fun _ _ x => x.elim).trans ((keeps_setRow (w1.drewN nq) B (mB (A.set k v))).mono fun _ _ => Or.inr))
  clear c0 c2 hl Hp
  generalize (w1.drewN nq).setRow B (mB (A.set k v)) = w2 at *
  have c2 := H2.out.c2
  have f2 := H2.out.f2
  go_wp2_with (refine wpList_run_store hst rfl rfl rfl rfl ?_)
  go_ret
  exact ⟨rfl, H2.out.setCount (n + 1) (by omega), HK2.out.setCell (p := ⟨r, 2, none⟩) (.inl rfl) _⟩
theorem mr_Pop_none (h : MRingAt w r B size A first 0) :
    Calls Try.prog 73 #[.pointer (some ⟨r, 0, none⟩)] w fun e w' => e = .returned (.tuple #[.agg (mC Msg.zero), .bool false]) ∧ Below w.heap.size w w' := by
  have al0 := alloc_msg w
  have hk0 := (Keeps.refl (fun _ => False) w).alloc (.cells (mC Msg.zero) 49)
  have h0 := h.keeps hk0 id id
  have hR := blk_new w (.cells (mC Msg.zero) 49)
  have hbe := (Below.refl w.heap.size w).alloc (Nat.le_refl _) (.cells (mC Msg.zero) 49)
  clear hk0
  generalize w.alloc (.cells (mC Msg.zero) 49) = w0 at *
  go_enter Try.func73, Try.ntmps73
  go_wp2_with (refine wpList_run_alloc al0 rfl rfl ?_)
  refine (mr_At_no h0 0 (by omega)).mono ?_
  rintro e w1 ⟨rfl, hb1⟩
  have hbe := hbe.trans (hb1.mono hbe.size)
  have hR := (Keeps.of_below (S := fun _ => False) hb1 (fun k h1 h2 => by omega)).heap hR id
  have hlt := blk_lt hR
  clear hb1 h0 al0 h
  have al1 := alloc_msg w1
  have hX := blk_new w1 (.cells (mC Msg.zero) 49)
  have hR := blk_alloc hR (.cells (mC Msg.zero) 49)
  have hbe := hbe.alloc hbe.size (.cells (mC Msg.zero) 49)
  obtain ⟨hst, _, hk2⟩ := store_all (w1.alloc (.cells (mC Msg.zero) 49)) 49 7 w1.heap.size (mC Msg.zero) _ Try.sizeOf49 rfl rfl hX (mC_one _)
  have hX2 := setRow_at (w1.alloc (.cells (mC Msg.zero) 49)) w1.heap.size _ (mC Msg.zero) 49 hX
  have hR3 := hk2.heap hR (by omega)
  clear hR
  have hbe3 := hbe.trans (hk2.below hbe.size (fun k h1 h2 => by omega))
  clear hk2 hbe hX
  generalize (w1.alloc (.cells (mC Msg.zero) 49)).setRow w1.heap.size (mC Msg.zero) = w2 at *
  generalize w1.alloc (.cells (mC Msg.zero) 49) = wa at *
  have hl := load_msg hX2
  obtain ⟨hst2, hload, hk3⟩ := store_all w2 49 7 w.heap.size (mC Msg.zero) _ Try.sizeOf49 rfl rfl hR3 (mC_one _)
  have hbf := hbe3.trans (hk3.below (B := w.heap.size) hbe3.size (fun k h1 h2 => by omega))
  clear hk3 hX2 hR3
  generalize w2.setRow w.heap.size (mC Msg.zero) = w3 at *
  go_wp2_with (first | (refine wpList_run_alloc al1 rfl rfl ?_; simp only [Act.put, List.setIfInBounds_toArray, List.set_cons_succ, List.set_cons_zero]) | (refine wpList_run_load hl rfl rfl rfl ?_; try simp only [Act.put, List.setIfInBounds_toArray, List.set_cons_succ, List.set_cons_zero]) | (refine wpList_run_store hst rfl rfl rfl rfl ?_; try simp only [Act.put]) | (refine wpList_run_store hst2 rfl rfl rfl rfl ?_; try simp only [Act.put]))
  refine bodyPost_ret (v := .tuple #[.agg (mC Msg.zero), .bool false]) (by simp [results, Try.results73, asAddr, loadVar, loadCells, Try.isAgg49, Try.sizeOf49, hload]) rfl ?_
  exact ⟨rfl, hbf⟩
set_option maxHeartbeats 2000000 in
theorem mr_Pop (h : MRingAt w r B size A first n) (hn : 0 < n) (f' : Nat) (hf : (first + 1) % size = f') (v : Msg) (hv : A[first]? = some v) :
    Calls Try.prog 73 #[.pointer (some ⟨r, 0, none⟩)] w fun e w' => e = .returned (.tuple #[.agg (mC v), .bool true]) ∧ MRingAt w' r B size (A.set first Msg.zero) f' (n - 1) ∧ Keeps (fun b => b = r ∨ b = B) w w' := by
  have al0 := alloc_msg w
  have hk0 := (Keeps.refl (fun _ => False) w).alloc (.cells (mC Msg.zero) 49)
  have h0 := h.keeps hk0 id id
  have hR := blk_new w (.cells (mC Msg.zero) 49)
  have b1 := h.cnt
  have b2 := h.most
  have b3 := h.fst
  have ne := h.ne
  have hlr := blk_lt h.head
  have hlB := blk_lt h.body
  have hfl : f' < size := hf ▸ Nat.mod_lt _ h.pos
  have H0 := hid (show (first + 0) % size = first from Nat.mod_eq_of_lt b3)
  have Hf := hid hf
  have Hv := hid hv
  clear hf hv h
  generalize w.alloc (.cells (mC Msg.zero) 49) = w0 at *
  go_enter Try.func73, Try.ntmps73
  go_wp2_with (refine wpList_run_alloc al0 rfl rfl ?_)
  refine (mr_At h0 0 first 0 rfl hn H0.out v Hv.out).mono ?_
  rintro e w1 ⟨rfl, hb1⟩
  have k1 := hk0.trans (Keeps.of_below (S := fun _ => False) hb1 (fun k h1 h2 => by omega))
  have hM1 := h0.keeps (Keeps.of_below (S := fun _ => False) hb1 (fun k h1 h2 => by omega)) id id
  have hR1 := (Keeps.of_below (S := fun _ => False) hb1 (fun k h1 h2 => by omega)).heap hR id
  have hlt := blk_lt hR1
  clear hb1 h0 al0 hk0 hR Hv H0
  have al1 := alloc_msg w1
  have hX := blk_new w1 (.cells (mC Msg.zero) 49)
  have hRa := blk_alloc hR1 (.cells (mC Msg.zero) 49)
  have kA := (Keeps.refl (fun _ => False) w1).alloc (.cells (mC Msg.zero) 49)
  obtain ⟨hst, _, hk2⟩ := store_all (w1.alloc (.cells (mC Msg.zero) 49)) 49 7 w1.heap.size (mC v) _ Try.sizeOf49 rfl rfl hX (mC_one _)
  have hX2 := setRow_at (w1.alloc (.cells (mC Msg.zero) 49)) w1.heap.size _ (mC v) 49 hX
  have hR2 := hk2.heap hRa (by omega)
  have k2 := k1.trans (keeps_past kA hk2 (fun k hk e => by omega))
  have hM2 := hM1.keeps (keeps_past kA hk2 (fun k hk e => by omega)) id id
  have hlt2 : w1.heap.size < ((w1.alloc (.cells (mC Msg.zero) 49)).setRow w1.heap.size (mC v)).heap.size := blk_lt hX2
  clear hX hRa kA hk2 hM1 hR1 k1
  generalize (w1.alloc (.cells (mC Msg.zero) 49)).setRow w1.heap.size (mC v) = w2 at *
  generalize w1.alloc (.cells (mC Msg.zero) 49) = wa at *
  have al2 := alloc_msg w2
  have hZ := blk_new w2 (.cells (mC Msg.zero) 49)
  have hX3 := blk_alloc hX2 (.cells (mC Msg.zero) 49)
  have hR3 := blk_alloc hR2 (.cells (mC Msg.zero) 49)
  have kC := (Keeps.refl (fun _ => False) w2).alloc (.cells (mC Msg.zero) 49)
  have k3 := k2.trans kC
  have hM3 := hM2.keeps kC id id
  clear hX2 hR2 kC k2 hM2
  generalize hX1e : w1.heap.size = X at *
  generalize hZe : w2.heap.size = Z at *
  generalize w2.alloc (.cells (mC Msg.zero) 49) = w3 at *
  have hl : ∀ w', (∃ n, w' = w3.drewN n) → (Instr.loadAt 49 (.pointer (some ⟨Z, 0, none⟩))).run Try.prog w' = .ok (.agg (mC Msg.zero)) w' := by
    rintro w' ⟨m, rfl⟩
    exact load_msg hZ
  have c0 := hM3.c0
  have c1 := hM3.c1
  have HM3 := hid hM3
  clear hM3 hX1e hZe
  go_wp2_with (first | (refine wpList_run_alloc al1 rfl rfl ?_) | (refine wpList_run_alloc al2 rfl rfl ?_) | (refine wpList_run_store hst rfl rfl rfl rfl ?_))
  simp only [Act.put, List.setIfInBounds_toArray, List.set_cons_succ, List.set_cons_zero]
  refine wp_region_taild 10 (by kernel_rfl) (by kernel_rfl) ?_
  simp only [List.take_succ_cons, List.take_zero, List.drop_succ_cons, List.drop_zero]
  repeat (first | (refine wpQuiet_run_load hl rfl rfl rfl ?_; simp only [Act.put, List.setIfInBounds_toArray, List.set_cons_succ, List.set_cons_zero]) | go_big_quiet_step (fail))
  refine wpQuiet_nil ?_
  intro _ hw'
  obtain ⟨nq, hw''⟩ := hw'
  subst hw''
  have hst2 := (HM3.out.drew nq).store b3 Msg.zero
  have hM4 := (HM3.out.drew nq).setBody first Msg.zero
  have k4 := ((k3.drewN nq).mono (T := fun b => b = r ∨ b = B) fun _ _ x => x.elim).trans ((keeps_setRow (w3.drewN nq) B (mB (A.set first Msg.zero))).mono fun _ _ => Or.inr)
  have hX4 : ((w3.drewN nq).setRow B (mB (A.set first Msg.zero))).heap[X]? = some (.cells (mC v) 49 (0, 0)) := (keeps_setRow (w3.drewN nq) B _).heap hX3 (by omega)
  have hR4 : ((w3.drewN nq).setRow B (mB (A.set first Msg.zero))).heap[w.heap.size]? = some (.cells (mC Msg.zero) 49 (0, 0)) := (keeps_setRow (w3.drewN nq) B _).heap hR3 (by omega)
  clear hl c0 c1 HM3 k3 hX3 hR3 hZ hst al1 al2
  generalize (w3.drewN nq).setRow B (mB (A.set first Msg.zero)) = w4 at *
  go_wp2_with (refine wpList_run_store hst2 rfl rfl rfl rfl ?_)
  refine (mr_place hM4 1 f' 1 rfl (by omega) Hf.out).mono ?_
  rintro e w5 ⟨rfl, m5, rfl⟩
  have hM5 := hM4.drew m5
  have hX5 : (w4.drewN m5).heap[X]? = some (.cells (mC v) 49 (0, 0)) := hX4
  have hR5 : (w4.drewN m5).heap[w.heap.size]? = some (.cells (mC Msg.zero) 49 (0, 0)) := hR4
  have k5 := k4.drewN m5
  clear hst2 hM4 hX4 hR4 k4
  generalize w4.drewN m5 = w5 at *
  have hM6 := hM5.setFirst f' hfl
  have hM7 := hM6.setCount (n - 1) (by omega)
  rw [show ((n - 1 : Nat) : Int) = (n : Int) - 1 by omega] at hM7
  have k7 := (k5.setCell (p := ⟨r, 1, none⟩) (.inl rfl) (.int .i64 f')).setCell (p := ⟨r, 2, none⟩) (.inl rfl) (.int .i64 ((n : Int) - 1))
  have hX7 := blk_other (p := ⟨r, 2, none⟩) (blk_other (p := ⟨r, 1, none⟩) hX5 (by show X ≠ r; omega) (.int .i64 f')) (by show X ≠ r; omega) (.int .i64 ((n : Int) - 1))
  have hR7 := blk_other (p := ⟨r, 2, none⟩) (blk_other (p := ⟨r, 1, none⟩) hR5 (by show w.heap.size ≠ r; omega) (.int .i64 f')) (by show w.heap.size ≠ r; omega) (.int .i64 ((n : Int) - 1))
  have f1 := hM5.f1
  have f2 := hM5.f2
  have c1 := hM5.c1
  have c2 := hM5.c2
  have hl7 := load_msg hX7
  obtain ⟨hst3, hload, hk8⟩ := store_all _ 49 7 w.heap.size (mC v) _ Try.sizeOf49 rfl rfl hR7 (mC_one _)
  have hM8 := hM7.keeps hk8 (by show r ≠ w.heap.size; omega) (by show B ≠ w.heap.size; omega)
  have k8 := keeps_past k7 hk8 (fun k hk e => by omega)
  clear hM5 hM6 hM7 k5 k7 hX5 hR5 hX7 hR7 hk8
  generalize ((w5.setCell ⟨r, 1, none⟩ (.int .i64 f')).setCell ⟨r, 2, none⟩ (.int .i64 ((n : Int) - 1))).setRow w.heap.size (mC v) = w8 at *
  go_wp2_with (first | (refine wpList_run_load hl7 rfl rfl rfl ?_) | (refine wpList_run_store hst3 rfl rfl rfl rfl ?_))
  refine bodyPost_ret (v := .tuple #[.agg (mC v), .bool true]) (by simp [results, Try.results73, asAddr, loadVar, loadCells, Try.isAgg49, Try.sizeOf49, hload]) rfl ?_
  exact ⟨rfl, hM8, k8⟩
def IsMR (w : World) (r B size : Nat) (L : List Msg) : Prop := ∃ A first, MRingAt w r B size A first L.length ∧ Holds A first size L
variable {L : List Msg}
theorem IsMR.keeps {w' : World} {S : Nat → Prop} (h : IsMR w r B size L) (hk : Keeps S w w') (hr : ¬ S r) (hB : ¬ S B) : IsMR w' r B size L := by
  obtain ⟨A, f, h1, h2⟩ := h
  exact ⟨A, f, h1.keeps hk hr hB, h2⟩
theorem IsMR.le (h : IsMR w r B size L) : L.length ≤ size ∧ 1 ≤ size ∧ size ≤ 4096 ∧ r < w.heap.size ∧ B < w.heap.size ∧ r ≠ B := by
  obtain ⟨A, f, h1, h2⟩ := h
  exact ⟨h1.cnt, h1.pos, h1.most, blk_lt h1.head, blk_lt h1.body, h1.ne⟩
theorem ms_Push (h : IsMR w r B size L) (hn : L.length < size) (v : Msg) :
    Calls Try.prog 40 #[.pointer (some ⟨r, 0, none⟩), .agg (mC v)] w fun e w' => e = .returned (.int .i64 0) ∧ IsMR w' r B size (L ++ [v]) ∧ Keeps (fun b => b = r ∨ b = B) w w' := by
  obtain ⟨A, f, h1, h2⟩ := h
  refine (mr_Push h1 hn _ rfl v).mono ?_
  rintro e w' ⟨rfl, h3, h4⟩
  exact ⟨rfl, ⟨_, f, by simpa using h3, h2.push h1.fst h1.alen hn v⟩, h4⟩
theorem ms_Push_full (h : IsMR w r B size L) (hn : L.length = size) (v : Msg) :
    Calls Try.prog 40 #[.pointer (some ⟨r, 0, none⟩), .agg (mC v)] w fun e w' => e = .returned (.int .i64 8) ∧ IsMR w' r B size L ∧ Keeps (fun b => b = r ∨ b = B) w w' := by
  have hle := h.le
  have h0 := h
  obtain ⟨A, f, h1, h2⟩ := h
  refine (mr_Push_full h1 hn v).mono ?_
  rintro e w' ⟨rfl, hb⟩
  exact ⟨rfl, h0.keeps (Keeps.of_below (S := fun _ => False) hb (fun k h1 h2 => by omega)) id id, Keeps.of_below hb (fun k h1 h2 => by omega)⟩
theorem ms_Pop {v : Msg} (h : IsMR w r B size (v :: L)) :
    Calls Try.prog 73 #[.pointer (some ⟨r, 0, none⟩)] w fun e w' => e = .returned (.tuple #[.agg (mC v), .bool true]) ∧ IsMR w' r B size L ∧ Keeps (fun b => b = r ∨ b = B) w w' := by
  obtain ⟨A, f, h1, h2⟩ := h
  have h0 := h2 0 (by simp)
  rw [Nat.add_zero, Nat.mod_eq_of_lt h1.fst] at h0
  refine (mr_Pop h1 (by simp) _ rfl v (by simpa using h0)).mono ?_
  rintro e w' ⟨rfl, h3, h4⟩
  exact ⟨rfl, ⟨_, _, by simpa using h3, h2.pop h1.fst h1.cnt (by simp) _⟩, h4⟩
theorem ms_Pop_none (h : IsMR w r B size []) :
    Calls Try.prog 73 #[.pointer (some ⟨r, 0, none⟩)] w fun e w' => e = .returned (.tuple #[.agg (mC Msg.zero), .bool false]) ∧ IsMR w' r B size [] ∧ Keeps (fun b => b = r ∨ b = B) w w' := by
  have hle := h.le
  have h0 := h
  obtain ⟨A, f, h1, h2⟩ := h
  refine (mr_Pop_none h1).mono ?_
  rintro e w' ⟨rfl, hb⟩
  exact ⟨rfl, h0.keeps (Keeps.of_below (S := fun _ => False) hb (fun k h1 h2 => by omega)) id id, Keeps.of_below hb (fun k h1 h2 => by omega)⟩
end Go.Proofs.Ytaobhbfhbmenfaa
/- A ring of datagrams without inputs: New. -/
namespace Go.Proofs.Ytaobhbfhbmenfaa
open Go.RowKit
set_option maxRecDepth 10000
theorem info_msg : (Try.prog.info? 49).map (fun i => (i.zero, i.size, i.bytes)) = some (some (.agg (mC Msg.zero)), 7, 56) := by kernel_rfl
theorem zeros_mB : madeCells (Value.agg (mC Msg.zero)).cells 56 = mB (List.replicate 8 Msg.zero) := by kernel_rfl
theorem ms_New8 (w : World) :
    Calls Try.prog 31 #[.int .i64 8] w fun e w' => e = .returned (.tuple #[.pointer (some ⟨w.heap.size + 1, 0, none⟩), .int .i64 0]) ∧ IsMR w' (w.heap.size + 1) w.heap.size 8 [] ∧ Below w.heap.size w w' ∧ w'.heap.size = w.heap.size + 2 := by
  obtain ⟨i0, hi, hz0, hz1, hz2⟩ : ∃ i, Try.prog.info? 49 = some i ∧ i.zero = some (.agg (mC Msg.zero)) ∧ i.size = 7 ∧ i.bytes = 56 := by
    have h := info_msg
    cases hh : Try.prog.info? 49 with
    | none => rw [hh] at h; cases h
    | some i => rw [hh] at h; simp only [Option.map_some, Option.some.injEq, Prod.mk.injEq] at h; exact ⟨i, rfl, h.1, h.2.1, h.2.2⟩
  have hmk := run_make (P := Try.prog) w 78 49 i0 (.agg (mC Msg.zero)) Try.underlying78 hi hz0 .i64 .i64 8 8 (by omega) (Int.le_refl _) (by rw [hz2]; omega) (by omega)
  rw [hz1, show (8 : Int).toNat * 7 = 56 from rfl, zeros_mB, show (8 : Int).toNat = 8 from rfl] at hmk
  have hb : Below w.heap.size w ((w.alloc (.cells (mB (List.replicate 8 Msg.zero)) 49)).alloc (.cells #[.slice (some ⟨w.heap.size, 0, none⟩) 8 8, .int .i64 0, .int .i64 0] 107)) := ((Below.refl _ w).alloc (Nat.le_refl _) _).alloc (by simp) _
  have hH := blk_new (w.alloc (.cells (mB (List.replicate 8 Msg.zero)) 49)) (.cells #[.slice (some ⟨w.heap.size, 0, none⟩) 8 8, .int .i64 0, .int .i64 0] 107)
  have hD := blk_alloc (blk_new w (.cells (mB (List.replicate 8 Msg.zero)) 49)) (.cells #[.slice (some ⟨w.heap.size, 0, none⟩) 8 8, .int .i64 0, .int .i64 0] 107)
  have hs : ((w.alloc (.cells (mB (List.replicate 8 Msg.zero)) 49)).alloc (.cells #[.slice (some ⟨w.heap.size, 0, none⟩) 8 8, .int .i64 0, .int .i64 0] 107)).heap.size = w.heap.size + 2 := by simp
  have hs1 : (w.alloc (.cells (mB (List.replicate 8 Msg.zero)) 49)).heap.size = w.heap.size + 1 := by simp
  rw [hs1] at hH
  have Hhi := hid hi
  clear hi hz0 hz1 hz2
  generalize hbd : mB (List.replicate 8 Msg.zero) = bd at *
  have Hbd := hid hbd
  clear hbd
  go_enter Try.func31, Try.ntmps31
  go_wp2_with fail
  refine (ring_may 8 w).mono ?_
  rintro e w' ⟨rfl, rfl⟩
  go_wp2
  go_ret2
  exact ⟨rfl, ⟨List.replicate 8 Msg.zero, 0, ⟨hH, by rw [Hbd.out]; exact hD, by simp, by omega, by omega, by omega, by simp, by omega⟩, fun t ht => absurd ht (Nat.not_lt_zero _)⟩, hb, hs⟩
end Go.Proofs.Ytaobhbfhbmenfaa
/- The methods of a ring that holds a list. -/
namespace Go.Proofs.Ytaobhbfhbmenfaa
open Go.RowKit
/-- the ring in block r, its array in block B, has room for so many, and holds L -/
def IsRing (w : World) (r B size : Nat) (L : List Int) : Prop := ∃ A first, RingAt w r B size A first L.length ∧ Holds A first size L
variable {w : World} {r B size : Nat} {L : List Int}
theorem IsRing.keeps {w' : World} {S : Nat → Prop} (h : IsRing w r B size L) (hk : Keeps S w w') (hr : ¬ S r) (hB : ¬ S B) : IsRing w' r B size L := by
  obtain ⟨A, f, h1, h2⟩ := h
  exact ⟨A, f, h1.keeps hk hr hB, h2⟩
theorem IsRing.le (h : IsRing w r B size L) : L.length ≤ size ∧ 1 ≤ size ∧ size ≤ 4096 ∧ r < w.heap.size ∧ B < w.heap.size ∧ r ≠ B := by
  obtain ⟨A, f, h1, h2⟩ := h
  exact ⟨h1.cnt, h1.pos, h1.most, blk_lt h1.head, blk_lt h1.body, h1.ne⟩
theorem is_Len (h : IsRing w r B size L) : Calls Try.prog 28 #[.pointer (some ⟨r, 0, none⟩)] w fun e w' => e = .returned (.int .i64 L.length) ∧ w = w' := by
  obtain ⟨A, f, h1, h2⟩ := h
  exact ring_Len h1
theorem is_At (h : IsRing w r B size L) (i : Nat) (x : Int) (hx : x = i) (v : Int) (hv : L[i]? = some v) :
    Calls Try.prog 89 #[.pointer (some ⟨r, 0, none⟩), .int .i64 x] w fun e w' => e = .returned (.tuple #[(Value.int .u8 v), .bool true]) ∧ ∃ m, w' = w.drewN m := by
  obtain ⟨A, f, h1, h2⟩ := h
  have hi := (List.getElem?_eq_some_iff.1 hv).1
  exact ring_At h1 i _ x hx hi rfl v ((h2 i hi).trans hv)
theorem is_At_no (h : IsRing w r B size L) (x : Int) (hx : x < 0 ∨ (L.length : Int) ≤ x) :
    Calls Try.prog 89 #[.pointer (some ⟨r, 0, none⟩), .int .i64 x] w fun e w' => e = .returned (.tuple #[(Value.int .u8 0), .bool false]) ∧ w = w' := by
  obtain ⟨A, f, h1, h2⟩ := h
  exact ring_At_no h1 x hx
theorem is_Push (h : IsRing w r B size L) (hn : L.length < size) (v : Int) :
    Calls Try.prog 39 #[.pointer (some ⟨r, 0, none⟩), (Value.int .u8 v)] w fun e w' => e = .returned (.int .i64 0) ∧ IsRing w' r B size (L ++ [v]) ∧ Keeps (fun b => b = r ∨ b = B) w w' := by
  obtain ⟨A, f, h1, h2⟩ := h
  refine (ring_Push h1 hn _ rfl v).mono ?_
  rintro e w' ⟨rfl, h3, h4⟩
  exact ⟨rfl, ⟨_, f, by simpa using h3, h2.push h1.fst h1.alen hn v⟩, h4⟩
theorem is_Push_full (h : IsRing w r B size L) (hn : L.length = size) (v : Int) :
    Calls Try.prog 39 #[.pointer (some ⟨r, 0, none⟩), (Value.int .u8 v)] w fun e w' => e = .returned (.int .i64 8) ∧ IsRing w' r B size L ∧ Keeps (fun b => b = r ∨ b = B) w w' := by
  obtain ⟨A, f, h1, h2⟩ := h
  refine (ring_Push_full h1 hn v).mono ?_
  rintro e w' ⟨rfl, m, rfl⟩
  exact ⟨rfl, ⟨_, f, h1.drew m, h2⟩, (Keeps.refl _ w).drewN m⟩
theorem is_Pop {v : Int} (h : IsRing w r B size (v :: L)) :
    Calls Try.prog 86 #[.pointer (some ⟨r, 0, none⟩)] w fun e w' => e = .returned (.tuple #[(Value.int .u8 v), .bool true]) ∧ IsRing w' r B size L ∧ Keeps (fun b => b = r ∨ b = B) w w' := by
  obtain ⟨A, f, h1, h2⟩ := h
  have h0 := h2 0 (by simp)
  rw [Nat.add_zero, Nat.mod_eq_of_lt h1.fst] at h0
  refine (ring_Pop h1 (by simp) _ rfl v (by simpa using h0)).mono ?_
  rintro e w' ⟨rfl, h3, h4⟩
  exact ⟨rfl, ⟨_, _, by simpa using h3, h2.pop h1.fst h1.cnt (by simp) _⟩, h4⟩
theorem is_Pop_none (h : IsRing w r B size ([] : List Int)) :
    Calls Try.prog 86 #[.pointer (some ⟨r, 0, none⟩)] w fun e w' => e = .returned (.tuple #[(Value.int .u8 0), .bool false]) ∧ w = w' := by
  obtain ⟨A, f, h1, h2⟩ := h
  exact ring_Pop_none h1
theorem is_List (h : IsRing w r B size L) :
    Calls Try.prog 74 #[.pointer (some ⟨r, 0, none⟩)] w fun e w' => ∃ a cap, e = .returned (.slice a L.length cap) ∧ Vals w' 1 a L.length cap (L.map fun x => (Value.int .u8 x)) ∧ (∀ x, a = some x → w.heap.size ≤ x.block) ∧ Below w.heap.size w w' := by
  obtain ⟨A, f, h1, h2⟩ := h
  exact ring_List h1 h2
theorem is_New (size : Nat) (h1 : 1 ≤ size) (h2 : size ≤ 4096) (w : World) :
    Calls Try.prog 30 #[.int .i64 size] w fun e w' => e = .returned (.tuple #[.pointer (some ⟨w.heap.size + 1, 0, none⟩), .int .i64 0]) ∧ IsRing w' (w.heap.size + 1) w.heap.size size ([] : List Int) ∧ Below w.heap.size w w' := by
  refine (ring_New size h1 h2 w).mono ?_
  rintro e w' ⟨rfl, h3, h4⟩
  exact ⟨rfl, ⟨_, 0, h3, fun t ht => absurd ht (Nat.not_lt_zero _)⟩, h4⟩
theorem is_New2 (size : Nat) (h1 : 1 ≤ size) (h2 : size ≤ 4096) (w : World) :
    Calls Try.prog 30 #[.int .i64 size] w fun e w' => e = .returned (.tuple #[.pointer (some ⟨w.heap.size + 1, 0, none⟩), .int .i64 0]) ∧ IsRing w' (w.heap.size + 1) w.heap.size size ([] : List Int) ∧ Below w.heap.size w w' ∧ w'.heap.size = w.heap.size + 2 := by
  refine (ring_New2 size h1 h2 w).mono ?_
  rintro e w' ⟨rfl, h3, h4⟩
  exact ⟨rfl, ⟨_, 0, h3, fun t ht => absurd ht (Nat.not_lt_zero _)⟩, h4⟩
end Go.Proofs.Ytaobhbfhbmenfaa
/- The methods of a ring that is not there. -/
namespace Go.Proofs.Ytaobhbfhbmenfaa
open Go.RowKit
theorem nil_Len (w : World) : Calls Try.prog 28 #[.pointer none] w fun e w' => e = .returned (.int .i64 0) ∧ w = w' := by
  go_enter Try.func28, Try.ntmps28
  go_wp2
  go_ret
  exact ⟨rfl, rfl⟩
theorem nil_At (x : Int) (w : World) : Calls Try.prog 89 #[.pointer none, .int .i64 x] w fun e w' => e = .returned (.tuple #[(Value.int .u8 0), .bool false]) ∧ w = w' := by
  go_enter Try.func89, Try.ntmps89
  go_wp2
  go_ret2
  exact ⟨rfl, rfl⟩
theorem nil_Push (x : Int) (w : World) : Calls Try.prog 39 #[.pointer none, (Value.int .u8 x)] w fun e w' => e = .returned (.int .i64 2) ∧ w = w' := by
  go_enter Try.func39, Try.ntmps39
  go_wp2
  go_ret
  exact ⟨rfl, rfl⟩
theorem nil_Pop (w : World) : Calls Try.prog 86 #[.pointer none] w fun e w' => e = .returned (.tuple #[(Value.int .u8 0), .bool false]) ∧ w = w' := by
  go_enter Try.func86, Try.ntmps86
  go_wp2_with fail
  refine (nil_At 0 w).mono ?_
  rintro e w' ⟨rfl, rfl⟩
  go_wp2
  go_ret2
  exact ⟨rfl, rfl⟩
end Go.Proofs.Ytaobhbfhbmenfaa
/- What the functions of package serial, and of its reference, return. -/
namespace Go.Proofs.Ytaobhbfhbmenfaa
open Go.RowKit
/-- the steps between two serials -/
def stp (a b : Int) : Int := (b - a + 32768) % 65536 - 32768
theorem stp_in (a b : Int) : -32768 ≤ stp a b ∧ stp a b ≤ 32767 := by unfold stp; omega
theorem serial_Steps (a b : Int) (w : World) :
    Calls Try.prog 87 #[.int .u16 a, .int .u16 b] w fun e w' => e = .returned (.int .i64 (stp a b)) ∧ w = w' := by
  go_enter Try.func87, Try.ntmps87
  go_wp2
  go_ret
  refine ⟨ret_int ?_, rfl⟩
  rw [wrap_i16, wrap_u16]
  unfold wrap64 stp
  omega
theorem serial_Of (a : Int) (w : World) :
    Calls Try.prog 41 #[.int .i64 a] w fun e w' => e = .returned (.int .u16 (a % 65536)) ∧ w = w' := by
  go_enter Try.func41, Try.ntmps41
  go_wp2
  go_ret
  exact ⟨ret_int (wrap_u16 _), rfl⟩
/-- the nearest frame of a serial: its number, and its error's -/
def frm (near s : Int) : Int × Int :=
  if near < 0 ∨ 1073741824 < near then (0, 1) else
  let f := near + stp (near % 65536) s
  if f < 0 ∨ 1073741824 < f then (0, 6) else (f, 0)
theorem serial_Frame (a b : Int) (w : World) :
    Calls Try.prog 80 #[.int .i64 a, .int .u16 b] w fun e w' => e = .returned (.tuple #[.int .i64 (frm a b).1, .int .i64 (frm a b).2]) ∧ w = w' := by
  have hs := stp_in (a % 65536) b
  go_enter Try.func80, Try.ntmps80
  go_wp2_with (first | (go_at_call 41; refine (serial_Of _ _).mono ?_; rintro e w' ⟨rfl, rfl⟩) | (go_at_call 87; refine (serial_Steps _ _ _).mono ?_; rintro e w' ⟨rfl, rfl⟩))
  all_goals
    go_ret2
    refine ⟨ret_two (val_int ?_) (val_int ?_), rfl⟩ <;> (unfold frm; simp only []; (repeat' split) <;> first | rfl | omega)
/-- the best frame after so many rounds -/
def bst (near s : Int) : Nat → Int
  | 0 => near - near % 65536 + s - 65536
  | k + 1 => if (near - near % 65536 + s + 65536 * (k : Int) - near).natAbs < (near - bst near s k).natAbs then near - near % 65536 + s + 65536 * (k : Int) else bst near s k
theorem bst_succ (near s : Int) (k : Nat) : bst near s (k + 1) = if (near - near % 65536 + s + 65536 * (k : Int) - near).natAbs < (near - bst near s k).natAbs then near - near % 65536 + s + 65536 * (k : Int) else bst near s k := rfl
theorem bst_in (near s : Int) (hn : 0 ≤ near ∧ near ≤ 1073741824) (hs : 0 ≤ s ∧ s ≤ 65535) : ∀ k : Nat, k ≤ 2 → -200000 ≤ bst near s k ∧ bst near s k ≤ 1073741824 + 200000
  | 0, _ => by unfold bst; omega
  | k + 1, h => by have := bst_in near s hn hs k (by omega); unfold bst; split <;> omega
theorem bst_two (near s : Int) (_hn : 0 ≤ near ∧ near ≤ 1073741824) (hs : 0 ≤ s ∧ s ≤ 65535) : bst near s 2 = near + stp (near % 65536) s := by
  unfold stp
  simp only [bst]
  repeat' split
  all_goals omega
end Go.Proofs.Ytaobhbfhbmenfaa
/- A range over a function whose iterator yields a known list and leaves a known memory (R): XIter's law, with what the iterator leaves. -/
namespace Go.Proofs.Ytaobhbfhbmenfaa
open Go.RowKit
variable {P : Program}
/-- One call of the iterator, met by rounds that keep J. -/
def YieldsAllF {α : Type} (P : Program) (gf : Nat) (lb : Array Value) (encs : α → Array Value) (xs : List α) (Wr Mut : Nat → Prop) (R : World → Prop) (w : World) : Prop :=
  ∀ (l : Nat) (J : List α → World → Prop) (W : World), l = w.heap.size + 1 → Keeps (fun _ => False) w W → W.heap.size = w.heap.size + 2 →
    (∀ pre A B, J pre A → Keeps Mut A B → J pre B) →
    (∀ pre x rest A, xs = pre ++ x :: rest → J pre A → YieldAt Fence.wide 0 P l (encs x) A fun e B => e = .returned (.bool true) ∧ J (pre ++ [x]) B ∧ Keeps (fun k => Wr k ∨ k = l) A B) →
    J [] W → CallsIn Fence.wide 0 P gf (#[.func (.yield l) #[] #[]] ++ lb) W fun e B => (∃ v, e = .returned v) ∧ J xs B ∧ R B
theorem wpIn_rangeF {α : Type} {g : Operand} {ps : Array Tmp} {assign body : Code} {Q : Exit → Act → World → Prop} {a : Act} {w : World}
    {gf : Nat} {lb : Array Value} (hg : a.eval g = .func (.func gf) #[] lb) (eg : ∀ args w, (callFunc gf args).run P w = .ok (.enter gf args) w)
    {encs : α → Array Value} (hps : ∀ x, (encs x).size = ps.size) (xs : List α) (Wr Mut : Nat → Prop) (R : World → Prop)
    (hiter : YieldsAllF P gf lb encs xs Wr Mut R w)
    (hR : ∀ A B, R A → w.heap.size ≤ A.heap.size → Keeps (fun k => k = w.heap.size ∨ k = w.heap.size + 1) A B → R B)
    (hWr : ¬ Wr w.heap.size ∧ ¬ Wr (w.heap.size + 1)) (hMut : ¬ Mut w.heap.size ∧ ¬ Mut (w.heap.size + 1))
    (I : List α → World → Prop)
    (hI : ∀ pre A B, I pre A → w.heap.size ≤ A.heap.size → Keeps (fun k => Mut k ∨ k = w.heap.size ∨ k = w.heap.size + 1) A B → I pre B)
    (h0 : I [] w) (AS : List α → α → Act → World → Prop)
    (hAS : ∀ pre x a' A B, AS pre x a' A → w.heap.size ≤ A.heap.size → Keeps (fun k => k = w.heap.size ∨ k = w.heap.size + 1) A B → AS pre x a' B)
    (hassign : ∀ (l : Nat) (pre : List α) (x : α) (rest : List α) (A : World) (K : Act → World → Prop), l = w.heap.size + 1 → xs = pre ++ x :: rest → I pre A → w.heap.size + 2 ≤ A.heap.size → (∀ a' A', AS pre x a' A' → Keeps Wr A A' → K a' A') →
      assign.wpIn (Fence.wide.inRound l) 0 P (Exit.then K (fun _ _ _ => False)) { tmps := (ps.zip (encs x)).foldl (fun t (p, v) => t.setIfInBounds p v) a.tmps, defers := [] } A)
    (hbody : ∀ (l : Nat) (pre : List α) (x : α) (rest : List α) (a' : Act) (A : World), l = w.heap.size + 1 → xs = pre ++ x :: rest → AS pre x a' A → w.heap.size + 2 ≤ A.heap.size →
      body.wpIn (Fence.wide.inRound l) 0 P (fun ex _ B => ex = .normal ∧ Keeps Wr A B ∧ I (pre ++ [x]) B) a' A)
    (hdone : ∀ (W : World), I xs W → R W → w.heap.size + 2 ≤ W.heap.size → W.heap[w.heap.size]? = some (.deferred (some [])) → Q .normal { a with defers := { target := .collected w.heap.size, args := #[] } :: a.defers } W) :
    (Code.rangeFunc g ps assign body).wpIn Fence.wide 0 P Q a w := by
  refine wpIn_rangeFunc fun fn hfn => ?_
  -- the loop's record in its states
  obtain ⟨rec, hrec⟩ : ∃ rec : LoopState → Loop, rec = fun st => { state := st, pending := none, fn, tmps := a.tmps, params := ps, assign, body, defers := w.heap.size } := ⟨_, rfl⟩
  obtain ⟨W1, hW1⟩ : ∃ W1, (w.alloc (.deferred (some []))).alloc (.loop (rec .ready)) = W1 := ⟨_, rfl⟩
  have hsz : W1.heap.size = w.heap.size + 2 := by rw [← hW1]; simp
  have hL1 : W1.heap[w.heap.size + 1]? = some (.loop (rec .ready)) := by
    rw [← hW1]; have := World.alloc_heap_new (w.alloc (.deferred (some []))) (.loop (rec .ready)); rwa [World.size_alloc] at this
  have hD1 : W1.heap[w.heap.size]? = some (.deferred (some [])) := by
    rw [← hW1]; exact (Below.heap_alloc _ _ _ (by simp)).trans (World.alloc_heap_new w _)
  have hK1 : Keeps (fun _ => False) w W1 := by rw [← hW1]; exact ((Keeps.refl _ w).alloc _).alloc _
  refine ⟨w.heap.size + 1, [{ target := .collected w.heap.size, args := #[] }], W1, { target := .fn (.func gf) lb, args := #[.func (.yield (w.heap.size + 1)) #[] #[]] }, W1, gf,
    #[.func (.yield (w.heap.size + 1)) #[] #[]] ++ lb, W1, ?_, ?_, fun _ _ => trivial, ?_, (fun h => by cases h), ?_⟩
  · have := run_enterLoop_outer (P := P) (w := w) fn a.tmps ps assign body
    rw [← hW1, hrec]
    exact this
  · simp only [resolve, hg]
    simp [go_sem]
  · simp [invoke, go_sem, eg]
  -- the iterator, met at the caller's invariant and the two facts of the book-keeping
  have hcall := hiter (w.heap.size + 1)
    (fun pre A => I pre A ∧ A.heap[w.heap.size + 1]? = some (.loop (rec .ready)) ∧ A.heap[w.heap.size]? = some (.deferred (some [])) ∧ w.heap.size + 2 ≤ A.heap.size)
    W1 rfl hK1 hsz
    (fun pre A B ⟨hi, hl, hd, hn⟩ hk => ⟨hI pre A B hi (by omega) (hk.mono fun _ _ => .inl), hk.heap hl hMut.2, hk.heap hd hMut.1, Nat.le_trans hn hk.size⟩)
    ?round ⟨hI [] w W1 h0 (Nat.le_refl _) (hK1.mono fun _ _ => False.elim), hL1, hD1, Nat.le_of_eq hsz.symm⟩
  case round =>
    rintro pre x rest A hx ⟨hi, hl, hd, hn⟩
    have hy := run_yield (P := P) (args := encs x) hl (by rw [hrec]; exact hps x)
    rw [hrec] at hy
    refine ⟨fn, _, assign, body, hy, roundIn_of_wpIn hfn (hassign _ pre x rest A _ rfl hx hi hn (fun a' A' has hk' => ⟨_, run_beginRound (hk'.heap hl hWr.2) (by rw [hrec]), ?_⟩))⟩
    have hl := hk'.heap hl hWr.2
    have hd := hk'.heap hd hWr.1
    have hn := Nat.le_trans hn hk'.size
    have kb : Keeps (fun k => k = w.heap.size ∨ k = w.heap.size + 1) A' (A'.putObj (w.heap.size + 1) (.loop { rec .ready with state := .busy })) := (Keeps.refl _ A').putObj (.inr rfl) _
    refine wpIn_mono (hbody _ pre x rest a' _ rfl hx (hAS _ _ _ _ _ has (by omega) kb) (by simpa using hn)) ?_
    rintro e a3 B ⟨rfl, hk, hi3⟩
    have hl2 : (A'.putObj (w.heap.size + 1) (.loop { rec .ready with state := .busy })).heap[w.heap.size + 1]? = some (.loop { rec .ready with state := .busy }) := World.putObj_heap_same (by omega)
    have hl3 := hk.heap hl2 hWr.2
    have hd3 := hk.heap ((World.putObj_heap_other (by omega)).trans hd) hWr.1
    have hend := run_endRound (P := P) none hl3
    have hsame : ({ ({ rec .ready with state := .busy } : Loop) with state := if (none : Option Code).isNone = true then .ready else .done, pending := none }) = rec .ready := by rw [hrec]; rfl
    rw [hsame] at hend
    have ke : Keeps (fun k => Mut k ∨ k = w.heap.size ∨ k = w.heap.size + 1) B (B.putObj (w.heap.size + 1) (.loop (rec .ready))) := (Keeps.refl _ B).putObj (.inr (.inr rfl)) _
    have hBs : w.heap.size + 2 ≤ B.heap.size := Nat.le_trans (by simpa using hn) hk.size
    refine ⟨_, _, hend, rfl, ⟨hI _ _ _ hi3 (by omega) ke, World.putObj_heap_same (by omega), (World.putObj_heap_other (by omega)).trans hd3, by simpa using hBs⟩, ?_⟩
    exact (((hk'.mono fun _ _ => .inl).putObj (S := fun k => Wr k ∨ k = w.heap.size + 1) (.inr rfl) _).trans (hk.mono fun _ _ => .inl)).putObj (.inr rfl) _
  refine hcall.mono ?_
  rintro e B ⟨⟨v, rfl⟩, ⟨hi, hl, hd, hn⟩, hr⟩
  have hend := run_endLoop (P := P) hl (by rw [hrec]; simp)
  have hp : (rec .ready).pending = none := by rw [hrec]
  rw [hp] at hend
  refine ⟨none, _, hend, ?_⟩
  exact hdone _ (hI _ _ _ hi (by omega) ((Keeps.refl _ B).putObj (.inr (.inr rfl)) _)) (hR _ _ hr (by omega) ((Keeps.refl _ B).putObj (.inr rfl) _)) (by simpa using hn) ((World.putObj_heap_other (by omega)).trans hd)
end Go.Proofs.Ytaobhbfhbmenfaa
/- link: a link in memory; New, what tells of it, Own, Report, Bye. -/
namespace Go.Proofs.Ytaobhbfhbmenfaa
open Go.RowKit
set_option maxRecDepth 10000
structure Lk where
  nonce : Int
  patience : Int
  state : Int
  bye : Bool
  ticks : Int
  heard : Int
  own : List UInt8
  acked : Int
  next : Int
  out : List Msg
  good : Int
  bad : Int
  stale : Int
/-- where a link lies: itself, its rings' heads and arrays -/
structure LB where
  p : Nat
  h1 : Nat
  d1 : Nat
  h2 : Nat
  d2 : Nat
def LB.S (B : LB) (b : Nat) : Prop := b = B.p ∨ b = B.h1 ∨ b = B.d1 ∨ b = B.h2 ∨ b = B.d2
structure LB.ok (B : LB) : Prop where
  a : B.p ≠ B.h1 ∧ B.p ≠ B.d1 ∧ B.p ≠ B.h2 ∧ B.p ≠ B.d2
  b : B.h1 ≠ B.d1 ∧ B.h1 ≠ B.h2 ∧ B.h1 ≠ B.d2
  c : B.d1 ≠ B.h2 ∧ B.d1 ≠ B.d2 ∧ B.h2 ≠ B.d2
def lkC (B : LB) (l : Lk) : Array Value := #[.int .u32 l.nonce, .int .i64 l.patience, .int .i64 l.state, .bool l.bye, .int .i64 l.ticks, .int .i64 l.heard, .pointer (some ⟨B.h1, 0, none⟩), .int .i64 l.acked, .int .i64 l.next, .pointer (some ⟨B.h2, 0, none⟩), .int .i64 l.good, .int .i64 l.bad, .int .i64 l.stale]
def u8I (l : List UInt8) : List Int := l.map fun c => (c.toNat : Int)
structure IsLink (w : World) (B : LB) (l : Lk) : Prop where
  blk : w.heap[B.p]? = some (.cells (lkC B l) 72 (0, 0))
  own : IsRing w B.h1 B.d1 64 (u8I l.own)
  out : IsMR w B.h2 B.d2 8 l.out
  ok : B.ok
namespace IsLink
variable {w w' : World} {B : LB} {l : Lk}
theorem lt (h : IsLink w B l) : B.p < w.heap.size ∧ B.h1 < w.heap.size ∧ B.d1 < w.heap.size ∧ B.h2 < w.heap.size ∧ B.d2 < w.heap.size :=
  ⟨blk_lt h.blk, h.own.le.2.2.2.1, h.own.le.2.2.2.2.1, h.out.le.2.2.2.1, h.out.le.2.2.2.2.1⟩
theorem keeps {S : Nat → Prop} (h : IsLink w B l) (hk : Keeps S w w') (hs : ∀ b, B.S b → ¬ S b) : IsLink w' B l :=
  ⟨hk.heap h.blk (hs _ (.inl rfl)), h.own.keeps hk (hs _ (.inr (.inl rfl))) (hs _ (.inr (.inr (.inl rfl)))), h.out.keeps hk (hs _ (.inr (.inr (.inr (.inl rfl))))) (hs _ (.inr (.inr (.inr (.inr rfl))))), h.ok⟩
theorem drew (h : IsLink w B l) (n : Nat) : IsLink (w.drewN n) B l := h.keeps (S := fun _ => False) ((Keeps.refl _ w).drewN n) (fun _ _ => id)
theorem below (h : IsLink w B l) (hb : Below w.heap.size w w') : IsLink w' B l := h.keeps (S := fun _ => False) (Keeps.of_below hb (fun k h1 h2 => by omega)) (fun _ _ => id)
/-- a cell of the link itself is set -/
theorem set (h : IsLink w B l) (k : Nat) (v : Value) (l' : Lk) (hc : (lkC B l).setIfInBounds k v = lkC B l') (ho : l'.own = l.own) (hu : l'.out = l.out) : IsLink (w.setCell ⟨B.p, k, none⟩ v) B l' := by
  have hk : Keeps (fun b => b = B.p) w (w.setCell ⟨B.p, k, none⟩ v) := Keeps.setCell (S := fun b => b = B.p) (Keeps.refl _ w) (p := ⟨B.p, k, none⟩) rfl _
  refine ⟨by rw [blk_set h.blk k v, hc], ?_, ?_, h.ok⟩
  · rw [ho]; exact h.own.keeps hk (Ne.symm h.ok.a.1) (Ne.symm h.ok.a.2.1)
  · rw [hu]; exact h.out.keeps hk (Ne.symm h.ok.a.2.2.1) (Ne.symm h.ok.a.2.2.2)
theorem ownd (h : IsLink w B l) {L : List UInt8} {l' : Lk} (hR : IsRing w' B.h1 B.d1 64 (u8I L)) (hk : Keeps (fun b => b = B.h1 ∨ b = B.d1) w w') (hc : lkC B l' = lkC B l) (ho : l'.own = L) (hu : l'.out = l.out) : IsLink w' B l' := by
  have a := h.ok.a
  have b := h.ok.b
  have c := h.ok.c
  refine ⟨?_, by rw [ho]; exact hR, ?_, h.ok⟩
  · rw [hc]; exact hk.heap h.blk (by omega)
  · rw [hu]; exact h.out.keeps hk (by omega) (by omega)
theorem outd (h : IsLink w B l) {L : List Msg} {l' : Lk} (hR : IsMR w' B.h2 B.d2 8 L) (hk : Keeps (fun b => b = B.h2 ∨ b = B.d2) w w') (hc : lkC B l' = lkC B l) (ho : l'.own = l.own) (hu : l'.out = L) : IsLink w' B l' := by
  have a := h.ok.a
  have b := h.ok.b
  have c := h.ok.c
  refine ⟨?_, ?_, by rw [hu]; exact hR, h.ok⟩
  · rw [hc]; exact hk.heap h.blk (by omega)
  · rw [ho]; exact h.own.keeps hk (by omega) (by omega)
theorem c0 (h : IsLink w B l) : w.cell? ⟨B.p, 0, none⟩ = some (.int .u32 l.nonce) := blk_cell h.blk rfl
theorem c1 (h : IsLink w B l) : w.cell? ⟨B.p, 1, none⟩ = some (.int .i64 l.patience) := blk_cell h.blk rfl
theorem c2 (h : IsLink w B l) : w.cell? ⟨B.p, 2, none⟩ = some (.int .i64 l.state) := blk_cell h.blk rfl
theorem c3 (h : IsLink w B l) : w.cell? ⟨B.p, 3, none⟩ = some (.bool l.bye) := blk_cell h.blk rfl
theorem c4 (h : IsLink w B l) : w.cell? ⟨B.p, 4, none⟩ = some (.int .i64 l.ticks) := blk_cell h.blk rfl
theorem c5 (h : IsLink w B l) : w.cell? ⟨B.p, 5, none⟩ = some (.int .i64 l.heard) := blk_cell h.blk rfl
theorem c6 (h : IsLink w B l) : w.cell? ⟨B.p, 6, none⟩ = some (.pointer (some ⟨B.h1, 0, none⟩)) := blk_cell h.blk rfl
theorem c7 (h : IsLink w B l) : w.cell? ⟨B.p, 7, none⟩ = some (.int .i64 l.acked) := blk_cell h.blk rfl
theorem c8 (h : IsLink w B l) : w.cell? ⟨B.p, 8, none⟩ = some (.int .i64 l.next) := blk_cell h.blk rfl
theorem c9 (h : IsLink w B l) : w.cell? ⟨B.p, 9, none⟩ = some (.pointer (some ⟨B.h2, 0, none⟩)) := blk_cell h.blk rfl
theorem c10 (h : IsLink w B l) : w.cell? ⟨B.p, 10, none⟩ = some (.int .i64 l.good) := blk_cell h.blk rfl
theorem c11 (h : IsLink w B l) : w.cell? ⟨B.p, 11, none⟩ = some (.int .i64 l.bad) := blk_cell h.blk rfl
theorem c12 (h : IsLink w B l) : w.cell? ⟨B.p, 12, none⟩ = some (.int .i64 l.stale) := blk_cell h.blk rfl
theorem free (h : IsLink w B l) (k : Nat) : w.frozen? ⟨B.p, k, none⟩ = false := blk_free h.blk k
end IsLink
variable {w : World} {B : LB} {l : Lk}
theorem lk_State (h : IsLink w B l) : Calls Try.prog 13 #[.pointer (some ⟨B.p, 0, none⟩)] w fun e w' => e = .returned (.int .i64 l.state) ∧ w = w' := by
  have c2 := h.c2
  go_enter Try.func13, Try.ntmps13
  go_wp2
  go_ret
  exact ⟨rfl, rfl⟩
theorem lk_Next (h : IsLink w B l) : Calls Try.prog 12 #[.pointer (some ⟨B.p, 0, none⟩)] w fun e w' => e = .returned (.int .i64 l.next) ∧ w = w' := by
  have c8 := h.c8
  go_enter Try.func12, Try.ntmps12
  go_wp2
  go_ret
  exact ⟨rfl, rfl⟩
theorem lk_Acked (h : IsLink w B l) : Calls Try.prog 11 #[.pointer (some ⟨B.p, 0, none⟩)] w fun e w' => e = .returned (.int .i64 l.acked) ∧ w = w' := by
  have c7 := h.c7
  go_enter Try.func11, Try.ntmps11
  go_wp2
  go_ret
  exact ⟨rfl, rfl⟩
theorem lk_Waits (h : IsLink w B l) : Calls Try.prog 14 #[.pointer (some ⟨B.p, 0, none⟩)] w fun e w' => e = .returned (.int .i64 l.own.length) ∧ w = w' := by
  have c6 := h.c6
  have hL := is_Len h.own
  rw [show (u8I l.own).length = l.own.length by simp [u8I]] at hL
  go_enter Try.func14, Try.ntmps14
  go_wp2_with fail
  refine hL.mono ?_
  rintro e w' ⟨rfl, rfl⟩
  go_wp2
  go_ret
  exact ⟨rfl, rfl⟩
theorem lk_frame (f : Int) (w : World) : Calls Try.prog 29 #[.int .i64 f] w fun e w' => e = .returned (.bool (decide (0 ≤ f ∧ f ≤ 1073741824))) ∧ w = w' := by
  by_cases h1 : 0 ≤ f
  · by_cases h2 : f ≤ 1073741824
    · go_enter Try.func29, Try.ntmps29
      go_wp2
      go_ret
      exact ⟨ret_bool (by simp; omega), rfl⟩
    · go_enter Try.func29, Try.ntmps29
      go_wp2
      go_ret
      exact ⟨ret_bool (by simp; omega), rfl⟩
  · go_enter Try.func29, Try.ntmps29
    go_wp2
    go_ret
    exact ⟨ret_bool (by simp; omega), rfl⟩
/-- a link as it is made -/
def Lk.new (nonce patience first : Int) : Lk := ⟨nonce, patience, 0, false, 0, 0, [], first, first, [], 0, 0, 0⟩
theorem lk_New (nonce patience first : Int) (hp : 1 ≤ patience ∧ patience ≤ 10000) (hf : 0 ≤ first ∧ first ≤ 1073741824) (w : World) :
    Calls Try.prog 16 #[.int .u32 nonce, .int .i64 patience, .int .i64 first] w fun e w' =>
      e = .returned (.tuple #[.pointer (some ⟨w.heap.size + 4, 0, none⟩), .int .i64 0]) ∧ IsLink w' ⟨w.heap.size + 4, w.heap.size + 1, w.heap.size, w.heap.size + 3, w.heap.size + 2⟩ (Lk.new nonce patience first) ∧ Below w.heap.size w w' := by
  have hF := fun W => lk_frame first W
  rw [decide_eq_true hf] at hF
  go_enter Try.func16, Try.ntmps16
  go_wp2_with fail
  refine (hF _).mono ?_
  rintro e _ ⟨rfl, rfl⟩
  go_wp2_with fail
  refine (is_New2 64 (by omega) (by omega) _).mono ?_
  rintro e w1 ⟨rfl, hR1, hb1, hs1⟩
  go_wp2_with fail
  refine (ms_New8 _).mono ?_
  rintro e w2 ⟨rfl, hM2, hb2, hs2⟩
  have hR2 := hR1.keeps (Keeps.of_below (S := fun _ => False) hb2 (fun k h1 h2 => by omega)) id id
  rw [show w1.heap.size + 1 = w.heap.size + 3 by omega] at hM2 ⊢
  rw [hs1] at hM2
  have hs3 : w2.heap.size = w.heap.size + 4 := by omega
  have hbe := hb1.trans (hb2.mono (by omega))
  clear hb1 hb2 hR1 hs2 hF
  have HR := hid hR2
  have HM := hid hM2
  clear hR2 hM2
  go_wp2
  go_ret2
  have hk := (Keeps.refl (fun _ => False) w2).alloc (.cells (lkC ⟨w.heap.size + 4, w.heap.size + 1, w.heap.size, w.heap.size + 3, w.heap.size + 2⟩ (Lk.new nonce patience first)) 72)
  have hB := blk_new w2 (.cells (lkC ⟨w.heap.size + 4, w.heap.size + 1, w.heap.size, w.heap.size + 3, w.heap.size + 2⟩ (Lk.new nonce patience first)) 72)
  rw [hs3] at hB
  refine ⟨rfl, ⟨hB, HR.out.keeps hk id id, HM.out.keeps hk id id, ⟨?_, ?_, ?_⟩⟩, hbe.alloc (by omega) _⟩ <;> simp <;> omega
def ownE (l : Lk) (f : Int) (x : UInt8) : Int := if l.state = 2 then 12 else if 63 < (x.toNat : Int) then 1 else if f ≠ l.acked + l.own.length then 11 else if l.own.length = 64 then 8 else 0
def ownL (l : Lk) (f : Int) (x : UInt8) : Lk := if ownE l f x = 0 then { l with own := l.own ++ [x] } else l
theorem lk_Own (h : IsLink w B l) (f : Int) (x : UInt8) (ha : 0 ≤ l.acked ∧ l.acked ≤ 1099511627776) :
    Calls Try.prog 21 #[.pointer (some ⟨B.p, 0, none⟩), .int .i64 f, .int .u8 (x.toNat : Int)] w fun e w' => e = .returned (.int .i64 (ownE l f x)) ∧ IsLink w' B (ownL l f x) ∧ Keeps B.S w w' := by
  have c2 := h.c2
  have c6 := h.c6
  have c7 := h.c7
  unfold ownL ownE
  by_cases h0 : l.state = 2
  · rw [if_pos h0, if_neg (by decide)]
    rw [h0] at c2
    have H := hid h
    clear h h0
    go_enter Try.func21, Try.ntmps21
    go_wp2
    go_ret
    exact ⟨rfl, H.out, Keeps.refl _ _⟩
  rw [if_neg h0]
  have q0 : (l.state == 2) = false := by rw [beq_eq_false_iff_ne]; exact h0
  by_cases h1 : 63 < (x.toNat : Int)
  · rw [if_pos h1, if_neg (by decide)]
    have H := hid h
    clear h h0
    go_enter Try.func21, Try.ntmps21
    go_wp2
    go_ret
    exact ⟨rfl, H.out, Keeps.refl _ _⟩
  rw [if_neg h1]
  have hle := h.own.le.1
  have hul : (u8I l.own).length = l.own.length := by simp [u8I]
  rw [hul] at hle
  have hLen := fun n => is_Len (h.drew n).own
  rw [hul] at hLen
  have HL := hid hLen
  clear hLen
  by_cases h2 : f ≠ l.acked + l.own.length
  · rw [if_pos h2, if_neg (by decide)]
    have q2 : (f != l.acked + (l.own.length : Int)) = true := by simpa using h2
    have H := hid h
    clear h h0 h2 hul
    generalize l.acked = ac at *
    go_enter Try.func21, Try.ntmps21
    go_wp2_with fail
    go_quiet ((go_at_call 28; exact (HL.out _).mono fun _ _ h => ⟨h.1, _, h.2.symm⟩))
    go_wp2_with fail
    go_ret
    exact ⟨rfl, H.out.drew _, (Keeps.refl _ _).drewN _⟩
  rw [if_neg h2]
  have h2 : f = l.acked + l.own.length := by simpa using h2
  have q2 : (f != l.acked + (l.own.length : Int)) = false := by simp [h2]
  have hle2 : (u8I l.own).length = l.own.length := hul
  by_cases h3 : l.own.length = 64
  · rw [if_pos h3, if_neg (by decide)]
    have hP := fun n => is_Push_full (h.drew n).own (by rw [hul, h3]) (x.toNat : Int)
    have H := hid h
    have HP := hid hP
    clear h h0 hul hP h3 hle2
    generalize l.acked = ac at *
    generalize l.own.length = ol at *
    clear h2
    go_enter Try.func21, Try.ntmps21
    go_wp2_with fail
    go_quiet ((go_at_call 28; exact (HL.out _).mono fun _ _ h => ⟨h.1, _, h.2.symm⟩))
    go_wp2_with fail
    refine (HP.out _).mono ?_
    rintro e w' ⟨rfl, hR, hk⟩
    go_wp2
    go_ret
    exact ⟨rfl, (H.out.drew _).ownd hR hk rfl rfl rfl, ((Keeps.refl _ w).drewN _).trans (hk.mono fun b _ h => h.elim (fun e => .inr (.inl e)) (fun e => .inr (.inr (.inl e))))⟩
  · rw [if_neg h3, if_pos rfl]
    have hP := fun n => is_Push (h.drew n).own (by rw [hul]; omega) (x.toNat : Int)
    have H := hid h
    have HP := hid hP
    clear h h0 hul hP h3 hle2
    generalize l.own.length = ol at *
    clear h2
    go_enter Try.func21, Try.ntmps21
    go_wp2_with fail
    go_quiet ((go_at_call 28; exact (HL.out _).mono fun _ _ h => ⟨h.1, _, h.2.symm⟩))
    go_wp2_with fail
    refine (HP.out _).mono ?_
    rintro e w' ⟨rfl, hR, hk⟩
    go_wp2
    go_ret
    exact ⟨rfl, (H.out.drew _).ownd (L := l.own ++ [x]) (by simpa [u8I] using hR) hk rfl rfl rfl, ((Keeps.refl _ w).drewN _).trans (hk.mono fun b _ h => h.elim (fun e => .inr (.inl e)) (fun e => .inr (.inr (.inl e))))⟩
/-- a report that waits -/
def repM (f sum : Int) : Msg := ⟨4, 0, f % 65536, 0, [], sum, 0⟩
def repE (l : Lk) (f : Int) : Int := if l.state = 2 then 12 else if ¬ (0 ≤ f ∧ f ≤ 1073741824) then 1 else if l.out.length = 8 then 8 else 0
def repL (l : Lk) (f sum : Int) : Lk := if repE l f = 0 then { l with out := l.out ++ [repM f sum] } else l
theorem lk_Report (h : IsLink w B l) (f sum : Int) :
    Calls Try.prog 22 #[.pointer (some ⟨B.p, 0, none⟩), .int .i64 f, .int .u32 sum] w fun e w' => e = .returned (.int .i64 (repE l f)) ∧ IsLink w' B (repL l f sum) ∧ Keeps B.S w w' := by
  have c2 := h.c2
  have c9 := h.c9
  have hF := fun W => lk_frame f W
  unfold repL repE
  by_cases h0 : l.state = 2
  · rw [if_pos h0, if_neg (by decide)]
    rw [h0] at c2
    have H := hid h
    clear h h0
    go_enter Try.func22, Try.ntmps22
    go_wp2
    go_ret
    exact ⟨rfl, H.out, Keeps.refl _ _⟩
  rw [if_neg h0]
  have q0 : (l.state == 2) = false := by rw [beq_eq_false_iff_ne]; exact h0
  by_cases h1 : 0 ≤ f ∧ f ≤ 1073741824
  · rw [if_neg (not_not_intro h1)]
    rw [decide_eq_true h1] at hF
    by_cases h3 : l.out.length = 8
    · rw [if_pos h3, if_neg (by decide)]
      have hP := fun n => ms_Push_full (h.drew n).out h3 (repM f sum)
      have H := hid h
      have HP := hid hP
      have hO := fun n => serial_Of f (w.drewN n)
      have HO := hid hO
      clear h h0 hP h3 hO
      go_enter Try.func22, Try.ntmps22
      go_wp2_with fail
      refine (hF _).mono ?_
      rintro e _ ⟨rfl, rfl⟩
      go_wp2_with fail
      refine wp_region_taild 8 (by kernel_rfl) (by kernel_rfl) ?_
      simp only [List.take_succ_cons, List.take_zero, List.drop_succ_cons, List.drop_zero]
      repeat (go_big_quiet_step ((go_at_call 41; exact (HO.out _).mono fun _ _ h => ⟨h.1, _, h.2.symm⟩)))
      refine wpQuiet_nil ?_
      intro _ hw'
      obtain ⟨nq, hw''⟩ := hw'
      subst hw''
      go_wp2_with fail
      refine (HP.out _).mono ?_
      rintro e w' ⟨rfl, hR, hk⟩
      go_wp2_with fail
      go_ret
      exact ⟨rfl, (H.out.drew _).outd hR hk rfl rfl rfl, ((Keeps.refl _ w).drewN _).trans (hk.mono fun b _ h => h.elim (fun e => .inr (.inr (.inr (.inl e)))) (fun e => .inr (.inr (.inr (.inr e)))))⟩
    · rw [if_neg h3, if_pos rfl]
      have hP := fun n => ms_Push (h.drew n).out (by have := h.out.le.1; omega) (repM f sum)
      have H := hid h
      have HP := hid hP
      have hO := fun n => serial_Of f (w.drewN n)
      have HO := hid hO
      clear h h0 hP h3 hO
      go_enter Try.func22, Try.ntmps22
      go_wp2_with fail
      refine (hF _).mono ?_
      rintro e _ ⟨rfl, rfl⟩
      go_wp2_with fail
      refine wp_region_taild 8 (by kernel_rfl) (by kernel_rfl) ?_
      simp only [List.take_succ_cons, List.take_zero, List.drop_succ_cons, List.drop_zero]
      repeat (go_big_quiet_step ((go_at_call 41; exact (HO.out _).mono fun _ _ h => ⟨h.1, _, h.2.symm⟩)))
      refine wpQuiet_nil ?_
      intro _ hw'
      obtain ⟨nq, hw''⟩ := hw'
      subst hw''
      go_wp2_with fail
      refine (HP.out _).mono ?_
      rintro e w' ⟨rfl, hR, hk⟩
      go_wp2_with fail
      go_ret
      exact ⟨rfl, (H.out.drew _).outd hR hk rfl rfl rfl, ((Keeps.refl _ w).drewN _).trans (hk.mono fun b _ h => h.elim (fun e => .inr (.inr (.inr (.inl e)))) (fun e => .inr (.inr (.inr (.inr e)))))⟩
  · rw [if_pos h1, if_neg (by decide)]
    rw [decide_eq_false h1] at hF
    have H := hid h
    clear h h0
    go_enter Try.func22, Try.ntmps22
    go_wp2_with fail
    refine (hF _).mono ?_
    rintro e _ ⟨rfl, rfl⟩
    go_wp2
    go_ret
    exact ⟨rfl, H.out, Keeps.refl _ _⟩
def byeL (l : Lk) : Lk := if l.state = 2 then l else { l with state := 2, bye := true }
theorem lk_Bye (h : IsLink w B l) : Calls Try.prog 20 #[.pointer (some ⟨B.p, 0, none⟩)] w fun e w' => e = .returned (.tuple #[]) ∧ IsLink w' B (byeL l) ∧ Keeps B.S w w' := by
  have c2 := h.c2
  unfold byeL
  by_cases h0 : l.state = 2
  · rw [if_pos h0]
    rw [h0] at c2
    have H := hid h
    clear h h0
    go_enter Try.func20, Try.ntmps20
    go_wp2
    refine bodyPost_end (v := .tuple #[]) (by first | rfl | simp [results, go_sem]) rfl ?_
    exact ⟨rfl, H.out, Keeps.refl _ _⟩
  · rw [if_neg h0]
    have q0 : (l.state != 2) = true := by simpa using h0
    have c3 := h.c3
    have f2 := h.free 2
    have f3 := h.free 3
    have hS := (h.set 2 (.int .i64 2) { l with state := 2 } rfl rfl rfl).set 3 (.bool true) { l with state := 2, bye := true } rfl rfl rfl
    have hk := Keeps.setCell (S := B.S) (Keeps.setCell (S := B.S) (Keeps.refl _ w) (p := ⟨B.p, 2, none⟩) (.inl rfl) (.int .i64 2)) (p := ⟨B.p, 3, none⟩) (.inl rfl) (.bool true)
    have HS := hid hS
    have HK := hid hk
    clear h h0 hS hk
    go_enter Try.func20, Try.ntmps20
    go_wp2
    refine bodyPost_end (v := .tuple #[]) (by first | rfl | simp [results, go_sem]) rfl ?_
    exact ⟨rfl, HS.out, HK.out⟩
theorem lk_Ticks (h : IsLink w B l) : Calls Try.prog 25 #[.pointer (some ⟨B.p, 0, none⟩)] w fun e w' => e = .returned (.int .i64 l.ticks) ∧ w = w' := by
  have c4 := h.c4
  go_enter Try.func25, Try.ntmps25
  go_wp2
  go_ret
  exact ⟨rfl, rfl⟩
theorem nil_State (w : World) : Calls Try.prog 13 #[.pointer none] w fun e w' => e = .returned (.int .i64 2) ∧ w = w' := by
  go_enter Try.func13, Try.ntmps13
  go_wp2
  go_ret
  exact ⟨rfl, rfl⟩
theorem nil_Next (w : World) : Calls Try.prog 12 #[.pointer none] w fun e w' => e = .returned (.int .i64 0) ∧ w = w' := by
  go_enter Try.func12, Try.ntmps12
  go_wp2
  go_ret
  exact ⟨rfl, rfl⟩
theorem nil_Acked (w : World) : Calls Try.prog 11 #[.pointer none] w fun e w' => e = .returned (.int .i64 0) ∧ w = w' := by
  go_enter Try.func11, Try.ntmps11
  go_wp2
  go_ret
  exact ⟨rfl, rfl⟩
theorem nil_Waits (w : World) : Calls Try.prog 14 #[.pointer none] w fun e w' => e = .returned (.int .i64 0) ∧ w = w' := by
  go_enter Try.func14, Try.ntmps14
  go_wp2
  go_ret
  exact ⟨rfl, rfl⟩
theorem nil_Ticks (w : World) : Calls Try.prog 25 #[.pointer none] w fun e w' => e = .returned (.int .i64 0) ∧ w = w' := by
  go_enter Try.func25, Try.ntmps25
  go_wp2
  go_ret
  exact ⟨rfl, rfl⟩
theorem nil_Counts (w : World) : Calls Try.prog 23 #[.pointer none] w fun e w' => e = .returned (.tuple #[.int .i64 0, .int .i64 0, .int .i64 0]) ∧ w = w' := by
  go_enter Try.func23, Try.ntmps23
  go_wp2
  go_ret3
  exact ⟨rfl, rfl⟩
theorem nil_Own (f x : Int) (w : World) : Calls Try.prog 21 #[.pointer none, .int .i64 f, .int .u8 x] w fun e w' => e = .returned (.int .i64 2) ∧ w = w' := by
  go_enter Try.func21, Try.ntmps21
  go_wp2
  go_ret
  exact ⟨rfl, rfl⟩
theorem nil_Report (f x : Int) (w : World) : Calls Try.prog 22 #[.pointer none, .int .i64 f, .int .u32 x] w fun e w' => e = .returned (.int .i64 2) ∧ w = w' := by
  go_enter Try.func22, Try.ntmps22
  go_wp2
  go_ret
  exact ⟨rfl, rfl⟩
theorem nil_Tick (x : Int) (w : World) : Calls Try.prog 17 #[.pointer none, .int .i64 x] w fun e w' => e = .returned (.slice none 0 0) ∧ w = w' := by
  go_enter Try.func17, Try.ntmps17
  go_wp2
  go_ret
  exact ⟨rfl, rfl⟩
theorem nil_Bye (w : World) : Calls Try.prog 20 #[.pointer none] w fun e w' => e = .returned (.tuple #[]) ∧ w = w' := by
  go_enter Try.func20, Try.ntmps20
  go_wp2
  refine bodyPost_end (v := .tuple #[]) (by first | rfl | simp [results, go_sem]) rfl ?_
  exact ⟨rfl, rfl⟩
end Go.Proofs.Ytaobhbfhbmenfaa
/- link: what waits, taken off one by one (an iterator that pops). -/
namespace Go.Proofs.Ytaobhbfhbmenfaa
open Go.RowKit
set_option maxRecDepth 10000
variable {w : World} {B : LB} {l : Lk}
theorem lk_waiting (a : Addr) (w : World) : Calls Try.prog 52 #[.pointer (some a)] w fun e w' => e = .returned (.func (.func 72) #[] #[.pointer (some ⟨w.heap.size, 0, none⟩)]) ∧ w.alloc (.cells #[.pointer (some a)] 31) = w' := by
  go_enter Try.func52, Try.ntmps52
  go_wp2
  go_ret
  exact ⟨rfl, rfl⟩
theorem wait1 {L : List Msg} (h : IsMR w B.h2 B.d2 8 L) (h9 : w.cell? ⟨B.p, 9, none⟩ = some (.pointer (some ⟨B.h2, 0, none⟩))) (Bn : Nat) (hc : w.cell? ⟨Bn, 0, none⟩ = some (.pointer (some ⟨B.p, 0, none⟩))) (hB : Bn < w.heap.size ∧ B.p < w.heap.size)
    (hne : Bn ≠ B.h2 ∧ Bn ≠ B.d2 ∧ B.p ≠ B.h2 ∧ B.p ≠ B.d2) (Wr : Nat → Prop) (hW : ¬ Wr Bn ∧ ¬ Wr B.p ∧ ¬ Wr B.h2 ∧ ¬ Wr B.d2) :
    YieldsAllF Try.prog 72 #[.pointer (some ⟨Bn, 0, none⟩)] (fun m : Msg => #[.agg (mC m)]) L Wr (fun b => b = B.h2 ∨ b = B.d2) (fun W => IsMR W B.h2 B.d2 8 []) w := by
  intro l J W hl hk hsz hJ hY h0
  subst hl
  have hle := h.le
  have HB := hid hB
  have hne1 := hne.1
  have hne2 := hne.2.1
  have hne3 := hne.2.2.1
  have hne4 := hne.2.2.2
  refine callsIn_wide.2 ?_
  go_enter Try.func72, Try.ntmps72
  go_wp2_with fail
  go_loopg [] L.length (fun g wr => ∃ pre rest : List Msg, L = pre ++ rest ∧ g = rest.length ∧ wr.cell? ⟨Bn, 0, none⟩ = some (.pointer (some ⟨B.p, 0, none⟩)) ∧ wr.cell? ⟨B.p, 9, none⟩ = some (.pointer (some ⟨B.h2, 0, none⟩)) ∧ IsMR wr B.h2 B.d2 8 rest ∧ J pre wr ∧ w.heap.size + 2 ≤ wr.heap.size)
  case atStart => exact ⟨[], L, rfl, rfl, hk.cell hc id, hk.cell h9 id, h.keeps hk id id, h0, by omega⟩
  case round =>
    obtain ⟨pre, rest, hL, hg, hcell, hc9, hM, hJp, hs2⟩ := hrel
    have HL := hid hL
    clear hL
    cases rest with
    | nil =>
      go_wp2_with fail
      refine (ms_Pop_none hM).mono ?_
      rintro e w2 ⟨rfl, hM2, hk2⟩
      have al := alloc_msg w2
      have hX := blk_new w2 (.cells (mC Msg.zero) 49)
      obtain ⟨hst, _, hk3⟩ := store_all (w2.alloc (.cells (mC Msg.zero) 49)) 49 7 w2.heap.size (mC Msg.zero) _ Try.sizeOf49 rfl rfl hX (mC_one _)
      have hk4 := keeps_past ((Keeps.refl (fun _ => False) w2).alloc (.cells (mC Msg.zero) 49)) hk3 (fun k hk e => by omega)
      have hM4 := hM2.keeps hk4 id id
      have hJ4 := hJ _ _ _ hJp (hk2.trans (hk4.mono fun _ _ x => x.elim))
      clear hX hk3 hk4 hM2 hk2
      generalize (w2.alloc (.cells (mC Msg.zero) 49)).setRow w2.heap.size (mC Msg.zero) = w4 at *
      go_wp2_with (first | (refine wpList_run_alloc al rfl rfl ?_; simp only [Act.put, List.setIfInBounds_toArray, List.set_cons_succ, List.set_cons_zero]) | (refine wpList_run_store hst rfl rfl rfl rfl ?_; try simp only [Act.put]))
      refine bodyPost_ret (v := .tuple #[]) (by first | rfl | simp [results, go_sem]) rfl ?_
      have he : L = pre := by rw [HL.out, List.append_nil]
      exact ⟨⟨_, rfl⟩, by rw [he]; exact hJ4, hM4⟩
    | cons m rest =>
      go_wp2_with fail
      refine (ms_Pop hM).mono ?_
      rintro e w2 ⟨rfl, hM2, hk2⟩
      have al := alloc_msg w2
      have hX := blk_new w2 (.cells (mC Msg.zero) 49)
      obtain ⟨hst, _, hk3⟩ := store_all (w2.alloc (.cells (mC Msg.zero) 49)) 49 7 w2.heap.size (mC m) _ Try.sizeOf49 rfl rfl hX (mC_one _)
      have hX4 := setRow_at (w2.alloc (.cells (mC Msg.zero) 49)) w2.heap.size _ (mC m) 49 hX
      have hk4 := keeps_past ((Keeps.refl (fun _ => False) w2).alloc (.cells (mC Msg.zero) 49)) hk3 (fun k hk e => by omega)
      have hM4 := hM2.keeps hk4 id id
      have hJ4 := hJ _ _ _ hJp (hk2.trans (hk4.mono fun _ _ x => x.elim))
      have hs4 := Nat.le_trans (Nat.le_trans hs2 hk2.size) hk4.size
      have hcell4 := (hk2.trans (hk4.mono fun _ _ x => x.elim)).cell (p := ⟨Bn, 0, none⟩) hcell (fun e => e.elim hne1 hne2)
      have hc94 := (hk2.trans (hk4.mono fun _ _ x => x.elim)).cell (p := ⟨B.p, 9, none⟩) hc9 (fun e => e.elim hne3 hne4)
      clear hX hk3 hk4 hM2 hk2 hcell hc9 hJp hM
      generalize (w2.alloc (.cells (mC Msg.zero) 49)).setRow w2.heap.size (mC m) = w4 at *
      have y0 : w4.cell? ⟨w2.heap.size, 0, none⟩ = some (.int .i64 m.kind) := blk_cell hX4 rfl
      have y1 : w4.cell? ⟨w2.heap.size, 1, none⟩ = some (.int .u32 m.nonce) := blk_cell hX4 rfl
      have y2 : w4.cell? ⟨w2.heap.size, 2, none⟩ = some (.int .u16 m.serial) := blk_cell hX4 rfl
      have y3 : w4.cell? ⟨w2.heap.size, 3, none⟩ = some (.int .u16 m.ack) := blk_cell hX4 rfl
      have y4 : w4.cell? ⟨w2.heap.size, 4, none⟩ = some (.slice none 0 0) := blk_cell hX4 rfl
      have y5 : w4.cell? ⟨w2.heap.size, 5, none⟩ = some (.int .u32 m.sum) := blk_cell hX4 rfl
      have y6 : w4.cell? ⟨w2.heap.size, 6, none⟩ = some (.int .i64 m.lead) := blk_cell hX4 rfl
      clear hX4
      go_upto_region 1 with (first | (refine wpList_run_alloc al rfl rfl ?_; simp only [Act.put, List.setIfInBounds_toArray, List.set_cons_succ, List.set_cons_zero]) | (refine wpList_run_store hst rfl rfl rfl rfl ?_; try simp only [Act.put]))
      refine (wpIn_wide (n := 0)).1 ?_
      obtain ⟨fn, tmps, assign, body, hy, hRd⟩ := hY pre m rest w4 HL.out hJ4
      simp only [mC] at hy
      gi_wp2
      refine ⟨rfl, hRd.mono ?_⟩
      rintro e W2 ⟨rfl, hJ2, hK2⟩
      clear hy hRd y0 y1 y2 y3 y4 y5 y6
      have hB := HB.out
      have hc5 := hK2.cell (p := ⟨Bn, 0, none⟩) hcell4 (fun e => e.elim hW.1 (fun e => by have e : Bn = w.heap.size + 1 := e; omega))
      have hc95 := hK2.cell (p := ⟨B.p, 9, none⟩) hc94 (fun e => e.elim hW.2.1 (fun e => by have e : B.p = w.heap.size + 1 := e; omega))
      have hM5 := hM4.keeps hK2 (fun e => e.elim hW.2.2.1 (fun e => by omega)) (fun e => e.elim hW.2.2.2 (fun e => by omega))
      have hs5 := Nat.le_trans hs4 hK2.size
      have HL5 := hid (show L = (pre ++ [m]) ++ rest by rw [HL.out]; simp)
      clear hB hcell4 hc94 hM4 hJ4 hK2 al hst
      gi_wp2
      go_wp2
      go_roundg rest.length
      case measure => simp at hg; omega
      case rel => exact ⟨pre ++ [m], rest, HL5.out, rfl, hc5, hc95, hM5, hJ2, hs5⟩
end Go.Proofs.Ytaobhbfhbmenfaa
/- link: what a tick sends while it is open. -/
namespace Go.Proofs.Ytaobhbfhbmenfaa
open Go.RowKit
set_option maxRecDepth 10000
variable {w : World} {B : LB} {l : Lk}
/-- a datagram, and where its inputs lie -/
structure MV where
  m : Msg
  a : Option Addr
  c : Nat
def mvC (x : MV) : Array Value := #[.int .i64 x.m.kind, .int .u32 x.m.nonce, .int .u16 x.m.serial, .int .u16 x.m.ack, .slice x.a x.m.ins.length x.c, .int .u32 x.m.sum, .int .i64 x.m.lead]
def flatM (xs : List MV) : List Value := xs.flatMap fun x => (mvC x).toList
theorem flatM_len (xs : List MV) : (flatM xs).length = xs.length * 7 := by
  unfold flatM
  induction xs with
  | nil => rfl
  | cons x xs ih => rw [List.flatMap_cons, List.length_append, ih, List.length_cons, show (mvC x).toList.length = 7 from rfl]; omega
/-- a slice of datagrams, of the call's own -/
structure SlcM (b : Nat) (w : World) (A : Option Addr) (cap : Nat) (xs : List MV) : Prop where
  vals : Vals w 7 A xs.length cap (flatM xs)
  ins : ∀ x ∈ xs, IsBytes w x.a x.c x.m.ins ∧ ∀ y, x.a = some y → b ≤ y.block
  new : ∀ y, A = some y → b ≤ y.block
def talkM (l : Lk) : Msg := if l.own = [] then ⟨5, 0, 0, l.next % 65536, [], 0, 0⟩ else ⟨3, 0, l.acked % 65536, l.next % 65536, l.own, 0, 0⟩
def qualM (l : Lk) (lead : Int) : Msg := ⟨6, 0, l.next % 65536, 0, [], 0, max (-1000) (min lead 1000)⟩
def talkF (l : Lk) (lead : Int) : List Msg := if l.ticks % 8 = 0 then [talkM l, qualM l lead] else [talkM l]
theorem bytes_of_vals {a : Option Addr} {n cap : Nat} {L : List UInt8} (h : Vals w 1 a n cap ((u8I L).map fun x => Value.int .u8 x)) : IsBytes w a cap L := by
  obtain ⟨h1, h2, h3, h4⟩ := h
  have hn : n = L.length := by simp [u8I] at h1; omega
  refine ⟨by omega, h3, ?_⟩
  by_cases e : L = []
  · exact .inl e
  · obtain ⟨b, o, ha, hc⟩ := h4 (by have := List.length_pos_iff.2 e; omega)
    exact .inr ⟨b, o, ha, fun i hi => hc i _ (by simp [u8I, hi, byteV])⟩
theorem bytes_nil (w : World) : IsBytes w none 0 [] := ⟨Nat.le_refl _, Nat.zero_le _, .inl rfl⟩
theorem vals_blk {b n sz : Nat} {xs : List Value} {t : TypeId} (hB : w.heap[b]? = some (.cells xs.toArray t (0, 0))) (hl : xs.length = n * sz) (hm : n ≤ maxLen) : Vals w sz (some ⟨b, 0, none⟩) n n xs :=
  ⟨hl, Nat.le_refl _, hm, fun _ => ⟨b, 0, rfl, fun j u hu => by rw [Nat.zero_add]; exact blk_cell hB (by simpa using hu)⟩⟩
/-- what stands in the local datagram -/
structure TkSt (w0 w : World) (l : Lk) (x : MV) : Prop where
  bytes : IsBytes w x.a x.c x.m.ins
  new : ∀ y, x.a = some y → w0.heap.size ≤ y.block
  is : x.m = talkM l
  bel : Below w0.heap.size w0 w
set_option maxHeartbeats 1000000 in
theorem lk_talk (h : IsLink w B l) (lead : Int) (ht : 0 ≤ l.ticks ∧ l.ticks ≤ 1099511627776) :
    Calls Try.prog 53 #[.pointer (some ⟨B.p, 0, none⟩), .int .i64 lead] w fun e w' => (∃ A cap xs, e = .returned (.slice A xs.length cap) ∧ SlcM w.heap.size w' A cap xs ∧ xs.map MV.m = talkF l lead) ∧ Below w.heap.size w w' := by
  have c4 := h.c4
  have c6 := h.c6
  have c7 := h.c7
  have c8 := h.c8
  have H := hid h
  have hlt := h.lt
  clear h
  by_cases ho : l.own = []
  · have hLen := fun w' (hw : Below w.heap.size w w') => is_Len (H.out.below hw).own
    rw [ho] at hLen
    have HLen := hid hLen
    clear hLen
    go_enter Try.func53, Try.ntmps53
    go_wp2_with fail
    refine (serial_Of _ _).mono ?_
    rintro e _ ⟨rfl, rfl⟩
    go_wp2_with fail
    have hbe := (Below.refl w.heap.size w).alloc (Nat.le_refl _) (.cells (mvC ⟨⟨5, 0, 0, l.next % 65536, [], 0, 0⟩, none, 0⟩) 49)
    have hX := blk_new w (.cells (mvC ⟨⟨5, 0, 0, l.next % 65536, [], 0, 0⟩, none, 0⟩) 49)
    have hT := hid (show TkSt w (w.alloc (.cells (mvC ⟨⟨5, 0, 0, l.next % 65536, [], 0, 0⟩, none, 0⟩) 49)) l ⟨⟨5, 0, 0, l.next % 65536, [], 0, 0⟩, none, 0⟩ from ⟨bytes_nil _, fun _ e => by simp at e, by show _ = talkM l; unfold talkM; rw [if_pos ho], hbe⟩)
    have H2 := H.out.below hbe
    have hL2 := HLen.out _ hbe
    unfold mvC at hX hT H2 hL2 hbe
    clear c4 c6 c7 c8 HLen
    refine hL2.mono ?_
    rintro e w2 ⟨rfl, hw2⟩
    rw [hw2] at hX hT H2 hbe
    clear hL2 hw2
    generalize hx0 : (⟨⟨5, 0, 0, l.next % 65536, [], 0, 0⟩, none, 0⟩ : MV) = x0 at *
    have hX0 : w2.heap[w.heap.size]? = some (.cells (mvC x0) 49 (0, 0)) := hX
    clear hx0 hX
    have hX := hX0
    clear hX0
    have y0 : w2.cell? ⟨w.heap.size, 0, none⟩ = some (.int .i64 x0.m.kind) := blk_cell hX rfl
    have y1 : w2.cell? ⟨w.heap.size, 1, none⟩ = some (.int .u32 x0.m.nonce) := blk_cell hX rfl
    have y2 : w2.cell? ⟨w.heap.size, 2, none⟩ = some (.int .u16 x0.m.serial) := blk_cell hX rfl
    have y3 : w2.cell? ⟨w.heap.size, 3, none⟩ = some (.int .u16 x0.m.ack) := blk_cell hX rfl
    have y4 : w2.cell? ⟨w.heap.size, 4, none⟩ = some (.slice x0.a x0.m.ins.length x0.c) := blk_cell hX rfl
    have y5 : w2.cell? ⟨w.heap.size, 5, none⟩ = some (.int .u32 x0.m.sum) := blk_cell hX rfl
    have y6 : w2.cell? ⟨w.heap.size, 6, none⟩ = some (.int .i64 x0.m.lead) := blk_cell hX rfl
    have c4 := H2.c4
    have c8 := H2.c8
    have hof := fun n => serial_Of l.next (w2.drewN n)
    have HO := hid hof
    clear hof
    by_cases htk : l.ticks % 8 = 0
    · have HTK := hid htk
      have q4 : (l.ticks % 8 != 0) = false := by simp [htk]
      have q5 : l.ticks.tmod 8 = l.ticks % 8 := Int.tmod_eq_emod_of_nonneg ht.1
      clear htk
      by_cases g1 : lead < -1000
      · have HQ := hid (show qualM l lead = ⟨6, 0, l.next % 65536, 0, [], 0, -1000⟩ by unfold qualM; rw [show max (-1000) (min lead 1000) = -1000 by omega])
        go_wp2_with fail
        refine wp_region_taild 10 (by kernel_rfl) (by kernel_rfl) ?_
        simp only [List.take_succ_cons, List.take_zero, List.drop_succ_cons, List.drop_zero]
        repeat (go_big_quiet_step ((go_at_call 41; exact (HO.out _).mono fun _ _ h => ⟨h.1, _, h.2.symm⟩)))
        refine wpQuiet_nil ?_
        intro _ hw'
        obtain ⟨nq, hw''⟩ := hw'
        subst hw''
        go_wp2_with fail
        go_ret
        have hB := blk_new (w2.drewN nq) (.cells (flatM [x0, ⟨(⟨6, 0, l.next % 65536, 0, [], 0, -1000⟩ : Msg), none, 0⟩]).toArray 49)
        have hk := ((Keeps.refl (fun _ => False) w2).drewN nq).alloc (.cells (flatM [x0, ⟨(⟨6, 0, l.next % 65536, 0, [], 0, -1000⟩ : Msg), none, 0⟩]).toArray 49)
        have hbf := hT.out.bel.trans (hk.below hT.out.bel.size (fun _ _ x => x))
        refine ⟨⟨some ⟨w2.heap.size, 0, none⟩, 2, [x0, ⟨(⟨6, 0, l.next % 65536, 0, [], 0, -1000⟩ : Msg), none, 0⟩], rfl, ⟨vals_blk hB rfl (by unfold maxLen; show 2 ≤ _; omega), ?_, fun y e => by cases e; exact hT.out.bel.size⟩, ?_⟩, hbf⟩
        · intro x hx
          simp only [List.mem_cons, List.not_mem_nil, or_false] at hx
          rcases hx with rfl | rfl
          · exact ⟨hT.out.bytes.keeps hk (fun _ _ _ => id), hT.out.new⟩
          · exact ⟨bytes_nil _, fun _ e => by simp at e⟩
        · show [x0.m, (⟨6, 0, l.next % 65536, 0, [], 0, -1000⟩ : Msg)] = talkF l _
          unfold talkF
          rw [if_pos HTK.out, hT.out.is, HQ.out]
      by_cases g2 : lead = -1000
      · subst g2
        have HQ := hid (show qualM l (-1000) = ⟨6, 0, l.next % 65536, 0, [], 0, -1000⟩ from rfl)
        go_wp2_with fail
        refine wp_region_taild 10 (by kernel_rfl) (by kernel_rfl) ?_
        simp only [List.take_succ_cons, List.take_zero, List.drop_succ_cons, List.drop_zero]
        repeat (go_big_quiet_step ((go_at_call 41; exact (HO.out _).mono fun _ _ h => ⟨h.1, _, h.2.symm⟩)))
        refine wpQuiet_nil ?_
        intro _ hw'
        obtain ⟨nq, hw''⟩ := hw'
        subst hw''
        go_wp2_with fail
        go_ret
        have hB := blk_new (w2.drewN nq) (.cells (flatM [x0, ⟨(⟨6, 0, l.next % 65536, 0, [], 0, -1000⟩ : Msg), none, 0⟩]).toArray 49)
        have hk := ((Keeps.refl (fun _ => False) w2).drewN nq).alloc (.cells (flatM [x0, ⟨(⟨6, 0, l.next % 65536, 0, [], 0, -1000⟩ : Msg), none, 0⟩]).toArray 49)
        have hbf := hT.out.bel.trans (hk.below hT.out.bel.size (fun _ _ x => x))
        refine ⟨⟨some ⟨w2.heap.size, 0, none⟩, 2, [x0, ⟨(⟨6, 0, l.next % 65536, 0, [], 0, -1000⟩ : Msg), none, 0⟩], rfl, ⟨vals_blk hB rfl (by unfold maxLen; show 2 ≤ _; omega), ?_, fun y e => by cases e; exact hT.out.bel.size⟩, ?_⟩, hbf⟩
        · intro x hx
          simp only [List.mem_cons, List.not_mem_nil, or_false] at hx
          rcases hx with rfl | rfl
          · exact ⟨hT.out.bytes.keeps hk (fun _ _ _ => id), hT.out.new⟩
          · exact ⟨bytes_nil _, fun _ e => by simp at e⟩
        · show [x0.m, (⟨6, 0, l.next % 65536, 0, [], 0, -1000⟩ : Msg)] = talkF l _
          unfold talkF
          rw [if_pos HTK.out, hT.out.is, HQ.out]
      by_cases g3 : lead = 1000
      · subst g3
        have HQ := hid (show qualM l 1000 = ⟨6, 0, l.next % 65536, 0, [], 0, 1000⟩ from rfl)
        go_wp2_with fail
        refine wp_region_taild 10 (by kernel_rfl) (by kernel_rfl) ?_
        simp only [List.take_succ_cons, List.take_zero, List.drop_succ_cons, List.drop_zero]
        repeat (go_big_quiet_step ((go_at_call 41; exact (HO.out _).mono fun _ _ h => ⟨h.1, _, h.2.symm⟩)))
        refine wpQuiet_nil ?_
        intro _ hw'
        obtain ⟨nq, hw''⟩ := hw'
        subst hw''
        go_wp2_with fail
        go_ret
        have hB := blk_new (w2.drewN nq) (.cells (flatM [x0, ⟨(⟨6, 0, l.next % 65536, 0, [], 0, 1000⟩ : Msg), none, 0⟩]).toArray 49)
        have hk := ((Keeps.refl (fun _ => False) w2).drewN nq).alloc (.cells (flatM [x0, ⟨(⟨6, 0, l.next % 65536, 0, [], 0, 1000⟩ : Msg), none, 0⟩]).toArray 49)
        have hbf := hT.out.bel.trans (hk.below hT.out.bel.size (fun _ _ x => x))
        refine ⟨⟨some ⟨w2.heap.size, 0, none⟩, 2, [x0, ⟨(⟨6, 0, l.next % 65536, 0, [], 0, 1000⟩ : Msg), none, 0⟩], rfl, ⟨vals_blk hB rfl (by unfold maxLen; show 2 ≤ _; omega), ?_, fun y e => by cases e; exact hT.out.bel.size⟩, ?_⟩, hbf⟩
        · intro x hx
          simp only [List.mem_cons, List.not_mem_nil, or_false] at hx
          rcases hx with rfl | rfl
          · exact ⟨hT.out.bytes.keeps hk (fun _ _ _ => id), hT.out.new⟩
          · exact ⟨bytes_nil _, fun _ e => by simp at e⟩
        · show [x0.m, (⟨6, 0, l.next % 65536, 0, [], 0, 1000⟩ : Msg)] = talkF l _
          unfold talkF
          rw [if_pos HTK.out, hT.out.is, HQ.out]
      by_cases g4 : 1000 < lead
      · have HQ := hid (show qualM l lead = ⟨6, 0, l.next % 65536, 0, [], 0, 1000⟩ by unfold qualM; rw [show max (-1000) (min lead 1000) = 1000 by omega])
        go_wp2_with fail
        refine wp_region_taild 10 (by kernel_rfl) (by kernel_rfl) ?_
        simp only [List.take_succ_cons, List.take_zero, List.drop_succ_cons, List.drop_zero]
        repeat (go_big_quiet_step ((go_at_call 41; exact (HO.out _).mono fun _ _ h => ⟨h.1, _, h.2.symm⟩)))
        refine wpQuiet_nil ?_
        intro _ hw'
        obtain ⟨nq, hw''⟩ := hw'
        subst hw''
        go_wp2_with fail
        go_ret
        have hB := blk_new (w2.drewN nq) (.cells (flatM [x0, ⟨(⟨6, 0, l.next % 65536, 0, [], 0, 1000⟩ : Msg), none, 0⟩]).toArray 49)
        have hk := ((Keeps.refl (fun _ => False) w2).drewN nq).alloc (.cells (flatM [x0, ⟨(⟨6, 0, l.next % 65536, 0, [], 0, 1000⟩ : Msg), none, 0⟩]).toArray 49)
        have hbf := hT.out.bel.trans (hk.below hT.out.bel.size (fun _ _ x => x))
        refine ⟨⟨some ⟨w2.heap.size, 0, none⟩, 2, [x0, ⟨(⟨6, 0, l.next % 65536, 0, [], 0, 1000⟩ : Msg), none, 0⟩], rfl, ⟨vals_blk hB rfl (by unfold maxLen; show 2 ≤ _; omega), ?_, fun y e => by cases e; exact hT.out.bel.size⟩, ?_⟩, hbf⟩
        · intro x hx
          simp only [List.mem_cons, List.not_mem_nil, or_false] at hx
          rcases hx with rfl | rfl
          · exact ⟨hT.out.bytes.keeps hk (fun _ _ _ => id), hT.out.new⟩
          · exact ⟨bytes_nil _, fun _ e => by simp at e⟩
        · show [x0.m, (⟨6, 0, l.next % 65536, 0, [], 0, 1000⟩ : Msg)] = talkF l _
          unfold talkF
          rw [if_pos HTK.out, hT.out.is, HQ.out]
      have HQ := hid (show qualM l lead = ⟨6, 0, l.next % 65536, 0, [], 0, lead⟩ by unfold qualM; rw [show max (-1000) (min lead 1000) = lead by omega])
      have g5 : -1000 < lead := by omega
      have g6 : lead < 1000 := by omega
      clear g1 g2 g3 g4
      go_wp2_with fail
      refine wp_region_taild 10 (by kernel_rfl) (by kernel_rfl) ?_
      simp only [List.take_succ_cons, List.take_zero, List.drop_succ_cons, List.drop_zero]
      repeat (go_big_quiet_step ((go_at_call 41; exact (HO.out _).mono fun _ _ h => ⟨h.1, _, h.2.symm⟩)))
      refine wpQuiet_nil ?_
      intro _ hw'
      obtain ⟨nq, hw''⟩ := hw'
      subst hw''
      go_wp2_with fail
      go_ret
      have hB := blk_new (w2.drewN nq) (.cells (flatM [x0, ⟨(⟨6, 0, l.next % 65536, 0, [], 0, lead⟩ : Msg), none, 0⟩]).toArray 49)
      have hk := ((Keeps.refl (fun _ => False) w2).drewN nq).alloc (.cells (flatM [x0, ⟨(⟨6, 0, l.next % 65536, 0, [], 0, lead⟩ : Msg), none, 0⟩]).toArray 49)
      have hbf := hT.out.bel.trans (hk.below hT.out.bel.size (fun _ _ x => x))
      refine ⟨⟨some ⟨w2.heap.size, 0, none⟩, 2, [x0, ⟨(⟨6, 0, l.next % 65536, 0, [], 0, lead⟩ : Msg), none, 0⟩], rfl, ⟨vals_blk hB rfl (by unfold maxLen; show 2 ≤ _; omega), ?_, fun y e => by cases e; exact hT.out.bel.size⟩, ?_⟩, hbf⟩
      · intro x hx
        simp only [List.mem_cons, List.not_mem_nil, or_false] at hx
        rcases hx with rfl | rfl
        · exact ⟨hT.out.bytes.keeps hk (fun _ _ _ => id), hT.out.new⟩
        · exact ⟨bytes_nil _, fun _ e => by simp at e⟩
      · show [x0.m, (⟨6, 0, l.next % 65536, 0, [], 0, lead⟩ : Msg)] = talkF l _
        unfold talkF
        rw [if_pos HTK.out, hT.out.is, HQ.out]
    · have HTK := hid htk
      have q4 : (l.ticks % 8 != 0) = true := by simpa using htk
      have q5 : l.ticks.tmod 8 = l.ticks % 8 := Int.tmod_eq_emod_of_nonneg ht.1
      clear htk
      go_wp2_with fail
      go_ret
      have hB := blk_new w2 (.cells (flatM [x0]).toArray 49)
      have hk := (Keeps.refl (fun _ => False) w2).alloc (.cells (flatM [x0]).toArray 49)
      have hbf := hT.out.bel.trans (hk.below hT.out.bel.size (fun _ _ x => x))
      refine ⟨⟨some ⟨w2.heap.size, 0, none⟩, 1, [x0], rfl, ⟨vals_blk hB rfl (by unfold maxLen; show 1 ≤ _; omega), ?_, fun y e => by cases e; exact hT.out.bel.size⟩, ?_⟩, hbf⟩
      · intro x hx
        simp only [List.mem_cons, List.not_mem_nil, or_false] at hx
        subst hx
        exact ⟨hT.out.bytes.keeps hk (fun _ _ _ => id), hT.out.new⟩
      · show [x0.m] = talkF l lead
        unfold talkF
        rw [if_neg HTK.out, hT.out.is]
  · have hul : (u8I l.own).length = l.own.length := by simp [u8I]
    have hpos : 0 < l.own.length := List.length_pos_iff.2 ho
    have hLen := fun w' (hw : Below w.heap.size w w') => is_Len (H.out.below hw).own
    rw [hul] at hLen
    have HLen := hid hLen
    clear hLen
    go_enter Try.func53, Try.ntmps53
    go_wp2_with fail
    refine (serial_Of _ _).mono ?_
    rintro e _ ⟨rfl, rfl⟩
    go_wp2_with fail
    have hbe := (Below.refl w.heap.size w).alloc (Nat.le_refl _) (.cells (mvC ⟨⟨5, 0, 0, l.next % 65536, [], 0, 0⟩, none, 0⟩) 49)
    have hX := blk_new w (.cells (mvC ⟨⟨5, 0, 0, l.next % 65536, [], 0, 0⟩, none, 0⟩) 49)
    have H2 := H.out.below hbe
    have hL2 := HLen.out _ hbe
    unfold mvC at hX H2 hL2 hbe
    simp only [List.length_nil] at hX H2 hL2 hbe
    clear c4 c6 c7 c8 HLen
    refine hL2.mono ?_
    rintro e w1 ⟨rfl, hw1⟩
    rw [hw1] at hX H2 hbe
    clear hL2 hw1
    have c6 := H2.c6
    have c7 := H2.c7
    have z6 := keptS_cell (S := fun _ => False) (w := w1.drew) (p := ⟨B.p, 6, none⟩) c6 id
    have z7 := keptS_cell (S := fun _ => False) (w := w1.drew) (p := ⟨B.p, 7, none⟩) c7 id
    go_wp2_with fail
    refine stages_start (by kernel_rfl) 16 rfl ?_
    have hdr : w1.drew = w1.drewN 1 := rfl
    refine stagek (fun _ => False) [0, 1, 2, 3, 5, 6, 7, 8, 10] [4, 9] 5 rfl #[true, true, true, true, true, true, true, true, true, true, true, false, false, false, false, false] (by kernel_rfl) (by kernel_rfl) (fun _ _ _ d _ h => by first | (cases d <;> exact h) | cases h.1) ?_
    simp only [opsAt, List.map_cons, List.map_nil, List.getElem?_toArray, List.getElem?_cons_zero, List.getElem?_cons_succ, Option.getD_some]
    repeat (go_big_quiet_step (fail))
    refine wpQuiet_nil ?_
    refine links_cons (by first | rfl | simp [go_sem]) (fun K hK => ?_)
    go_simp
    refine (serial_Of _ _).mono ?_
    rintro e _ ⟨rfl, rfl⟩
    refine hK _ _ (keptS (Keeps.refl _ _)) ?_
    clear hK K
    try refine links_nil ?_
    refine links_cons (by first | rfl | simp [go_sem]) (fun K hK => ?_)
    go_simp
    refine (is_List (H2.drew 1).own).mono ?_
    rintro e w4 ⟨a4, c4', rfl, hV4, hN4, hb4⟩
    have hk4 : Keeps (fun _ => False) w1.drew w4 := Keeps.of_below hb4 (fun k h1 h2 => by rw [hdr] at h1; omega)
    refine hK _ _ (keptS (hk4)) ?_
    clear hK K
    try refine links_nil ?_
    have hk5 : Keeps (fun _ => False) w1 w4 := ((Keeps.refl _ w1).drew).trans hk4
    have hX4 := hk5.heap hX id
    have H4 := H2.keeps hk5 (fun _ _ => id)
    have hbf := hbe.trans (hk5.below hbe.size (fun _ _ x => x))
    have f0 := blk_free hX4 0
    have f2 := blk_free hX4 2
    have f4 := blk_free hX4 4
    have g0 : w4.cell? ⟨w.heap.size, 0, none⟩ = some (.int .i64 5) := blk_cell hX4 rfl
    have g2 : w4.cell? ⟨w.heap.size, 2, none⟩ = some (.int .u16 0) := blk_cell hX4 rfl
    have g4 : w4.cell? ⟨w.heap.size, 4, none⟩ = some (.slice none 0 0) := blk_cell hX4 rfl
    refine stagek (fun _ => True) [] [11, 12, 13, 14, 15] 0 rfl #[true, true, true, true, true, true, true, true, true, true, true, true, true, true, true, true] (by kernel_rfl) (by kernel_rfl) (fun _ _ _ d _ h => by first | (cases d <;> exact h) | cases h.1) ?_
    simp only [opsAt, List.map_cons, List.map_nil, List.getElem?_toArray, List.getElem?_cons_zero, List.getElem?_cons_succ, Option.getD_some]
    repeat (go_big_quiet_step (fail))
    refine wpQuiet_nil ?_
    refine links_cons (by first | rfl | simp [go_sem]) (fun K hK => ?_)
    go_simp
    refine hK _ _ (keptS ((Keeps.refl (fun _ => True) _).setCell trivial _)) ?_
    clear hK K
    try refine links_nil ?_
    refine links_cons (by first | rfl | simp [go_sem]) (fun K hK => ?_)
    go_simp
    refine hK _ _ (keptS ((Keeps.refl (fun _ => True) _).setCell trivial _)) ?_
    clear hK K
    try refine links_nil ?_
    refine links_cons (by first | rfl | simp [go_sem]) (fun K hK => ?_)
    go_simp
    refine hK _ _ (keptS (((Keeps.refl (fun _ => True) _).setCell trivial _).setCell trivial _)) ?_
    clear hK K
    try refine links_nil ?_
    refine links_cons (by first | rfl | simp [go_sem]) (fun K hK => ?_)
    go_simp
    refine hK _ _ (keptS (((Keeps.refl (fun _ => True) _).setCell trivial _).setCell trivial _)) ?_
    clear hK K
    try refine links_nil ?_
    refine links_cons (by first | rfl | simp [go_sem]) (fun K hK => ?_)
    go_simp
    refine hK _ _ (keptS ((((Keeps.refl (fun _ => True) _).setCell trivial _).setCell trivial _).setCell trivial _)) ?_
    clear hK K
    try refine links_nil ?_
    refine stages_end (by kernel_rfl) ?_
    have hX5 := blk_set (blk_set (blk_set hX4 0 (.int .i64 3)) 2 (.int .u16 (l.acked % 65536))) 4 (.slice a4 l.own.length c4')
    have hk6 : Keeps (fun b => b = w.heap.size) w4 (((w4.setCell ⟨w.heap.size, 0, none⟩ (.int .i64 3)).setCell ⟨w.heap.size, 2, none⟩ (.int .u16 (l.acked % 65536))).setCell ⟨w.heap.size, 4, none⟩ (.slice a4 l.own.length c4')) :=
      Keeps.setCell (S := fun b => b = w.heap.size) (Keeps.setCell (S := fun b => b = w.heap.size) (Keeps.setCell (S := fun b => b = w.heap.size) (Keeps.refl _ w4) (p := ⟨w.heap.size, 0, none⟩) rfl _) (p := ⟨w.heap.size, 2, none⟩) rfl _) (p := ⟨w.heap.size, 4, none⟩) rfl _
    have hB4 := bytes_of_vals hV4
    have hs1 : w1.heap.size ≤ w4.heap.size := hk5.size
    have hlt1 : w.heap.size < w1.heap.size := blk_lt hX
    have hN5 : ∀ y, a4 = some y → w1.heap.size ≤ y.block := hN4
    have hT := hid (show TkSt w (((w4.setCell ⟨w.heap.size, 0, none⟩ (.int .i64 3)).setCell ⟨w.heap.size, 2, none⟩ (.int .u16 (l.acked % 65536))).setCell ⟨w.heap.size, 4, none⟩ (.slice a4 l.own.length c4')) l ⟨⟨3, 0, l.acked % 65536, l.next % 65536, l.own, 0, 0⟩, a4, c4'⟩ from
      ⟨hB4.keeps hk6 (fun _ y e h => by have := hN5 y e; have h : y.block = w.heap.size := h; omega), fun y e => by have := hN5 y e; omega, by show _ = talkM l; unfold talkM; rw [if_neg ho], hbf.trans (hk6.below hbf.size (fun k h1 h2 => by omega))⟩)
    have H5 := H4.keeps hk6 (fun b hb h => by
      have h : b = w.heap.size := h
      rcases hb with e | e | e | e | e <;> omega)
    change Exit.then _ _ _ _ (((w4.setCell ⟨w.heap.size, 0, none⟩ (.int .i64 3)).setCell ⟨w.heap.size, 2, none⟩ (.int .u16 (l.acked % 65536))).setCell ⟨w.heap.size, 4, none⟩ (.slice a4 l.own.length c4'))
    clear f0 f2 f4 g0 g2 g4 hX4 hX H4 H2 hk6 hk5 hk4 hV4 hN4 hb4 hB4 z6 z7 c6 c7 hbf hbe
    generalize ((w4.setCell ⟨w.heap.size, 0, none⟩ (.int .i64 3)).setCell ⟨w.heap.size, 2, none⟩ (.int .u16 (l.acked % 65536))).setCell ⟨w.heap.size, 4, none⟩ (.slice a4 l.own.length c4') = w2 at *
    have H2 := H5
    clear H5
    generalize hx0 : (⟨⟨3, 0, l.acked % 65536, l.next % 65536, l.own, 0, 0⟩, a4, c4'⟩ : MV) = x0 at *
    have hX : w2.heap[w.heap.size]? = some (.cells (mvC x0) 49 (0, 0)) := by rw [← hx0]; exact hX5
    clear hx0 hX5
    have y0 : w2.cell? ⟨w.heap.size, 0, none⟩ = some (.int .i64 x0.m.kind) := blk_cell hX rfl
    have y1 : w2.cell? ⟨w.heap.size, 1, none⟩ = some (.int .u32 x0.m.nonce) := blk_cell hX rfl
    have y2 : w2.cell? ⟨w.heap.size, 2, none⟩ = some (.int .u16 x0.m.serial) := blk_cell hX rfl
    have y3 : w2.cell? ⟨w.heap.size, 3, none⟩ = some (.int .u16 x0.m.ack) := blk_cell hX rfl
    have y4 : w2.cell? ⟨w.heap.size, 4, none⟩ = some (.slice x0.a x0.m.ins.length x0.c) := blk_cell hX rfl
    have y5 : w2.cell? ⟨w.heap.size, 5, none⟩ = some (.int .u32 x0.m.sum) := blk_cell hX rfl
    have y6 : w2.cell? ⟨w.heap.size, 6, none⟩ = some (.int .i64 x0.m.lead) := blk_cell hX rfl
    have c4 := H2.c4
    have c8 := H2.c8
    have hof := fun n => serial_Of l.next (w2.drewN n)
    have HO := hid hof
    clear hof
    by_cases htk : l.ticks % 8 = 0
    · have HTK := hid htk
      have q4 : (l.ticks % 8 != 0) = false := by simp [htk]
      have q5 : l.ticks.tmod 8 = l.ticks % 8 := Int.tmod_eq_emod_of_nonneg ht.1
      clear htk
      by_cases g1 : lead < -1000
      · have HQ := hid (show qualM l lead = ⟨6, 0, l.next % 65536, 0, [], 0, -1000⟩ by unfold qualM; rw [show max (-1000) (min lead 1000) = -1000 by omega])
        go_wp2_with fail
        refine wp_region_taild 10 (by kernel_rfl) (by kernel_rfl) ?_
        simp only [List.take_succ_cons, List.take_zero, List.drop_succ_cons, List.drop_zero]
        repeat (go_big_quiet_step ((go_at_call 41; exact (HO.out _).mono fun _ _ h => ⟨h.1, _, h.2.symm⟩)))
        refine wpQuiet_nil ?_
        intro _ hw'
        obtain ⟨nq, hw''⟩ := hw'
        subst hw''
        go_wp2_with fail
        go_ret
        have hB := blk_new (w2.drewN nq) (.cells (flatM [x0, ⟨(⟨6, 0, l.next % 65536, 0, [], 0, -1000⟩ : Msg), none, 0⟩]).toArray 49)
        have hk := ((Keeps.refl (fun _ => False) w2).drewN nq).alloc (.cells (flatM [x0, ⟨(⟨6, 0, l.next % 65536, 0, [], 0, -1000⟩ : Msg), none, 0⟩]).toArray 49)
        have hbf := hT.out.bel.trans (hk.below hT.out.bel.size (fun _ _ x => x))
        refine ⟨⟨some ⟨w2.heap.size, 0, none⟩, 2, [x0, ⟨(⟨6, 0, l.next % 65536, 0, [], 0, -1000⟩ : Msg), none, 0⟩], rfl, ⟨vals_blk hB rfl (by unfold maxLen; show 2 ≤ _; omega), ?_, fun y e => by cases e; exact hT.out.bel.size⟩, ?_⟩, hbf⟩
        · intro x hx
          simp only [List.mem_cons, List.not_mem_nil, or_false] at hx
          rcases hx with rfl | rfl
          · exact ⟨hT.out.bytes.keeps hk (fun _ _ _ => id), hT.out.new⟩
          · exact ⟨bytes_nil _, fun _ e => by simp at e⟩
        · show [x0.m, (⟨6, 0, l.next % 65536, 0, [], 0, -1000⟩ : Msg)] = talkF l _
          unfold talkF
          rw [if_pos HTK.out, hT.out.is, HQ.out]
      by_cases g2 : lead = -1000
      · subst g2
        have HQ := hid (show qualM l (-1000) = ⟨6, 0, l.next % 65536, 0, [], 0, -1000⟩ from rfl)
        go_wp2_with fail
        refine wp_region_taild 10 (by kernel_rfl) (by kernel_rfl) ?_
        simp only [List.take_succ_cons, List.take_zero, List.drop_succ_cons, List.drop_zero]
        repeat (go_big_quiet_step ((go_at_call 41; exact (HO.out _).mono fun _ _ h => ⟨h.1, _, h.2.symm⟩)))
        refine wpQuiet_nil ?_
        intro _ hw'
        obtain ⟨nq, hw''⟩ := hw'
        subst hw''
        go_wp2_with fail
        go_ret
        have hB := blk_new (w2.drewN nq) (.cells (flatM [x0, ⟨(⟨6, 0, l.next % 65536, 0, [], 0, -1000⟩ : Msg), none, 0⟩]).toArray 49)
        have hk := ((Keeps.refl (fun _ => False) w2).drewN nq).alloc (.cells (flatM [x0, ⟨(⟨6, 0, l.next % 65536, 0, [], 0, -1000⟩ : Msg), none, 0⟩]).toArray 49)
        have hbf := hT.out.bel.trans (hk.below hT.out.bel.size (fun _ _ x => x))
        refine ⟨⟨some ⟨w2.heap.size, 0, none⟩, 2, [x0, ⟨(⟨6, 0, l.next % 65536, 0, [], 0, -1000⟩ : Msg), none, 0⟩], rfl, ⟨vals_blk hB rfl (by unfold maxLen; show 2 ≤ _; omega), ?_, fun y e => by cases e; exact hT.out.bel.size⟩, ?_⟩, hbf⟩
        · intro x hx
          simp only [List.mem_cons, List.not_mem_nil, or_false] at hx
          rcases hx with rfl | rfl
          · exact ⟨hT.out.bytes.keeps hk (fun _ _ _ => id), hT.out.new⟩
          · exact ⟨bytes_nil _, fun _ e => by simp at e⟩
        · show [x0.m, (⟨6, 0, l.next % 65536, 0, [], 0, -1000⟩ : Msg)] = talkF l _
          unfold talkF
          rw [if_pos HTK.out, hT.out.is, HQ.out]
      by_cases g3 : lead = 1000
      · subst g3
        have HQ := hid (show qualM l 1000 = ⟨6, 0, l.next % 65536, 0, [], 0, 1000⟩ from rfl)
        go_wp2_with fail
        refine wp_region_taild 10 (by kernel_rfl) (by kernel_rfl) ?_
        simp only [List.take_succ_cons, List.take_zero, List.drop_succ_cons, List.drop_zero]
        repeat (go_big_quiet_step ((go_at_call 41; exact (HO.out _).mono fun _ _ h => ⟨h.1, _, h.2.symm⟩)))
        refine wpQuiet_nil ?_
        intro _ hw'
        obtain ⟨nq, hw''⟩ := hw'
        subst hw''
        go_wp2_with fail
        go_ret
        have hB := blk_new (w2.drewN nq) (.cells (flatM [x0, ⟨(⟨6, 0, l.next % 65536, 0, [], 0, 1000⟩ : Msg), none, 0⟩]).toArray 49)
        have hk := ((Keeps.refl (fun _ => False) w2).drewN nq).alloc (.cells (flatM [x0, ⟨(⟨6, 0, l.next % 65536, 0, [], 0, 1000⟩ : Msg), none, 0⟩]).toArray 49)
        have hbf := hT.out.bel.trans (hk.below hT.out.bel.size (fun _ _ x => x))
        refine ⟨⟨some ⟨w2.heap.size, 0, none⟩, 2, [x0, ⟨(⟨6, 0, l.next % 65536, 0, [], 0, 1000⟩ : Msg), none, 0⟩], rfl, ⟨vals_blk hB rfl (by unfold maxLen; show 2 ≤ _; omega), ?_, fun y e => by cases e; exact hT.out.bel.size⟩, ?_⟩, hbf⟩
        · intro x hx
          simp only [List.mem_cons, List.not_mem_nil, or_false] at hx
          rcases hx with rfl | rfl
          · exact ⟨hT.out.bytes.keeps hk (fun _ _ _ => id), hT.out.new⟩
          · exact ⟨bytes_nil _, fun _ e => by simp at e⟩
        · show [x0.m, (⟨6, 0, l.next % 65536, 0, [], 0, 1000⟩ : Msg)] = talkF l _
          unfold talkF
          rw [if_pos HTK.out, hT.out.is, HQ.out]
      by_cases g4 : 1000 < lead
      · have HQ := hid (show qualM l lead = ⟨6, 0, l.next % 65536, 0, [], 0, 1000⟩ by unfold qualM; rw [show max (-1000) (min lead 1000) = 1000 by omega])
        go_wp2_with fail
        refine wp_region_taild 10 (by kernel_rfl) (by kernel_rfl) ?_
        simp only [List.take_succ_cons, List.take_zero, List.drop_succ_cons, List.drop_zero]
        repeat (go_big_quiet_step ((go_at_call 41; exact (HO.out _).mono fun _ _ h => ⟨h.1, _, h.2.symm⟩)))
        refine wpQuiet_nil ?_
        intro _ hw'
        obtain ⟨nq, hw''⟩ := hw'
        subst hw''
        go_wp2_with fail
        go_ret
        have hB := blk_new (w2.drewN nq) (.cells (flatM [x0, ⟨(⟨6, 0, l.next % 65536, 0, [], 0, 1000⟩ : Msg), none, 0⟩]).toArray 49)
        have hk := ((Keeps.refl (fun _ => False) w2).drewN nq).alloc (.cells (flatM [x0, ⟨(⟨6, 0, l.next % 65536, 0, [], 0, 1000⟩ : Msg), none, 0⟩]).toArray 49)
        have hbf := hT.out.bel.trans (hk.below hT.out.bel.size (fun _ _ x => x))
        refine ⟨⟨some ⟨w2.heap.size, 0, none⟩, 2, [x0, ⟨(⟨6, 0, l.next % 65536, 0, [], 0, 1000⟩ : Msg), none, 0⟩], rfl, ⟨vals_blk hB rfl (by unfold maxLen; show 2 ≤ _; omega), ?_, fun y e => by cases e; exact hT.out.bel.size⟩, ?_⟩, hbf⟩
        · intro x hx
          simp only [List.mem_cons, List.not_mem_nil, or_false] at hx
          rcases hx with rfl | rfl
          · exact ⟨hT.out.bytes.keeps hk (fun _ _ _ => id), hT.out.new⟩
          · exact ⟨bytes_nil _, fun _ e => by simp at e⟩
        · show [x0.m, (⟨6, 0, l.next % 65536, 0, [], 0, 1000⟩ : Msg)] = talkF l _
          unfold talkF
          rw [if_pos HTK.out, hT.out.is, HQ.out]
      have HQ := hid (show qualM l lead = ⟨6, 0, l.next % 65536, 0, [], 0, lead⟩ by unfold qualM; rw [show max (-1000) (min lead 1000) = lead by omega])
      have g5 : -1000 < lead := by omega
      have g6 : lead < 1000 := by omega
      clear g1 g2 g3 g4
      go_wp2_with fail
      refine wp_region_taild 10 (by kernel_rfl) (by kernel_rfl) ?_
      simp only [List.take_succ_cons, List.take_zero, List.drop_succ_cons, List.drop_zero]
      repeat (go_big_quiet_step ((go_at_call 41; exact (HO.out _).mono fun _ _ h => ⟨h.1, _, h.2.symm⟩)))
      refine wpQuiet_nil ?_
      intro _ hw'
      obtain ⟨nq, hw''⟩ := hw'
      subst hw''
      go_wp2_with fail
      go_ret
      have hB := blk_new (w2.drewN nq) (.cells (flatM [x0, ⟨(⟨6, 0, l.next % 65536, 0, [], 0, lead⟩ : Msg), none, 0⟩]).toArray 49)
      have hk := ((Keeps.refl (fun _ => False) w2).drewN nq).alloc (.cells (flatM [x0, ⟨(⟨6, 0, l.next % 65536, 0, [], 0, lead⟩ : Msg), none, 0⟩]).toArray 49)
      have hbf := hT.out.bel.trans (hk.below hT.out.bel.size (fun _ _ x => x))
      refine ⟨⟨some ⟨w2.heap.size, 0, none⟩, 2, [x0, ⟨(⟨6, 0, l.next % 65536, 0, [], 0, lead⟩ : Msg), none, 0⟩], rfl, ⟨vals_blk hB rfl (by unfold maxLen; show 2 ≤ _; omega), ?_, fun y e => by cases e; exact hT.out.bel.size⟩, ?_⟩, hbf⟩
      · intro x hx
        simp only [List.mem_cons, List.not_mem_nil, or_false] at hx
        rcases hx with rfl | rfl
        · exact ⟨hT.out.bytes.keeps hk (fun _ _ _ => id), hT.out.new⟩
        · exact ⟨bytes_nil _, fun _ e => by simp at e⟩
      · show [x0.m, (⟨6, 0, l.next % 65536, 0, [], 0, lead⟩ : Msg)] = talkF l _
        unfold talkF
        rw [if_pos HTK.out, hT.out.is, HQ.out]
    · have HTK := hid htk
      have q4 : (l.ticks % 8 != 0) = true := by simpa using htk
      have q5 : l.ticks.tmod 8 = l.ticks % 8 := Int.tmod_eq_emod_of_nonneg ht.1
      clear htk
      go_wp2_with fail
      go_ret
      have hB := blk_new w2 (.cells (flatM [x0]).toArray 49)
      have hk := (Keeps.refl (fun _ => False) w2).alloc (.cells (flatM [x0]).toArray 49)
      have hbf := hT.out.bel.trans (hk.below hT.out.bel.size (fun _ _ x => x))
      refine ⟨⟨some ⟨w2.heap.size, 0, none⟩, 1, [x0], rfl, ⟨vals_blk hB rfl (by unfold maxLen; show 1 ≤ _; omega), ?_, fun y e => by cases e; exact hT.out.bel.size⟩, ?_⟩, hbf⟩
      · intro x hx
        simp only [List.mem_cons, List.not_mem_nil, or_false] at hx
        subst hx
        exact ⟨hT.out.bytes.keeps hk (fun _ _ _ => id), hT.out.new⟩
      · show [x0.m] = talkF l lead
        unfold talkF
        rw [if_neg HTK.out, hT.out.is]
end Go.Proofs.Ytaobhbfhbmenfaa
