/- freeze: the codec that writes. -/
import Derived.Test.YtfepefohaadecaaTree
import Derived.Test.YtfepefohaadecaaBlk
import Derived.Test.YtfepefohaadecaaRelAt
import Derived.Test.YtfepefohaadecaaStrs
import Derived.Test.YtfepefohaadecaaSigned
namespace Go.Proofs.Ytfepefohaadecaa
open Go.RowKit
set_option maxRecDepth 10000
variable {w : World}
/-- the bytes written so far -/
def IsWr (w : World) (r : Nat) (S : List UInt8) : Prop := w.heap[r]? = some (.cells #[.string ⟨S.toArray⟩] 84 (0, 0))
theorem set_same {cs : Array Value} {o : Nat} {v : Value} (h : cs[o]? = some v) : cs.setIfInBounds o v = cs := by
  apply Array.ext_getElem?
  intro k
  by_cases hk : k = o
  · subst hk
    have := (Array.getElem?_eq_some_iff.1 h).1
    rw [Array.getElem?_setIfInBounds_self_of_lt this, h]
  · rw [Array.getElem?_setIfInBounds_ne (fun e => hk e.symm)]
theorem wr_number (r B o : Nat) (S : List UInt8) (cs : Array Value) (t : TypeId) (n : Nat) (h : IsWr w r S) (hB : w.heap[B]? = some (.cells cs t (0, 0))) (hne : B ≠ r) (hc : cs[o]? = some (.int .i64 (n : Int))) (hn : n ≤ 9223372036854775807) (hs : S.length + 10 ≤ 9223372036854775807) :
    Calls Try.prog 162 #[.pointer (some ⟨r, 0, none⟩), .pointer (some ⟨B, o, none⟩)] w fun e w' => e = .returned (.tuple #[]) ∧ IsWr w' r (S ++ num n) ∧ w'.heap[B]? = some (.cells cs t (0, 0)) ∧ Keeps (fun b => b = r) w w' := by
  have h0 := keptS_cell (S := fun _ => False) (w := w.drew) (p := ⟨r, 0, none⟩) (blk_cell h rfl) id
  have h1 := keptS_cell (S := fun _ => False) (w := w.drew) (p := ⟨B, o, none⟩) (blk_cell hB hc) id
  have e : IntKind.u64.wrap (n : Int) = (n : Int) := by rw [wrap_u64]; omega
  have hl := num_len10 n (by unfold two64; omega)
  have hsum := fun w => add_strings w S (num n) (by omega)
  have hN := fun w => pack_Number n (by unfold two64; omega) w
  generalize num n = L at *
  have Hl := hid hl
  clear hl hn
  go_enter Try.func162, Try.ntmps162
  go_wp2_with fail
  refine stages_start (by kernel_rfl) 13 rfl ?_
  refine stagek (fun _ => False) [0, 1, 2, 3, 4, 5, 6, 7] [8, 9] 3 rfl #[true, true, true, true, true, true, true, true, true, true, false, false, false] (by kernel_rfl) (by kernel_rfl) (fun _ _ _ d _ h => by cases d <;> exact h) ?_
  simp only [opsAt, List.map_cons, List.map_nil, List.getElem?_toArray, List.getElem?_cons_zero, List.getElem?_cons_succ, Option.getD_some]
  repeat (go_big_quiet_step (fail))
  refine wpQuiet_nil ?_
  refine links_cons (by first | rfl | simp [go_sem]) (fun K hK => ?_)
  go_simp
  refine (hN _).mono ?_
  rintro e1 w1 ⟨rfl, hb⟩
  have hk : Keeps (fun _ => False) w.drew w1 := Keeps.of_below hb (fun k h1 h2 => by omega)
  refine hK _ _ (keptS (hk)) ?_
  clear hK K
  try refine links_nil ?_
  refine links_cons (by first | rfl | simp [go_sem]) (fun K hK => ?_)
  go_simp
  refine hK _ _ (keptS (hk)) ?_
  clear hK K
  try refine links_nil ?_
  have hr1 : w1.heap[r]? = some (.cells #[.string ⟨S.toArray⟩] 84 (0, 0)) := hk.heap h id
  have hB1 := hk.heap hB id
  have hk' : Keeps (fun b => b = r) w w1 := ⟨hk.os, hk.tape, hk.output, hk.size, fun k h _ => hk.block k h id⟩
  have y0 := blk_cell hr1 (k := 0) rfl
  have y1 := blk_free hr1 0
  refine stagek (fun _ => False) [10, 11] [] 1 rfl #[true, true, true, true, true, true, true, true, true, true, true, true, false] (by kernel_rfl) (by kernel_rfl) (fun _ _ _ d _ h => by cases d <;> exact h) ?_
  simp only [opsAt, List.map_cons, List.map_nil, List.getElem?_toArray, List.getElem?_cons_zero, List.getElem?_cons_succ, Option.getD_some]
  repeat (go_big_quiet_step (fail))
  refine wpQuiet_nil ?_
  refine links_nil ?_
  refine stagek (fun _ => True) [] [12] 0 rfl #[true, true, true, true, true, true, true, true, true, true, true, true, true] (by kernel_rfl) (by kernel_rfl) (fun _ _ _ d _ h => by cases d <;> exact h) ?_
  simp only [opsAt, List.map_cons, List.map_nil, List.getElem?_toArray, List.getElem?_cons_zero, List.getElem?_cons_succ, Option.getD_some]
  repeat (go_big_quiet_step (fail))
  refine wpQuiet_nil ?_
  refine links_cons (by first | rfl | simp [go_sem]) (fun K hK => ?_)
  go_simp
  refine hK _ _ (keptS ((Keeps.refl _ w1).setCell trivial _)) ?_
  clear hK K
  try refine links_nil ?_
  refine stages_end (by kernel_rfl) ?_
  go_wp2
  refine bodyPost_end (v := .tuple #[]) (by first | rfl | simp [results, go_sem]) rfl ?_
  exact ⟨rfl, by have := blk_set hr1 0 (.string ⟨(S ++ L).toArray⟩); simpa [IsWr] using this, blk_other hB1 hne _, hk'.setCell (p := ⟨r, 0, none⟩) rfl _⟩
theorem wr_signed (r B o : Nat) (S : List UInt8) (cs : Array Value) (t : TypeId) (n : Int) (h : IsWr w r S) (hB : w.heap[B]? = some (.cells cs t (0, 0))) (hne : B ≠ r) (hc : cs[o]? = some (.int .i32 n)) (hn : -2147483648 ≤ n ∧ n ≤ 2147483647) (hs : S.length + 10 ≤ 9223372036854775807) :
    Calls Try.prog 163 #[.pointer (some ⟨r, 0, none⟩), .pointer (some ⟨B, o, none⟩)] w fun e w' => e = .returned (.tuple #[]) ∧ IsWr w' r (S ++ num (zz n)) ∧ w'.heap[B]? = some (.cells cs t (0, 0)) ∧ Keeps (fun b => b = r) w w' := by
  have h0 := keptS_cell (S := fun _ => False) (w := w.drew) (p := ⟨r, 0, none⟩) (blk_cell h rfl) id
  have h1 := keptS_cell (S := fun _ => False) (w := w.drew) (p := ⟨B, o, none⟩) (blk_cell hB hc) id
  have e : IntKind.i64.wrap n = n := IntWalk.i64_in _ (by omega)
  have hl := num_len10 (zz n) (by unfold two64 zz; split <;> omega)
  have hsum := fun w => add_strings w S (num (zz n)) (by omega)
  have hN := fun w => pack_Signed n (by omega) w
  generalize num (zz n) = L at *
  have Hl := hid hl
  clear hl hn
  go_enter Try.func163, Try.ntmps163
  go_wp2_with fail
  refine stages_start (by kernel_rfl) 13 rfl ?_
  refine stagek (fun _ => False) [0, 1, 2, 3, 4, 5, 6, 7] [8, 9] 3 rfl #[true, true, true, true, true, true, true, true, true, true, false, false, false] (by kernel_rfl) (by kernel_rfl) (fun _ _ _ d _ h => by cases d <;> exact h) ?_
  simp only [opsAt, List.map_cons, List.map_nil, List.getElem?_toArray, List.getElem?_cons_zero, List.getElem?_cons_succ, Option.getD_some]
  repeat (go_big_quiet_step (fail))
  refine wpQuiet_nil ?_
  refine links_cons (by first | rfl | simp [go_sem]) (fun K hK => ?_)
  go_simp
  refine (hN _).mono ?_
  rintro e1 w1 ⟨rfl, hb⟩
  have hk : Keeps (fun _ => False) w.drew w1 := Keeps.of_below hb (fun k h1 h2 => by omega)
  refine hK _ _ (keptS (hk)) ?_
  clear hK K
  try refine links_nil ?_
  refine links_cons (by first | rfl | simp [go_sem]) (fun K hK => ?_)
  go_simp
  refine hK _ _ (keptS (hk)) ?_
  clear hK K
  try refine links_nil ?_
  have hr1 : w1.heap[r]? = some (.cells #[.string ⟨S.toArray⟩] 84 (0, 0)) := hk.heap h id
  have hB1 := hk.heap hB id
  have hk' : Keeps (fun b => b = r) w w1 := ⟨hk.os, hk.tape, hk.output, hk.size, fun k h _ => hk.block k h id⟩
  have y0 := blk_cell hr1 (k := 0) rfl
  have y1 := blk_free hr1 0
  refine stagek (fun _ => False) [10, 11] [] 1 rfl #[true, true, true, true, true, true, true, true, true, true, true, true, false] (by kernel_rfl) (by kernel_rfl) (fun _ _ _ d _ h => by cases d <;> exact h) ?_
  simp only [opsAt, List.map_cons, List.map_nil, List.getElem?_toArray, List.getElem?_cons_zero, List.getElem?_cons_succ, Option.getD_some]
  repeat (go_big_quiet_step (fail))
  refine wpQuiet_nil ?_
  refine links_nil ?_
  refine stagek (fun _ => True) [] [12] 0 rfl #[true, true, true, true, true, true, true, true, true, true, true, true, true] (by kernel_rfl) (by kernel_rfl) (fun _ _ _ d _ h => by cases d <;> exact h) ?_
  simp only [opsAt, List.map_cons, List.map_nil, List.getElem?_toArray, List.getElem?_cons_zero, List.getElem?_cons_succ, Option.getD_some]
  repeat (go_big_quiet_step (fail))
  refine wpQuiet_nil ?_
  refine links_cons (by first | rfl | simp [go_sem]) (fun K hK => ?_)
  go_simp
  refine hK _ _ (keptS ((Keeps.refl _ w1).setCell trivial _)) ?_
  clear hK K
  try refine links_nil ?_
  refine stages_end (by kernel_rfl) ?_
  go_wp2
  refine bodyPost_end (v := .tuple #[]) (by first | rfl | simp [results, go_sem]) rfl ?_
  exact ⟨rfl, by have := blk_set hr1 0 (.string ⟨(S ++ L).toArray⟩); simpa [IsWr] using this, blk_other hB1 hne _, hk'.setCell (p := ⟨r, 0, none⟩) rfl _⟩
end Go.Proofs.Ytfepefohaadecaa
