/- A window at uint8, its slots not told apart. -/
import Derived.Test.YtfepefohaadecaaMay
namespace Go.Proofs.Ytfepefohaadecaa
open Go.RowKit
set_option maxRecDepth 10000
theorem info_slotB : ((Try.prog.info? 247).map fun i => (i.zero.map fun z => z.cells.size, i.size, i.bytes)) = some (some 2, 2, 2) := by kernel_rfl
structure WinB (w : World) (r B size first : Nat) (cs : Array Value) : Prop where
  head : w.heap[r]? = some (.cells #[.int .i64 (first : Nat), .slice (some ⟨B, 0, none⟩) size size] 243 (0, 0))
  body : w.heap[B]? = some (.cells cs 247 (0, 0))
  csz : cs.size = size * 2
  pos : 0 < size
  most : size ≤ 4096
  ne : r ≠ B
section
variable {w w' : World} {r B size first : Nat} {cs : Array Value}
theorem WinB.keeps {S : Nat → Prop} (h : WinB w r B size first cs) (hk : Keeps S w w') (h1 : ¬ S r) (h2 : ¬ S B) : WinB w' r B size first cs := ⟨hk.heap h.head h1, hk.heap h.body h2, h.csz, h.pos, h.most, h.ne⟩
theorem winB_Open (size : Nat) (h1 : 1 ≤ size) (h2 : size ≤ 4096) (w : World) :
    Calls Try.prog 116 #[.int .i64 size, .int .i64 0] w fun e w' => e = .returned (.tuple #[.pointer (some ⟨w.heap.size + 1, 0, none⟩), .int .i64 0]) ∧ (∃ cs, WinB w' (w.heap.size + 1) w.heap.size size 0 cs) ∧ Below w.heap.size w w' ∧ w'.heap.size = w.heap.size + 2 := by
  obtain ⟨i0, hi, hz0, hz1, hz2⟩ : ∃ i, Try.prog.info? 247 = some i ∧ (i.zero.map fun z => z.cells.size) = some 2 ∧ i.size = 2 ∧ i.bytes = 2 := by
    have h := info_slotB
    cases hh : Try.prog.info? 247 with
    | none => rw [hh] at h; cases h
    | some i => rw [hh] at h; simp only [Option.map_some, Option.some.injEq, Prod.mk.injEq] at h; exact ⟨i, rfl, h.1, h.2.1, h.2.2⟩
  obtain ⟨z, hz⟩ : ∃ z, i0.zero = some z := by
    cases hh : i0.zero with
    | none => rw [hh] at hz0; cases hz0
    | some z => exact ⟨z, rfl⟩
  have hd : decide (1 ≤ (size : Int) ∧ (size : Int) ≤ 4096) = true := by simp; omega
  have hmk := run_make (P := Try.prog) w 241 247 i0 z Try.underlying241 hi hz .i64 .i64 size size (by omega) (Int.le_refl _) (by rw [hz2]; omega) (by omega)
  rw [hz1, Int.toNat_natCast] at hmk
  have hcs := size_madeCells z.cells (size * 2)
  generalize madeCells z.cells (size * 2) = cs at *
  have Hcs := hid hcs
  clear hi hz0 hz1 hz2 hz hcs
  go_enter Try.func116, Try.ntmps116
  go_wp2_with fail
  refine (ring_may size w).mono ?_
  rintro e w' ⟨rfl, rfl⟩
  rw [hd]
  clear hd
  go_wp2
  go_ret2
  refine ⟨rfl, ⟨cs, ?_, ?_, Hcs.out, h1, h2, by omega⟩, ((Below.refl _ w).alloc (Nat.le_refl _) _).alloc (by simp) _, by simp⟩
  · have := blk_new (w.alloc (.cells cs 247)) (.cells #[.int .i64 0, .slice (some ⟨w.heap.size, 0, none⟩) size size] 243)
    simpa using this
  · have := blk_alloc (blk_new w (.cells cs 247)) (.cells #[.int .i64 0, .slice (some ⟨w.heap.size, 0, none⟩) size size] 243)
    simpa using this
theorem winB_inside (h : WinB w r B size first cs) (n : Nat) (f : Int) (hfn : f = n) (h1 : first ≤ f) (h2 : f < first + size) (h3 : f ≤ 1073741824) (k : Nat) (hk : n % size = k) :
    Calls Try.prog 134 #[.pointer (some ⟨r, 0, none⟩), .int .i64 f] w fun e w' => e = .returned (.pointer (some ⟨B, k * 2, none⟩)) ∧ ∃ q, w' = w.drewN q := by
  have c0 : w.cell? ⟨r, 0, none⟩ = some (.int .i64 (first : Nat)) := blk_cell h.head rfl
  have c1 : w.cell? ⟨r, 1, none⟩ = some (.slice (some ⟨B, 0, none⟩) size size) := blk_cell h.head rfl
  have b2 := h.most
  have h4 : f - first < size := by omega
  have hw : IntKind.i64.wrap (f - first) = f - first := IntWalk.i64_in _ (by omega)
  have hkl : k < size := hk ▸ Nat.mod_lt _ h.pos
  have ht : f.tmod (size : Int) = (k : Int) := by
    rw [hfn, Int.tmod_eq_emod_of_nonneg (by omega), ← hk]
    simp
  have hz : ((size : Int) == 0) = false := by have := h.pos; rw [beq_eq_false_iff_ne]; omega
  have h0 : 0 ≤ f := by omega
  clear hk hfn h
  go_enter Try.func134, Try.ntmps134
  go_wp2
  go_quiet (fail)
  go_wp2
  go_quiet (fail)
  go_wp2
  go_ret
  exact ⟨rfl, _, by rw [World.drewN_drewN]⟩
theorem winB_Put (h : WinB w r B size first cs) (n : Nat) (f : Int) (hfn : f = n) (h1 : first ≤ f) (h2 : f < first + size) (h3 : f ≤ 1073741824) (y : Int) :
    Calls Try.prog 117 #[.pointer (some ⟨r, 0, none⟩), .int .i64 f, .int .u8 y] w fun e w' => e = .returned (.int .i64 0) ∧ (∃ cs', WinB w' r B size first cs') ∧ Keeps (fun b => b = B) w w' := by
  have c0 : w.cell? ⟨r, 0, none⟩ = some (.int .i64 (first : Nat)) := blk_cell h.head rfl
  obtain ⟨k, hk⟩ : ∃ k, n % size = k := ⟨_, rfl⟩
  have hI := hid (winB_inside h n f hfn h1 h2 h3 k hk)
  have hkl : k < size := hk ▸ Nat.mod_lt _ h.pos
  obtain ⟨v0, e0⟩ : ∃ v, cs[k * 2]? = some v := ⟨_, Array.getElem?_eq_getElem (by rw [h.csz]; omega)⟩
  obtain ⟨v1, e1⟩ : ∃ v, cs[k * 2 + 1]? = some v := ⟨_, Array.getElem?_eq_getElem (by rw [h.csz]; omega)⟩
  have s0 := blk_cell h.body e0
  have s1 := blk_cell h.body e1
  have g0 := blk_free h.body (k * 2)
  have g1 := blk_free h.body (k * 2 + 1)
  have H := hid h
  clear h hfn hk e0 e1
  go_enter Try.func117, Try.ntmps117
  go_wp2_with fail
  refine hI.out.mono ?_
  rintro e w' ⟨rfl, q, rfl⟩
  go_wp2
  go_ret
  have h := H.out
  have hk0 : Keeps (fun _ => False) w (w.drewN q) := (Keeps.refl _ w).drewN q
  exact ⟨rfl, ⟨_, ⟨(blk_other (blk_other h.head h.ne _) h.ne _), blk_set (blk_set h.body (k * 2) (.int .u8 y)) (k * 2 + 1) (.bool true), by simpa using h.csz, h.pos, h.most, h.ne⟩⟩, (((Keeps.refl (fun b => b = B) w).setCell (p := ⟨B, k * 2, none⟩) rfl _).setCell (p := ⟨B, k * 2 + 1, none⟩) rfl _).drewN _⟩
end
end Go.Proofs.Ytfepefohaadecaa
