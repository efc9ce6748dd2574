/- A window at promptbook/api.State, its slots not told apart. -/
import Derived.Test.YtfepefohaadecaaWinB
namespace Go.Proofs.Ytfepefohaadecaa
open Go.RowKit
set_option maxRecDepth 10000
theorem info_slotS : ((Try.prog.info? 222).map fun i => (i.zero.map fun z => z.cells.size, i.size, i.bytes)) = some (some 61, 61, 360) := by kernel_rfl
structure WinS (w : World) (r B size first : Nat) (cs : Array Value) : Prop where
  head : w.heap[r]? = some (.cells #[.int .i64 (first : Nat), .slice (some ⟨B, 0, none⟩) size size] 213 (0, 0))
  body : w.heap[B]? = some (.cells cs 222 (0, 0))
  csz : cs.size = size * 61
  pos : 0 < size
  most : size ≤ 4096
  ne : r ≠ B
section
variable {w w' : World} {r B size first : Nat} {cs : Array Value}
theorem WinS.keeps {S : Nat → Prop} (h : WinS w r B size first cs) (hk : Keeps S w w') (h1 : ¬ S r) (h2 : ¬ S B) : WinS w' r B size first cs := ⟨hk.heap h.head h1, hk.heap h.body h2, h.csz, h.pos, h.most, h.ne⟩
theorem winS_Open (size : Nat) (h1 : 1 ≤ size) (h2 : size ≤ 4096) (w : World) :
    Calls Try.prog 103 #[.int .i64 size, .int .i64 0] w fun e w' => e = .returned (.tuple #[.pointer (some ⟨w.heap.size + 1, 0, none⟩), .int .i64 0]) ∧ (∃ cs, WinS w' (w.heap.size + 1) w.heap.size size 0 cs) ∧ Below w.heap.size w w' ∧ w'.heap.size = w.heap.size + 2 := by
  obtain ⟨i0, hi, hz0, hz1, hz2⟩ : ∃ i, Try.prog.info? 222 = some i ∧ (i.zero.map fun z => z.cells.size) = some 61 ∧ i.size = 61 ∧ i.bytes = 360 := by
    have h := info_slotS
    cases hh : Try.prog.info? 222 with
    | none => rw [hh] at h; cases h
    | some i => rw [hh] at h; simp only [Option.map_some, Option.some.injEq, Prod.mk.injEq] at h; exact ⟨i, rfl, h.1, h.2.1, h.2.2⟩
  obtain ⟨z, hz⟩ : ∃ z, i0.zero = some z := by
    cases hh : i0.zero with
    | none => rw [hh] at hz0; cases hz0
    | some z => exact ⟨z, rfl⟩
  have hd : decide (1 ≤ (size : Int) ∧ (size : Int) ≤ 4096) = true := by simp; omega
  have hmk := run_make (P := Try.prog) w 211 222 i0 z Try.underlying211 hi hz .i64 .i64 size size (by omega) (Int.le_refl _) (by rw [hz2]; omega) (by omega)
  rw [hz1, Int.toNat_natCast] at hmk
  have hcs := size_madeCells z.cells (size * 61)
  generalize madeCells z.cells (size * 61) = cs at *
  have Hcs := hid hcs
  clear hi hz0 hz1 hz2 hz hcs
  go_enter Try.func103, Try.ntmps103
  go_wp2_with fail
  refine (ring_may size w).mono ?_
  rintro e w' ⟨rfl, rfl⟩
  rw [hd]
  clear hd
  go_wp2
  go_ret2
  refine ⟨rfl, ⟨cs, ?_, ?_, Hcs.out, h1, h2, by omega⟩, ((Below.refl _ w).alloc (Nat.le_refl _) _).alloc (by simp) _, by simp⟩
  · have := blk_new (w.alloc (.cells cs 222)) (.cells #[.int .i64 0, .slice (some ⟨w.heap.size, 0, none⟩) size size] 213)
    simpa using this
  · have := blk_alloc (blk_new w (.cells cs 222)) (.cells #[.int .i64 0, .slice (some ⟨w.heap.size, 0, none⟩) size size] 213)
    simpa using this
theorem winS_inside (h : WinS w r B size first cs) (n : Nat) (f : Int) (hfn : f = n) (h1 : first ≤ f) (h2 : f < first + size) (h3 : f ≤ 1073741824) (k : Nat) (hk : n % size = k) :
    Calls Try.prog 118 #[.pointer (some ⟨r, 0, none⟩), .int .i64 f] w fun e w' => e = .returned (.pointer (some ⟨B, k * 61, none⟩)) ∧ ∃ q, w' = w.drewN q := by
  have c0 : w.cell? ⟨r, 0, none⟩ = some (.int .i64 (first : Nat)) := blk_cell h.head rfl
  have c1 : w.cell? ⟨r, 1, none⟩ = some (.slice (some ⟨B, 0, none⟩) size size) := blk_cell h.head rfl
  have b2 := h.most
  have h4 : f - first < size := by omega
  have hw : IntKind.i64.wrap (f - first) = f - first := IntWalk.i64_in _ (by omega)
  have hkl : k < size := hk ▸ Nat.mod_lt _ h.pos
  have ht : f.tmod (size : Int) = (k : Int) := by
    rw [hfn, Int.tmod_eq_emod_of_nonneg (by omega), ← hk]
    simp
  have hz : ((size : Int) == 0) = false := by have := h.pos; rw [beq_eq_false_iff_ne]; omega
  have h0 : 0 ≤ f := by omega
  clear hk hfn h
  go_enter Try.func118, Try.ntmps118
  go_wp2
  go_quiet (fail)
  go_wp2
  go_quiet (fail)
  go_wp2
  go_ret
  exact ⟨rfl, _, by rw [World.drewN_drewN]⟩
theorem slot_push (z : Array Value) (c : Array Value) (hz : z.size = 61) (hc : c.size = 60) : spliceA (spliceA z 0 c) 60 #[.bool true] = c.push (.bool true) := by
  have h1 : (spliceA z 0 c).size = 61 := by rw [spliceA_size _ _ _ (by omega), hz]
  apply Array.ext_getElem?
  intro k
  rw [splice_get _ _ _ (by simp [h1]), splice_get _ _ _ (by omega), Array.getElem?_push]
  simp only [List.size_toArray, List.length_cons, List.length_nil, Nat.zero_add, hc]
  by_cases h2 : k < 60
  · rw [if_neg (by omega), if_pos (by omega), if_neg (by omega)]
    simp
  · by_cases h3 : k = 60
    · subst h3
      simp
    · rw [if_neg (by omega), if_neg (by omega), if_neg h3, Array.getElem?_eq_none (by omega), Array.getElem?_eq_none (by omega)]
theorem run_build_slot (c : Array Value) (hc : c.size = 60) (w : World) : (Instr.build 222 #[(0, .agg c), (1, .bool true)]).run Try.prog w = .ok (.agg (c.push (.bool true))) w := by
  have z := Try.zeroValue222 w
  have u := run_underlying Try.underlying222
  have s1 := Try.sizeOf33
  have s2 := Try.sizeOf4
  unfold Instr.build
  simp only [Sem.run_bind, z, Result.andThen_ok, u]
  rw [show ∀ (g : Array Field), g = #[{ name := "x", type := 33, offset := 0, embedded := false, tag := "", pkgPath := "promptbook/ring", byteOffset := 0 }, { name := "has", type := 4, offset := 60, embedded := false, tag := "", pkgPath := "promptbook/ring", byteOffset := 352 }] → Sem.run Try.prog (Array.mapM (fun f : Field => do let k ← Go.sizeOf f.type; pure (f.offset, k)) g) w = .ok #[(0, 60), (60, 1)] w from fun g hg => by subst hg; simp [s1, s2]]
  rotate_left
  · rfl
  simp only [Result.andThen_ok]
  generalize hzz : (Value.agg _).cells = zz
  have hz61 : zz.size = 61 := by rw [← hzz]; rfl
  clear hzz z
  rw [fill_step _ _ 0 0 (.agg c) _ (by simp [Value.cells, hc]) (by simp [Value.cells, hc, hz61]), fill_step _ _ 1 60 (.bool true) _ (by simp [Value.cells]) (by rw [spliceA_size _ _ _ (by simp [Value.cells, hc, hz61]), hz61]; simp [Value.cells])]
  simp only [Instr.fill, Sem.run_pure]
  rw [show spliceA (spliceA zz 0 (Value.agg c).cells) 60 (Value.bool true).cells = c.push (.bool true) from slot_push zz c hz61 hc]
theorem winS_Put (h : WinS w r B size 0 cs) (c : Array Value) (hc : c.size = 60) (h1 : ∀ v ∈ c.toList, v.oneCell' = true) :
    Calls Try.prog 106 #[.pointer (some ⟨r, 0, none⟩), .int .i64 0, .agg c] w fun e w' => e = .returned (.int .i64 0) ∧ Keeps (fun b => b = B) w w' := by
  have hp := h.pos
  have hk0 : Keeps (fun _ => False) w (w.alloc (.cells c 33)) := (Keeps.refl _ w).alloc _
  have h0 := h.keeps hk0 id id
  have hI := hid (winS_inside h0 0 0 rfl (by omega) (by omega) (by omega) 0 (Nat.zero_mod _))
  have hS0 := blk_new w (.cells c 33)
  have H0 := hid h0
  have HS := hid hS0
  have Hk := hid hk0
  clear h h0 hS0 hk0 hp
  go_enter Try.func106, Try.ntmps106
  go_wp2_with fail
  refine hI.out.mono ?_
  rintro e w1 ⟨rfl, q, hw1⟩
  have hk1 : Keeps (fun _ => False) (w.alloc (.cells c 33)) w1 := by rw [hw1]; exact (Keeps.refl _ _).drewN q
  have hS1 := hk1.heap HS.out id
  have hW1 := H0.out.keeps hk1 id id
  have hkk := Hk.out.trans hk1
  have c0 : w1.cell? ⟨r, 0, none⟩ = some (.int .i64 ((0 : Nat) : Int)) := blk_cell hW1.head rfl
  have hld := run_load_agg (P := Try.prog) 33 60 w.heap.size 0 c c _ Try.isAgg33 Try.sizeOf33 hc hS1 (fun j v hj => by rw [Nat.zero_add]; exact hj)
  have hbd := run_build_slot c hc w1
  have hst := run_store_agg (P := Try.prog) 222 61 B 0 (c.push (.bool true)) cs _ Try.sizeOf222 (by simp [hc]) hW1.body (by rw [hW1.csz]; have := hW1.pos; omega) (by intro v hv; simp at hv; rcases hv with hv | rfl; exact h1 v (by simpa using hv); rfl)
  have hfin := (keeps_any hkk (S := fun b => b = B)).trans (keeps_setRow w1 B (spliceA cs 0 (c.push (.bool true))))
  generalize w1.setRow B (spliceA cs 0 (c.push (.bool true))) = w2 at *
  simp only [Nat.zero_mul]
  clear hw1 hk1 hS1 hkk
  go_wp2_with (first | (refine wpList_run_load hld rfl rfl rfl ?_) | (refine wpList_run_build2 hbd rfl rfl rfl rfl ?_) | (refine wpList_run_store hst rfl rfl rfl rfl ?_))
  go_ret
  exact ⟨rfl, hfin⟩
end
end Go.Proofs.Ytfepefohaadecaa
