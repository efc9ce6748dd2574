/- What a ring's List returns, and what making a ring leaves in memory. -/
import Derived.Test.YtdgbmnefpempaaaRing
import Derived.Test.YtdgbmnefpempaaaVals
import Derived.Test.YtdgbmnefpempaaaIter
import Derived.OwnWalkIn
import Derived.TacticsInMore
import Derived.Shelf.RegionOpen
import Derived.LoopNIn
import Derived.LoopIn
import Derived.Deep.Cut
import Derived.RangeFuncBox
import Derived.OneCell
namespace Go.Proofs.Ytdgbmnefpempaaa
open Go.RowKit
attribute [local go_sem] Oper.semAt_some
variable {w : World} {r B size first n : Nat} {A : List ByteArray}
theorem zip_at {α : Type} (L : List α) (k : Nat) (h : k < L.length) : L.zipIdx = L.zipIdx.take k ++ (L[k], k) :: L.zipIdx.drop (k + 1) ∧ L.zipIdx.take (k + 1) = L.zipIdx.take k ++ [(L[k], k)] := by
  have h2 : k < L.zipIdx.length := by simpa using h
  have e : L.zipIdx[k] = (L[k], k) := by simp
  refine ⟨?_, ?_⟩
  · rw [← e, ← List.drop_eq_getElem_cons h2, List.take_append_drop]
  · rw [List.take_succ_eq_append_getElem h2, e]
theorem info_e : (Try.prog.info? 9).map (fun i => (i.zero, i.size, i.bytes)) = some (some (Value.string ByteArray.empty), 1, 16) := by kernel_rfl
theorem zip_map (L : List ByteArray) : L.zipIdx.map (fun p => (Value.string p.1)) = L.map (fun x => (Value.string x)) := by
  have : (fun p : ByteArray × Nat => ((Value.string p.1) : Value)) = (fun x => (Value.string x)) ∘ Prod.fst := rfl
  rw [this, ← List.map_map]
  congr 1
  exact List.zipIdx_map_fst 0 L
theorem ring_New_no (x : Int) (hx : x < 1 ∨ 4096 < x) (w : World) :
    Calls Try.prog 29 #[.int .i64 x] w fun e w' => e = .returned (.tuple #[.pointer none, .int .i64 1]) ∧ w = w' := by
  have hd : decide (1 ≤ x ∧ x ≤ 4096) = false := by simp; omega
  go_enter Try.func29, Try.ntmps29
  go_wp2_with fail
  refine (ring_may x w).mono ?_
  rintro e w' ⟨rfl, rfl⟩
  rw [hd]
  go_wp2
  go_ret2
  exact ⟨rfl, rfl⟩
theorem ring_New2 (size : Nat) (h1 : 1 ≤ size) (h2 : size ≤ 4096) (w : World) :
    Calls Try.prog 29 #[.int .i64 size] w fun e w' => e = .returned (.tuple #[.pointer (some ⟨w.heap.size + 1, 0, none⟩), .int .i64 0]) ∧ RingAt w' (w.heap.size + 1) w.heap.size size (List.replicate size ByteArray.empty) 0 0 ∧ Below w.heap.size w w' ∧ w'.heap.size = w.heap.size + 2 := by
  obtain ⟨i0, hi, hz0, hz1, hz2⟩ := info_parts info_e
  have hd : decide (1 ≤ (size : Int) ∧ (size : Int) ≤ 4096) = true := by simp; omega
  have hmk := run_make (P := Try.prog) w 28 9 i0 (Value.string ByteArray.empty) Try.underlying28 hi hz0 .i64 .i64 size size (by omega) (Int.le_refl _) (by rw [hz2]; omega) (by omega)
  have hcells : madeCells ((Value.string ByteArray.empty) : Value).cells size = ((List.replicate size (ByteArray.empty : ByteArray)).map fun x => (Value.string x)).toArray := by
    apply Array.toList_inj.1
    rw [show ((Value.string ByteArray.empty) : Value).cells = #[(Value.string ByteArray.empty)] from rfl, toList_madeCells_one]
    simp
  rw [hz1, Int.toNat_natCast, Nat.mul_one, hcells] at hmk
  have Hhi := hid hi
  clear hcells hi hz0 hz1 hz2
  go_enter Try.func29, Try.ntmps29
  go_wp2_with fail
  refine (ring_may size w).mono ?_
  rintro e w' ⟨rfl, rfl⟩
  rw [hd]
  clear hd
  go_wp2
  go_ret2
  refine ⟨rfl, ⟨?_, ?_, by simp, h1, h2, by omega, by omega, by omega⟩, ((Below.refl _ w).alloc (Nat.le_refl _) _).alloc (by simp) _, by simp⟩
  · have := blk_new (w.alloc (.cells ((List.replicate size (ByteArray.empty : ByteArray)).map fun x => (Value.string x)).toArray 9)) (.cells #[.slice (some ⟨w.heap.size, 0, none⟩) size size, .int .i64 0, .int .i64 0] 79)
    simpa using this
  · have := blk_alloc (blk_new w (.cells ((List.replicate size (ByteArray.empty : ByteArray)).map fun x => (Value.string x)).toArray 9)) (.cells #[.slice (some ⟨w.heap.size, 0, none⟩) size size, .int .i64 0, .int .i64 0] 79)
    simpa using this
theorem ring_New (size : Nat) (h1 : 1 ≤ size) (h2 : size ≤ 4096) (w : World) :
    Calls Try.prog 29 #[.int .i64 size] w fun e w' => e = .returned (.tuple #[.pointer (some ⟨w.heap.size + 1, 0, none⟩), .int .i64 0]) ∧ RingAt w' (w.heap.size + 1) w.heap.size size (List.replicate size ByteArray.empty) 0 0 ∧ Below w.heap.size w w' :=
  (ring_New2 size h1 h2 w).mono fun _ _ ⟨h1, h2, h3, _⟩ => ⟨h1, h2, h3⟩
end Go.Proofs.Ytdgbmnefpempaaa
