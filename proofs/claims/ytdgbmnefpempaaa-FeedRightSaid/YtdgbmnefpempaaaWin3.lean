/- Opening a window. -/
import Derived.Test.YtdgbmnefpempaaaWin2
namespace Go.Proofs.Ytdgbmnefpempaaa
open Go.RowKit
theorem info_slot : (Try.prog.info? 86).map (fun i => (i.zero, i.size, i.bytes)) = some (some (.agg #[(Value.int .u8 0), .bool false]), 2, 2) := by kernel_rfl
theorem slots_zero (n : Nat) : madeCells (Value.agg #[(Value.int .u8 0), .bool false]).cells (n * 2) = (slots (List.replicate n ((0 : Int), false))).toArray := by
  apply Array.toList_inj.1
  apply List.ext_getElem?
  intro j
  by_cases hj : j < n * 2
  · have hl : j / 2 < (List.replicate n ((0 : Int), false)).length := by simp; omega
    obtain ⟨h1, h2⟩ := slots_at (List.replicate n ((0 : Int), false)) (j / 2) hl
    simp only [List.getElem_replicate] at h1 h2
    rcases Nat.mod_two_eq_zero_or_one j with h | h
    · have e : j / 2 * 2 = j := by omega
      rw [e] at h1
      show _ = (slots (List.replicate n ((0 : Int), false)))[j]?
      rw [h1]
      simp [madeCells, hj, Value.cells, h]
    · have e : j / 2 * 2 + 1 = j := by omega
      rw [e] at h2
      show _ = (slots (List.replicate n ((0 : Int), false)))[j]?
      rw [h2]
      simp [madeCells, hj, Value.cells, h]
  · rw [List.getElem?_eq_none (by simp [madeCells]; omega), List.getElem?_eq_none (by show (slots _).length ≤ j; rw [slots_len, List.length_replicate]; omega)]
theorem win_Open_no (size first : Int) (hno : ¬ (1 ≤ size ∧ size ≤ 4096 ∧ 0 ≤ first ∧ first ≤ 1073741824)) (w : World) :
    Calls Try.prog 39 #[.int .i64 size, .int .i64 first] w fun e w' => e = .returned (.tuple #[.pointer none, .int .i64 1]) ∧ w = w' := by
  by_cases h1 : 1 ≤ size ∧ size ≤ 4096
  · have hd : decide (1 ≤ size ∧ size ≤ 4096) = true := by simpa using h1
    by_cases h2 : first < 0
    · clear hno h1
      go_enter Try.func39, Try.ntmps39
      go_wp2_with fail
      refine (ring_may size w).mono ?_
      rintro e w' ⟨rfl, rfl⟩
      rw [hd]
      go_wp2
      go_ret2
      exact ⟨rfl, rfl⟩
    · have h3 : 1073741824 < first := by omega
      clear hno h1
      go_enter Try.func39, Try.ntmps39
      go_wp2_with fail
      refine (ring_may size w).mono ?_
      rintro e w' ⟨rfl, rfl⟩
      rw [hd]
      go_wp2
      go_ret2
      exact ⟨rfl, rfl⟩
  · have hd : decide (1 ≤ size ∧ size ≤ 4096) = false := by simpa using h1
    clear hno h1
    go_enter Try.func39, Try.ntmps39
    go_wp2_with fail
    refine (ring_may size w).mono ?_
    rintro e w' ⟨rfl, rfl⟩
    rw [hd]
    go_wp2
    go_ret2
    exact ⟨rfl, rfl⟩
theorem win_Open (size first : Nat) (h1 : 1 ≤ size) (h2 : size ≤ 4096) (h3 : first ≤ 1073741824) (w : World) :
    Calls Try.prog 39 #[.int .i64 size, .int .i64 first] w fun e w' => e = .returned (.tuple #[.pointer (some ⟨w.heap.size + 1, 0, none⟩), .int .i64 0]) ∧ WinAt w' (w.heap.size + 1) w.heap.size size first (List.replicate size (0, false)) ∧ Below w.heap.size w w' ∧ w'.heap.size = w.heap.size + 2 := by
  obtain ⟨i0, hi, hz0, hz1, hz2⟩ := info_parts info_slot
  have hd : decide (1 ≤ (size : Int) ∧ (size : Int) ≤ 4096) = true := by simp; omega
  have hmk := run_make (P := Try.prog) w 80 86 i0 (.agg #[(Value.int .u8 0), .bool false]) Try.underlying80 hi hz0 .i64 .i64 size size (by omega) (Int.le_refl _) (by rw [hz2]; omega) (by omega)
  rw [hz1, Int.toNat_natCast, slots_zero] at hmk
  have Hhi := hid hi
  have hsl := hid (slots_len (List.replicate size ((0 : Int), false)))
  clear hi hz0 hz1 hz2
  obtain ⟨Z, hZ⟩ : ∃ Z, Z = List.replicate size ((0 : Int), false) := ⟨_, rfl⟩
  have HZ := hid hZ
  rw [← hZ] at hmk
  rw [← hZ]
  clear hZ
  go_enter Try.func39, Try.ntmps39
  go_wp2_with fail
  refine (ring_may size w).mono ?_
  rintro e w' ⟨rfl, rfl⟩
  rw [hd]
  clear hd
  go_wp2
  go_ret2
  refine ⟨rfl, ⟨?_, ?_, by rw [HZ.out]; simp, h1, h2, h3, by omega⟩, ((Below.refl _ w).alloc (Nat.le_refl _) _).alloc (by simp) _, by simp⟩
  · have := blk_new (w.alloc (.cells (slots Z).toArray 86)) (.cells #[.int .i64 first, .slice (some ⟨w.heap.size, 0, none⟩) size size] 82)
    simpa using this
  · have := blk_alloc (blk_new w (.cells (slots Z).toArray 86)) (.cells #[.int .i64 first, .slice (some ⟨w.heap.size, 0, none⟩) size size] 82)
    simpa using this
end Go.Proofs.Ytdgbmnefpempaaa
