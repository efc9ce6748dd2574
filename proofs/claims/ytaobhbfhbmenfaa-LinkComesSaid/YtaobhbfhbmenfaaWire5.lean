/- A word's bytes, by the reference. -/
import Derived.Test.YtaobhbfhbmenfaaWire2
namespace Go.Proofs.Ytaobhbfhbmenfaa
open Go.RowKit
set_option maxRecDepth 10000
variable {w : World}
theorem byte_val (x : Int) (h : 0 ≤ x ∧ x < 256) (y : Int) (hy : y = x) : Value.int .u8 y = byteV (UInt8.ofNat x.toNat) := by
  subst hy
  unfold byteV
  congr 1
  rw [UInt8.toNat_ofNat']
  omega
def wrest4 (n : Int) : Nat → Int
  | 0 => n
  | 1 => n / 256
  | 2 => n / 256 / 256
  | 3 => n / 256 / 256 / 256
  | _ => n / 256 / 256 / 256 / 256
def wcells4 (n : Int) : Nat → Array Value
  | 0 => #[.int .u8 0, .int .u8 0, .int .u8 0, .int .u8 0]
  | 1 => #[.int .u8 0, .int .u8 0, .int .u8 0, .int .u8 (n % 256)]
  | 2 => #[.int .u8 0, .int .u8 0, .int .u8 (n / 256 % 256), .int .u8 (n % 256)]
  | 3 => #[.int .u8 0, .int .u8 (n / 256 / 256 % 256), .int .u8 (n / 256 % 256), .int .u8 (n % 256)]
  | _ => #[.int .u8 (n / 256 / 256 / 256 % 256), .int .u8 (n / 256 / 256 % 256), .int .u8 (n / 256 % 256), .int .u8 (n % 256)]
set_option maxHeartbeats 2000000 in
theorem ref_Word4 (n : Int) (hn : 0 ≤ n ∧ n < 4294967296) (w : World) :
    Calls Try.prog 34 #[.int .u64 n, .int .i64 4] w fun e w' => e = .returned (.string ⟨(tail4 n).toArray⟩) ∧ Below w.heap.size w w' := by
  obtain ⟨i0, hi, hz0, hz1, hz2⟩ := info_parts info_u8
  have hmk := run_make (P := Try.prog) w 35 5 i0 (.int .u8 0) Try.underlying35 hi hz0 .i64 .i64 4 4 (by omega) (Int.le_refl _) (by rw [hz2]; omega) (by omega)
  rw [hz1, show madeCells (Value.int .u8 0).cells ((4 : Int).toNat * 1) = #[.int .u8 0, .int .u8 0, .int .u8 0, .int .u8 0] by first | rfl | (apply Array.toList_inj.1; rfl) | (simp [madeCells, Value.cells]; rfl) | (apply Array.toList_inj.1; simp [madeCells, Value.cells, List.range_succ]), show ((4 : Int)).toNat = 4 from rfl] at hmk
  clear hi hz0 hz1 hz2
  go_enter Try.func34, Try.ntmps34
  go_wp2
  go_loopg [0, 6] 5 (fun g nv iv wr => ∃ (k : Nat) (j N : Int), g = 5 - k ∧ k ≤ 4 ∧ j = 3 - (k : Int) ∧ iv = .int .i64 j ∧ N = wrest4 n k ∧ nv = .int .u64 N ∧ wr.heap[w.heap.size]? = some (.cells (wcells4 n k) 5 (0, 0)) ∧ Below w.heap.size w wr)
  case atStart => exact ⟨0, 3, _, rfl, by omega, rfl, rfl, rfl, rfl, blk_new w _, (Below.refl _ w).alloc (Nat.le_refl _) _⟩
  case round =>
    clear hmk
    obtain ⟨k, j, N, hg, hk, hj, rfl, hN, rfl, hH, hbw⟩ := hrel
    by_cases k0 : k = 0
    · subst k0
      obtain rfl : j = 3 := by omega
      clear hj
      simp only [wrest4, wcells4] at hN hH
      have cj := blk_cell (k := 3) hH rfl
      have fj := blk_free hH 3
      have H1 := hid hH
      have hN0 : 0 ≤ N := by omega
      have hN1 : N < 4294967296 := by omega
      have HN := hid hN
      clear hH hN
      go_wp2
      go_roundg (5 - (0 + 1))
      case measure => omega
      case rel => exact ⟨0 + 1, _, _, rfl, by omega, rfl, by go_num, rfl, by rw [HN.out]; rfl, by have := blk_set H1.out 3 (.int .u8 (N % 256)); rw [HN.out] at this ⊢; simpa [wcells4] using this, hbw.setCell (Nat.le_refl _) _⟩
    by_cases k1 : k = 1
    · subst k1
      obtain rfl : j = 2 := by omega
      clear hj
      simp only [wrest4, wcells4] at hN hH
      have cj := blk_cell (k := 2) hH rfl
      have fj := blk_free hH 2
      have H1 := hid hH
      have hN0 : 0 ≤ N := by omega
      have hN1 : N < 4294967296 := by omega
      have HN := hid hN
      clear hH hN
      go_wp2
      go_roundg (5 - (1 + 1))
      case measure => omega
      case rel => exact ⟨1 + 1, _, _, rfl, by omega, rfl, by go_num, rfl, by rw [HN.out]; rfl, by have := blk_set H1.out 2 (.int .u8 (N % 256)); rw [HN.out] at this ⊢; simpa [wcells4] using this, hbw.setCell (Nat.le_refl _) _⟩
    by_cases k2 : k = 2
    · subst k2
      obtain rfl : j = 1 := by omega
      clear hj
      simp only [wrest4, wcells4] at hN hH
      have cj := blk_cell (k := 1) hH rfl
      have fj := blk_free hH 1
      have H1 := hid hH
      have hN0 : 0 ≤ N := by omega
      have hN1 : N < 4294967296 := by omega
      have HN := hid hN
      clear hH hN
      go_wp2
      go_roundg (5 - (2 + 1))
      case measure => omega
      case rel => exact ⟨2 + 1, _, _, rfl, by omega, rfl, by go_num, rfl, by rw [HN.out]; rfl, by have := blk_set H1.out 1 (.int .u8 (N % 256)); rw [HN.out] at this ⊢; simpa [wcells4] using this, hbw.setCell (Nat.le_refl _) _⟩
    by_cases k3 : k = 3
    · subst k3
      obtain rfl : j = 0 := by omega
      clear hj
      simp only [wrest4, wcells4] at hN hH
      have cj := blk_cell (k := 0) hH rfl
      have fj := blk_free hH 0
      have H1 := hid hH
      have hN0 : 0 ≤ N := by omega
      have hN1 : N < 4294967296 := by omega
      have HN := hid hN
      clear hH hN
      go_wp2
      go_roundg (5 - (3 + 1))
      case measure => omega
      case rel => exact ⟨3 + 1, _, _, rfl, by omega, rfl, by go_num, rfl, by rw [HN.out]; rfl, by have := blk_set H1.out 0 (.int .u8 (N % 256)); rw [HN.out] at this ⊢; simpa [wcells4] using this, hbw.setCell (Nat.le_refl _) _⟩
    obtain rfl : k = 4 := by omega
    obtain rfl : j = -1 := by omega
    simp only [wcells4] at hH
    have ho : wr.ownsRow w.heap.size 5 1 (.slice (some ⟨w.heap.size, 0, none⟩) 4 4) 4 ((tail4 n).map byteV) := by
      refine ⟨rfl, .inr ⟨w.heap.size, 4, _, rfl, Nat.le_refl _, hH, Nat.le_refl _, by simp [maxLen], rfl, ?_⟩⟩
      simp only [tail4, List.map_cons, List.map_nil]
      rw [← byte_val _ (by omega) (n / 256 / 256 / 256 % 256) (by omega), ← byte_val _ (by omega) (n / 256 / 256 % 256) (by omega), ← byte_val _ (by omega) (n / 256 % 256) (by omega), ← byte_val _ (by omega) (n % 256) (by omega)]
      rfl
    have hcv := conv_own (tail4 n) ho
    have Hb := hid hbw
    clear hj k0 hN hH ho hbw
    go_wp2
    go_ret
    exact ⟨rfl, Hb.out⟩
def wrest2 (n : Int) : Nat → Int
  | 0 => n
  | 1 => n / 256
  | _ => n / 256 / 256
def wcells2 (n : Int) : Nat → Array Value
  | 0 => #[.int .u8 0, .int .u8 0]
  | 1 => #[.int .u8 0, .int .u8 (n % 256)]
  | _ => #[.int .u8 (n / 256 % 256), .int .u8 (n % 256)]
set_option maxHeartbeats 2000000 in
theorem ref_Word2 (n : Int) (hn : 0 ≤ n ∧ n < 65536) (w : World) :
    Calls Try.prog 34 #[.int .u64 n, .int .i64 2] w fun e w' => e = .returned (.string ⟨(be2 n).toArray⟩) ∧ Below w.heap.size w w' := by
  obtain ⟨i0, hi, hz0, hz1, hz2⟩ := info_parts info_u8
  have hmk := run_make (P := Try.prog) w 35 5 i0 (.int .u8 0) Try.underlying35 hi hz0 .i64 .i64 2 2 (by omega) (Int.le_refl _) (by rw [hz2]; omega) (by omega)
  rw [hz1, show madeCells (Value.int .u8 0).cells ((2 : Int).toNat * 1) = #[.int .u8 0, .int .u8 0] by first | rfl | (apply Array.toList_inj.1; rfl) | (simp [madeCells, Value.cells]; rfl) | (apply Array.toList_inj.1; simp [madeCells, Value.cells, List.range_succ]), show ((2 : Int)).toNat = 2 from rfl] at hmk
  clear hi hz0 hz1 hz2
  go_enter Try.func34, Try.ntmps34
  go_wp2
  go_loopg [0, 6] 3 (fun g nv iv wr => ∃ (k : Nat) (j N : Int), g = 3 - k ∧ k ≤ 2 ∧ j = 1 - (k : Int) ∧ iv = .int .i64 j ∧ N = wrest2 n k ∧ nv = .int .u64 N ∧ wr.heap[w.heap.size]? = some (.cells (wcells2 n k) 5 (0, 0)) ∧ Below w.heap.size w wr)
  case atStart => exact ⟨0, 1, _, rfl, by omega, rfl, rfl, rfl, rfl, blk_new w _, (Below.refl _ w).alloc (Nat.le_refl _) _⟩
  case round =>
    clear hmk
    obtain ⟨k, j, N, hg, hk, hj, rfl, hN, rfl, hH, hbw⟩ := hrel
    by_cases k0 : k = 0
    · subst k0
      obtain rfl : j = 1 := by omega
      clear hj
      simp only [wrest2, wcells2] at hN hH
      have cj := blk_cell (k := 1) hH rfl
      have fj := blk_free hH 1
      have H1 := hid hH
      have hN0 : 0 ≤ N := by omega
      have hN1 : N < 4294967296 := by omega
      have HN := hid hN
      clear hH hN
      go_wp2
      go_roundg (3 - (0 + 1))
      case measure => omega
      case rel => exact ⟨0 + 1, _, _, rfl, by omega, rfl, by go_num, rfl, by rw [HN.out]; rfl, by have := blk_set H1.out 1 (.int .u8 (N % 256)); rw [HN.out] at this ⊢; simpa [wcells2] using this, hbw.setCell (Nat.le_refl _) _⟩
    by_cases k1 : k = 1
    · subst k1
      obtain rfl : j = 0 := by omega
      clear hj
      simp only [wrest2, wcells2] at hN hH
      have cj := blk_cell (k := 0) hH rfl
      have fj := blk_free hH 0
      have H1 := hid hH
      have hN0 : 0 ≤ N := by omega
      have hN1 : N < 4294967296 := by omega
      have HN := hid hN
      clear hH hN
      go_wp2
      go_roundg (3 - (1 + 1))
      case measure => omega
      case rel => exact ⟨1 + 1, _, _, rfl, by omega, rfl, by go_num, rfl, by rw [HN.out]; rfl, by have := blk_set H1.out 0 (.int .u8 (N % 256)); rw [HN.out] at this ⊢; simpa [wcells2] using this, hbw.setCell (Nat.le_refl _) _⟩
    obtain rfl : k = 2 := by omega
    obtain rfl : j = -1 := by omega
    simp only [wcells2] at hH
    have ho : wr.ownsRow w.heap.size 5 1 (.slice (some ⟨w.heap.size, 0, none⟩) 2 2) 2 ((be2 n).map byteV) := by
      refine ⟨rfl, .inr ⟨w.heap.size, 2, _, rfl, Nat.le_refl _, hH, Nat.le_refl _, by simp [maxLen], rfl, ?_⟩⟩
      simp only [be2, List.map_cons, List.map_nil]
      rw [← byte_val _ (by omega) (n / 256 % 256) (by omega), ← byte_val _ (by omega) (n % 256) (by omega)]
      rfl
    have hcv := conv_own (be2 n) ho
    have Hb := hid hbw
    clear hj k0 hN hH ho hbw
    go_wp2
    go_ret
    exact ⟨rfl, Hb.out⟩
end Go.Proofs.Ytaobhbfhbmenfaa
