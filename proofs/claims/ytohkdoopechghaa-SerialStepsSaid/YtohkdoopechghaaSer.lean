/- What the functions of package serial, and of its reference, return. -/
import Derived.Test.YtohkdoopechghaaRows
import Derived.Test.YtohkdoopechghaaBase
namespace Go.Proofs.Ytohkdoopechghaa
open Go.RowKit
/-- the steps between two serials -/
def stp (a b : Int) : Int := (b - a + 32768) % 65536 - 32768
theorem stp_in (a b : Int) : -32768 ≤ stp a b ∧ stp a b ≤ 32767 := by unfold stp; omega
theorem serial_Steps (a b : Int) (w : World) :
    Calls Try.prog 16 #[.int .u16 a, .int .u16 b] w fun e w' => e = .returned (.int .i64 (stp a b)) ∧ w = w' := by
  go_enter Try.func16, Try.ntmps16
  go_wp2
  go_ret
  refine ⟨ret_int ?_, rfl⟩
  rw [wrap_i16, wrap_u16]
  unfold wrap64 stp
  omega
theorem serial_Of (a : Int) (w : World) :
    Calls Try.prog 14 #[.int .i64 a] w fun e w' => e = .returned (.int .u16 (a % 65536)) ∧ w = w' := by
  go_enter Try.func14, Try.ntmps14
  go_wp2
  go_ret
  exact ⟨ret_int (wrap_u16 _), rfl⟩
theorem serial_Next (a : Int) (w : World) :
    Calls Try.prog 18 #[.int .u16 a] w fun e w' => e = .returned (.int .u16 ((a + 1) % 65536)) ∧ w = w' := by
  go_enter Try.func18, Try.ntmps18
  go_wp2
  go_ret
  exact ⟨ret_int (wrap_u16 _), rfl⟩
theorem serial_Newer (a b : Int) (w : World) :
    Calls Try.prog 17 #[.int .u16 a, .int .u16 b] w fun e w' => e = .returned (.bool (decide (0 < stp b a))) ∧ w = w' := by
  go_enter Try.func17, Try.ntmps17
  go_wp2_with (go_at_call 16; refine (serial_Steps _ _ _).mono ?_; rintro e w' ⟨rfl, rfl⟩)
  go_ret
  exact ⟨rfl, rfl⟩
/-- the nearest frame of a serial: its number, and its error's -/
def frm (near s : Int) : Int × Int :=
  if near < 0 ∨ 1073741824 < near then (0, 1) else
  let f := near + stp (near % 65536) s
  if f < 0 ∨ 1073741824 < f then (0, 6) else (f, 0)
theorem serial_Frame (a b : Int) (w : World) :
    Calls Try.prog 12 #[.int .i64 a, .int .u16 b] w fun e w' => e = .returned (.tuple #[.int .i64 (frm a b).1, .int .i64 (frm a b).2]) ∧ w = w' := by
  have hs := stp_in (a % 65536) b
  go_enter Try.func12, Try.ntmps12
  go_wp2_with (first | (go_at_call 14; refine (serial_Of _ _).mono ?_; rintro e w' ⟨rfl, rfl⟩) | (go_at_call 16; refine (serial_Steps _ _ _).mono ?_; rintro e w' ⟨rfl, rfl⟩))
  all_goals
    go_ret2
    refine ⟨ret_two (val_int ?_) (val_int ?_), rfl⟩ <;> (unfold frm; simp only []; (repeat' split) <;> first | rfl | omega)
theorem ref_Of (a : Int) (h : -9223372036854775808 ≤ a ∧ a ≤ 9223372036854775807) (w : World) :
    Calls Try.prog 19 #[.int .i64 a] w fun e w' => e = .returned (.int .u16 (a % 65536)) ∧ w = w' := by
  have h2 := tmod_cases a 65536
  have h1 : -65536 < a.tmod 65536 ∧ a.tmod 65536 < 65536 := by omega
  have H2 := hid h2
  clear h2
  go_enter Try.func19, Try.ntmps19
  go_wp2
  all_goals
    go_ret
    refine ⟨ret_int ?_, rfl⟩
    have h2 := H2.out
    omega
theorem ref_Steps (a b : Int) (ha : 0 ≤ a ∧ a ≤ 65535) (hb : 0 ≤ b ∧ b ≤ 65535) (w : World) :
    Calls Try.prog 15 #[.int .u16 a, .int .u16 b] w fun e w' => e = .returned (.int .i64 (stp a b)) ∧ w = w' := by
  go_enter Try.func15, Try.ntmps15
  go_wp2
  all_goals
    go_ret
    refine ⟨ret_int ?_, rfl⟩
    unfold stp
    omega
/-- the best frame after so many rounds -/
def bst (near s : Int) : Nat → Int
  | 0 => near - near % 65536 + s - 65536
  | k + 1 => if (near - near % 65536 + s + 65536 * (k : Int) - near).natAbs < (near - bst near s k).natAbs then near - near % 65536 + s + 65536 * (k : Int) else bst near s k
theorem bst_succ (near s : Int) (k : Nat) : bst near s (k + 1) = if (near - near % 65536 + s + 65536 * (k : Int) - near).natAbs < (near - bst near s k).natAbs then near - near % 65536 + s + 65536 * (k : Int) else bst near s k := rfl
theorem bst_in (near s : Int) (hn : 0 ≤ near ∧ near ≤ 1073741824) (hs : 0 ≤ s ∧ s ≤ 65535) : ∀ k : Nat, k ≤ 2 → -200000 ≤ bst near s k ∧ bst near s k ≤ 1073741824 + 200000
  | 0, _ => by unfold bst; omega
  | k + 1, h => by have := bst_in near s hn hs k (by omega); unfold bst; split <;> omega
theorem bst_two (near s : Int) (_hn : 0 ≤ near ∧ near ≤ 1073741824) (hs : 0 ≤ s ∧ s ≤ 65535) : bst near s 2 = near + stp (near % 65536) s := by
  unfold stp
  simp only [bst]
  repeat' split
  all_goals omega
theorem ref_Frame (a b : Int) (hb : 0 ≤ b ∧ b ≤ 65535) (w : World) :
    Calls Try.prog 13 #[.int .i64 a, .int .u16 b] w fun e w' => e = .returned (.tuple #[.int .i64 (frm a b).1, .int .i64 (frm a b).2]) ∧ w = w' := by
  by_cases ha : a < 0 ∨ 1073741824 < a
  · go_enter Try.func13, Try.ntmps13
    go_wp2
    all_goals
      go_ret2
      refine ⟨ret_two (val_int ?_) (val_int ?_), rfl⟩ <;> (unfold frm; simp only []; (repeat' split) <;> first | rfl | omega)
  · have hn : 0 ≤ a ∧ a ≤ 1073741824 := by omega
    clear ha
    go_enter Try.func13, Try.ntmps13
    go_wp2
    go_loop [7, 8] (fun t i => ∃ k : Nat, k ≤ 2 ∧ i = .int .i64 k ∧ t = .int .i64 (bst a b k)) (fun _ i => 2 - (intOf i).toNat)
    case atStart => exact ⟨0, by omega, rfl, rfl⟩
    case round =>
      obtain ⟨k, hk, rfl, rfl⟩ := hrel
      have hr := bst_in a b hn hb k hk
      by_cases hlt : k < 2
      · go_wp2
        all_goals
          go_round
          case rel => exact ⟨k + 1, by omega, by go_num, val_int (by rw [bst_succ]; split <;> omega)⟩
          case measure => simp [intOf]; omega
      · obtain rfl : k = 2 := by omega
        have hz : bst a b 2 = a + stp (a % 65536) b := bst_two a b hn hb
        have Hz := hid hz
        clear hz
        go_wp2
        all_goals
          go_ret2
          refine ⟨ret_two (val_int ?_) (val_int ?_), rfl⟩ <;> (have hz := Hz.out; unfold frm; simp only []; (repeat' split) <;> first | rfl | omega)
end Go.Proofs.Ytohkdoopechghaa
