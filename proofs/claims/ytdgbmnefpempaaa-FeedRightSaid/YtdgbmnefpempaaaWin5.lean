/- The frames of a window, gathered. -/
import Derived.Test.YtdgbmnefpempaaaWin4
namespace Go.Proofs.Ytdgbmnefpempaaa
open Go.RowKit
def natsL (L : List Nat) : List Int := L.map fun f : Nat => (f : Int)
theorem framesW_len (S : List (Int × Bool)) (size first : Nat) (fr : Int) (k : Nat) : (framesW S size first fr k).length ≤ k := by
  unfold framesW
  exact Nat.le_trans (List.length_filter_le _ _) (by simp)
section
variable {w w' : World} {r B size first : Nat} {S : List (Int × Bool)}
theorem win_collect (h : WinAt w r B size first S) (fr : Int) :
    Calls Try.prog 51 #[.func (.func 55) #[] #[.pointer (some ⟨w.heap.size, 0, none⟩), .pointer (some ⟨w.heap.size + 1, 0, none⟩)]] ((w.alloc (.cells #[.pointer (some ⟨r, 0, none⟩)] 70)).alloc (.cells #[.int .i64 fr] 3)) fun e w' =>
      ∃ v, e = .returned v ∧ w'.ownsRow (w.heap.size + 5) 3 1 v (framesW S size first fr size).length (intsL (natsL (framesW S size first fr size))) ∧ Below w.heap.size w w' := by
  obtain ⟨w2, hw2⟩ : ∃ w2, (w.alloc (.cells #[.pointer (some ⟨r, 0, none⟩)] 70)).alloc (.cells #[.int .i64 fr] 3) = w2 := ⟨_, rfl⟩
  have hk : Keeps (fun _ => False) w w2 := by rw [← hw2]; exact ((Keeps.refl _ w).alloc _).alloc _
  have hs : w2.heap.size = w.heap.size + 2 := by rw [← hw2]; simp
  have hc : w2.cell? ⟨w.heap.size, 0, none⟩ = some (.pointer (some ⟨r, 0, none⟩)) := by rw [← hw2]; exact cell_past (cell_one_new' _ _ _) _
  have hf : w2.cell? ⟨w.heap.size + 1, 0, none⟩ = some (.int .i64 fr) := by rw [← hw2]; have := cell_one_new' (w.alloc (.cells #[.pointer (some ⟨r, 0, none⟩)] 70)) (.int .i64 fr) 3; rw [World.size_alloc] at this; exact this
  have lr := blk_lt h.head
  have lB := blk_lt h.body
  have hm := h.most
  rw [hw2]
  have h2 := h.keeps hk id id
  have hb2 : Below w.heap.size w w2 := hk.below (Nat.le_refl _) (fun _ _ => id)
  have hb := seq_Collect (w := w2) (fun f : Nat => (f : Int)) 55 #[.pointer (some ⟨w.heap.size, 0, none⟩), .pointer (some ⟨w.heap.size + 1, 0, none⟩)] (enters_of Try.func55 (by kernel_rfl) rfl) (framesW S size first fr size) (Nat.le_trans (framesW_len _ _ _ _ _) hm)
    (frames1 (h2.keeps ((Keeps.refl (fun _ => False) w2).alloc _) id id) w.heap.size (w.heap.size + 1) fr (cell_past hc _) (cell_past hf _) _ ⟨by omega, by omega, by omega, by omega⟩ ⟨by simp; omega, by simp; omega⟩)
  rw [hs] at hb
  exact hb.mono fun e w' ⟨v, h1, h3, h4⟩ => ⟨v, h1, h3, hb2.trans (h4.mono (by omega))⟩
theorem win_Frames (h : WinAt w r B size first S) :
    Calls Try.prog 42 #[.pointer (some ⟨r, 0, none⟩)] w fun e w' =>
      ∃ v, e = .returned v ∧ w'.ownsRow (w.heap.size + 5) 3 1 v (framesW S size first 0 size).length (intsL (natsL (framesW S size first 0 size))) ∧ Below w.heap.size w w' := by
  have hC := hid (win_collect h 0)
  go_enter Try.func42, Try.ntmps42
  go_wp2_with fail
  refine (win_frames r 0 w).mono ?_
  rintro e w2 ⟨rfl, rfl⟩
  go_wp2_with fail
  refine hC.out.mono ?_
  rintro e w3 ⟨v, rfl, h1, h2⟩
  go_wp2
  go_ret
  exact ⟨_, rfl, h1, h2⟩
end
end Go.Proofs.Ytdgbmnefpempaaa
