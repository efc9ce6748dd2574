/- Making a cable, cutting it; a cable that is not there. -/
import Derived.Test.YtdgbmnefpempaaaCable2
namespace Go.Proofs.Ytdgbmnefpempaaa
open Go.RowKit
section
variable {w w' : World} {c m most : Nat} {s : CS}
theorem cable_New_no (x : Int) (hx : x < 1 ∨ 64 < x) (w : World) :
    Calls Try.prog 9 #[.int .i64 x] w fun e w' => e = .returned (.tuple #[.pointer none, .int .i64 1]) ∧ w = w' := by
  by_cases h1 : x < 1
  · clear hx
    go_enter Try.func9, Try.ntmps9
    go_wp2
    go_ret2
    exact ⟨rfl, rfl⟩
  · have h2 : 64 < x := by omega
    clear hx
    go_enter Try.func9, Try.ntmps9
    go_wp2
    go_ret2
    exact ⟨rfl, rfl⟩
/-- a cable in the making, so many of its ends laid -/
def NewSt (w0 w : World) (c most : Nat) (k : Nat) : Prop := Below w0.heap.size w0 w ∧ w0.heap.size ≤ c ∧
  ((k = 0 ∧ w.heap[c]? = some (.cells #[.pointer none, .pointer none, .int .i64 0] 63 (0, 0)) ∧ w.heap.size = c + 1) ∨
   (k = 1 ∧ w.heap[c]? = some (.cells #[.pointer (some ⟨c + 2, 0, none⟩), .pointer none, .int .i64 0] 63 (0, 0)) ∧ IsRing w (c + 2) (c + 1) most ([] : List ByteArray) ∧ w.heap.size = c + 3) ∨
   (k = 2 ∧ IsCable w c most ⟨[], [], 0⟩))
set_option maxHeartbeats 800000 in
theorem cable_New (most : Nat) (h1 : 1 ≤ most) (h2 : most ≤ 64) (w : World) :
    Calls Try.prog 9 #[.int .i64 most] w fun e w' => e = .returned (.tuple #[.pointer (some ⟨w.heap.size, 0, none⟩), .int .i64 0]) ∧ IsCable w' w.heap.size most ⟨[], [], 0⟩ ∧ Below w.heap.size w w' := by
  have h0 := hid (show NewSt w (w.alloc (.cells #[.pointer none, .pointer none, .int .i64 0] 63)) w.heap.size most 0 from ⟨(Below.refl _ w).alloc (Nat.le_refl _) _, Nat.le_refl _, .inl ⟨rfl, blk_new _ _, by simp⟩⟩)
  go_enter Try.func9, Try.ntmps9
  go_wp2_with fail
  go_loopw [16] (fun i wr => ∃ k : Nat, k ≤ 2 ∧ i = .int .i64 k ∧ Hid (NewSt w wr w.heap.size most k)) (fun i _ => 2 - (intOf i).toNat)
  case atStart => exact ⟨0, by omega, rfl, h0⟩
  case round =>
    obtain ⟨k, hk, rfl, hN⟩ := hrel
    clear h0
    obtain ⟨b1, b2, hst⟩ := hN.out
    clear hN
    rcases hst with ⟨rfl, hh, hs⟩ | ⟨rfl, hh, hr, hs⟩ | ⟨rfl, hc⟩
    · go_wp2_with fail
      refine (is_New2 most h1 (by omega) wr).mono ?_
      rintro e w2 ⟨rfl, hr2, hb2, hs2⟩
      rw [hs] at hr2 hs2 hb2
      have Hs := hid hs
      have hh2 := (hb2.block w.heap.size (by omega)).trans hh
      have f0 := blk_free hh2 0
      have c0 : w2.cell? ⟨w.heap.size, 0, none⟩ = some (.pointer none) := blk_cell hh2 rfl
      have Hs2 := hid hs2
      rw [hs]
      clear hs hs2
      go_wp2_with fail
      go_roundw
      case rel =>
        have hk := (Keeps.refl (fun b => b = w.heap.size) w2).setCell (p := ⟨w.heap.size, 0, none⟩) rfl (.pointer (some ⟨w.heap.size + 2, 0, none⟩))
        refine ⟨1, by omega, rfl, b1.trans ((hb2.mono (by omega)).setCell (by simp) _), b2, .inr (.inl ⟨rfl, blk_set hh2 0 (.pointer (some ⟨w.heap.size + 2, 0, none⟩)), hr2.keeps hk (by omega) (by omega), ?_⟩)⟩
        rw [World.size_setCell, Hs2.out]
      case measure => simp [intOf]
    · go_wp2_with fail
      refine (is_New2 most h1 (by omega) wr).mono ?_
      rintro e w2 ⟨rfl, hr2, hb2, hs2⟩
      rw [hs] at hr2 hs2 hb2
      have Hs := hid hs
      have hh2 := (hb2.block w.heap.size (by omega)).trans hh
      have f0 := blk_free hh2 1
      have c0 : w2.cell? ⟨w.heap.size, 1, none⟩ = some (.pointer none) := blk_cell hh2 rfl
      have hra := hr.keeps (S := fun b => w.heap.size + 3 ≤ b) (Keeps.of_below hb2 (fun _ _ h => h)) (by omega) (by omega)
      rw [hs]
      clear hs hs2 hr
      go_wp2_with fail
      go_roundw
      case rel =>
        have hk := (Keeps.refl (fun b => b = w.heap.size) w2).setCell (p := ⟨w.heap.size, 1, none⟩) rfl (.pointer (some ⟨w.heap.size + 4, 0, none⟩))
        exact ⟨2, by omega, rfl, b1.trans ((hb2.mono (by omega)).setCell (by simp) _), b2, .inr (.inr ⟨rfl, ⟨blk_set hh2 1 (.pointer (some ⟨w.heap.size + 4, 0, none⟩)), hra.keeps hk (by omega) (by omega), hr2.keeps hk (by omega) (by omega)⟩⟩)⟩
      case measure => simp [intOf]
    · go_wp2_with fail
      go_ret2
      exact ⟨rfl, hc, b1⟩
end
end Go.Proofs.Ytdgbmnefpempaaa
