/- The reader that takes fields from the front. -/
import Derived.Test.YtaobhbfhbmenfaaWire2
import Derived.Test.YtaobhbfhbmenfaaReadRun
import Derived.Deep.LoopGhost
namespace Go.Proofs.Ytaobhbfhbmenfaa
open Go.RowKit
set_option maxRecDepth 10000
structure Rd where
  s : ByteArray
  bad : Bool
def IsRd (w : World) (r : Nat) (x : Rd) : Prop := w.heap[r]? = some (.cells #[.string x.s, .bool x.bad] 95 (0, 0))
def takeR (n : Nat) (x : Rd) : ByteArray × Rd := if x.bad = true ∨ x.s.size < n then (⟨#[]⟩, ⟨x.s, true⟩) else (x.s.extract 0 n, ⟨x.s.extract n x.s.size, false⟩)
variable {w w' : World} {r : Nat} {x : Rd}
theorem IsRd.keeps {S : Nat → Prop} (h : IsRd w r x) (hk : Keeps S w w') (hs : ¬ S r) : IsRd w' r x := hk.heap h hs
theorem take_size (n : Nat) (x : Rd) : (takeR n x).2.s.size ≤ x.s.size := by
  unfold takeR
  split
  · exact Nat.le_refl _
  · simp
theorem reader_take (h : IsRd w r x) (n : Nat) (hs : x.s.size ≤ maxLen) :
    Calls Try.prog 66 #[.pointer (some ⟨r, 0, none⟩), .int .i64 n] w fun e w' => e = .returned (.string (takeR n x).1) ∧ IsRd w' r (takeR n x).2 ∧ Keeps (fun b => b = r) w w' := by
  obtain ⟨s, bad⟩ := x
  unfold maxLen at hs
  have c0 : w.cell? ⟨r, 0, none⟩ = some (.string s) := blk_cell h rfl
  have c1 : w.cell? ⟨r, 1, none⟩ = some (.bool bad) := blk_cell h rfl
  have f0 := blk_free h 0
  have f1 := blk_free h 1
  simp only at hs
  have H := hid h
  unfold takeR
  simp only
  cases bad with
  | true =>
    rw [if_pos (.inl rfl)]
    clear h
    go_enter Try.func66, Try.ntmps66
    go_wp2
    go_ret
    exact ⟨rfl, by have := blk_set H.out 1 (.bool true); simpa [IsRd] using this, (Keeps.refl (fun b => b = r) w).setCell (p := ⟨r, 1, none⟩) rfl _⟩
  | false =>
    by_cases hn : s.size < n
    · rw [if_pos (.inr hn)]
      clear h
      go_enter Try.func66, Try.ntmps66
      go_wp2
      go_ret
      exact ⟨rfl, by have := blk_set H.out 1 (.bool true); simpa [IsRd] using this, (Keeps.refl (fun b => b = r) w).setCell (p := ⟨r, 1, none⟩) rfl _⟩
    · rw [if_neg (by simp; omega)]
      have hn2 : n ≤ s.size := by omega
      clear h hn
      go_enter Try.func66, Try.ntmps66
      go_wp2
      go_ret
      exact ⟨rfl, by have := blk_set H.out 0 (.string (s.extract n s.size)); simpa [IsRd] using this, (Keeps.refl (fun b => b = r) w).setCell (p := ⟨r, 0, none⟩) rfl _⟩
end Go.Proofs.Ytaobhbfhbmenfaa
