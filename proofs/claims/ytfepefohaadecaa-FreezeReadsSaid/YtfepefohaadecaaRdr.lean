/- freeze: the codec that reads. -/
import Derived.Test.YtfepefohaadecaaFrz4
import Derived.Test.YtfepefohaadecaaRead
namespace Go.Proofs.Ytfepefohaadecaa
open Go.RowKit
set_option maxRecDepth 10000
variable {w : World}
def IsRd (w : World) (r : Nat) (q : ByteArray × Bool) : Prop := w.heap[r]? = some (.cells #[.string q.1, .bool q.2] 89 (0, 0))
theorem rd_took (r : Nat) (R : ByteArray) (bad : Bool) (n : Nat) (e : Int) (h : IsRd w r (R, bad)) (hn : n ≤ R.size) :
    Calls Try.prog 167 #[.pointer (some ⟨r, 0, none⟩), .int .i64 n, .int .i64 e] w fun e' w' => e' = .returned (.tuple #[]) ∧ IsRd w' r (R.extract n R.size, bad || (e != 0)) ∧ Keeps (fun b => b = r) w w' := by
  have y0 : w.cell? ⟨r, 0, none⟩ = some (.string R) := blk_cell h rfl
  have y1 : w.cell? ⟨r, 1, none⟩ = some (.bool bad) := blk_cell h rfl
  have f1 := blk_free h 1
  cases bad
  · have h1 := blk_set h 1 (.bool ((e != 0)))
    have k1 : Keeps (fun b => b = r) w (w.setCell ⟨r, 1, none⟩ (.bool ((e != 0)))) := Keeps.setCell (S := fun b => b = r) (Keeps.refl _ w) (p := ⟨r, 1, none⟩) rfl _
    have z0 : (w.setCell ⟨r, 1, none⟩ (.bool ((e != 0)))).cell? ⟨r, 0, none⟩ = some (.string R) := blk_cell h1 rfl
    have g0 := blk_free h1 0
    go_enter Try.func167, Try.ntmps167
    go_wp2_with fail
    refine bodyPost_end (v := .tuple #[]) (by first | rfl | simp [results, go_sem]) rfl ?_
    exact ⟨rfl, blk_set h1 0 (.string (R.extract n R.size)), Keeps.setCell (S := fun b => b = r) k1 (p := ⟨r, 0, none⟩) rfl _⟩
  · have h1 := blk_set h 1 (.bool (true))
    have k1 : Keeps (fun b => b = r) w (w.setCell ⟨r, 1, none⟩ (.bool (true))) := Keeps.setCell (S := fun b => b = r) (Keeps.refl _ w) (p := ⟨r, 1, none⟩) rfl _
    have z0 : (w.setCell ⟨r, 1, none⟩ (.bool (true))).cell? ⟨r, 0, none⟩ = some (.string R) := blk_cell h1 rfl
    have g0 := blk_free h1 0
    go_enter Try.func167, Try.ntmps167
    go_wp2_with fail
    refine bodyPost_end (v := .tuple #[]) (by first | rfl | simp [results, go_sem]) rfl ?_
    exact ⟨rfl, blk_set h1 0 (.string (R.extract n R.size)), Keeps.setCell (S := fun b => b = r) k1 (p := ⟨r, 0, none⟩) rfl _⟩
def rdN (q : ByteArray × Bool) : (ByteArray × Bool) × Int :=
  ((q.1.extract (rdNum q.1.data.toList).2.1 q.1.size, (q.2 || ((rdNum q.1.data.toList).2.2 != 0)) || decide (4294967295 < ((rdNum q.1.data.toList).1 : Int))), wrap64 ((rdNum q.1.data.toList).1 : Int))
def rdS (q : ByteArray × Bool) : (ByteArray × Bool) × Int :=
  ((q.1.extract (rdNum q.1.data.toList).2.1 q.1.size, ((q.2 || ((rdNum q.1.data.toList).2.2 != 0)) || decide (2147483647 < unzz (rdNum q.1.data.toList).1)) || decide (unzz (rdNum q.1.data.toList).1 < -2147483648)), wrap32 (unzz (rdNum q.1.data.toList).1))
theorem rd_number (r B o : Nat) (R : ByteArray) (bad : Bool) (cs : Array Value) (t : TypeId) (n : Int) (h : IsRd w r (R, bad)) (hs : R.size ≤ maxLen) (hB : w.heap[B]? = some (.cells cs t (0, 0))) (hne : B ≠ r) (hc : cs[o]? = some (.int .i64 n)) :
    Calls Try.prog 165 #[.pointer (some ⟨r, 0, none⟩), .pointer (some ⟨B, o, none⟩)] w fun e w' => e = .returned (.tuple #[]) ∧ IsRd w' r (rdN (R, bad)).1 ∧ w'.heap[B]? = some (.cells (cs.setIfInBounds o (.int .i64 (rdN (R, bad)).2)) t (0, 0)) ∧ Keeps (fun b => b = r ∨ b = B) w w' := by
  have y0 : w.cell? ⟨r, 0, none⟩ = some (.string R) := blk_cell h rfl
  have hN := pack_ReadNumber R hs w
  have hin := rd_in R.data.toList
  unfold rdN
  simp only
  generalize (rdNum R.data.toList).1 = x at *
  generalize (rdNum R.data.toList).2.1 = k at *
  generalize (rdNum R.data.toList).2.2 = e at *
  have hT := fun W H => rd_took (w := W) r R bad k e H (by simpa using hin.2.1)
  generalize R.extract k R.size = R1 at *
  generalize (bad || (e != 0)) = bad1 at *
  go_enter Try.func165, Try.ntmps165
  go_wp2_with fail
  refine hN.mono ?_
  rintro _ w1 ⟨rfl, rfl⟩
  go_wp2_with fail
  refine (hT _ h).mono ?_
  rintro _ w1 ⟨rfl, h1, hk1⟩
  have hB1 := hk1.heap hB hne
  have h1 : w1.heap[r]? = some (.cells #[.string R1, .bool bad1] 89 (0, 0)) := h1
  have y1 : w1.cell? ⟨r, 1, none⟩ = some (.bool bad1) := blk_cell h1 rfl
  have f1 := blk_free h1 1
  clear hN hin hT y0 h hB
  cases bad1
  · have hB2 := blk_other (p := ⟨r, 1, none⟩) hB1 hne (.bool (decide (4294967295 < (x : Int))))
    have h2 := blk_set h1 1 (.bool (decide (4294967295 < (x : Int))))
    have k2 : Keeps (fun b => b = r) w (w1.setCell ⟨r, 1, none⟩ (.bool (decide (4294967295 < (x : Int))))) := Keeps.setCell (S := fun b => b = r) hk1 (p := ⟨r, 1, none⟩) rfl _
    have z0 := blk_cell hB2 hc
    have g0 := blk_free hB2 o
    go_wp2_with fail
    refine bodyPost_end (v := .tuple #[]) (by first | rfl | simp [results, go_sem]) rfl ?_
    exact ⟨rfl, (by exact blk_other (p := ⟨B, o, none⟩) h2 hne.symm _), blk_set hB2 o (.int .i64 (wrap64 (x : Int))), Keeps.setCell (S := fun b => b = r ∨ b = B) (k2.mono fun _ _ => Or.inl) (p := ⟨B, o, none⟩) (Or.inr rfl) _⟩
  · have hB2 := blk_other (p := ⟨r, 1, none⟩) hB1 hne (.bool (true))
    have h2 := blk_set h1 1 (.bool (true))
    have k2 : Keeps (fun b => b = r) w (w1.setCell ⟨r, 1, none⟩ (.bool (true))) := Keeps.setCell (S := fun b => b = r) hk1 (p := ⟨r, 1, none⟩) rfl _
    have z0 := blk_cell hB2 hc
    have g0 := blk_free hB2 o
    go_wp2_with fail
    refine bodyPost_end (v := .tuple #[]) (by first | rfl | simp [results, go_sem]) rfl ?_
    exact ⟨rfl, (by exact blk_other (p := ⟨B, o, none⟩) h2 hne.symm _), blk_set hB2 o (.int .i64 (wrap64 (x : Int))), Keeps.setCell (S := fun b => b = r ∨ b = B) (k2.mono fun _ _ => Or.inl) (p := ⟨B, o, none⟩) (Or.inr rfl) _⟩
theorem rd_signed (r B o : Nat) (R : ByteArray) (bad : Bool) (cs : Array Value) (t : TypeId) (n : Int) (h : IsRd w r (R, bad)) (hs : R.size ≤ maxLen) (hB : w.heap[B]? = some (.cells cs t (0, 0))) (hne : B ≠ r) (hc : cs[o]? = some (.int .i32 n)) :
    Calls Try.prog 166 #[.pointer (some ⟨r, 0, none⟩), .pointer (some ⟨B, o, none⟩)] w fun e w' => e = .returned (.tuple #[]) ∧ IsRd w' r (rdS (R, bad)).1 ∧ w'.heap[B]? = some (.cells (cs.setIfInBounds o (.int .i32 (rdS (R, bad)).2)) t (0, 0)) ∧ Keeps (fun b => b = r ∨ b = B) w w' := by
  have y0 : w.cell? ⟨r, 0, none⟩ = some (.string R) := blk_cell h rfl
  have hN := pack_ReadSigned R hs w
  have hin := rd_in R.data.toList
  unfold rdS
  simp only
  generalize unzz (rdNum R.data.toList).1 = x at *
  generalize (rdNum R.data.toList).2.1 = k at *
  generalize (rdNum R.data.toList).2.2 = e at *
  have hT := fun W H => rd_took (w := W) r R bad k e H (by simpa using hin.2.1)
  generalize R.extract k R.size = R1 at *
  generalize (bad || (e != 0)) = bad1 at *
  go_enter Try.func166, Try.ntmps166
  go_wp2_with fail
  refine hN.mono ?_
  rintro _ w1 ⟨rfl, rfl⟩
  go_wp2_with fail
  refine (hT _ h).mono ?_
  rintro _ w1 ⟨rfl, h1, hk1⟩
  have hB1 := hk1.heap hB hne
  have h1 : w1.heap[r]? = some (.cells #[.string R1, .bool bad1] 89 (0, 0)) := h1
  have y1 : w1.cell? ⟨r, 1, none⟩ = some (.bool bad1) := blk_cell h1 rfl
  have f1 := blk_free h1 1
  clear hN hin hT y0 h hB
  cases bad1
  · cases hd : decide (2147483647 < x)
    · have hB2 := blk_other (p := ⟨r, 1, none⟩) hB1 hne (.bool (decide (x < -2147483648)))
      have h2 := blk_set h1 1 (.bool (decide (x < -2147483648)))
      have k2 : Keeps (fun b => b = r) w (w1.setCell ⟨r, 1, none⟩ (.bool (decide (x < -2147483648)))) := Keeps.setCell (S := fun b => b = r) hk1 (p := ⟨r, 1, none⟩) rfl _
      have z0 := blk_cell hB2 hc
      have g0 := blk_free hB2 o
      go_wp2_with fail
      refine bodyPost_end (v := .tuple #[]) (by first | rfl | simp [results, go_sem]) rfl ?_
      exact ⟨rfl, (by rw [hd];exact blk_other (p := ⟨B, o, none⟩) h2 hne.symm _), blk_set hB2 o (.int .i32 (wrap32 x)), Keeps.setCell (S := fun b => b = r ∨ b = B) (k2.mono fun _ _ => Or.inl) (p := ⟨B, o, none⟩) (Or.inr rfl) _⟩
    · have hB2 := blk_other (p := ⟨r, 1, none⟩) hB1 hne (.bool (true))
      have h2 := blk_set h1 1 (.bool (true))
      have k2 : Keeps (fun b => b = r) w (w1.setCell ⟨r, 1, none⟩ (.bool (true))) := Keeps.setCell (S := fun b => b = r) hk1 (p := ⟨r, 1, none⟩) rfl _
      have z0 := blk_cell hB2 hc
      have g0 := blk_free hB2 o
      go_wp2_with fail
      refine bodyPost_end (v := .tuple #[]) (by first | rfl | simp [results, go_sem]) rfl ?_
      exact ⟨rfl, (by rw [hd];exact blk_other (p := ⟨B, o, none⟩) h2 hne.symm _), blk_set hB2 o (.int .i32 (wrap32 x)), Keeps.setCell (S := fun b => b = r ∨ b = B) (k2.mono fun _ _ => Or.inl) (p := ⟨B, o, none⟩) (Or.inr rfl) _⟩
  · have hB2 := blk_other (p := ⟨r, 1, none⟩) hB1 hne (.bool (true))
    have h2 := blk_set h1 1 (.bool (true))
    have k2 : Keeps (fun b => b = r) w (w1.setCell ⟨r, 1, none⟩ (.bool (true))) := Keeps.setCell (S := fun b => b = r) hk1 (p := ⟨r, 1, none⟩) rfl _
    have z0 := blk_cell hB2 hc
    have g0 := blk_free hB2 o
    go_wp2_with fail
    refine bodyPost_end (v := .tuple #[]) (by first | rfl | simp [results, go_sem]) rfl ?_
    exact ⟨rfl, (by exact blk_other (p := ⟨B, o, none⟩) h2 hne.symm _), blk_set hB2 o (.int .i32 (wrap32 x)), Keeps.setCell (S := fun b => b = r ∨ b = B) (k2.mono fun _ _ => Or.inl) (p := ⟨B, o, none⟩) (Or.inr rfl) _⟩
end Go.Proofs.Ytfepefohaadecaa
