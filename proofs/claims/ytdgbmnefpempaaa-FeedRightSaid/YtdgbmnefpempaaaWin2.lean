/- A window's Get and Put, slot by slot. -/
import Derived.Test.YtdgbmnefpempaaaWin
namespace Go.Proofs.Ytdgbmnefpempaaa
open Go.RowKit
section
variable {w w' : World} {r B size first : Nat} {S : List (Int × Bool)}
theorem WinAt.slot (h : WinAt w r B size first S) {k : Nat} {x : Int} {b : Bool} (hk : S[k]? = some (x, b)) : w.cell? ⟨B, k * 2, none⟩ = some (Value.int .u8 x) ∧ w.cell? ⟨B, k * 2 + 1, none⟩ = some (.bool b) := by
  obtain ⟨hl, hx⟩ := List.getElem?_eq_some_iff.1 hk
  obtain ⟨h1, h2⟩ := slots_at S k hl
  rw [hx] at h1 h2
  exact ⟨blk_cell h.body (by simpa using h1), blk_cell h.body (by simpa using h2)⟩
theorem WinAt.setSlot (h : WinAt w r B size first S) (k : Nat) (x : Int) (b : Bool) : WinAt ((w.setCell ⟨B, k * 2, none⟩ (Value.int .u8 x)).setCell ⟨B, k * 2 + 1, none⟩ (.bool b)) r B size first (S.set k (x, b)) :=
  ⟨blk_other (blk_other h.head h.ne _) h.ne _, by have := blk_set (blk_set h.body (k * 2) (Value.int .u8 x)) (k * 2 + 1) (.bool b); rw [← slots_set]; simpa using this, by simpa using h.slen, h.pos, h.most, h.fst, h.ne⟩
theorem win_Get_no (h : WinAt w r B size first S) (f : Int) (hf : ¬ inW first size f) (hr : -9223372036854775808 ≤ f ∧ f ≤ 9223372036854775807) :
    Calls Try.prog 43 #[.pointer (some ⟨r, 0, none⟩), .int .i64 f] w fun e w' => e = .returned (.tuple #[(Value.int .u8 0), .bool false]) ∧ ∃ q, w' = w.drewN q := by
  have hI := hid (win_inside_no h f hf hr)
  clear hf hr
  go_enter Try.func43, Try.ntmps43
  go_wp2_with fail
  refine hI.out.mono ?_
  rintro e w' ⟨rfl, q, rfl⟩
  go_wp2
  go_ret2
  exact ⟨rfl, _, rfl⟩
theorem win_Get (h : WinAt w r B size first S) (n k : Nat) (f : Int) (hfn : f = n) (hf : inW first size f) (hk : n % size = k) (x : Int) (b : Bool) (hS : S[k]? = some (x, b)) :
    Calls Try.prog 43 #[.pointer (some ⟨r, 0, none⟩), .int .i64 f] w fun e w' => e = .returned (.tuple #[if b then (Value.int .u8 x) else (Value.int .u8 0), .bool b]) ∧ ∃ q, w' = w.drewN q := by
  have hI := hid (win_inside h n k f hfn hf hk)
  obtain ⟨s0, s1⟩ := h.slot hS
  clear hfn hf hk hS
  cases b with
  | true =>
    go_enter Try.func43, Try.ntmps43
    go_wp2_with fail
    refine hI.out.mono ?_
    rintro e w' ⟨rfl, q, rfl⟩
    go_wp2
    go_ret2
    exact ⟨rfl, _, rfl⟩
  | false =>
    go_enter Try.func43, Try.ntmps43
    go_wp2_with fail
    refine hI.out.mono ?_
    rintro e w' ⟨rfl, q, rfl⟩
    go_wp2
    go_ret2
    exact ⟨rfl, _, rfl⟩
theorem win_Put_no (h : WinAt w r B size first S) (f : Int) (hf : ¬ inW first size f) (hr : -9223372036854775808 ≤ f ∧ f ≤ 9223372036854775807) (x : Int) :
    Calls Try.prog 40 #[.pointer (some ⟨r, 0, none⟩), .int .i64 f, (Value.int .u8 x)] w fun e w' => e = .returned (.int .i64 (if f < first then 10 else 8)) ∧ ∃ q, w' = w.drewN q := by
  have hI := hid (win_inside_no h f hf hr)
  have c0 := h.c0
  clear hf hr
  by_cases h1 : f < first
  · rw [if_pos h1]
    go_enter Try.func40, Try.ntmps40
    go_wp2_with fail
    refine hI.out.mono ?_
    rintro e w' ⟨rfl, q, rfl⟩
    go_wp2
    go_ret
    exact ⟨rfl, _, rfl⟩
  · rw [if_neg h1]
    go_enter Try.func40, Try.ntmps40
    go_wp2_with fail
    refine hI.out.mono ?_
    rintro e w' ⟨rfl, q, rfl⟩
    go_wp2
    go_ret
    exact ⟨rfl, _, rfl⟩
theorem win_Put (h : WinAt w r B size first S) (n k : Nat) (f : Int) (hfn : f = n) (hf : inW first size f) (hk : n % size = k) (y : Int) :
    Calls Try.prog 40 #[.pointer (some ⟨r, 0, none⟩), .int .i64 f, (Value.int .u8 y)] w fun e w' => e = .returned (.int .i64 0) ∧ WinAt w' r B size first (S.set k (y, true)) ∧ Keeps (fun b => b = B) w w' := by
  have hI := hid (win_inside h n k f hfn hf hk)
  have c0 := h.c0
  have hkl : k < S.length := by rw [h.slen, ← hk]; exact Nat.mod_lt _ h.pos
  obtain ⟨s0, s1⟩ := h.slot (k := k) (x := S[k].1) (b := S[k].2) (List.getElem?_eq_getElem hkl)
  have g0 := blk_free h.body (k * 2)
  have g1 := blk_free h.body (k * 2 + 1)
  have h1 := hf.1
  clear hfn hf hk
  go_enter Try.func40, Try.ntmps40
  go_wp2_with fail
  refine hI.out.mono ?_
  rintro e w' ⟨rfl, q, rfl⟩
  go_wp2
  go_ret
  exact ⟨rfl, (h.drew q).setSlot k y true, (((Keeps.refl (fun b => b = B) w).drewN q).setCell (p := ⟨B, k * 2, none⟩) rfl _).setCell (p := ⟨B, k * 2 + 1, none⟩) rfl _⟩
end
end Go.Proofs.Ytdgbmnefpempaaa
