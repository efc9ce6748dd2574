/- The parts of a peer: what New of each returns. -/
import Derived.Test.YtfepefohaadecaaWinS
namespace Go.Proofs.Ytfepefohaadecaa
open Go.RowKit
set_option maxRecDepth 100000
variable {w w' : World}
/-- a feed of which nothing is told but that n frames are known -/
structure FeedW (w : World) (D n : Nat) : Prop where
  head : ∃ v, w.heap[D + 4]? = some (.cells #[.pointer (some ⟨D + 1, 0, none⟩), .pointer (some ⟨D + 3, 0, none⟩), .int .i64 n, v] 218 (0, 0)) ∧ ∃ x, v = .int .u8 x
  known : ∃ cs, WinB w (D + 1) D 64 0 cs
theorem FeedW.keeps {S : Nat → Prop} {D n : Nat} (h : FeedW w D n) (hk : Keeps S w w') (hs : ∀ b, D ≤ b → b ≤ D + 4 → ¬ S b) : FeedW w' D n := by
  obtain ⟨⟨v, h1, h2⟩, cs, h3⟩ := h
  exact ⟨⟨v, hk.heap h1 (hs _ (by omega) (by omega)), h2⟩, cs, h3.keeps hk (hs _ (by omega) (by omega)) (hs _ (by omega) (by omega))⟩
theorem feed_New (w : World) :
    Calls Try.prog 104 #[] w fun e w' => e = .returned (.pointer (some ⟨w.heap.size + 4, 0, none⟩)) ∧ FeedW w' w.heap.size 0 ∧ Below w.heap.size w w' ∧ w'.heap.size = w.heap.size + 5 := by
  go_enter Try.func104, Try.ntmps104
  go_wp2_with fail
  refine (winB_Open 64 (by omega) (by omega) w).mono ?_
  rintro e w1 ⟨rfl, ⟨cs1, h1⟩, hb1, hs1⟩
  have Hs1 := hid hs1
  clear hs1
  go_wp2_with fail
  refine (winB_Open 64 (by omega) (by omega) w1).mono ?_
  rintro e w2 ⟨rfl, ⟨cs2, h2⟩, hb2, hs2⟩
  rw [Hs1.out] at hs2 hb2
  have h3 := h1.keeps (Keeps.of_below hb2 (fun k h1 h2 => by have := Hs1.out; omega) : Keeps (fun _ => False) w1 w2) id id
  have hb := hb1.trans (hb2.mono (by omega))
  have Hs2 := hid hs2
  have E1 := Hs1.out
  clear h1 h2 hb1 hb2 hs2
  go_wp2_with fail
  go_ret
  have E2 := Hs2.out
  refine ⟨by rw [E2]; rfl, ⟨⟨.int .u8 0, ?_, 0, rfl⟩, cs1, h3.keeps ((Keeps.refl (fun _ => False) w2).alloc _) id id⟩, hb.alloc (by omega) _, by simp [E2]⟩
  have := blk_new w2 (.cells #[.pointer (some ⟨w.heap.size + 1, 0, none⟩), .pointer (some ⟨w.heap.size + 2 + 1, 0, none⟩), .int .i64 0, .int .u8 0] 218)
  rw [E2] at this
  exact this
theorem feed_Put {D : Nat} (n : Nat) (f : Int) (hfn : f = n) (h : FeedW w D n) (hn : f < 64) :
    Calls Try.prog 105 #[.pointer (some ⟨D + 4, 0, none⟩), .int .i64 f, .int .u8 0] w fun e w' => (∃ v, e = .returned v) ∧ FeedW w' D (n + 1) ∧ Keeps (fun b => D ≤ b ∧ b ≤ D + 4) w w' := by
  obtain ⟨⟨v, h1, x, rfl⟩, cs, h2⟩ := h
  have c0 : w.cell? ⟨D + 4, 0, none⟩ = some (.pointer (some ⟨D + 1, 0, none⟩)) := blk_cell h1 rfl
  have c2 : w.cell? ⟨D + 4, 2, none⟩ = some (.int .i64 f) := by rw [hfn]; exact blk_cell h1 rfl
  have h0 : 0 ≤ f := by omega
  have hP := hid (winB_Put h2 n f hfn (by omega) (by omega) (by omega) 0)
  have H1 := hid h1
  have hf1 : f + 1 = ((n + 1 : Nat) : Int) := by omega
  have Hf1 := hid hf1
  clear h1 h2 hfn hf1
  go_enter Try.func105, Try.ntmps105
  go_wp2_with fail
  refine hP.out.mono ?_
  rintro e w1 ⟨rfl, ⟨cs', h3⟩, hk⟩
  have h4 := hk.heap H1.out (by omega)
  have d2 := blk_cell h4 (k := 2) rfl
  have d3 := blk_cell h4 (k := 3) rfl
  have g2 := blk_free h4 2
  have g3 := blk_free h4 3
  have H4 := hid h4
  clear h4
  go_wp2_with fail
  go_ret
  have e4 := blk_set (blk_set H4.out 2 (.int .i64 (f + 1))) 3 (.int .u8 0)
  refine ⟨⟨_, rfl⟩, ⟨⟨.int .u8 0, by rw [← Hf1.out]; simpa using e4, 0, rfl⟩, cs', ?_⟩, ?_⟩
  · exact h3.keeps (((Keeps.refl (fun b => b = D + 4) w1).setCell (p := ⟨D + 4, 2, none⟩) rfl _).setCell (p := ⟨D + 4, 3, none⟩) rfl _) (by omega) (by omega)
  · exact ((hk.mono (T := fun b => D ≤ b ∧ b ≤ D + 4) (fun k _ h => by omega)).setCell (p := ⟨D + 4, 2, none⟩) (by simp) _).setCell (p := ⟨D + 4, 3, none⟩) (by simp) _
def freshC (x f : Int) : Array Value := #[.int .i32 x, .int .i32 0, .int .i32 0, .int .i32 0, .int .i64 f, .int .i64 3, .int .i64 0, .int .i64 0, .int .i64 0, .int .i64 0]
theorem game_fresh0 (w : World) : Calls Try.prog 119 #[.int .i64 0] w fun e w' => e = .returned (.agg (freshC (-2097152) 0)) ∧ Below w.heap.size w w' := by
  go_enter Try.func119, Try.ntmps119
  go_wp2
  refine bodyPost_ret (v := .agg #[.int .i32 (-2097152), .int .i32 0, .int .i32 0, .int .i32 0, .int .i64 0, .int .i64 3, .int .i64 0, .int .i64 0, .int .i64 0, .int .i64 0]) (by simp [results, Try.results119, go_sem]) rfl ?_
  exact ⟨rfl, ((Below.refl _ w).alloc (Nat.le_refl _) _).alloc (by simp) _⟩
theorem game_fresh1 (w : World) : Calls Try.prog 119 #[.int .i64 1] w fun e w' => e = .returned (.agg (freshC 2097152 32768)) ∧ Below w.heap.size w w' := by
  go_enter Try.func119, Try.ntmps119
  go_wp2
  refine bodyPost_ret (v := .agg #[.int .i32 2097152, .int .i32 0, .int .i32 0, .int .i32 0, .int .i64 32768, .int .i64 3, .int .i64 0, .int .i64 0, .int .i64 0, .int .i64 0]) (by simp [results, Try.results119, go_sem]) rfl ?_
  exact ⟨rfl, ((Below.refl _ w).alloc (Nat.le_refl _) _).alloc (by simp) _⟩
end Go.Proofs.Ytfepefohaadecaa
