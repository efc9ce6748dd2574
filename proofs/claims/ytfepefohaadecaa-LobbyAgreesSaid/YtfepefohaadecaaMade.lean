/- A setup that may be, by peer.Right. -/
import Derived.Test.YtfepefohaadecaaCore
namespace Go.Proofs.Ytfepefohaadecaa
open Go.RowKit
set_option maxRecDepth 100000
variable {w w' : World}
theorem blk_store6' {w : World} {b : Nat} {t : TypeId} {c0 c1 c2 c3 c4 c5 : Value} (h : w.heap[b]? = some (.cells #[c0, c1, c2, c3, c4, c5] t (0, 0))) (v0 v1 v2 v3 v4 v5 : Value) :
    ((((((w.setCell ⟨b, 0, none⟩ v0).setCell ⟨b, 1, none⟩ v1).setCell ⟨b, 2, none⟩ v2).setCell ⟨b, 3, none⟩ v3).setCell ⟨b, 4, none⟩ v4).setCell ⟨b, 5, none⟩ v5).heap[b]? = some (.cells #[v0, v1, v2, v3, v4, v5] t (0, 0)) := by
  have := blk_set (blk_set (blk_set (blk_set (blk_set (blk_set h 0 v0) 1 v1) 2 v2) 3 v3) 4 v4) 5 v5
  simpa using this
def Parts (w : World) (e : Ending) (w' : World) : Prop :=
  (∃ p0 p1 p2 p3 p4 p5 : Addr, e = .returned (.tuple #[.agg #[.pointer (some p0), .pointer (some p1), .pointer (some p2), .pointer (some p3), .pointer (some p4), .pointer (some p5)], .bool true])) ∧ Below w.heap.size w w'
structure MSt (w0 w : World) (s d n m : Int) : Prop where
  box : w.heap[w0.heap.size]? = some (.cells #[.int .u32 s, .int .i64 d, .int .i64 n, .int .i64 m, .int .u32 0, .int .i64 1, .int .i64 1, .int .i64 1] 76 (0, 0))
  res : w.heap[w0.heap.size + 1]? = some (.cells #[.pointer none, .pointer none, .pointer none, .pointer none, .pointer none, .pointer none] 123 (0, 0))
  bel : Below w0.heap.size w0 w
theorem MSt.keep {w0 w1 w2 : World} {s d n m : Int} (h : MSt w0 w1 s d n m) (hk : Below w1.heap.size w1 w2) : MSt w0 w2 s d n m := by
  have k : Keeps (fun _ => False) w1 w2 := Keeps.of_below hk (fun k h1 h2 => by omega)
  exact ⟨k.heap h.box id, k.heap h.res id, h.bel.trans (hk.mono h.bel.size)⟩
theorem MSt.start (w : World) (s d n m : Int) : MSt w ((w.alloc (.cells #[.int .u32 s, .int .i64 d, .int .i64 n, .int .i64 m, .int .u32 0, .int .i64 1, .int .i64 1, .int .i64 1] 76)).alloc (.cells #[.pointer none, .pointer none, .pointer none, .pointer none, .pointer none, .pointer none] 123)) s d n m := by
  refine ⟨blk_alloc (blk_new w _) _, ?_, ((Below.refl _ w).alloc (Nat.le_refl _) _).alloc (by simp) _⟩
  have := blk_new (w.alloc (.cells #[.int .u32 s, .int .i64 d, .int .i64 n, .int .i64 m, .int .u32 0, .int .i64 1, .int .i64 1, .int .i64 1] 76)) (.cells #[.pointer none, .pointer none, .pointer none, .pointer none, .pointer none, .pointer none] 123)
  rw [World.size_alloc] at this
  exact this
set_option maxHeartbeats 1600000 in
theorem peer_made (s n m : Int) (dn : Nat) (hd : dn ≤ 8) (hn : 1 ≤ n ∧ n ≤ 16) (hm : m = 0 ∨ m = 1) (w : World) :
    Calls Try.prog 65 #[.agg #[.int .u32 s, .int .i64 dn, .int .i64 n, .int .i64 m, .int .u32 0, .int .i64 1, .int .i64 1, .int .i64 1]] w (Parts w) := by
  have HC := hid (fun W => core_New s n m dn hd hn hm W)
  have HL := hid (fun W => link_New 0 dn (by omega) W)
  clear hn hm hd
  go_enter Try.func65, Try.ntmps65
  go_wp2_with fail
  have hS : MSt w _ s dn n m := MSt.start w s dn n m
  refine (HC.out _).mono ?_
  rintro e w1 ⟨⟨p0, rfl⟩, hb⟩
  have hS := hS.keep hb
  clear hb
  have a0 := blk_cell hS.box (k := 0) rfl
  have a1 := blk_cell hS.box (k := 1) rfl
  have a2 := blk_cell hS.box (k := 2) rfl
  have a3 := blk_cell hS.box (k := 3) rfl
  have a4 := blk_cell hS.box (k := 4) rfl
  have a5 := blk_cell hS.box (k := 5) rfl
  have a6 := blk_cell hS.box (k := 6) rfl
  have a7 := blk_cell hS.box (k := 7) rfl
  go_wp2_with fail
  refine (HL.out _).mono ?_
  rintro e w2 ⟨⟨p1, rfl⟩, hb⟩
  clear a0 a1 a2 a3 a4 a5 a6 a7
  have hS := hS.keep hb
  clear hb
  have a0 := blk_cell hS.box (k := 0) rfl
  have a1 := blk_cell hS.box (k := 1) rfl
  have a2 := blk_cell hS.box (k := 2) rfl
  have a3 := blk_cell hS.box (k := 3) rfl
  have a4 := blk_cell hS.box (k := 4) rfl
  have a5 := blk_cell hS.box (k := 5) rfl
  have a6 := blk_cell hS.box (k := 6) rfl
  have a7 := blk_cell hS.box (k := 7) rfl
  go_wp2_with fail
  refine (ledger_New _).mono ?_
  rintro e w3 ⟨⟨p2, rfl⟩, hb⟩
  clear a0 a1 a2 a3 a4 a5 a6 a7
  have hS := hS.keep hb
  clear hb
  have a0 := blk_cell hS.box (k := 0) rfl
  have a1 := blk_cell hS.box (k := 1) rfl
  have a2 := blk_cell hS.box (k := 2) rfl
  have a3 := blk_cell hS.box (k := 3) rfl
  have a4 := blk_cell hS.box (k := 4) rfl
  have a5 := blk_cell hS.box (k := 5) rfl
  have a6 := blk_cell hS.box (k := 6) rfl
  have a7 := blk_cell hS.box (k := 7) rfl
  go_wp2_with fail
  refine (mixer_New _).mono ?_
  rintro e w4 ⟨⟨p3, rfl⟩, hb⟩
  clear a0 a1 a2 a3 a4 a5 a6 a7
  have hS := hS.keep hb
  clear hb
  go_wp2_with fail
  refine (feel_New _).mono ?_
  rintro e w5 ⟨⟨p4, rfl⟩, hb⟩
  have hS := hS.keep hb
  clear hb
  go_wp2_with fail
  refine (ease_New _).mono ?_
  rintro e w6 ⟨⟨p5, rfl⟩, hb⟩
  have hS := hS.keep hb
  clear hb
  have r0 := blk_cell hS.res (k := 0) rfl
  have r1 := blk_cell hS.res (k := 1) rfl
  have r2 := blk_cell hS.res (k := 2) rfl
  have r3 := blk_cell hS.res (k := 3) rfl
  have r4 := blk_cell hS.res (k := 4) rfl
  have r5 := blk_cell hS.res (k := 5) rfl
  have f0 := blk_free hS.res 0
  have f1 := blk_free hS.res 1
  have f2 := blk_free hS.res 2
  have f3 := blk_free hS.res 3
  have f4 := blk_free hS.res 4
  have f5 := blk_free hS.res 5
  go_wp2_with fail
  have hf := blk_store6' hS.res (.pointer (some p0)) (.pointer (some p1)) (.pointer (some p2)) (.pointer (some p3)) (.pointer (some p4)) (.pointer (some p5))
  have d0 := blk_cell hf (k := 0) rfl
  have d1 := blk_cell hf (k := 1) rfl
  have d2 := blk_cell hf (k := 2) rfl
  have d3 := blk_cell hf (k := 3) rfl
  have d4 := blk_cell hf (k := 4) rfl
  have d5 := blk_cell hf (k := 5) rfl
  have hle : w.heap.size ≤ w.heap.size + 1 := by omega
  have hbl := (((((hS.bel.setCell (p := ⟨w.heap.size + 1, 0, none⟩) hle (.pointer (some p0))).setCell (p := ⟨w.heap.size + 1, 1, none⟩) hle (.pointer (some p1))).setCell (p := ⟨w.heap.size + 1, 2, none⟩) hle (.pointer (some p2))).setCell (p := ⟨w.heap.size + 1, 3, none⟩) hle (.pointer (some p3))).setCell (p := ⟨w.heap.size + 1, 4, none⟩) hle (.pointer (some p4))).setCell (p := ⟨w.heap.size + 1, 5, none⟩) hle (.pointer (some p5))
  refine bodyPost_ret (v := .tuple #[.agg #[.pointer (some p0), .pointer (some p1), .pointer (some p2), .pointer (some p3), .pointer (some p4), .pointer (some p5)], .bool true]) (by simp [results, Try.results65, go_sem, d0, d1, d2, d3, d4, d5]) rfl ?_
  exact ⟨⟨p0, p1, p2, p3, p4, p5, rfl⟩, hbl⟩
theorem peer_Right (s n m : Int) (dn : Nat) (hd : dn ≤ 8) (hn : 1 ≤ n ∧ n ≤ 16) (hm : m = 0 ∨ m = 1) (w : World) :
    Calls Try.prog 37 #[.agg #[.int .u32 s, .int .i64 dn, .int .i64 n, .int .i64 m, .int .u32 0, .int .i64 1, .int .i64 1, .int .i64 1]] w fun e w' => e = .returned (.bool true) ∧ Below w.heap.size w w' := by
  have HM := hid (fun W => peer_made s n m dn hd hn hm W)
  clear hn hm hd
  have hb0 : Below w.heap.size w (w.alloc (.cells #[.int .u32 s, .int .i64 dn, .int .i64 n, .int .i64 m, .int .u32 0, .int .i64 1, .int .i64 1, .int .i64 1] 76)) := (Below.refl _ w).alloc (Nat.le_refl _) _
  go_enter Try.func37, Try.ntmps37
  go_wp2_with fail
  refine (HM.out _).mono ?_
  rintro e w1 ⟨⟨p0, p1, p2, p3, p4, p5, rfl⟩, hb⟩
  have hb1 := hb0.trans (hb.mono (by simp))
  clear hb hb0
  go_wp2_with fail
  go_ret
  exact ⟨rfl, hb1.alloc hb1.size _⟩
end Go.Proofs.Ytfepefohaadecaa
