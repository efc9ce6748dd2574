/- Reading a datagram, by all ways. -/
import Derived.Test.YtlneddmfcheaiaaWire9
namespace Go.Proofs.Ytlneddmfcheaiaa
open Go.RowKit
set_option maxRecDepth 10000
variable {w : World}
theorem unpack_err (s : ByteArray) (hs : s.size ≤ maxLen) (l : List UInt8) (e0 : Int) (hop : opened s.data.toList = (l, e0)) (he : e0 ≠ 0) :
    Calls Try.prog 17 #[.string s] w (UnpPost w Msg.zero e0) := by
  have hO := sum_Open s hs (w.alloc (.cells #[.int .i64 0, .int .u32 0, .int .u16 0, .int .u16 0, .slice none 0 0, .int .u32 0, .int .i64 0] 26))
  rw [hop] at hO
  have HO := hid hO
  have hq : (e0 != 0) = true := by simp [he]
  clear hO hop he hs
  go_enter Try.func17, Try.ntmps17
  go_wp2_with fail
  refine HO.out.mono ?_
  rintro e w1 ⟨rfl, hb1⟩
  have hk1 : Keeps (fun _ => False) (w.alloc (.cells #[.int .i64 0, .int .u32 0, .int .u16 0, .int .u16 0, .slice none 0 0, .int .u32 0, .int .i64 0] 26)) w1 := Keeps.of_below hb1 (fun k h1 h2 => by omega)
  have hW : Below w.heap.size w w1 := ((Below.refl _ w).alloc (Nat.le_refl _) _).trans (hb1.mono (by simp))
  have hres := hk1.heap (blk_new w (.cells #[.int .i64 0, .int .u32 0, .int .u16 0, .int .u16 0, .slice none 0 0, .int .u32 0, .int .i64 0] 26)) id
  clear hb1 hk1
  have r0 := blk_cell hres (k := 0) rfl
  have g0 := blk_free hres 0
  have r1 := blk_cell hres (k := 1) rfl
  have g1 := blk_free hres 1
  have r2 := blk_cell hres (k := 2) rfl
  have g2 := blk_free hres 2
  have r3 := blk_cell hres (k := 3) rfl
  have g3 := blk_free hres 3
  have r4 := blk_cell hres (k := 4) rfl
  have g4 := blk_free hres 4
  have r5 := blk_cell hres (k := 5) rfl
  have g5 := blk_free hres 5
  have r6 := blk_cell hres (k := 6) rfl
  have g6 := blk_free hres 6
  go_wp2_with fail
  have hf := blk_store hres (.int .i64 0) (.int .u32 0) (.int .u16 0) (.int .u16 0) (.slice none 0 0) (.int .u32 0) (.int .i64 0)
  have d0 := blk_cell hf (k := 0) rfl
  have d1 := blk_cell hf (k := 1) rfl
  have d2 := blk_cell hf (k := 2) rfl
  have d3 := blk_cell hf (k := 3) rfl
  have d4 := blk_cell hf (k := 4) rfl
  have d5 := blk_cell hf (k := 5) rfl
  have d6 := blk_cell hf (k := 6) rfl
  have hbl := ((((((hW.setCell (p := ⟨w.heap.size, 0, none⟩) (Nat.le_refl _) (.int .i64 0)).setCell (p := ⟨w.heap.size, 1, none⟩) (Nat.le_refl _) (.int .u32 0)).setCell (p := ⟨w.heap.size, 2, none⟩) (Nat.le_refl _) (.int .u16 0)).setCell (p := ⟨w.heap.size, 3, none⟩) (Nat.le_refl _) (.int .u16 0)).setCell (p := ⟨w.heap.size, 4, none⟩) (Nat.le_refl _) (.slice none 0 0)).setCell (p := ⟨w.heap.size, 5, none⟩) (Nat.le_refl _) (.int .u32 0)).setCell (p := ⟨w.heap.size, 6, none⟩) (Nat.le_refl _) (.int .i64 0)
  refine bodyPost_ret (v := .tuple #[.agg #[.int .i64 0, .int .u32 0, .int .u16 0, .int .u16 0, .slice none 0 0, .int .u32 0, .int .i64 0], .int .i64 e0]) (by simp [results, Try.results17, go_sem, d0, d1, d2, d3, d4, d5, d6]) rfl ?_
  exact ⟨none, 0, rfl, IsBytes.none _, hbl⟩
theorem opened_len (l : List UInt8) : (opened l).1.length ≤ l.length := by
  unfold opened
  split
  · exact Nat.zero_le _
  split
  · simp
  · exact Nat.zero_le _
theorem wire_Unpack (s : ByteArray) (hs : s.size ≤ 100000) :
    Calls Try.prog 17 #[.string s] w (UnpPost w (unpM s.data.toList).1 (unpM s.data.toList).2) := by
  have hm : s.size ≤ maxLen := by unfold maxLen; omega
  unfold unpM
  by_cases he : (opened s.data.toList).2 = 0
  · rw [if_pos he]
    have hop : opened s.data.toList = ((opened s.data.toList).1, 0) := Prod.ext rfl he
    have htl : (opened s.data.toList).1.length ≤ 100000 := Nat.le_trans (opened_len _) (by simpa using hs)
    generalize (opened s.data.toList).1 = t at *
    clear he
    by_cases h12 : bN (kindR t).1 = 1 ∨ bN (kindR t).1 = 2
    · exact unp_12 s t _ _ _ _ _ hm hop htl rfl rfl rfl h12
    by_cases h3 : bN (kindR t).1 = 3
    · exact unp_3 s t _ _ _ _ _ hm hop htl rfl rfl rfl h3
    by_cases h4 : bN (kindR t).1 = 4
    · exact unp_4 s t _ _ _ _ _ hm hop htl rfl rfl rfl h4
    by_cases h5 : bN (kindR t).1 = 5
    · exact unp_5 s t _ _ _ _ _ hm hop htl rfl rfl rfl h5
    by_cases h6 : bN (kindR t).1 = 6
    · exact unp_6 s t _ _ _ _ _ hm hop htl rfl rfl rfl h6
    · exact unp_0 s t _ _ _ _ _ hm hop htl rfl rfl rfl ⟨h12, h3, h4, h5, h6⟩
  · rw [if_neg he]
    exact unpack_err s hm _ _ rfl he
end Go.Proofs.Ytlneddmfcheaiaa
