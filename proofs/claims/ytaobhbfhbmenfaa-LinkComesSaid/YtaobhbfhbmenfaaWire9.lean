/- What reading a datagram returns. -/
import Derived.Test.YtaobhbfhbmenfaaWire8
import Derived.Test.YtaobhbfhbmenfaaWire4
namespace Go.Proofs.Ytaobhbfhbmenfaa
open Go.RowKit
set_option maxRecDepth 10000
def bN (b : ByteArray) : Int := ((beN b.data.toList : Nat) : Int)
def parseK (k : Int) (x : Rd) : Msg × Rd :=
  if k = 1 ∨ k = 2 then (⟨k, bN (takeR 4 x).1, 0, 0, [], 0, 0⟩, (takeR 4 x).2)
  else if k = 3 then (⟨k, 0, bN (takeR 2 x).1, bN (takeR 2 (takeR 2 x).2).1, (rdrR (takeR 2 (takeR 2 x).2).2).1, 0, 0⟩, (rdrR (takeR 2 (takeR 2 x).2).2).2)
  else if k = 4 then (⟨k, 0, bN (takeR 2 x).1, 0, [], bN (takeR 4 (takeR 2 x).2).1, 0⟩, (takeR 4 (takeR 2 x).2).2)
  else if k = 5 then (⟨k, 0, 0, bN (takeR 2 x).1, [], 0, 0⟩, (takeR 2 x).2)
  else if k = 6 then (⟨k, 0, bN (takeR 2 x).1, 0, [], 0, (rdsR (takeR 2 x).2).1⟩, (rdsR (takeR 2 x).2).2)
  else (⟨k, 0, 0, 0, [], 0, 0⟩, x)
def firstR (t : List UInt8) : ByteArray × Rd := takeR 1 ⟨⟨t.toArray⟩, false⟩
def kindR (t : List UInt8) : ByteArray × Rd := takeR 1 ⟨(firstR t).2.s, bN (firstR t).1 != 80⟩
def parseT (t : List UInt8) : Msg × Rd := parseK (bN (kindR t).1) (kindR t).2
def wrongR (p : Msg × Rd) : Prop := p.2.bad = true ∨ p.2.s.toList ≠ [] ∨ ¬ RightP p.1
instance (p : Msg × Rd) : Decidable (wrongR p) := by unfold wrongR; infer_instance
def unpT (t : List UInt8) : Msg × Int := if wrongR (parseT t) then (Msg.zero, 4) else ((parseT t).1, 0)
def unpM (l : List UInt8) : Msg × Int := if (opened l).2 = 0 then unpT (opened l).1 else (Msg.zero, (opened l).2)
def UnpPost (w : World) (m : Msg) (err : Int) (e : Ending) (w' : World) : Prop := ∃ a c, e = .returned (.tuple #[(.agg #[.int .i64 m.kind, .int .u32 m.nonce, .int .u16 m.serial, .int .u16 m.ack, .slice a m.ins.length c, .int .u32 m.sum, .int .i64 m.lead]), .int .i64 err]) ∧ IsBytes w' a c m.ins ∧ Below w.heap.size w w'
/-- the same, and the inputs lie in new memory -/
def UnpN (w : World) (m : Msg) (err : Int) (e : Ending) (w' : World) : Prop := ∃ a c, e = .returned (.tuple #[(.agg #[.int .i64 m.kind, .int .u32 m.nonce, .int .u16 m.serial, .int .u16 m.ack, .slice a m.ins.length c, .int .u32 m.sum, .int .i64 m.lead]), .int .i64 err]) ∧ IsBytes w' a c m.ins ∧ Below w.heap.size w w' ∧ ∀ x, a = some x → w.heap.size ≤ x.block
def zeroC : Array Value := #[.int .i64 0, .int .u32 0, .int .u16 0, .int .u16 0, .slice none 0 0, .int .u32 0, .int .i64 0]
structure UnpSt (w0 : World) (r m : Nat) (x : Rd) (cs : Array Value) (w : World) : Prop where
  rd : IsRd w r x
  msg : w.heap[m]? = some (.cells cs 49 (0, 0))
  res : w.heap[w0.heap.size]? = some (.cells zeroC 49 (0, 0))
  below : Below w0.heap.size w0 w
  lr : w0.heap.size < r
  lm : r < m
  sz : x.s.size ≤ 100000
namespace UnpSt
variable {w0 w w' : World} {r m : Nat} {x x' : Rd} {cs : Array Value}
theorem get (h : UnpSt w0 r m x cs w) (hk : Keeps (fun b => b = r) w w') (h2 : IsRd w' r x') (hs : x'.s.size ≤ x.s.size) : UnpSt w0 r m x' cs w' :=
  ⟨h2, hk.heap h.msg (by have := h.lm; omega), hk.heap h.res (by have := h.lr; omega), h.below.trans (hk.below h.below.size (fun k hk => by have := h.lr; omega)), h.lr, h.lm, Nat.le_trans hs h.sz⟩
theorem set (h : UnpSt w0 r m x cs w) (j : Nat) (v : Value) : UnpSt w0 r m x (cs.setIfInBounds j v) (w.setCell ⟨m, j, none⟩ v) := by
  have hk : Keeps (fun b => b = m) w (w.setCell ⟨m, j, none⟩ v) := (Keeps.refl (fun b => b = m) w).setCell (p := ⟨m, j, none⟩) rfl v
  exact ⟨hk.heap h.rd (by have := h.lm; omega), by simpa using blk_set h.msg j v, hk.heap h.res (by have := h.lm; have := h.lr; omega), h.below.trans (hk.below h.below.size (fun k hk => by have := h.lm; have := h.lr; omega)), h.lr, h.lm, h.sz⟩
theorem keep (h : UnpSt w0 r m x cs w) (hk : Keeps (fun _ => False) w w') : UnpSt w0 r m x cs w' := h.get (keeps_any hk) (h.rd.keeps hk id) (Nat.le_refl _)
theorem max (h : UnpSt w0 r m x cs w) : x.s.size ≤ maxLen := by have := h.sz; unfold maxLen; omega
end UnpSt
theorem rdr_size (x : Rd) : (rdrR x).2.s.size ≤ x.s.size := take_size _ _
theorem rds_size (x : Rd) : (rdsR x).2.s.size ≤ x.s.size := take_size _ _
variable {w : World}
/-- a whole struct stored over a block of seven cells -/
theorem blk_store {w : World} {b : Nat} {t : TypeId} {c0 c1 c2 c3 c4 c5 c6 : Value} (h : w.heap[b]? = some (.cells #[c0, c1, c2, c3, c4, c5, c6] t (0, 0))) (v0 v1 v2 v3 v4 v5 v6 : Value) :
    (((((((w.setCell ⟨b, 0, none⟩ v0).setCell ⟨b, 1, none⟩ v1).setCell ⟨b, 2, none⟩ v2).setCell ⟨b, 3, none⟩ v3).setCell ⟨b, 4, none⟩ v4).setCell ⟨b, 5, none⟩ v5).setCell ⟨b, 6, none⟩ v6).heap[b]? = some (.cells #[v0, v1, v2, v3, v4, v5, v6] t (0, 0)) := by
  have := blk_set (blk_set (blk_set (blk_set (blk_set (blk_set (blk_set h 0 v0) 1 v1) 2 v2) 3 v3) 4 v4) 5 v5) 6 v6
  simpa using this
set_option maxHeartbeats 4000000 in
theorem unp_12 (s : ByteArray) (t : List UInt8) (k : Int) (x1 x2 : Rd) (b1 b2 : ByteArray) (hs : s.size ≤ maxLen) (hop : opened s.data.toList = (t, 0)) (htl : t.length ≤ 100000) (hx1 : firstR t = (b1, x1)) (hx2 : kindR t = (b2, x2)) (hbk : bN b2 = k) (hk : k = 1 ∨ k = 2) :
    Calls Try.prog 26 #[.string s] w (UnpN w (unpT t).1 (unpT t).2) := by
  have hO := sum_Open s hs (w.alloc (.cells #[.int .i64 0, .int .u32 0, .int .u16 0, .int .u16 0, .slice none 0 0, .int .u32 0, .int .i64 0] 49))
  rw [hop] at hO
  have HO := hid hO
  have hx1b : takeR 1 ⟨⟨t.toArray⟩, false⟩ = (b1, x1) := hx1
  have hx2b : takeR 1 ⟨x1.s, bN b1 != 80⟩ = (b2, x2) := by have := hx2; unfold kindR at this; rwa [hx1] at this
  have HX1 := hid hx1b
  have HX2 := hid hx2b
  have Hbk := hid hbk
  have hN : namesK k = 1 := by rcases hk with h | h <;> simp [namesK, h]
  have HN := hid hN
  have hsz1 : x1.s.size ≤ t.length := by have := take_size 1 ⟨⟨t.toArray⟩, false⟩; rw [hx1b] at this; exact Nat.le_trans this (by show t.toArray.size ≤ t.length; simp)
  have hsz2 : x2.s.size ≤ x1.s.size := by have := take_size 1 ⟨x1.s, bN b1 != 80⟩; rw [hx2b] at this; exact this
  have hkr : 0 ≤ k ∧ k < 65536 := by
    have h1 := take_len 1 ⟨x1.s, bN b1 != 80⟩
    rw [hx2b] at h1
    have h2 := beN_lt _ b2.data.toList rfl
    have h3 : b2.data.toList.length ≤ 1 := by simpa using h1
    have h4 := Nat.lt_of_lt_of_le h2 (Nat.pow_le_pow_right (by omega) h3)
    rw [← hbk]
    unfold bN
    omega
  have Hkr := hid hkr
  have Htl := hid htl
  have Hs1 := hid (Nat.le_trans hsz1 htl)
  have Hs2 := hid (Nat.le_trans hsz2 (Nat.le_trans hsz1 htl))
  have hpar : parseT t = parseK k x2 := by unfold parseT; rw [hx2]; exact congrArg (fun q => parseK q x2) hbk
  unfold parseK at hpar
  rw [if_pos hk] at hpar
  obtain ⟨⟨c0, y0⟩, hq0⟩ : ∃ q, takeR 4 x2 = q := ⟨_, rfl⟩
  rw [hq0] at hpar
  simp only at hpar
  have Hq0 := hid hq0
  have hz0 : y0.s.size ≤ x2.s.size := by have := take_size 4 x2; rw [hq0] at this; exact this
  have Hz0 := hid hz0
  have Hpar := hid hpar
  clear hO hop hs hx1 hx2 hx1b hx2b hbk hN hsz1 hsz2 htl hpar hk hq0 hz0
  go_enter Try.func26, Try.ntmps26
  go_wp2_with fail
  refine HO.out.mono ?_
  rintro e w1 ⟨rfl, hb1⟩
  have hk1 : Keeps (fun _ => False) (w.alloc (.cells #[.int .i64 0, .int .u32 0, .int .u16 0, .int .u16 0, .slice none 0 0, .int .u32 0, .int .i64 0] 49)) w1 := Keeps.of_below hb1 (fun k h1 h2 => by omega)
  have hW1 : Below w.heap.size w w1 := ((Below.refl _ w).alloc (Nat.le_refl _) _).trans (hb1.mono (by simp))
  have hl1 : w.heap.size + 1 ≤ w1.heap.size := by have := hb1.size; simpa using this
  have hres := hk1.heap (blk_new w (.cells #[.int .i64 0, .int .u32 0, .int .u16 0, .int .u16 0, .slice none 0 0, .int .u32 0, .int .i64 0] 49)) id
  clear hb1 hk1
  go_wp2_with fail
  have hr0 : IsRd (w1.alloc (.cells #[.string ⟨t.toArray⟩, .bool false] 95)) w1.heap.size ⟨⟨t.toArray⟩, false⟩ := blk_new _ _
  have hg := get_16 hr0 1 (by omega) (by show (⟨t.toArray⟩ : ByteArray).size ≤ maxLen; have := Htl.out; simp [ByteArray.size, maxLen]; omega)
  rw [HX1.out] at hg
  refine hg.mono ?_
  rintro e w2 ⟨rfl, h2, hk2⟩
  have h2' : IsRd w2 w1.heap.size x1 := h2
  have hres2 := hk2.heap (blk_alloc hres _) (by omega)
  have hW2 := (hW1.alloc hW1.size _).trans (hk2.below (B := w.heap.size) (by simp; omega) (fun k h1 h2 => by omega))
  have f1 := blk_free h2' 1
  have cr1 : w2.cell? ⟨w1.heap.size, 1, none⟩ = some (.bool x1.bad) := blk_cell h2' rfl
  clear hg h2 hk2 hr0 hres hW1
  have h3 := h2'.setBad (bN b1 != 80)
  have hk3 : Keeps (fun b => b = w1.heap.size) w2 (w2.setCell ⟨w1.heap.size, 1, none⟩ (.bool (bN b1 != 80))) := (Keeps.refl (fun b => b = w1.heap.size) w2).setCell (p := ⟨w1.heap.size, 1, none⟩) rfl _
  have hres3 := hk3.heap hres2 (by omega)
  have hW3 := hW2.trans (hk3.below hW2.size (fun k h1 h2 => by omega))
  have hg := get_16 h3 1 (by omega) (by have := Hs1.out; show x1.s.size ≤ maxLen; unfold maxLen; omega)
  rw [HX2.out] at hg
  have Hg := hid hg
  clear hg h2' hres2 hW2 hk3 h3
  rw [show ((beN (b1, x1).1.data.toList : Nat) : Int) = bN b1 from rfl]
  go_wp2_with fail
  refine Hg.out.mono ?_
  rintro e w4 ⟨rfl, h4, hk4⟩
  have h4' : IsRd w4 w1.heap.size x2 := h4
  have hres4 := hk4.heap hres3 (by omega)
  have hW4 := hW3.trans (hk4.below hW3.size (fun k h1 h2 => by omega))
  have l4 := blk_lt h4'
  clear Hg h4 hk4 hres3 hW3 f1 cr1
  rw [show ((beN (b2, x2).1.data.toList : Nat) : Int) = k from Hbk.out]
  have hkr := Hkr.out
  have U : UnpSt w w1.heap.size w4.heap.size x2 #[.int .i64 k, .int .u32 0, .int .u16 0, .int .u16 0, .slice none 0 0, .int .u32 0, .int .i64 0] (w4.alloc (.cells #[.int .i64 k, .int .u32 0, .int .u16 0, .int .u16 0, .slice none 0 0, .int .u32 0, .int .i64 0] 49)) :=
    ⟨h4'.keeps ((Keeps.refl (fun _ => False) w4).alloc _) id, blk_new _ _, blk_alloc hres4 _, hW4.alloc hW4.size _, by omega, l4, Hs2.out⟩
  clear h4' hres4 hW4
  go_wp2_with fail
  refine (wire_names k _).mono ?_
  rintro e w5 ⟨rfl, rfl⟩
  rw [HN.out]
  have hg := get_32 U.rd 4 (by omega) U.max
  rw [Hq0.out] at hg
  have Hg := hid hg
  clear hg
  go_wp2_with fail
  refine Hg.out.mono ?_
  rintro e w6 ⟨rfl, hr6, hk6⟩
  have V := U.get hk6 hr6 Hz0.out
  clear U Hg hr6 hk6
  rw [show ((beN (c0, y0).1.data.toList : Nat) : Int) = bN c0 from rfl]
  have fj := blk_free V.msg 1
  have cj := blk_cell V.msg (k := 1) rfl
  have U := V.set 1 (.int .u32 (bN c0))
  simp only [List.setIfInBounds_toArray, List.set_cons_succ, List.set_cons_zero] at U
  have hRt := fun W (hb : IsBytes W none 0 ([] : List UInt8)) => wire_RightM (w := W) (m := ⟨k, (bN c0), 0, 0, [], 0, 0⟩) hb
  have HRt := hid hRt
  have cb := blk_cell U.rd (k := 1) rfl
  have cst := blk_cell U.rd (k := 0) rfl
  have m0 := blk_cell U.msg (k := 0) rfl
  have m1 := blk_cell U.msg (k := 1) rfl
  have m2 := blk_cell U.msg (k := 2) rfl
  have m3 := blk_cell U.msg (k := 3) rfl
  have m4 := blk_cell U.msg (k := 4) rfl
  have m5 := blk_cell U.msg (k := 5) rfl
  have m6 := blk_cell U.msg (k := 6) rfl
  have hres := U.res
  unfold zeroC at hres
  have hW := U.below
  have r0 := blk_cell hres (k := 0) rfl
  have r1 := blk_cell hres (k := 1) rfl
  have r2 := blk_cell hres (k := 2) rfl
  have r3 := blk_cell hres (k := 3) rfl
  have r4 := blk_cell hres (k := 4) rfl
  have r5 := blk_cell hres (k := 5) rfl
  have r6 := blk_cell hres (k := 6) rfl
  have g0 := blk_free hres 0
  have g1 := blk_free hres 1
  have g2 := blk_free hres 2
  have g3 := blk_free hres 3
  have g4 := blk_free hres 4
  have g5 := blk_free hres 5
  have g6 := blk_free hres 6
  clear hRt
  by_cases hb : y0.bad = true
  · have hu := hid (show unpT t = (Msg.zero, 4) from if_pos (by rw [Hpar.out]; exact .inl hb))
    rw [hb] at cb
    clear hb HRt
    go_wp2_with fail
    have hf := blk_store hres (.int .i64 0) (.int .u32 0) (.int .u16 0) (.int .u16 0) (.slice none 0 0) (.int .u32 0) (.int .i64 0)
    have d0 := blk_cell hf (k := 0) rfl
    have d1 := blk_cell hf (k := 1) rfl
    have d2 := blk_cell hf (k := 2) rfl
    have d3 := blk_cell hf (k := 3) rfl
    have d4 := blk_cell hf (k := 4) rfl
    have d5 := blk_cell hf (k := 5) rfl
    have d6 := blk_cell hf (k := 6) rfl
    have hbl := ((((((hW.setCell (p := ⟨w.heap.size, 0, none⟩) (Nat.le_refl _) (.int .i64 0)).setCell (p := ⟨w.heap.size, 1, none⟩) (Nat.le_refl _) (.int .u32 0)).setCell (p := ⟨w.heap.size, 2, none⟩) (Nat.le_refl _) (.int .u16 0)).setCell (p := ⟨w.heap.size, 3, none⟩) (Nat.le_refl _) (.int .u16 0)).setCell (p := ⟨w.heap.size, 4, none⟩) (Nat.le_refl _) (.slice none 0 0)).setCell (p := ⟨w.heap.size, 5, none⟩) (Nat.le_refl _) (.int .u32 0)).setCell (p := ⟨w.heap.size, 6, none⟩) (Nat.le_refl _) (.int .i64 0)
    refine bodyPost_ret (v := .tuple #[.agg #[.int .i64 0, .int .u32 0, .int .u16 0, .int .u16 0, .slice none 0 0, .int .u32 0, .int .i64 0], .int .i64 4]) (by simp [results, Try.results26, go_sem, d0, d1, d2, d3, d4, d5, d6]) rfl ?_
    rw [hu.out]
    exact ⟨none, 0, rfl, IsBytes.none _, hbl, fun _ h => by cases h⟩
  have hb' : y0.bad = false := by simpa using hb
  rw [hb'] at cb
  by_cases he : y0.s.toList = []
  rotate_left
  · have hu := hid (show unpT t = (Msg.zero, 4) from if_pos (by rw [Hpar.out]; exact .inr (.inl he)))
    have q1 : y0.s.toList.isEmpty = false := by simpa using he
    clear hb hb' HRt
    go_wp2_with fail
    have hf := blk_store hres (.int .i64 0) (.int .u32 0) (.int .u16 0) (.int .u16 0) (.slice none 0 0) (.int .u32 0) (.int .i64 0)
    have d0 := blk_cell hf (k := 0) rfl
    have d1 := blk_cell hf (k := 1) rfl
    have d2 := blk_cell hf (k := 2) rfl
    have d3 := blk_cell hf (k := 3) rfl
    have d4 := blk_cell hf (k := 4) rfl
    have d5 := blk_cell hf (k := 5) rfl
    have d6 := blk_cell hf (k := 6) rfl
    have hbl := ((((((hW.setCell (p := ⟨w.heap.size, 0, none⟩) (Nat.le_refl _) (.int .i64 0)).setCell (p := ⟨w.heap.size, 1, none⟩) (Nat.le_refl _) (.int .u32 0)).setCell (p := ⟨w.heap.size, 2, none⟩) (Nat.le_refl _) (.int .u16 0)).setCell (p := ⟨w.heap.size, 3, none⟩) (Nat.le_refl _) (.int .u16 0)).setCell (p := ⟨w.heap.size, 4, none⟩) (Nat.le_refl _) (.slice none 0 0)).setCell (p := ⟨w.heap.size, 5, none⟩) (Nat.le_refl _) (.int .u32 0)).setCell (p := ⟨w.heap.size, 6, none⟩) (Nat.le_refl _) (.int .i64 0)
    refine bodyPost_ret (v := .tuple #[.agg #[.int .i64 0, .int .u32 0, .int .u16 0, .int .u16 0, .slice none 0 0, .int .u32 0, .int .i64 0], .int .i64 4]) (by simp [results, Try.results26, go_sem, d0, d1, d2, d3, d4, d5, d6]) rfl ?_
    rw [hu.out]
    exact ⟨none, 0, rfl, IsBytes.none _, hbl, fun _ h => by cases h⟩
  have q1 : y0.s.toList.isEmpty = true := by simpa using he
  by_cases hr : RightP ⟨k, (bN c0), 0, 0, [], 0, 0⟩
  rotate_left
  · have hu := hid (show unpT t = (Msg.zero, 4) from if_pos (by rw [Hpar.out]; exact .inr (.inr hr)))
    rw [decide_eq_false hr] at HRt
    clear hb hb' hr he
    go_wp2_with fail
    refine (HRt.out _ (IsBytes.none _)).mono ?_
    rintro e w9 ⟨rfl, hb9⟩
    have hk9 : Keeps (fun _ => False) _ w9 := Keeps.of_below hb9 (fun k h1 h2 => by omega)
    have hres9 := hk9.heap hres id
    have hmsg9 := hk9.heap U.msg id
    have hW9 := hW.trans (hb9.mono hW.size)
    have s0 := blk_cell hres9 (k := 0) rfl
    have t0 := blk_free hres9 0
    have n0 := blk_cell hmsg9 (k := 0) rfl
    have s1 := blk_cell hres9 (k := 1) rfl
    have t1 := blk_free hres9 1
    have n1 := blk_cell hmsg9 (k := 1) rfl
    have s2 := blk_cell hres9 (k := 2) rfl
    have t2 := blk_free hres9 2
    have n2 := blk_cell hmsg9 (k := 2) rfl
    have s3 := blk_cell hres9 (k := 3) rfl
    have t3 := blk_free hres9 3
    have n3 := blk_cell hmsg9 (k := 3) rfl
    have s4 := blk_cell hres9 (k := 4) rfl
    have t4 := blk_free hres9 4
    have n4 := blk_cell hmsg9 (k := 4) rfl
    have s5 := blk_cell hres9 (k := 5) rfl
    have t5 := blk_free hres9 5
    have n5 := blk_cell hmsg9 (k := 5) rfl
    have s6 := blk_cell hres9 (k := 6) rfl
    have t6 := blk_free hres9 6
    have n6 := blk_cell hmsg9 (k := 6) rfl
    clear hb9 hk9 hmsg9
    go_wp2_with fail
    have hf := blk_store hres9 (.int .i64 0) (.int .u32 0) (.int .u16 0) (.int .u16 0) (.slice none 0 0) (.int .u32 0) (.int .i64 0)
    have d0 := blk_cell hf (k := 0) rfl
    have d1 := blk_cell hf (k := 1) rfl
    have d2 := blk_cell hf (k := 2) rfl
    have d3 := blk_cell hf (k := 3) rfl
    have d4 := blk_cell hf (k := 4) rfl
    have d5 := blk_cell hf (k := 5) rfl
    have d6 := blk_cell hf (k := 6) rfl
    have hbl := ((((((hW9.setCell (p := ⟨w.heap.size, 0, none⟩) (Nat.le_refl _) (.int .i64 0)).setCell (p := ⟨w.heap.size, 1, none⟩) (Nat.le_refl _) (.int .u32 0)).setCell (p := ⟨w.heap.size, 2, none⟩) (Nat.le_refl _) (.int .u16 0)).setCell (p := ⟨w.heap.size, 3, none⟩) (Nat.le_refl _) (.int .u16 0)).setCell (p := ⟨w.heap.size, 4, none⟩) (Nat.le_refl _) (.slice none 0 0)).setCell (p := ⟨w.heap.size, 5, none⟩) (Nat.le_refl _) (.int .u32 0)).setCell (p := ⟨w.heap.size, 6, none⟩) (Nat.le_refl _) (.int .i64 0)
    refine bodyPost_ret (v := .tuple #[.agg #[.int .i64 0, .int .u32 0, .int .u16 0, .int .u16 0, .slice none 0 0, .int .u32 0, .int .i64 0], .int .i64 4]) (by simp [results, Try.results26, go_sem, d0, d1, d2, d3, d4, d5, d6]) rfl ?_
    rw [hu.out]
    exact ⟨none, 0, rfl, IsBytes.none _, hbl, fun _ h => by cases h⟩
  · have hu := hid (show unpT t = (⟨k, (bN c0), 0, 0, [], 0, 0⟩, 0) from by unfold unpT; rw [Hpar.out, if_neg]; rintro (h | h | h); exact hb h; exact h he; exact h hr)
    rw [decide_eq_true hr] at HRt
    clear hb hb' hr he
    go_wp2_with fail
    refine (HRt.out _ (IsBytes.none _)).mono ?_
    rintro e w9 ⟨rfl, hb9⟩
    have hk9 : Keeps (fun _ => False) _ w9 := Keeps.of_below hb9 (fun k h1 h2 => by omega)
    have hres9 := hk9.heap hres id
    have hmsg9 := hk9.heap U.msg id
    have hW9 := hW.trans (hb9.mono hW.size)
    have s0 := blk_cell hres9 (k := 0) rfl
    have t0 := blk_free hres9 0
    have n0 := blk_cell hmsg9 (k := 0) rfl
    have s1 := blk_cell hres9 (k := 1) rfl
    have t1 := blk_free hres9 1
    have n1 := blk_cell hmsg9 (k := 1) rfl
    have s2 := blk_cell hres9 (k := 2) rfl
    have t2 := blk_free hres9 2
    have n2 := blk_cell hmsg9 (k := 2) rfl
    have s3 := blk_cell hres9 (k := 3) rfl
    have t3 := blk_free hres9 3
    have n3 := blk_cell hmsg9 (k := 3) rfl
    have s4 := blk_cell hres9 (k := 4) rfl
    have t4 := blk_free hres9 4
    have n4 := blk_cell hmsg9 (k := 4) rfl
    have s5 := blk_cell hres9 (k := 5) rfl
    have t5 := blk_free hres9 5
    have n5 := blk_cell hmsg9 (k := 5) rfl
    have s6 := blk_cell hres9 (k := 6) rfl
    have t6 := blk_free hres9 6
    have n6 := blk_cell hmsg9 (k := 6) rfl
    clear hb9 hk9 hmsg9
    go_wp2_with fail
    have hf := blk_store hres9 (.int .i64 k) (.int .u32 (bN c0)) (.int .u16 0) (.int .u16 0) (.slice none 0 0) (.int .u32 0) (.int .i64 0)
    have d0 := blk_cell hf (k := 0) rfl
    have d1 := blk_cell hf (k := 1) rfl
    have d2 := blk_cell hf (k := 2) rfl
    have d3 := blk_cell hf (k := 3) rfl
    have d4 := blk_cell hf (k := 4) rfl
    have d5 := blk_cell hf (k := 5) rfl
    have d6 := blk_cell hf (k := 6) rfl
    have hbl := ((((((hW9.setCell (p := ⟨w.heap.size, 0, none⟩) (Nat.le_refl _) (.int .i64 k)).setCell (p := ⟨w.heap.size, 1, none⟩) (Nat.le_refl _) (.int .u32 (bN c0))).setCell (p := ⟨w.heap.size, 2, none⟩) (Nat.le_refl _) (.int .u16 0)).setCell (p := ⟨w.heap.size, 3, none⟩) (Nat.le_refl _) (.int .u16 0)).setCell (p := ⟨w.heap.size, 4, none⟩) (Nat.le_refl _) (.slice none 0 0)).setCell (p := ⟨w.heap.size, 5, none⟩) (Nat.le_refl _) (.int .u32 0)).setCell (p := ⟨w.heap.size, 6, none⟩) (Nat.le_refl _) (.int .i64 0)
    refine bodyPost_ret (v := .tuple #[.agg #[.int .i64 k, .int .u32 (bN c0), .int .u16 0, .int .u16 0, .slice none 0 0, .int .u32 0, .int .i64 0], .int .i64 0]) (by simp [results, Try.results26, go_sem, d0, d1, d2, d3, d4, d5, d6]) rfl ?_
    rw [hu.out]
    exact ⟨none, 0, rfl, IsBytes.none _, hbl, fun _ h => by cases h⟩
set_option maxHeartbeats 4000000 in
theorem unp_3 (s : ByteArray) (t : List UInt8) (k : Int) (x1 x2 : Rd) (b1 b2 : ByteArray) (hs : s.size ≤ maxLen) (hop : opened s.data.toList = (t, 0)) (htl : t.length ≤ 100000) (hx1 : firstR t = (b1, x1)) (hx2 : kindR t = (b2, x2)) (hbk : bN b2 = k) (hk : k = 3) :
    Calls Try.prog 26 #[.string s] w (UnpN w (unpT t).1 (unpT t).2) := by
  have hO := sum_Open s hs (w.alloc (.cells #[.int .i64 0, .int .u32 0, .int .u16 0, .int .u16 0, .slice none 0 0, .int .u32 0, .int .i64 0] 49))
  rw [hop] at hO
  have HO := hid hO
  have hx1b : takeR 1 ⟨⟨t.toArray⟩, false⟩ = (b1, x1) := hx1
  have hx2b : takeR 1 ⟨x1.s, bN b1 != 80⟩ = (b2, x2) := by have := hx2; unfold kindR at this; rwa [hx1] at this
  have HX1 := hid hx1b
  have HX2 := hid hx2b
  have Hbk := hid hbk
  have hN : namesK k = 14 := by simp [namesK, hk]
  have HN := hid hN
  have hsz1 : x1.s.size ≤ t.length := by have := take_size 1 ⟨⟨t.toArray⟩, false⟩; rw [hx1b] at this; exact Nat.le_trans this (by show t.toArray.size ≤ t.length; simp)
  have hsz2 : x2.s.size ≤ x1.s.size := by have := take_size 1 ⟨x1.s, bN b1 != 80⟩; rw [hx2b] at this; exact this
  have hkr : 0 ≤ k ∧ k < 65536 := by
    have h1 := take_len 1 ⟨x1.s, bN b1 != 80⟩
    rw [hx2b] at h1
    have h2 := beN_lt _ b2.data.toList rfl
    have h3 : b2.data.toList.length ≤ 1 := by simpa using h1
    have h4 := Nat.lt_of_lt_of_le h2 (Nat.pow_le_pow_right (by omega) h3)
    rw [← hbk]
    unfold bN
    omega
  have Hkr := hid hkr
  have Htl := hid htl
  have Hs1 := hid (Nat.le_trans hsz1 htl)
  have Hs2 := hid (Nat.le_trans hsz2 (Nat.le_trans hsz1 htl))
  have hpar : parseT t = parseK k x2 := by unfold parseT; rw [hx2]; exact congrArg (fun q => parseK q x2) hbk
  unfold parseK at hpar
  rw [if_neg (by omega), if_pos hk] at hpar
  obtain ⟨⟨c0, y0⟩, hq0⟩ : ∃ q, takeR 2 x2 = q := ⟨_, rfl⟩
  rw [hq0] at hpar
  simp only at hpar
  have Hq0 := hid hq0
  have hz0 : y0.s.size ≤ x2.s.size := by have := take_size 2 x2; rw [hq0] at this; exact this
  have Hz0 := hid hz0
  obtain ⟨⟨c1, y1⟩, hq1⟩ : ∃ q, takeR 2 y0 = q := ⟨_, rfl⟩
  rw [hq1] at hpar
  simp only at hpar
  have Hq1 := hid hq1
  have hz1 : y1.s.size ≤ y0.s.size := by have := take_size 2 y0; rw [hq1] at this; exact this
  have Hz1 := hid hz1
  obtain ⟨⟨c2, y2⟩, hq2⟩ : ∃ q, rdrR y1 = q := ⟨_, rfl⟩
  rw [hq2] at hpar
  simp only at hpar
  have Hq2 := hid hq2
  have hz2 : y2.s.size ≤ y1.s.size := by have := rdr_size y1; rw [hq2] at this; exact this
  have Hz2 := hid hz2
  have Hpar := hid hpar
  clear hO hop hs hx1 hx2 hx1b hx2b hbk hN hsz1 hsz2 htl hpar hk hq0 hz0 hq1 hz1 hq2 hz2
  go_enter Try.func26, Try.ntmps26
  go_wp2_with fail
  refine HO.out.mono ?_
  rintro e w1 ⟨rfl, hb1⟩
  have hk1 : Keeps (fun _ => False) (w.alloc (.cells #[.int .i64 0, .int .u32 0, .int .u16 0, .int .u16 0, .slice none 0 0, .int .u32 0, .int .i64 0] 49)) w1 := Keeps.of_below hb1 (fun k h1 h2 => by omega)
  have hW1 : Below w.heap.size w w1 := ((Below.refl _ w).alloc (Nat.le_refl _) _).trans (hb1.mono (by simp))
  have hl1 : w.heap.size + 1 ≤ w1.heap.size := by have := hb1.size; simpa using this
  have hres := hk1.heap (blk_new w (.cells #[.int .i64 0, .int .u32 0, .int .u16 0, .int .u16 0, .slice none 0 0, .int .u32 0, .int .i64 0] 49)) id
  clear hb1 hk1
  go_wp2_with fail
  have hr0 : IsRd (w1.alloc (.cells #[.string ⟨t.toArray⟩, .bool false] 95)) w1.heap.size ⟨⟨t.toArray⟩, false⟩ := blk_new _ _
  have hg := get_16 hr0 1 (by omega) (by show (⟨t.toArray⟩ : ByteArray).size ≤ maxLen; have := Htl.out; simp [ByteArray.size, maxLen]; omega)
  rw [HX1.out] at hg
  refine hg.mono ?_
  rintro e w2 ⟨rfl, h2, hk2⟩
  have h2' : IsRd w2 w1.heap.size x1 := h2
  have hres2 := hk2.heap (blk_alloc hres _) (by omega)
  have hW2 := (hW1.alloc hW1.size _).trans (hk2.below (B := w.heap.size) (by simp; omega) (fun k h1 h2 => by omega))
  have f1 := blk_free h2' 1
  have cr1 : w2.cell? ⟨w1.heap.size, 1, none⟩ = some (.bool x1.bad) := blk_cell h2' rfl
  clear hg h2 hk2 hr0 hres hW1
  have h3 := h2'.setBad (bN b1 != 80)
  have hk3 : Keeps (fun b => b = w1.heap.size) w2 (w2.setCell ⟨w1.heap.size, 1, none⟩ (.bool (bN b1 != 80))) := (Keeps.refl (fun b => b = w1.heap.size) w2).setCell (p := ⟨w1.heap.size, 1, none⟩) rfl _
  have hres3 := hk3.heap hres2 (by omega)
  have hW3 := hW2.trans (hk3.below hW2.size (fun k h1 h2 => by omega))
  have hg := get_16 h3 1 (by omega) (by have := Hs1.out; show x1.s.size ≤ maxLen; unfold maxLen; omega)
  rw [HX2.out] at hg
  have Hg := hid hg
  clear hg h2' hres2 hW2 hk3 h3
  rw [show ((beN (b1, x1).1.data.toList : Nat) : Int) = bN b1 from rfl]
  go_wp2_with fail
  refine Hg.out.mono ?_
  rintro e w4 ⟨rfl, h4, hk4⟩
  have h4' : IsRd w4 w1.heap.size x2 := h4
  have hres4 := hk4.heap hres3 (by omega)
  have hW4 := hW3.trans (hk4.below hW3.size (fun k h1 h2 => by omega))
  have l4 := blk_lt h4'
  clear Hg h4 hk4 hres3 hW3 f1 cr1
  rw [show ((beN (b2, x2).1.data.toList : Nat) : Int) = k from Hbk.out]
  have hkr := Hkr.out
  have U : UnpSt w w1.heap.size w4.heap.size x2 #[.int .i64 k, .int .u32 0, .int .u16 0, .int .u16 0, .slice none 0 0, .int .u32 0, .int .i64 0] (w4.alloc (.cells #[.int .i64 k, .int .u32 0, .int .u16 0, .int .u16 0, .slice none 0 0, .int .u32 0, .int .i64 0] 49)) :=
    ⟨h4'.keeps ((Keeps.refl (fun _ => False) w4).alloc _) id, blk_new _ _, blk_alloc hres4 _, hW4.alloc hW4.size _, by omega, l4, Hs2.out⟩
  clear h4' hres4 hW4
  go_wp2_with fail
  refine (wire_names k _).mono ?_
  rintro e w5 ⟨rfl, rfl⟩
  rw [HN.out]
  have hg := get_16 U.rd 2 (by omega) U.max
  rw [Hq0.out] at hg
  have Hg := hid hg
  clear hg
  go_wp2_with fail
  refine Hg.out.mono ?_
  rintro e w6 ⟨rfl, hr6, hk6⟩
  have V := U.get hk6 hr6 Hz0.out
  clear U Hg hr6 hk6
  rw [show ((beN (c0, y0).1.data.toList : Nat) : Int) = bN c0 from rfl]
  have fj := blk_free V.msg 2
  have cj := blk_cell V.msg (k := 2) rfl
  have U := V.set 2 (.int .u16 (bN c0))
  simp only [List.setIfInBounds_toArray, List.set_cons_succ, List.set_cons_zero] at U
  have hg := get_16 U.rd 2 (by omega) U.max
  rw [Hq1.out] at hg
  have Hg := hid hg
  clear hg
  go_wp2_with fail
  refine Hg.out.mono ?_
  rintro e w7 ⟨rfl, hr7, hk7⟩
  have V := U.get hk7 hr7 Hz1.out
  clear U Hg hr7 hk7
  rw [show ((beN (c1, y1).1.data.toList : Nat) : Int) = bN c1 from rfl]
  have fj := blk_free V.msg 3
  have cj := blk_cell V.msg (k := 3) rfl
  have U := V.set 3 (.int .u16 (bN c1))
  simp only [List.setIfInBounds_toArray, List.set_cons_succ, List.set_cons_zero] at U
  have hg := read_run U.rd U.max
  rw [Hq2.out] at hg
  have Hg := hid hg
  clear hg
  go_wp2_with fail
  refine Hg.out.mono ?_
  rintro e w8 ⟨v, rfl, ho, hr8, hk8⟩
  obtain ⟨aa, cap, rfl, hby⟩ := own_bytes ho
  obtain ⟨A', cap', e', _, hbx⟩ := vals_of_own ho
  cases e'
  have hml := blk_lt U.msg
  have hlr := U.lr
  have hlm := U.lm
  have hba : c2 ≠ [] → ∀ x, aa = some x → ¬ x.block = w4.heap.size := fun _ x hx => by have := (hbx x hx).1; omega
  have hbn : ∀ x, aa = some x → w.heap.size ≤ x.block := fun x hx => by have := (hbx x hx).1; omega
  have hbr : c2 ≠ [] → ∀ x, aa = some x → ¬ x.block = w.heap.size := fun _ x hx => by have := (hbx x hx).1; omega
  have V := U.get hk8 hr8 Hz2.out
  clear U Hg hr8 hk8 ho hbx hml hlr hlm
  have fj := blk_free V.msg 4
  have cj := blk_cell V.msg (k := 4) rfl
  have U := V.set 4 (.slice aa c2.length cap)
  simp only [List.setIfInBounds_toArray, List.set_cons_succ, List.set_cons_zero] at U
  have hby2 : IsBytes (w8.setCell ⟨w4.heap.size, 4, none⟩ (.slice aa c2.length cap)) aa cap c2 := hby.keeps ((Keeps.refl (fun b => b = w4.heap.size) w8).setCell (p := ⟨w4.heap.size, 4, none⟩) rfl _) hba
  have hRt := fun W (hb : IsBytes W aa cap (c2 : List UInt8)) => wire_RightM (w := W) (m := ⟨k, 0, (bN c0), (bN c1), c2, 0, 0⟩) hb
  have HRt := hid hRt
  have cb := blk_cell U.rd (k := 1) rfl
  have cst := blk_cell U.rd (k := 0) rfl
  have m0 := blk_cell U.msg (k := 0) rfl
  have m1 := blk_cell U.msg (k := 1) rfl
  have m2 := blk_cell U.msg (k := 2) rfl
  have m3 := blk_cell U.msg (k := 3) rfl
  have m4 := blk_cell U.msg (k := 4) rfl
  have m5 := blk_cell U.msg (k := 5) rfl
  have m6 := blk_cell U.msg (k := 6) rfl
  have hres := U.res
  unfold zeroC at hres
  have hW := U.below
  have r0 := blk_cell hres (k := 0) rfl
  have r1 := blk_cell hres (k := 1) rfl
  have r2 := blk_cell hres (k := 2) rfl
  have r3 := blk_cell hres (k := 3) rfl
  have r4 := blk_cell hres (k := 4) rfl
  have r5 := blk_cell hres (k := 5) rfl
  have r6 := blk_cell hres (k := 6) rfl
  have g0 := blk_free hres 0
  have g1 := blk_free hres 1
  have g2 := blk_free hres 2
  have g3 := blk_free hres 3
  have g4 := blk_free hres 4
  have g5 := blk_free hres 5
  have g6 := blk_free hres 6
  clear hRt
  by_cases hb : y2.bad = true
  · have hu := hid (show unpT t = (Msg.zero, 4) from if_pos (by rw [Hpar.out]; exact .inl hb))
    rw [hb] at cb
    clear hb HRt
    go_wp2_with fail
    have hf := blk_store hres (.int .i64 0) (.int .u32 0) (.int .u16 0) (.int .u16 0) (.slice none 0 0) (.int .u32 0) (.int .i64 0)
    have d0 := blk_cell hf (k := 0) rfl
    have d1 := blk_cell hf (k := 1) rfl
    have d2 := blk_cell hf (k := 2) rfl
    have d3 := blk_cell hf (k := 3) rfl
    have d4 := blk_cell hf (k := 4) rfl
    have d5 := blk_cell hf (k := 5) rfl
    have d6 := blk_cell hf (k := 6) rfl
    have hbl := ((((((hW.setCell (p := ⟨w.heap.size, 0, none⟩) (Nat.le_refl _) (.int .i64 0)).setCell (p := ⟨w.heap.size, 1, none⟩) (Nat.le_refl _) (.int .u32 0)).setCell (p := ⟨w.heap.size, 2, none⟩) (Nat.le_refl _) (.int .u16 0)).setCell (p := ⟨w.heap.size, 3, none⟩) (Nat.le_refl _) (.int .u16 0)).setCell (p := ⟨w.heap.size, 4, none⟩) (Nat.le_refl _) (.slice none 0 0)).setCell (p := ⟨w.heap.size, 5, none⟩) (Nat.le_refl _) (.int .u32 0)).setCell (p := ⟨w.heap.size, 6, none⟩) (Nat.le_refl _) (.int .i64 0)
    refine bodyPost_ret (v := .tuple #[.agg #[.int .i64 0, .int .u32 0, .int .u16 0, .int .u16 0, .slice none 0 0, .int .u32 0, .int .i64 0], .int .i64 4]) (by simp [results, Try.results26, go_sem, d0, d1, d2, d3, d4, d5, d6]) rfl ?_
    rw [hu.out]
    exact ⟨none, 0, rfl, IsBytes.none _, hbl, fun _ h => by cases h⟩
  have hb' : y2.bad = false := by simpa using hb
  rw [hb'] at cb
  by_cases he : y2.s.toList = []
  rotate_left
  · have hu := hid (show unpT t = (Msg.zero, 4) from if_pos (by rw [Hpar.out]; exact .inr (.inl he)))
    have q1 : y2.s.toList.isEmpty = false := by simpa using he
    clear hb hb' HRt
    go_wp2_with fail
    have hf := blk_store hres (.int .i64 0) (.int .u32 0) (.int .u16 0) (.int .u16 0) (.slice none 0 0) (.int .u32 0) (.int .i64 0)
    have d0 := blk_cell hf (k := 0) rfl
    have d1 := blk_cell hf (k := 1) rfl
    have d2 := blk_cell hf (k := 2) rfl
    have d3 := blk_cell hf (k := 3) rfl
    have d4 := blk_cell hf (k := 4) rfl
    have d5 := blk_cell hf (k := 5) rfl
    have d6 := blk_cell hf (k := 6) rfl
    have hbl := ((((((hW.setCell (p := ⟨w.heap.size, 0, none⟩) (Nat.le_refl _) (.int .i64 0)).setCell (p := ⟨w.heap.size, 1, none⟩) (Nat.le_refl _) (.int .u32 0)).setCell (p := ⟨w.heap.size, 2, none⟩) (Nat.le_refl _) (.int .u16 0)).setCell (p := ⟨w.heap.size, 3, none⟩) (Nat.le_refl _) (.int .u16 0)).setCell (p := ⟨w.heap.size, 4, none⟩) (Nat.le_refl _) (.slice none 0 0)).setCell (p := ⟨w.heap.size, 5, none⟩) (Nat.le_refl _) (.int .u32 0)).setCell (p := ⟨w.heap.size, 6, none⟩) (Nat.le_refl _) (.int .i64 0)
    refine bodyPost_ret (v := .tuple #[.agg #[.int .i64 0, .int .u32 0, .int .u16 0, .int .u16 0, .slice none 0 0, .int .u32 0, .int .i64 0], .int .i64 4]) (by simp [results, Try.results26, go_sem, d0, d1, d2, d3, d4, d5, d6]) rfl ?_
    rw [hu.out]
    exact ⟨none, 0, rfl, IsBytes.none _, hbl, fun _ h => by cases h⟩
  have q1 : y2.s.toList.isEmpty = true := by simpa using he
  by_cases hr : RightP ⟨k, 0, (bN c0), (bN c1), c2, 0, 0⟩
  rotate_left
  · have hu := hid (show unpT t = (Msg.zero, 4) from if_pos (by rw [Hpar.out]; exact .inr (.inr hr)))
    rw [decide_eq_false hr] at HRt
    clear hb hb' hr he
    go_wp2_with fail
    refine (HRt.out _ hby2).mono ?_
    rintro e w9 ⟨rfl, hb9⟩
    have hk9 : Keeps (fun _ => False) _ w9 := Keeps.of_below hb9 (fun k h1 h2 => by omega)
    have hres9 := hk9.heap hres id
    have hmsg9 := hk9.heap U.msg id
    have hW9 := hW.trans (hb9.mono hW.size)
    have s0 := blk_cell hres9 (k := 0) rfl
    have t0 := blk_free hres9 0
    have n0 := blk_cell hmsg9 (k := 0) rfl
    have s1 := blk_cell hres9 (k := 1) rfl
    have t1 := blk_free hres9 1
    have n1 := blk_cell hmsg9 (k := 1) rfl
    have s2 := blk_cell hres9 (k := 2) rfl
    have t2 := blk_free hres9 2
    have n2 := blk_cell hmsg9 (k := 2) rfl
    have s3 := blk_cell hres9 (k := 3) rfl
    have t3 := blk_free hres9 3
    have n3 := blk_cell hmsg9 (k := 3) rfl
    have s4 := blk_cell hres9 (k := 4) rfl
    have t4 := blk_free hres9 4
    have n4 := blk_cell hmsg9 (k := 4) rfl
    have s5 := blk_cell hres9 (k := 5) rfl
    have t5 := blk_free hres9 5
    have n5 := blk_cell hmsg9 (k := 5) rfl
    have s6 := blk_cell hres9 (k := 6) rfl
    have t6 := blk_free hres9 6
    have n6 := blk_cell hmsg9 (k := 6) rfl
    have hby9 := hby2.keeps hk9 (fun _ _ _ => id)
    clear hb9 hk9 hmsg9
    go_wp2_with fail
    have hf := blk_store hres9 (.int .i64 0) (.int .u32 0) (.int .u16 0) (.int .u16 0) (.slice none 0 0) (.int .u32 0) (.int .i64 0)
    have d0 := blk_cell hf (k := 0) rfl
    have d1 := blk_cell hf (k := 1) rfl
    have d2 := blk_cell hf (k := 2) rfl
    have d3 := blk_cell hf (k := 3) rfl
    have d4 := blk_cell hf (k := 4) rfl
    have d5 := blk_cell hf (k := 5) rfl
    have d6 := blk_cell hf (k := 6) rfl
    have hbl := ((((((hW9.setCell (p := ⟨w.heap.size, 0, none⟩) (Nat.le_refl _) (.int .i64 0)).setCell (p := ⟨w.heap.size, 1, none⟩) (Nat.le_refl _) (.int .u32 0)).setCell (p := ⟨w.heap.size, 2, none⟩) (Nat.le_refl _) (.int .u16 0)).setCell (p := ⟨w.heap.size, 3, none⟩) (Nat.le_refl _) (.int .u16 0)).setCell (p := ⟨w.heap.size, 4, none⟩) (Nat.le_refl _) (.slice none 0 0)).setCell (p := ⟨w.heap.size, 5, none⟩) (Nat.le_refl _) (.int .u32 0)).setCell (p := ⟨w.heap.size, 6, none⟩) (Nat.le_refl _) (.int .i64 0)
    refine bodyPost_ret (v := .tuple #[.agg #[.int .i64 0, .int .u32 0, .int .u16 0, .int .u16 0, .slice none 0 0, .int .u32 0, .int .i64 0], .int .i64 4]) (by simp [results, Try.results26, go_sem, d0, d1, d2, d3, d4, d5, d6]) rfl ?_
    rw [hu.out]
    exact ⟨none, 0, rfl, IsBytes.none _, hbl, fun _ h => by cases h⟩
  · have hu := hid (show unpT t = (⟨k, 0, (bN c0), (bN c1), c2, 0, 0⟩, 0) from by unfold unpT; rw [Hpar.out, if_neg]; rintro (h | h | h); exact hb h; exact h he; exact h hr)
    rw [decide_eq_true hr] at HRt
    clear hb hb' hr he
    go_wp2_with fail
    refine (HRt.out _ hby2).mono ?_
    rintro e w9 ⟨rfl, hb9⟩
    have hk9 : Keeps (fun _ => False) _ w9 := Keeps.of_below hb9 (fun k h1 h2 => by omega)
    have hres9 := hk9.heap hres id
    have hmsg9 := hk9.heap U.msg id
    have hW9 := hW.trans (hb9.mono hW.size)
    have s0 := blk_cell hres9 (k := 0) rfl
    have t0 := blk_free hres9 0
    have n0 := blk_cell hmsg9 (k := 0) rfl
    have s1 := blk_cell hres9 (k := 1) rfl
    have t1 := blk_free hres9 1
    have n1 := blk_cell hmsg9 (k := 1) rfl
    have s2 := blk_cell hres9 (k := 2) rfl
    have t2 := blk_free hres9 2
    have n2 := blk_cell hmsg9 (k := 2) rfl
    have s3 := blk_cell hres9 (k := 3) rfl
    have t3 := blk_free hres9 3
    have n3 := blk_cell hmsg9 (k := 3) rfl
    have s4 := blk_cell hres9 (k := 4) rfl
    have t4 := blk_free hres9 4
    have n4 := blk_cell hmsg9 (k := 4) rfl
    have s5 := blk_cell hres9 (k := 5) rfl
    have t5 := blk_free hres9 5
    have n5 := blk_cell hmsg9 (k := 5) rfl
    have s6 := blk_cell hres9 (k := 6) rfl
    have t6 := blk_free hres9 6
    have n6 := blk_cell hmsg9 (k := 6) rfl
    have hby9 := hby2.keeps hk9 (fun _ _ _ => id)
    clear hb9 hk9 hmsg9
    go_wp2_with fail
    have hf := blk_store hres9 (.int .i64 k) (.int .u32 0) (.int .u16 (bN c0)) (.int .u16 (bN c1)) (.slice aa c2.length cap) (.int .u32 0) (.int .i64 0)
    have d0 := blk_cell hf (k := 0) rfl
    have d1 := blk_cell hf (k := 1) rfl
    have d2 := blk_cell hf (k := 2) rfl
    have d3 := blk_cell hf (k := 3) rfl
    have d4 := blk_cell hf (k := 4) rfl
    have d5 := blk_cell hf (k := 5) rfl
    have d6 := blk_cell hf (k := 6) rfl
    have hbl := ((((((hW9.setCell (p := ⟨w.heap.size, 0, none⟩) (Nat.le_refl _) (.int .i64 k)).setCell (p := ⟨w.heap.size, 1, none⟩) (Nat.le_refl _) (.int .u32 0)).setCell (p := ⟨w.heap.size, 2, none⟩) (Nat.le_refl _) (.int .u16 (bN c0))).setCell (p := ⟨w.heap.size, 3, none⟩) (Nat.le_refl _) (.int .u16 (bN c1))).setCell (p := ⟨w.heap.size, 4, none⟩) (Nat.le_refl _) (.slice aa c2.length cap)).setCell (p := ⟨w.heap.size, 5, none⟩) (Nat.le_refl _) (.int .u32 0)).setCell (p := ⟨w.heap.size, 6, none⟩) (Nat.le_refl _) (.int .i64 0)
    refine bodyPost_ret (v := .tuple #[.agg #[.int .i64 k, .int .u32 0, .int .u16 (bN c0), .int .u16 (bN c1), .slice aa c2.length cap, .int .u32 0, .int .i64 0], .int .i64 0]) (by simp [results, Try.results26, go_sem, d0, d1, d2, d3, d4, d5, d6]) rfl ?_
    rw [hu.out]
    exact ⟨aa, cap, rfl, hby9.keeps (S := fun b => b = w.heap.size) (((((((Keeps.refl (fun b => b = w.heap.size) w9).setCell (p := ⟨w.heap.size, 0, none⟩) rfl _).setCell (p := ⟨w.heap.size, 1, none⟩) rfl _).setCell (p := ⟨w.heap.size, 2, none⟩) rfl _).setCell (p := ⟨w.heap.size, 3, none⟩) rfl _).setCell (p := ⟨w.heap.size, 4, none⟩) rfl _).setCell (p := ⟨w.heap.size, 5, none⟩) rfl _ |>.setCell (p := ⟨w.heap.size, 6, none⟩) rfl _) hbr, hbl, hbn⟩
set_option maxHeartbeats 4000000 in
theorem unp_4 (s : ByteArray) (t : List UInt8) (k : Int) (x1 x2 : Rd) (b1 b2 : ByteArray) (hs : s.size ≤ maxLen) (hop : opened s.data.toList = (t, 0)) (htl : t.length ≤ 100000) (hx1 : firstR t = (b1, x1)) (hx2 : kindR t = (b2, x2)) (hbk : bN b2 = k) (hk : k = 4) :
    Calls Try.prog 26 #[.string s] w (UnpN w (unpT t).1 (unpT t).2) := by
  have hO := sum_Open s hs (w.alloc (.cells #[.int .i64 0, .int .u32 0, .int .u16 0, .int .u16 0, .slice none 0 0, .int .u32 0, .int .i64 0] 49))
  rw [hop] at hO
  have HO := hid hO
  have hx1b : takeR 1 ⟨⟨t.toArray⟩, false⟩ = (b1, x1) := hx1
  have hx2b : takeR 1 ⟨x1.s, bN b1 != 80⟩ = (b2, x2) := by have := hx2; unfold kindR at this; rwa [hx1] at this
  have HX1 := hid hx1b
  have HX2 := hid hx2b
  have Hbk := hid hbk
  have hN : namesK k = 18 := by simp [namesK, hk]
  have HN := hid hN
  have hsz1 : x1.s.size ≤ t.length := by have := take_size 1 ⟨⟨t.toArray⟩, false⟩; rw [hx1b] at this; exact Nat.le_trans this (by show t.toArray.size ≤ t.length; simp)
  have hsz2 : x2.s.size ≤ x1.s.size := by have := take_size 1 ⟨x1.s, bN b1 != 80⟩; rw [hx2b] at this; exact this
  have hkr : 0 ≤ k ∧ k < 65536 := by
    have h1 := take_len 1 ⟨x1.s, bN b1 != 80⟩
    rw [hx2b] at h1
    have h2 := beN_lt _ b2.data.toList rfl
    have h3 : b2.data.toList.length ≤ 1 := by simpa using h1
    have h4 := Nat.lt_of_lt_of_le h2 (Nat.pow_le_pow_right (by omega) h3)
    rw [← hbk]
    unfold bN
    omega
  have Hkr := hid hkr
  have Htl := hid htl
  have Hs1 := hid (Nat.le_trans hsz1 htl)
  have Hs2 := hid (Nat.le_trans hsz2 (Nat.le_trans hsz1 htl))
  have hpar : parseT t = parseK k x2 := by unfold parseT; rw [hx2]; exact congrArg (fun q => parseK q x2) hbk
  unfold parseK at hpar
  rw [if_neg (by omega), if_neg (by omega), if_pos hk] at hpar
  obtain ⟨⟨c0, y0⟩, hq0⟩ : ∃ q, takeR 2 x2 = q := ⟨_, rfl⟩
  rw [hq0] at hpar
  simp only at hpar
  have Hq0 := hid hq0
  have hz0 : y0.s.size ≤ x2.s.size := by have := take_size 2 x2; rw [hq0] at this; exact this
  have Hz0 := hid hz0
  obtain ⟨⟨c1, y1⟩, hq1⟩ : ∃ q, takeR 4 y0 = q := ⟨_, rfl⟩
  rw [hq1] at hpar
  simp only at hpar
  have Hq1 := hid hq1
  have hz1 : y1.s.size ≤ y0.s.size := by have := take_size 4 y0; rw [hq1] at this; exact this
  have Hz1 := hid hz1
  have Hpar := hid hpar
  clear hO hop hs hx1 hx2 hx1b hx2b hbk hN hsz1 hsz2 htl hpar hk hq0 hz0 hq1 hz1
  go_enter Try.func26, Try.ntmps26
  go_wp2_with fail
  refine HO.out.mono ?_
  rintro e w1 ⟨rfl, hb1⟩
  have hk1 : Keeps (fun _ => False) (w.alloc (.cells #[.int .i64 0, .int .u32 0, .int .u16 0, .int .u16 0, .slice none 0 0, .int .u32 0, .int .i64 0] 49)) w1 := Keeps.of_below hb1 (fun k h1 h2 => by omega)
  have hW1 : Below w.heap.size w w1 := ((Below.refl _ w).alloc (Nat.le_refl _) _).trans (hb1.mono (by simp))
  have hl1 : w.heap.size + 1 ≤ w1.heap.size := by have := hb1.size; simpa using this
  have hres := hk1.heap (blk_new w (.cells #[.int .i64 0, .int .u32 0, .int .u16 0, .int .u16 0, .slice none 0 0, .int .u32 0, .int .i64 0] 49)) id
  clear hb1 hk1
  go_wp2_with fail
  have hr0 : IsRd (w1.alloc (.cells #[.string ⟨t.toArray⟩, .bool false] 95)) w1.heap.size ⟨⟨t.toArray⟩, false⟩ := blk_new _ _
  have hg := get_16 hr0 1 (by omega) (by show (⟨t.toArray⟩ : ByteArray).size ≤ maxLen; have := Htl.out; simp [ByteArray.size, maxLen]; omega)
  rw [HX1.out] at hg
  refine hg.mono ?_
  rintro e w2 ⟨rfl, h2, hk2⟩
  have h2' : IsRd w2 w1.heap.size x1 := h2
  have hres2 := hk2.heap (blk_alloc hres _) (by omega)
  have hW2 := (hW1.alloc hW1.size _).trans (hk2.below (B := w.heap.size) (by simp; omega) (fun k h1 h2 => by omega))
  have f1 := blk_free h2' 1
  have cr1 : w2.cell? ⟨w1.heap.size, 1, none⟩ = some (.bool x1.bad) := blk_cell h2' rfl
  clear hg h2 hk2 hr0 hres hW1
  have h3 := h2'.setBad (bN b1 != 80)
  have hk3 : Keeps (fun b => b = w1.heap.size) w2 (w2.setCell ⟨w1.heap.size, 1, none⟩ (.bool (bN b1 != 80))) := (Keeps.refl (fun b => b = w1.heap.size) w2).setCell (p := ⟨w1.heap.size, 1, none⟩) rfl _
  have hres3 := hk3.heap hres2 (by omega)
  have hW3 := hW2.trans (hk3.below hW2.size (fun k h1 h2 => by omega))
  have hg := get_16 h3 1 (by omega) (by have := Hs1.out; show x1.s.size ≤ maxLen; unfold maxLen; omega)
  rw [HX2.out] at hg
  have Hg := hid hg
  clear hg h2' hres2 hW2 hk3 h3
  rw [show ((beN (b1, x1).1.data.toList : Nat) : Int) = bN b1 from rfl]
  go_wp2_with fail
  refine Hg.out.mono ?_
  rintro e w4 ⟨rfl, h4, hk4⟩
  have h4' : IsRd w4 w1.heap.size x2 := h4
  have hres4 := hk4.heap hres3 (by omega)
  have hW4 := hW3.trans (hk4.below hW3.size (fun k h1 h2 => by omega))
  have l4 := blk_lt h4'
  clear Hg h4 hk4 hres3 hW3 f1 cr1
  rw [show ((beN (b2, x2).1.data.toList : Nat) : Int) = k from Hbk.out]
  have hkr := Hkr.out
  have U : UnpSt w w1.heap.size w4.heap.size x2 #[.int .i64 k, .int .u32 0, .int .u16 0, .int .u16 0, .slice none 0 0, .int .u32 0, .int .i64 0] (w4.alloc (.cells #[.int .i64 k, .int .u32 0, .int .u16 0, .int .u16 0, .slice none 0 0, .int .u32 0, .int .i64 0] 49)) :=
    ⟨h4'.keeps ((Keeps.refl (fun _ => False) w4).alloc _) id, blk_new _ _, blk_alloc hres4 _, hW4.alloc hW4.size _, by omega, l4, Hs2.out⟩
  clear h4' hres4 hW4
  go_wp2_with fail
  refine (wire_names k _).mono ?_
  rintro e w5 ⟨rfl, rfl⟩
  rw [HN.out]
  have hg := get_16 U.rd 2 (by omega) U.max
  rw [Hq0.out] at hg
  have Hg := hid hg
  clear hg
  go_wp2_with fail
  refine Hg.out.mono ?_
  rintro e w6 ⟨rfl, hr6, hk6⟩
  have V := U.get hk6 hr6 Hz0.out
  clear U Hg hr6 hk6
  rw [show ((beN (c0, y0).1.data.toList : Nat) : Int) = bN c0 from rfl]
  have fj := blk_free V.msg 2
  have cj := blk_cell V.msg (k := 2) rfl
  have U := V.set 2 (.int .u16 (bN c0))
  simp only [List.setIfInBounds_toArray, List.set_cons_succ, List.set_cons_zero] at U
  have hg := get_32 U.rd 4 (by omega) U.max
  rw [Hq1.out] at hg
  have Hg := hid hg
  clear hg
  go_wp2_with fail
  refine Hg.out.mono ?_
  rintro e w7 ⟨rfl, hr7, hk7⟩
  have V := U.get hk7 hr7 Hz1.out
  clear U Hg hr7 hk7
  rw [show ((beN (c1, y1).1.data.toList : Nat) : Int) = bN c1 from rfl]
  have fj := blk_free V.msg 5
  have cj := blk_cell V.msg (k := 5) rfl
  have U := V.set 5 (.int .u32 (bN c1))
  simp only [List.setIfInBounds_toArray, List.set_cons_succ, List.set_cons_zero] at U
  have hRt := fun W (hb : IsBytes W none 0 ([] : List UInt8)) => wire_RightM (w := W) (m := ⟨k, 0, (bN c0), 0, [], (bN c1), 0⟩) hb
  have HRt := hid hRt
  have cb := blk_cell U.rd (k := 1) rfl
  have cst := blk_cell U.rd (k := 0) rfl
  have m0 := blk_cell U.msg (k := 0) rfl
  have m1 := blk_cell U.msg (k := 1) rfl
  have m2 := blk_cell U.msg (k := 2) rfl
  have m3 := blk_cell U.msg (k := 3) rfl
  have m4 := blk_cell U.msg (k := 4) rfl
  have m5 := blk_cell U.msg (k := 5) rfl
  have m6 := blk_cell U.msg (k := 6) rfl
  have hres := U.res
  unfold zeroC at hres
  have hW := U.below
  have r0 := blk_cell hres (k := 0) rfl
  have r1 := blk_cell hres (k := 1) rfl
  have r2 := blk_cell hres (k := 2) rfl
  have r3 := blk_cell hres (k := 3) rfl
  have r4 := blk_cell hres (k := 4) rfl
  have r5 := blk_cell hres (k := 5) rfl
  have r6 := blk_cell hres (k := 6) rfl
  have g0 := blk_free hres 0
  have g1 := blk_free hres 1
  have g2 := blk_free hres 2
  have g3 := blk_free hres 3
  have g4 := blk_free hres 4
  have g5 := blk_free hres 5
  have g6 := blk_free hres 6
  clear hRt
  by_cases hb : y1.bad = true
  · have hu := hid (show unpT t = (Msg.zero, 4) from if_pos (by rw [Hpar.out]; exact .inl hb))
    rw [hb] at cb
    clear hb HRt
    go_wp2_with fail
    have hf := blk_store hres (.int .i64 0) (.int .u32 0) (.int .u16 0) (.int .u16 0) (.slice none 0 0) (.int .u32 0) (.int .i64 0)
    have d0 := blk_cell hf (k := 0) rfl
    have d1 := blk_cell hf (k := 1) rfl
    have d2 := blk_cell hf (k := 2) rfl
    have d3 := blk_cell hf (k := 3) rfl
    have d4 := blk_cell hf (k := 4) rfl
    have d5 := blk_cell hf (k := 5) rfl
    have d6 := blk_cell hf (k := 6) rfl
    have hbl := ((((((hW.setCell (p := ⟨w.heap.size, 0, none⟩) (Nat.le_refl _) (.int .i64 0)).setCell (p := ⟨w.heap.size, 1, none⟩) (Nat.le_refl _) (.int .u32 0)).setCell (p := ⟨w.heap.size, 2, none⟩) (Nat.le_refl _) (.int .u16 0)).setCell (p := ⟨w.heap.size, 3, none⟩) (Nat.le_refl _) (.int .u16 0)).setCell (p := ⟨w.heap.size, 4, none⟩) (Nat.le_refl _) (.slice none 0 0)).setCell (p := ⟨w.heap.size, 5, none⟩) (Nat.le_refl _) (.int .u32 0)).setCell (p := ⟨w.heap.size, 6, none⟩) (Nat.le_refl _) (.int .i64 0)
    refine bodyPost_ret (v := .tuple #[.agg #[.int .i64 0, .int .u32 0, .int .u16 0, .int .u16 0, .slice none 0 0, .int .u32 0, .int .i64 0], .int .i64 4]) (by simp [results, Try.results26, go_sem, d0, d1, d2, d3, d4, d5, d6]) rfl ?_
    rw [hu.out]
    exact ⟨none, 0, rfl, IsBytes.none _, hbl, fun _ h => by cases h⟩
  have hb' : y1.bad = false := by simpa using hb
  rw [hb'] at cb
  by_cases he : y1.s.toList = []
  rotate_left
  · have hu := hid (show unpT t = (Msg.zero, 4) from if_pos (by rw [Hpar.out]; exact .inr (.inl he)))
    have q1 : y1.s.toList.isEmpty = false := by simpa using he
    clear hb hb' HRt
    go_wp2_with fail
    have hf := blk_store hres (.int .i64 0) (.int .u32 0) (.int .u16 0) (.int .u16 0) (.slice none 0 0) (.int .u32 0) (.int .i64 0)
    have d0 := blk_cell hf (k := 0) rfl
    have d1 := blk_cell hf (k := 1) rfl
    have d2 := blk_cell hf (k := 2) rfl
    have d3 := blk_cell hf (k := 3) rfl
    have d4 := blk_cell hf (k := 4) rfl
    have d5 := blk_cell hf (k := 5) rfl
    have d6 := blk_cell hf (k := 6) rfl
    have hbl := ((((((hW.setCell (p := ⟨w.heap.size, 0, none⟩) (Nat.le_refl _) (.int .i64 0)).setCell (p := ⟨w.heap.size, 1, none⟩) (Nat.le_refl _) (.int .u32 0)).setCell (p := ⟨w.heap.size, 2, none⟩) (Nat.le_refl _) (.int .u16 0)).setCell (p := ⟨w.heap.size, 3, none⟩) (Nat.le_refl _) (.int .u16 0)).setCell (p := ⟨w.heap.size, 4, none⟩) (Nat.le_refl _) (.slice none 0 0)).setCell (p := ⟨w.heap.size, 5, none⟩) (Nat.le_refl _) (.int .u32 0)).setCell (p := ⟨w.heap.size, 6, none⟩) (Nat.le_refl _) (.int .i64 0)
    refine bodyPost_ret (v := .tuple #[.agg #[.int .i64 0, .int .u32 0, .int .u16 0, .int .u16 0, .slice none 0 0, .int .u32 0, .int .i64 0], .int .i64 4]) (by simp [results, Try.results26, go_sem, d0, d1, d2, d3, d4, d5, d6]) rfl ?_
    rw [hu.out]
    exact ⟨none, 0, rfl, IsBytes.none _, hbl, fun _ h => by cases h⟩
  have q1 : y1.s.toList.isEmpty = true := by simpa using he
  by_cases hr : RightP ⟨k, 0, (bN c0), 0, [], (bN c1), 0⟩
  rotate_left
  · have hu := hid (show unpT t = (Msg.zero, 4) from if_pos (by rw [Hpar.out]; exact .inr (.inr hr)))
    rw [decide_eq_false hr] at HRt
    clear hb hb' hr he
    go_wp2_with fail
    refine (HRt.out _ (IsBytes.none _)).mono ?_
    rintro e w9 ⟨rfl, hb9⟩
    have hk9 : Keeps (fun _ => False) _ w9 := Keeps.of_below hb9 (fun k h1 h2 => by omega)
    have hres9 := hk9.heap hres id
    have hmsg9 := hk9.heap U.msg id
    have hW9 := hW.trans (hb9.mono hW.size)
    have s0 := blk_cell hres9 (k := 0) rfl
    have t0 := blk_free hres9 0
    have n0 := blk_cell hmsg9 (k := 0) rfl
    have s1 := blk_cell hres9 (k := 1) rfl
    have t1 := blk_free hres9 1
    have n1 := blk_cell hmsg9 (k := 1) rfl
    have s2 := blk_cell hres9 (k := 2) rfl
    have t2 := blk_free hres9 2
    have n2 := blk_cell hmsg9 (k := 2) rfl
    have s3 := blk_cell hres9 (k := 3) rfl
    have t3 := blk_free hres9 3
    have n3 := blk_cell hmsg9 (k := 3) rfl
    have s4 := blk_cell hres9 (k := 4) rfl
    have t4 := blk_free hres9 4
    have n4 := blk_cell hmsg9 (k := 4) rfl
    have s5 := blk_cell hres9 (k := 5) rfl
    have t5 := blk_free hres9 5
    have n5 := blk_cell hmsg9 (k := 5) rfl
    have s6 := blk_cell hres9 (k := 6) rfl
    have t6 := blk_free hres9 6
    have n6 := blk_cell hmsg9 (k := 6) rfl
    clear hb9 hk9 hmsg9
    go_wp2_with fail
    have hf := blk_store hres9 (.int .i64 0) (.int .u32 0) (.int .u16 0) (.int .u16 0) (.slice none 0 0) (.int .u32 0) (.int .i64 0)
    have d0 := blk_cell hf (k := 0) rfl
    have d1 := blk_cell hf (k := 1) rfl
    have d2 := blk_cell hf (k := 2) rfl
    have d3 := blk_cell hf (k := 3) rfl
    have d4 := blk_cell hf (k := 4) rfl
    have d5 := blk_cell hf (k := 5) rfl
    have d6 := blk_cell hf (k := 6) rfl
    have hbl := ((((((hW9.setCell (p := ⟨w.heap.size, 0, none⟩) (Nat.le_refl _) (.int .i64 0)).setCell (p := ⟨w.heap.size, 1, none⟩) (Nat.le_refl _) (.int .u32 0)).setCell (p := ⟨w.heap.size, 2, none⟩) (Nat.le_refl _) (.int .u16 0)).setCell (p := ⟨w.heap.size, 3, none⟩) (Nat.le_refl _) (.int .u16 0)).setCell (p := ⟨w.heap.size, 4, none⟩) (Nat.le_refl _) (.slice none 0 0)).setCell (p := ⟨w.heap.size, 5, none⟩) (Nat.le_refl _) (.int .u32 0)).setCell (p := ⟨w.heap.size, 6, none⟩) (Nat.le_refl _) (.int .i64 0)
    refine bodyPost_ret (v := .tuple #[.agg #[.int .i64 0, .int .u32 0, .int .u16 0, .int .u16 0, .slice none 0 0, .int .u32 0, .int .i64 0], .int .i64 4]) (by simp [results, Try.results26, go_sem, d0, d1, d2, d3, d4, d5, d6]) rfl ?_
    rw [hu.out]
    exact ⟨none, 0, rfl, IsBytes.none _, hbl, fun _ h => by cases h⟩
  · have hu := hid (show unpT t = (⟨k, 0, (bN c0), 0, [], (bN c1), 0⟩, 0) from by unfold unpT; rw [Hpar.out, if_neg]; rintro (h | h | h); exact hb h; exact h he; exact h hr)
    rw [decide_eq_true hr] at HRt
    clear hb hb' hr he
    go_wp2_with fail
    refine (HRt.out _ (IsBytes.none _)).mono ?_
    rintro e w9 ⟨rfl, hb9⟩
    have hk9 : Keeps (fun _ => False) _ w9 := Keeps.of_below hb9 (fun k h1 h2 => by omega)
    have hres9 := hk9.heap hres id
    have hmsg9 := hk9.heap U.msg id
    have hW9 := hW.trans (hb9.mono hW.size)
    have s0 := blk_cell hres9 (k := 0) rfl
    have t0 := blk_free hres9 0
    have n0 := blk_cell hmsg9 (k := 0) rfl
    have s1 := blk_cell hres9 (k := 1) rfl
    have t1 := blk_free hres9 1
    have n1 := blk_cell hmsg9 (k := 1) rfl
    have s2 := blk_cell hres9 (k := 2) rfl
    have t2 := blk_free hres9 2
    have n2 := blk_cell hmsg9 (k := 2) rfl
    have s3 := blk_cell hres9 (k := 3) rfl
    have t3 := blk_free hres9 3
    have n3 := blk_cell hmsg9 (k := 3) rfl
    have s4 := blk_cell hres9 (k := 4) rfl
    have t4 := blk_free hres9 4
    have n4 := blk_cell hmsg9 (k := 4) rfl
    have s5 := blk_cell hres9 (k := 5) rfl
    have t5 := blk_free hres9 5
    have n5 := blk_cell hmsg9 (k := 5) rfl
    have s6 := blk_cell hres9 (k := 6) rfl
    have t6 := blk_free hres9 6
    have n6 := blk_cell hmsg9 (k := 6) rfl
    clear hb9 hk9 hmsg9
    go_wp2_with fail
    have hf := blk_store hres9 (.int .i64 k) (.int .u32 0) (.int .u16 (bN c0)) (.int .u16 0) (.slice none 0 0) (.int .u32 (bN c1)) (.int .i64 0)
    have d0 := blk_cell hf (k := 0) rfl
    have d1 := blk_cell hf (k := 1) rfl
    have d2 := blk_cell hf (k := 2) rfl
    have d3 := blk_cell hf (k := 3) rfl
    have d4 := blk_cell hf (k := 4) rfl
    have d5 := blk_cell hf (k := 5) rfl
    have d6 := blk_cell hf (k := 6) rfl
    have hbl := ((((((hW9.setCell (p := ⟨w.heap.size, 0, none⟩) (Nat.le_refl _) (.int .i64 k)).setCell (p := ⟨w.heap.size, 1, none⟩) (Nat.le_refl _) (.int .u32 0)).setCell (p := ⟨w.heap.size, 2, none⟩) (Nat.le_refl _) (.int .u16 (bN c0))).setCell (p := ⟨w.heap.size, 3, none⟩) (Nat.le_refl _) (.int .u16 0)).setCell (p := ⟨w.heap.size, 4, none⟩) (Nat.le_refl _) (.slice none 0 0)).setCell (p := ⟨w.heap.size, 5, none⟩) (Nat.le_refl _) (.int .u32 (bN c1))).setCell (p := ⟨w.heap.size, 6, none⟩) (Nat.le_refl _) (.int .i64 0)
    refine bodyPost_ret (v := .tuple #[.agg #[.int .i64 k, .int .u32 0, .int .u16 (bN c0), .int .u16 0, .slice none 0 0, .int .u32 (bN c1), .int .i64 0], .int .i64 0]) (by simp [results, Try.results26, go_sem, d0, d1, d2, d3, d4, d5, d6]) rfl ?_
    rw [hu.out]
    exact ⟨none, 0, rfl, IsBytes.none _, hbl, fun _ h => by cases h⟩
set_option maxHeartbeats 4000000 in
theorem unp_5 (s : ByteArray) (t : List UInt8) (k : Int) (x1 x2 : Rd) (b1 b2 : ByteArray) (hs : s.size ≤ maxLen) (hop : opened s.data.toList = (t, 0)) (htl : t.length ≤ 100000) (hx1 : firstR t = (b1, x1)) (hx2 : kindR t = (b2, x2)) (hbk : bN b2 = k) (hk : k = 5) :
    Calls Try.prog 26 #[.string s] w (UnpN w (unpT t).1 (unpT t).2) := by
  have hO := sum_Open s hs (w.alloc (.cells #[.int .i64 0, .int .u32 0, .int .u16 0, .int .u16 0, .slice none 0 0, .int .u32 0, .int .i64 0] 49))
  rw [hop] at hO
  have HO := hid hO
  have hx1b : takeR 1 ⟨⟨t.toArray⟩, false⟩ = (b1, x1) := hx1
  have hx2b : takeR 1 ⟨x1.s, bN b1 != 80⟩ = (b2, x2) := by have := hx2; unfold kindR at this; rwa [hx1] at this
  have HX1 := hid hx1b
  have HX2 := hid hx2b
  have Hbk := hid hbk
  have hN : namesK k = 4 := by simp [namesK, hk]
  have HN := hid hN
  have hsz1 : x1.s.size ≤ t.length := by have := take_size 1 ⟨⟨t.toArray⟩, false⟩; rw [hx1b] at this; exact Nat.le_trans this (by show t.toArray.size ≤ t.length; simp)
  have hsz2 : x2.s.size ≤ x1.s.size := by have := take_size 1 ⟨x1.s, bN b1 != 80⟩; rw [hx2b] at this; exact this
  have hkr : 0 ≤ k ∧ k < 65536 := by
    have h1 := take_len 1 ⟨x1.s, bN b1 != 80⟩
    rw [hx2b] at h1
    have h2 := beN_lt _ b2.data.toList rfl
    have h3 : b2.data.toList.length ≤ 1 := by simpa using h1
    have h4 := Nat.lt_of_lt_of_le h2 (Nat.pow_le_pow_right (by omega) h3)
    rw [← hbk]
    unfold bN
    omega
  have Hkr := hid hkr
  have Htl := hid htl
  have Hs1 := hid (Nat.le_trans hsz1 htl)
  have Hs2 := hid (Nat.le_trans hsz2 (Nat.le_trans hsz1 htl))
  have hpar : parseT t = parseK k x2 := by unfold parseT; rw [hx2]; exact congrArg (fun q => parseK q x2) hbk
  unfold parseK at hpar
  rw [if_neg (by omega), if_neg (by omega), if_neg (by omega), if_pos hk] at hpar
  obtain ⟨⟨c0, y0⟩, hq0⟩ : ∃ q, takeR 2 x2 = q := ⟨_, rfl⟩
  rw [hq0] at hpar
  simp only at hpar
  have Hq0 := hid hq0
  have hz0 : y0.s.size ≤ x2.s.size := by have := take_size 2 x2; rw [hq0] at this; exact this
  have Hz0 := hid hz0
  have Hpar := hid hpar
  clear hO hop hs hx1 hx2 hx1b hx2b hbk hN hsz1 hsz2 htl hpar hk hq0 hz0
  go_enter Try.func26, Try.ntmps26
  go_wp2_with fail
  refine HO.out.mono ?_
  rintro e w1 ⟨rfl, hb1⟩
  have hk1 : Keeps (fun _ => False) (w.alloc (.cells #[.int .i64 0, .int .u32 0, .int .u16 0, .int .u16 0, .slice none 0 0, .int .u32 0, .int .i64 0] 49)) w1 := Keeps.of_below hb1 (fun k h1 h2 => by omega)
  have hW1 : Below w.heap.size w w1 := ((Below.refl _ w).alloc (Nat.le_refl _) _).trans (hb1.mono (by simp))
  have hl1 : w.heap.size + 1 ≤ w1.heap.size := by have := hb1.size; simpa using this
  have hres := hk1.heap (blk_new w (.cells #[.int .i64 0, .int .u32 0, .int .u16 0, .int .u16 0, .slice none 0 0, .int .u32 0, .int .i64 0] 49)) id
  clear hb1 hk1
  go_wp2_with fail
  have hr0 : IsRd (w1.alloc (.cells #[.string ⟨t.toArray⟩, .bool false] 95)) w1.heap.size ⟨⟨t.toArray⟩, false⟩ := blk_new _ _
  have hg := get_16 hr0 1 (by omega) (by show (⟨t.toArray⟩ : ByteArray).size ≤ maxLen; have := Htl.out; simp [ByteArray.size, maxLen]; omega)
  rw [HX1.out] at hg
  refine hg.mono ?_
  rintro e w2 ⟨rfl, h2, hk2⟩
  have h2' : IsRd w2 w1.heap.size x1 := h2
  have hres2 := hk2.heap (blk_alloc hres _) (by omega)
  have hW2 := (hW1.alloc hW1.size _).trans (hk2.below (B := w.heap.size) (by simp; omega) (fun k h1 h2 => by omega))
  have f1 := blk_free h2' 1
  have cr1 : w2.cell? ⟨w1.heap.size, 1, none⟩ = some (.bool x1.bad) := blk_cell h2' rfl
  clear hg h2 hk2 hr0 hres hW1
  have h3 := h2'.setBad (bN b1 != 80)
  have hk3 : Keeps (fun b => b = w1.heap.size) w2 (w2.setCell ⟨w1.heap.size, 1, none⟩ (.bool (bN b1 != 80))) := (Keeps.refl (fun b => b = w1.heap.size) w2).setCell (p := ⟨w1.heap.size, 1, none⟩) rfl _
  have hres3 := hk3.heap hres2 (by omega)
  have hW3 := hW2.trans (hk3.below hW2.size (fun k h1 h2 => by omega))
  have hg := get_16 h3 1 (by omega) (by have := Hs1.out; show x1.s.size ≤ maxLen; unfold maxLen; omega)
  rw [HX2.out] at hg
  have Hg := hid hg
  clear hg h2' hres2 hW2 hk3 h3
  rw [show ((beN (b1, x1).1.data.toList : Nat) : Int) = bN b1 from rfl]
  go_wp2_with fail
  refine Hg.out.mono ?_
  rintro e w4 ⟨rfl, h4, hk4⟩
  have h4' : IsRd w4 w1.heap.size x2 := h4
  have hres4 := hk4.heap hres3 (by omega)
  have hW4 := hW3.trans (hk4.below hW3.size (fun k h1 h2 => by omega))
  have l4 := blk_lt h4'
  clear Hg h4 hk4 hres3 hW3 f1 cr1
  rw [show ((beN (b2, x2).1.data.toList : Nat) : Int) = k from Hbk.out]
  have hkr := Hkr.out
  have U : UnpSt w w1.heap.size w4.heap.size x2 #[.int .i64 k, .int .u32 0, .int .u16 0, .int .u16 0, .slice none 0 0, .int .u32 0, .int .i64 0] (w4.alloc (.cells #[.int .i64 k, .int .u32 0, .int .u16 0, .int .u16 0, .slice none 0 0, .int .u32 0, .int .i64 0] 49)) :=
    ⟨h4'.keeps ((Keeps.refl (fun _ => False) w4).alloc _) id, blk_new _ _, blk_alloc hres4 _, hW4.alloc hW4.size _, by omega, l4, Hs2.out⟩
  clear h4' hres4 hW4
  go_wp2_with fail
  refine (wire_names k _).mono ?_
  rintro e w5 ⟨rfl, rfl⟩
  rw [HN.out]
  have hg := get_16 U.rd 2 (by omega) U.max
  rw [Hq0.out] at hg
  have Hg := hid hg
  clear hg
  go_wp2_with fail
  refine Hg.out.mono ?_
  rintro e w6 ⟨rfl, hr6, hk6⟩
  have V := U.get hk6 hr6 Hz0.out
  clear U Hg hr6 hk6
  rw [show ((beN (c0, y0).1.data.toList : Nat) : Int) = bN c0 from rfl]
  have fj := blk_free V.msg 3
  have cj := blk_cell V.msg (k := 3) rfl
  have U := V.set 3 (.int .u16 (bN c0))
  simp only [List.setIfInBounds_toArray, List.set_cons_succ, List.set_cons_zero] at U
  have hRt := fun W (hb : IsBytes W none 0 ([] : List UInt8)) => wire_RightM (w := W) (m := ⟨k, 0, 0, (bN c0), [], 0, 0⟩) hb
  have HRt := hid hRt
  have cb := blk_cell U.rd (k := 1) rfl
  have cst := blk_cell U.rd (k := 0) rfl
  have m0 := blk_cell U.msg (k := 0) rfl
  have m1 := blk_cell U.msg (k := 1) rfl
  have m2 := blk_cell U.msg (k := 2) rfl
  have m3 := blk_cell U.msg (k := 3) rfl
  have m4 := blk_cell U.msg (k := 4) rfl
  have m5 := blk_cell U.msg (k := 5) rfl
  have m6 := blk_cell U.msg (k := 6) rfl
  have hres := U.res
  unfold zeroC at hres
  have hW := U.below
  have r0 := blk_cell hres (k := 0) rfl
  have r1 := blk_cell hres (k := 1) rfl
  have r2 := blk_cell hres (k := 2) rfl
  have r3 := blk_cell hres (k := 3) rfl
  have r4 := blk_cell hres (k := 4) rfl
  have r5 := blk_cell hres (k := 5) rfl
  have r6 := blk_cell hres (k := 6) rfl
  have g0 := blk_free hres 0
  have g1 := blk_free hres 1
  have g2 := blk_free hres 2
  have g3 := blk_free hres 3
  have g4 := blk_free hres 4
  have g5 := blk_free hres 5
  have g6 := blk_free hres 6
  clear hRt
  by_cases hb : y0.bad = true
  · have hu := hid (show unpT t = (Msg.zero, 4) from if_pos (by rw [Hpar.out]; exact .inl hb))
    rw [hb] at cb
    clear hb HRt
    go_wp2_with fail
    have hf := blk_store hres (.int .i64 0) (.int .u32 0) (.int .u16 0) (.int .u16 0) (.slice none 0 0) (.int .u32 0) (.int .i64 0)
    have d0 := blk_cell hf (k := 0) rfl
    have d1 := blk_cell hf (k := 1) rfl
    have d2 := blk_cell hf (k := 2) rfl
    have d3 := blk_cell hf (k := 3) rfl
    have d4 := blk_cell hf (k := 4) rfl
    have d5 := blk_cell hf (k := 5) rfl
    have d6 := blk_cell hf (k := 6) rfl
    have hbl := ((((((hW.setCell (p := ⟨w.heap.size, 0, none⟩) (Nat.le_refl _) (.int .i64 0)).setCell (p := ⟨w.heap.size, 1, none⟩) (Nat.le_refl _) (.int .u32 0)).setCell (p := ⟨w.heap.size, 2, none⟩) (Nat.le_refl _) (.int .u16 0)).setCell (p := ⟨w.heap.size, 3, none⟩) (Nat.le_refl _) (.int .u16 0)).setCell (p := ⟨w.heap.size, 4, none⟩) (Nat.le_refl _) (.slice none 0 0)).setCell (p := ⟨w.heap.size, 5, none⟩) (Nat.le_refl _) (.int .u32 0)).setCell (p := ⟨w.heap.size, 6, none⟩) (Nat.le_refl _) (.int .i64 0)
    refine bodyPost_ret (v := .tuple #[.agg #[.int .i64 0, .int .u32 0, .int .u16 0, .int .u16 0, .slice none 0 0, .int .u32 0, .int .i64 0], .int .i64 4]) (by simp [results, Try.results26, go_sem, d0, d1, d2, d3, d4, d5, d6]) rfl ?_
    rw [hu.out]
    exact ⟨none, 0, rfl, IsBytes.none _, hbl, fun _ h => by cases h⟩
  have hb' : y0.bad = false := by simpa using hb
  rw [hb'] at cb
  by_cases he : y0.s.toList = []
  rotate_left
  · have hu := hid (show unpT t = (Msg.zero, 4) from if_pos (by rw [Hpar.out]; exact .inr (.inl he)))
    have q1 : y0.s.toList.isEmpty = false := by simpa using he
    clear hb hb' HRt
    go_wp2_with fail
    have hf := blk_store hres (.int .i64 0) (.int .u32 0) (.int .u16 0) (.int .u16 0) (.slice none 0 0) (.int .u32 0) (.int .i64 0)
    have d0 := blk_cell hf (k := 0) rfl
    have d1 := blk_cell hf (k := 1) rfl
    have d2 := blk_cell hf (k := 2) rfl
    have d3 := blk_cell hf (k := 3) rfl
    have d4 := blk_cell hf (k := 4) rfl
    have d5 := blk_cell hf (k := 5) rfl
    have d6 := blk_cell hf (k := 6) rfl
    have hbl := ((((((hW.setCell (p := ⟨w.heap.size, 0, none⟩) (Nat.le_refl _) (.int .i64 0)).setCell (p := ⟨w.heap.size, 1, none⟩) (Nat.le_refl _) (.int .u32 0)).setCell (p := ⟨w.heap.size, 2, none⟩) (Nat.le_refl _) (.int .u16 0)).setCell (p := ⟨w.heap.size, 3, none⟩) (Nat.le_refl _) (.int .u16 0)).setCell (p := ⟨w.heap.size, 4, none⟩) (Nat.le_refl _) (.slice none 0 0)).setCell (p := ⟨w.heap.size, 5, none⟩) (Nat.le_refl _) (.int .u32 0)).setCell (p := ⟨w.heap.size, 6, none⟩) (Nat.le_refl _) (.int .i64 0)
    refine bodyPost_ret (v := .tuple #[.agg #[.int .i64 0, .int .u32 0, .int .u16 0, .int .u16 0, .slice none 0 0, .int .u32 0, .int .i64 0], .int .i64 4]) (by simp [results, Try.results26, go_sem, d0, d1, d2, d3, d4, d5, d6]) rfl ?_
    rw [hu.out]
    exact ⟨none, 0, rfl, IsBytes.none _, hbl, fun _ h => by cases h⟩
  have q1 : y0.s.toList.isEmpty = true := by simpa using he
  by_cases hr : RightP ⟨k, 0, 0, (bN c0), [], 0, 0⟩
  rotate_left
  · have hu := hid (show unpT t = (Msg.zero, 4) from if_pos (by rw [Hpar.out]; exact .inr (.inr hr)))
    rw [decide_eq_false hr] at HRt
    clear hb hb' hr he
    go_wp2_with fail
    refine (HRt.out _ (IsBytes.none _)).mono ?_
    rintro e w9 ⟨rfl, hb9⟩
    have hk9 : Keeps (fun _ => False) _ w9 := Keeps.of_below hb9 (fun k h1 h2 => by omega)
    have hres9 := hk9.heap hres id
    have hmsg9 := hk9.heap U.msg id
    have hW9 := hW.trans (hb9.mono hW.size)
    have s0 := blk_cell hres9 (k := 0) rfl
    have t0 := blk_free hres9 0
    have n0 := blk_cell hmsg9 (k := 0) rfl
    have s1 := blk_cell hres9 (k := 1) rfl
    have t1 := blk_free hres9 1
    have n1 := blk_cell hmsg9 (k := 1) rfl
    have s2 := blk_cell hres9 (k := 2) rfl
    have t2 := blk_free hres9 2
    have n2 := blk_cell hmsg9 (k := 2) rfl
    have s3 := blk_cell hres9 (k := 3) rfl
    have t3 := blk_free hres9 3
    have n3 := blk_cell hmsg9 (k := 3) rfl
    have s4 := blk_cell hres9 (k := 4) rfl
    have t4 := blk_free hres9 4
    have n4 := blk_cell hmsg9 (k := 4) rfl
    have s5 := blk_cell hres9 (k := 5) rfl
    have t5 := blk_free hres9 5
    have n5 := blk_cell hmsg9 (k := 5) rfl
    have s6 := blk_cell hres9 (k := 6) rfl
    have t6 := blk_free hres9 6
    have n6 := blk_cell hmsg9 (k := 6) rfl
    clear hb9 hk9 hmsg9
    go_wp2_with fail
    have hf := blk_store hres9 (.int .i64 0) (.int .u32 0) (.int .u16 0) (.int .u16 0) (.slice none 0 0) (.int .u32 0) (.int .i64 0)
    have d0 := blk_cell hf (k := 0) rfl
    have d1 := blk_cell hf (k := 1) rfl
    have d2 := blk_cell hf (k := 2) rfl
    have d3 := blk_cell hf (k := 3) rfl
    have d4 := blk_cell hf (k := 4) rfl
    have d5 := blk_cell hf (k := 5) rfl
    have d6 := blk_cell hf (k := 6) rfl
    have hbl := ((((((hW9.setCell (p := ⟨w.heap.size, 0, none⟩) (Nat.le_refl _) (.int .i64 0)).setCell (p := ⟨w.heap.size, 1, none⟩) (Nat.le_refl _) (.int .u32 0)).setCell (p := ⟨w.heap.size, 2, none⟩) (Nat.le_refl _) (.int .u16 0)).setCell (p := ⟨w.heap.size, 3, none⟩) (Nat.le_refl _) (.int .u16 0)).setCell (p := ⟨w.heap.size, 4, none⟩) (Nat.le_refl _) (.slice none 0 0)).setCell (p := ⟨w.heap.size, 5, none⟩) (Nat.le_refl _) (.int .u32 0)).setCell (p := ⟨w.heap.size, 6, none⟩) (Nat.le_refl _) (.int .i64 0)
    refine bodyPost_ret (v := .tuple #[.agg #[.int .i64 0, .int .u32 0, .int .u16 0, .int .u16 0, .slice none 0 0, .int .u32 0, .int .i64 0], .int .i64 4]) (by simp [results, Try.results26, go_sem, d0, d1, d2, d3, d4, d5, d6]) rfl ?_
    rw [hu.out]
    exact ⟨none, 0, rfl, IsBytes.none _, hbl, fun _ h => by cases h⟩
  · have hu := hid (show unpT t = (⟨k, 0, 0, (bN c0), [], 0, 0⟩, 0) from by unfold unpT; rw [Hpar.out, if_neg]; rintro (h | h | h); exact hb h; exact h he; exact h hr)
    rw [decide_eq_true hr] at HRt
    clear hb hb' hr he
    go_wp2_with fail
    refine (HRt.out _ (IsBytes.none _)).mono ?_
    rintro e w9 ⟨rfl, hb9⟩
    have hk9 : Keeps (fun _ => False) _ w9 := Keeps.of_below hb9 (fun k h1 h2 => by omega)
    have hres9 := hk9.heap hres id
    have hmsg9 := hk9.heap U.msg id
    have hW9 := hW.trans (hb9.mono hW.size)
    have s0 := blk_cell hres9 (k := 0) rfl
    have t0 := blk_free hres9 0
    have n0 := blk_cell hmsg9 (k := 0) rfl
    have s1 := blk_cell hres9 (k := 1) rfl
    have t1 := blk_free hres9 1
    have n1 := blk_cell hmsg9 (k := 1) rfl
    have s2 := blk_cell hres9 (k := 2) rfl
    have t2 := blk_free hres9 2
    have n2 := blk_cell hmsg9 (k := 2) rfl
    have s3 := blk_cell hres9 (k := 3) rfl
    have t3 := blk_free hres9 3
    have n3 := blk_cell hmsg9 (k := 3) rfl
    have s4 := blk_cell hres9 (k := 4) rfl
    have t4 := blk_free hres9 4
    have n4 := blk_cell hmsg9 (k := 4) rfl
    have s5 := blk_cell hres9 (k := 5) rfl
    have t5 := blk_free hres9 5
    have n5 := blk_cell hmsg9 (k := 5) rfl
    have s6 := blk_cell hres9 (k := 6) rfl
    have t6 := blk_free hres9 6
    have n6 := blk_cell hmsg9 (k := 6) rfl
    clear hb9 hk9 hmsg9
    go_wp2_with fail
    have hf := blk_store hres9 (.int .i64 k) (.int .u32 0) (.int .u16 0) (.int .u16 (bN c0)) (.slice none 0 0) (.int .u32 0) (.int .i64 0)
    have d0 := blk_cell hf (k := 0) rfl
    have d1 := blk_cell hf (k := 1) rfl
    have d2 := blk_cell hf (k := 2) rfl
    have d3 := blk_cell hf (k := 3) rfl
    have d4 := blk_cell hf (k := 4) rfl
    have d5 := blk_cell hf (k := 5) rfl
    have d6 := blk_cell hf (k := 6) rfl
    have hbl := ((((((hW9.setCell (p := ⟨w.heap.size, 0, none⟩) (Nat.le_refl _) (.int .i64 k)).setCell (p := ⟨w.heap.size, 1, none⟩) (Nat.le_refl _) (.int .u32 0)).setCell (p := ⟨w.heap.size, 2, none⟩) (Nat.le_refl _) (.int .u16 0)).setCell (p := ⟨w.heap.size, 3, none⟩) (Nat.le_refl _) (.int .u16 (bN c0))).setCell (p := ⟨w.heap.size, 4, none⟩) (Nat.le_refl _) (.slice none 0 0)).setCell (p := ⟨w.heap.size, 5, none⟩) (Nat.le_refl _) (.int .u32 0)).setCell (p := ⟨w.heap.size, 6, none⟩) (Nat.le_refl _) (.int .i64 0)
    refine bodyPost_ret (v := .tuple #[.agg #[.int .i64 k, .int .u32 0, .int .u16 0, .int .u16 (bN c0), .slice none 0 0, .int .u32 0, .int .i64 0], .int .i64 0]) (by simp [results, Try.results26, go_sem, d0, d1, d2, d3, d4, d5, d6]) rfl ?_
    rw [hu.out]
    exact ⟨none, 0, rfl, IsBytes.none _, hbl, fun _ h => by cases h⟩
set_option maxHeartbeats 4000000 in
theorem unp_6 (s : ByteArray) (t : List UInt8) (k : Int) (x1 x2 : Rd) (b1 b2 : ByteArray) (hs : s.size ≤ maxLen) (hop : opened s.data.toList = (t, 0)) (htl : t.length ≤ 100000) (hx1 : firstR t = (b1, x1)) (hx2 : kindR t = (b2, x2)) (hbk : bN b2 = k) (hk : k = 6) :
    Calls Try.prog 26 #[.string s] w (UnpN w (unpT t).1 (unpT t).2) := by
  have hO := sum_Open s hs (w.alloc (.cells #[.int .i64 0, .int .u32 0, .int .u16 0, .int .u16 0, .slice none 0 0, .int .u32 0, .int .i64 0] 49))
  rw [hop] at hO
  have HO := hid hO
  have hx1b : takeR 1 ⟨⟨t.toArray⟩, false⟩ = (b1, x1) := hx1
  have hx2b : takeR 1 ⟨x1.s, bN b1 != 80⟩ = (b2, x2) := by have := hx2; unfold kindR at this; rwa [hx1] at this
  have HX1 := hid hx1b
  have HX2 := hid hx2b
  have Hbk := hid hbk
  have hN : namesK k = 34 := by simp [namesK, hk]
  have HN := hid hN
  have hsz1 : x1.s.size ≤ t.length := by have := take_size 1 ⟨⟨t.toArray⟩, false⟩; rw [hx1b] at this; exact Nat.le_trans this (by show t.toArray.size ≤ t.length; simp)
  have hsz2 : x2.s.size ≤ x1.s.size := by have := take_size 1 ⟨x1.s, bN b1 != 80⟩; rw [hx2b] at this; exact this
  have hkr : 0 ≤ k ∧ k < 65536 := by
    have h1 := take_len 1 ⟨x1.s, bN b1 != 80⟩
    rw [hx2b] at h1
    have h2 := beN_lt _ b2.data.toList rfl
    have h3 : b2.data.toList.length ≤ 1 := by simpa using h1
    have h4 := Nat.lt_of_lt_of_le h2 (Nat.pow_le_pow_right (by omega) h3)
    rw [← hbk]
    unfold bN
    omega
  have Hkr := hid hkr
  have Htl := hid htl
  have Hs1 := hid (Nat.le_trans hsz1 htl)
  have Hs2 := hid (Nat.le_trans hsz2 (Nat.le_trans hsz1 htl))
  have hpar : parseT t = parseK k x2 := by unfold parseT; rw [hx2]; exact congrArg (fun q => parseK q x2) hbk
  unfold parseK at hpar
  rw [if_neg (by omega), if_neg (by omega), if_neg (by omega), if_neg (by omega), if_pos hk] at hpar
  obtain ⟨⟨c0, y0⟩, hq0⟩ : ∃ q, takeR 2 x2 = q := ⟨_, rfl⟩
  rw [hq0] at hpar
  simp only at hpar
  have Hq0 := hid hq0
  have hz0 : y0.s.size ≤ x2.s.size := by have := take_size 2 x2; rw [hq0] at this; exact this
  have Hz0 := hid hz0
  obtain ⟨⟨c1, y1⟩, hq1⟩ : ∃ q, rdsR y0 = q := ⟨_, rfl⟩
  rw [hq1] at hpar
  simp only at hpar
  have Hq1 := hid hq1
  have hz1 : y1.s.size ≤ y0.s.size := by have := rds_size y0; rw [hq1] at this; exact this
  have Hz1 := hid hz1
  have Hpar := hid hpar
  clear hO hop hs hx1 hx2 hx1b hx2b hbk hN hsz1 hsz2 htl hpar hk hq0 hz0 hq1 hz1
  go_enter Try.func26, Try.ntmps26
  go_wp2_with fail
  refine HO.out.mono ?_
  rintro e w1 ⟨rfl, hb1⟩
  have hk1 : Keeps (fun _ => False) (w.alloc (.cells #[.int .i64 0, .int .u32 0, .int .u16 0, .int .u16 0, .slice none 0 0, .int .u32 0, .int .i64 0] 49)) w1 := Keeps.of_below hb1 (fun k h1 h2 => by omega)
  have hW1 : Below w.heap.size w w1 := ((Below.refl _ w).alloc (Nat.le_refl _) _).trans (hb1.mono (by simp))
  have hl1 : w.heap.size + 1 ≤ w1.heap.size := by have := hb1.size; simpa using this
  have hres := hk1.heap (blk_new w (.cells #[.int .i64 0, .int .u32 0, .int .u16 0, .int .u16 0, .slice none 0 0, .int .u32 0, .int .i64 0] 49)) id
  clear hb1 hk1
  go_wp2_with fail
  have hr0 : IsRd (w1.alloc (.cells #[.string ⟨t.toArray⟩, .bool false] 95)) w1.heap.size ⟨⟨t.toArray⟩, false⟩ := blk_new _ _
  have hg := get_16 hr0 1 (by omega) (by show (⟨t.toArray⟩ : ByteArray).size ≤ maxLen; have := Htl.out; simp [ByteArray.size, maxLen]; omega)
  rw [HX1.out] at hg
  refine hg.mono ?_
  rintro e w2 ⟨rfl, h2, hk2⟩
  have h2' : IsRd w2 w1.heap.size x1 := h2
  have hres2 := hk2.heap (blk_alloc hres _) (by omega)
  have hW2 := (hW1.alloc hW1.size _).trans (hk2.below (B := w.heap.size) (by simp; omega) (fun k h1 h2 => by omega))
  have f1 := blk_free h2' 1
  have cr1 : w2.cell? ⟨w1.heap.size, 1, none⟩ = some (.bool x1.bad) := blk_cell h2' rfl
  clear hg h2 hk2 hr0 hres hW1
  have h3 := h2'.setBad (bN b1 != 80)
  have hk3 : Keeps (fun b => b = w1.heap.size) w2 (w2.setCell ⟨w1.heap.size, 1, none⟩ (.bool (bN b1 != 80))) := (Keeps.refl (fun b => b = w1.heap.size) w2).setCell (p := ⟨w1.heap.size, 1, none⟩) rfl _
  have hres3 := hk3.heap hres2 (by omega)
  have hW3 := hW2.trans (hk3.below hW2.size (fun k h1 h2 => by omega))
  have hg := get_16 h3 1 (by omega) (by have := Hs1.out; show x1.s.size ≤ maxLen; unfold maxLen; omega)
  rw [HX2.out] at hg
  have Hg := hid hg
  clear hg h2' hres2 hW2 hk3 h3
  rw [show ((beN (b1, x1).1.data.toList : Nat) : Int) = bN b1 from rfl]
  go_wp2_with fail
  refine Hg.out.mono ?_
  rintro e w4 ⟨rfl, h4, hk4⟩
  have h4' : IsRd w4 w1.heap.size x2 := h4
  have hres4 := hk4.heap hres3 (by omega)
  have hW4 := hW3.trans (hk4.below hW3.size (fun k h1 h2 => by omega))
  have l4 := blk_lt h4'
  clear Hg h4 hk4 hres3 hW3 f1 cr1
  rw [show ((beN (b2, x2).1.data.toList : Nat) : Int) = k from Hbk.out]
  have hkr := Hkr.out
  have U : UnpSt w w1.heap.size w4.heap.size x2 #[.int .i64 k, .int .u32 0, .int .u16 0, .int .u16 0, .slice none 0 0, .int .u32 0, .int .i64 0] (w4.alloc (.cells #[.int .i64 k, .int .u32 0, .int .u16 0, .int .u16 0, .slice none 0 0, .int .u32 0, .int .i64 0] 49)) :=
    ⟨h4'.keeps ((Keeps.refl (fun _ => False) w4).alloc _) id, blk_new _ _, blk_alloc hres4 _, hW4.alloc hW4.size _, by omega, l4, Hs2.out⟩
  clear h4' hres4 hW4
  go_wp2_with fail
  refine (wire_names k _).mono ?_
  rintro e w5 ⟨rfl, rfl⟩
  rw [HN.out]
  have hg := get_16 U.rd 2 (by omega) U.max
  rw [Hq0.out] at hg
  have Hg := hid hg
  clear hg
  go_wp2_with fail
  refine Hg.out.mono ?_
  rintro e w6 ⟨rfl, hr6, hk6⟩
  have V := U.get hk6 hr6 Hz0.out
  clear U Hg hr6 hk6
  rw [show ((beN (c0, y0).1.data.toList : Nat) : Int) = bN c0 from rfl]
  have fj := blk_free V.msg 2
  have cj := blk_cell V.msg (k := 2) rfl
  have U := V.set 2 (.int .u16 (bN c0))
  simp only [List.setIfInBounds_toArray, List.set_cons_succ, List.set_cons_zero] at U
  have hg := read_int U.rd U.max
  rw [Hq1.out] at hg
  have Hg := hid hg
  clear hg
  go_wp2_with fail
  refine Hg.out.mono ?_
  rintro e w7 ⟨rfl, hr7, hk7⟩
  have V := U.get hk7 hr7 Hz1.out
  clear U Hg hr7 hk7
  have fj := blk_free V.msg 6
  have cj := blk_cell V.msg (k := 6) rfl
  have U := V.set 6 (.int .i64 c1)
  simp only [List.setIfInBounds_toArray, List.set_cons_succ, List.set_cons_zero] at U
  have hRt := fun W (hb : IsBytes W none 0 ([] : List UInt8)) => wire_RightM (w := W) (m := ⟨k, 0, (bN c0), 0, [], 0, c1⟩) hb
  have HRt := hid hRt
  have cb := blk_cell U.rd (k := 1) rfl
  have cst := blk_cell U.rd (k := 0) rfl
  have m0 := blk_cell U.msg (k := 0) rfl
  have m1 := blk_cell U.msg (k := 1) rfl
  have m2 := blk_cell U.msg (k := 2) rfl
  have m3 := blk_cell U.msg (k := 3) rfl
  have m4 := blk_cell U.msg (k := 4) rfl
  have m5 := blk_cell U.msg (k := 5) rfl
  have m6 := blk_cell U.msg (k := 6) rfl
  have hres := U.res
  unfold zeroC at hres
  have hW := U.below
  have r0 := blk_cell hres (k := 0) rfl
  have r1 := blk_cell hres (k := 1) rfl
  have r2 := blk_cell hres (k := 2) rfl
  have r3 := blk_cell hres (k := 3) rfl
  have r4 := blk_cell hres (k := 4) rfl
  have r5 := blk_cell hres (k := 5) rfl
  have r6 := blk_cell hres (k := 6) rfl
  have g0 := blk_free hres 0
  have g1 := blk_free hres 1
  have g2 := blk_free hres 2
  have g3 := blk_free hres 3
  have g4 := blk_free hres 4
  have g5 := blk_free hres 5
  have g6 := blk_free hres 6
  clear hRt
  by_cases hb : y1.bad = true
  · have hu := hid (show unpT t = (Msg.zero, 4) from if_pos (by rw [Hpar.out]; exact .inl hb))
    rw [hb] at cb
    clear hb HRt
    go_wp2_with fail
    have hf := blk_store hres (.int .i64 0) (.int .u32 0) (.int .u16 0) (.int .u16 0) (.slice none 0 0) (.int .u32 0) (.int .i64 0)
    have d0 := blk_cell hf (k := 0) rfl
    have d1 := blk_cell hf (k := 1) rfl
    have d2 := blk_cell hf (k := 2) rfl
    have d3 := blk_cell hf (k := 3) rfl
    have d4 := blk_cell hf (k := 4) rfl
    have d5 := blk_cell hf (k := 5) rfl
    have d6 := blk_cell hf (k := 6) rfl
    have hbl := ((((((hW.setCell (p := ⟨w.heap.size, 0, none⟩) (Nat.le_refl _) (.int .i64 0)).setCell (p := ⟨w.heap.size, 1, none⟩) (Nat.le_refl _) (.int .u32 0)).setCell (p := ⟨w.heap.size, 2, none⟩) (Nat.le_refl _) (.int .u16 0)).setCell (p := ⟨w.heap.size, 3, none⟩) (Nat.le_refl _) (.int .u16 0)).setCell (p := ⟨w.heap.size, 4, none⟩) (Nat.le_refl _) (.slice none 0 0)).setCell (p := ⟨w.heap.size, 5, none⟩) (Nat.le_refl _) (.int .u32 0)).setCell (p := ⟨w.heap.size, 6, none⟩) (Nat.le_refl _) (.int .i64 0)
    refine bodyPost_ret (v := .tuple #[.agg #[.int .i64 0, .int .u32 0, .int .u16 0, .int .u16 0, .slice none 0 0, .int .u32 0, .int .i64 0], .int .i64 4]) (by simp [results, Try.results26, go_sem, d0, d1, d2, d3, d4, d5, d6]) rfl ?_
    rw [hu.out]
    exact ⟨none, 0, rfl, IsBytes.none _, hbl, fun _ h => by cases h⟩
  have hb' : y1.bad = false := by simpa using hb
  rw [hb'] at cb
  by_cases he : y1.s.toList = []
  rotate_left
  · have hu := hid (show unpT t = (Msg.zero, 4) from if_pos (by rw [Hpar.out]; exact .inr (.inl he)))
    have q1 : y1.s.toList.isEmpty = false := by simpa using he
    clear hb hb' HRt
    go_wp2_with fail
    have hf := blk_store hres (.int .i64 0) (.int .u32 0) (.int .u16 0) (.int .u16 0) (.slice none 0 0) (.int .u32 0) (.int .i64 0)
    have d0 := blk_cell hf (k := 0) rfl
    have d1 := blk_cell hf (k := 1) rfl
    have d2 := blk_cell hf (k := 2) rfl
    have d3 := blk_cell hf (k := 3) rfl
    have d4 := blk_cell hf (k := 4) rfl
    have d5 := blk_cell hf (k := 5) rfl
    have d6 := blk_cell hf (k := 6) rfl
    have hbl := ((((((hW.setCell (p := ⟨w.heap.size, 0, none⟩) (Nat.le_refl _) (.int .i64 0)).setCell (p := ⟨w.heap.size, 1, none⟩) (Nat.le_refl _) (.int .u32 0)).setCell (p := ⟨w.heap.size, 2, none⟩) (Nat.le_refl _) (.int .u16 0)).setCell (p := ⟨w.heap.size, 3, none⟩) (Nat.le_refl _) (.int .u16 0)).setCell (p := ⟨w.heap.size, 4, none⟩) (Nat.le_refl _) (.slice none 0 0)).setCell (p := ⟨w.heap.size, 5, none⟩) (Nat.le_refl _) (.int .u32 0)).setCell (p := ⟨w.heap.size, 6, none⟩) (Nat.le_refl _) (.int .i64 0)
    refine bodyPost_ret (v := .tuple #[.agg #[.int .i64 0, .int .u32 0, .int .u16 0, .int .u16 0, .slice none 0 0, .int .u32 0, .int .i64 0], .int .i64 4]) (by simp [results, Try.results26, go_sem, d0, d1, d2, d3, d4, d5, d6]) rfl ?_
    rw [hu.out]
    exact ⟨none, 0, rfl, IsBytes.none _, hbl, fun _ h => by cases h⟩
  have q1 : y1.s.toList.isEmpty = true := by simpa using he
  by_cases hr : RightP ⟨k, 0, (bN c0), 0, [], 0, c1⟩
  rotate_left
  · have hu := hid (show unpT t = (Msg.zero, 4) from if_pos (by rw [Hpar.out]; exact .inr (.inr hr)))
    rw [decide_eq_false hr] at HRt
    clear hb hb' hr he
    go_wp2_with fail
    refine (HRt.out _ (IsBytes.none _)).mono ?_
    rintro e w9 ⟨rfl, hb9⟩
    have hk9 : Keeps (fun _ => False) _ w9 := Keeps.of_below hb9 (fun k h1 h2 => by omega)
    have hres9 := hk9.heap hres id
    have hmsg9 := hk9.heap U.msg id
    have hW9 := hW.trans (hb9.mono hW.size)
    have s0 := blk_cell hres9 (k := 0) rfl
    have t0 := blk_free hres9 0
    have n0 := blk_cell hmsg9 (k := 0) rfl
    have s1 := blk_cell hres9 (k := 1) rfl
    have t1 := blk_free hres9 1
    have n1 := blk_cell hmsg9 (k := 1) rfl
    have s2 := blk_cell hres9 (k := 2) rfl
    have t2 := blk_free hres9 2
    have n2 := blk_cell hmsg9 (k := 2) rfl
    have s3 := blk_cell hres9 (k := 3) rfl
    have t3 := blk_free hres9 3
    have n3 := blk_cell hmsg9 (k := 3) rfl
    have s4 := blk_cell hres9 (k := 4) rfl
    have t4 := blk_free hres9 4
    have n4 := blk_cell hmsg9 (k := 4) rfl
    have s5 := blk_cell hres9 (k := 5) rfl
    have t5 := blk_free hres9 5
    have n5 := blk_cell hmsg9 (k := 5) rfl
    have s6 := blk_cell hres9 (k := 6) rfl
    have t6 := blk_free hres9 6
    have n6 := blk_cell hmsg9 (k := 6) rfl
    clear hb9 hk9 hmsg9
    go_wp2_with fail
    have hf := blk_store hres9 (.int .i64 0) (.int .u32 0) (.int .u16 0) (.int .u16 0) (.slice none 0 0) (.int .u32 0) (.int .i64 0)
    have d0 := blk_cell hf (k := 0) rfl
    have d1 := blk_cell hf (k := 1) rfl
    have d2 := blk_cell hf (k := 2) rfl
    have d3 := blk_cell hf (k := 3) rfl
    have d4 := blk_cell hf (k := 4) rfl
    have d5 := blk_cell hf (k := 5) rfl
    have d6 := blk_cell hf (k := 6) rfl
    have hbl := ((((((hW9.setCell (p := ⟨w.heap.size, 0, none⟩) (Nat.le_refl _) (.int .i64 0)).setCell (p := ⟨w.heap.size, 1, none⟩) (Nat.le_refl _) (.int .u32 0)).setCell (p := ⟨w.heap.size, 2, none⟩) (Nat.le_refl _) (.int .u16 0)).setCell (p := ⟨w.heap.size, 3, none⟩) (Nat.le_refl _) (.int .u16 0)).setCell (p := ⟨w.heap.size, 4, none⟩) (Nat.le_refl _) (.slice none 0 0)).setCell (p := ⟨w.heap.size, 5, none⟩) (Nat.le_refl _) (.int .u32 0)).setCell (p := ⟨w.heap.size, 6, none⟩) (Nat.le_refl _) (.int .i64 0)
    refine bodyPost_ret (v := .tuple #[.agg #[.int .i64 0, .int .u32 0, .int .u16 0, .int .u16 0, .slice none 0 0, .int .u32 0, .int .i64 0], .int .i64 4]) (by simp [results, Try.results26, go_sem, d0, d1, d2, d3, d4, d5, d6]) rfl ?_
    rw [hu.out]
    exact ⟨none, 0, rfl, IsBytes.none _, hbl, fun _ h => by cases h⟩
  · have hu := hid (show unpT t = (⟨k, 0, (bN c0), 0, [], 0, c1⟩, 0) from by unfold unpT; rw [Hpar.out, if_neg]; rintro (h | h | h); exact hb h; exact h he; exact h hr)
    rw [decide_eq_true hr] at HRt
    clear hb hb' hr he
    go_wp2_with fail
    refine (HRt.out _ (IsBytes.none _)).mono ?_
    rintro e w9 ⟨rfl, hb9⟩
    have hk9 : Keeps (fun _ => False) _ w9 := Keeps.of_below hb9 (fun k h1 h2 => by omega)
    have hres9 := hk9.heap hres id
    have hmsg9 := hk9.heap U.msg id
    have hW9 := hW.trans (hb9.mono hW.size)
    have s0 := blk_cell hres9 (k := 0) rfl
    have t0 := blk_free hres9 0
    have n0 := blk_cell hmsg9 (k := 0) rfl
    have s1 := blk_cell hres9 (k := 1) rfl
    have t1 := blk_free hres9 1
    have n1 := blk_cell hmsg9 (k := 1) rfl
    have s2 := blk_cell hres9 (k := 2) rfl
    have t2 := blk_free hres9 2
    have n2 := blk_cell hmsg9 (k := 2) rfl
    have s3 := blk_cell hres9 (k := 3) rfl
    have t3 := blk_free hres9 3
    have n3 := blk_cell hmsg9 (k := 3) rfl
    have s4 := blk_cell hres9 (k := 4) rfl
    have t4 := blk_free hres9 4
    have n4 := blk_cell hmsg9 (k := 4) rfl
    have s5 := blk_cell hres9 (k := 5) rfl
    have t5 := blk_free hres9 5
    have n5 := blk_cell hmsg9 (k := 5) rfl
    have s6 := blk_cell hres9 (k := 6) rfl
    have t6 := blk_free hres9 6
    have n6 := blk_cell hmsg9 (k := 6) rfl
    clear hb9 hk9 hmsg9
    go_wp2_with fail
    have hf := blk_store hres9 (.int .i64 k) (.int .u32 0) (.int .u16 (bN c0)) (.int .u16 0) (.slice none 0 0) (.int .u32 0) (.int .i64 c1)
    have d0 := blk_cell hf (k := 0) rfl
    have d1 := blk_cell hf (k := 1) rfl
    have d2 := blk_cell hf (k := 2) rfl
    have d3 := blk_cell hf (k := 3) rfl
    have d4 := blk_cell hf (k := 4) rfl
    have d5 := blk_cell hf (k := 5) rfl
    have d6 := blk_cell hf (k := 6) rfl
    have hbl := ((((((hW9.setCell (p := ⟨w.heap.size, 0, none⟩) (Nat.le_refl _) (.int .i64 k)).setCell (p := ⟨w.heap.size, 1, none⟩) (Nat.le_refl _) (.int .u32 0)).setCell (p := ⟨w.heap.size, 2, none⟩) (Nat.le_refl _) (.int .u16 (bN c0))).setCell (p := ⟨w.heap.size, 3, none⟩) (Nat.le_refl _) (.int .u16 0)).setCell (p := ⟨w.heap.size, 4, none⟩) (Nat.le_refl _) (.slice none 0 0)).setCell (p := ⟨w.heap.size, 5, none⟩) (Nat.le_refl _) (.int .u32 0)).setCell (p := ⟨w.heap.size, 6, none⟩) (Nat.le_refl _) (.int .i64 c1)
    refine bodyPost_ret (v := .tuple #[.agg #[.int .i64 k, .int .u32 0, .int .u16 (bN c0), .int .u16 0, .slice none 0 0, .int .u32 0, .int .i64 c1], .int .i64 0]) (by simp [results, Try.results26, go_sem, d0, d1, d2, d3, d4, d5, d6]) rfl ?_
    rw [hu.out]
    exact ⟨none, 0, rfl, IsBytes.none _, hbl, fun _ h => by cases h⟩
set_option maxHeartbeats 4000000 in
theorem unp_0 (s : ByteArray) (t : List UInt8) (k : Int) (x1 x2 : Rd) (b1 b2 : ByteArray) (hs : s.size ≤ maxLen) (hop : opened s.data.toList = (t, 0)) (htl : t.length ≤ 100000) (hx1 : firstR t = (b1, x1)) (hx2 : kindR t = (b2, x2)) (hbk : bN b2 = k) (hk : ¬ (k = 1 ∨ k = 2) ∧ k ≠ 3 ∧ k ≠ 4 ∧ k ≠ 5 ∧ k ≠ 6) :
    Calls Try.prog 26 #[.string s] w (UnpN w (unpT t).1 (unpT t).2) := by
  have hO := sum_Open s hs (w.alloc (.cells #[.int .i64 0, .int .u32 0, .int .u16 0, .int .u16 0, .slice none 0 0, .int .u32 0, .int .i64 0] 49))
  rw [hop] at hO
  have HO := hid hO
  have hx1b : takeR 1 ⟨⟨t.toArray⟩, false⟩ = (b1, x1) := hx1
  have hx2b : takeR 1 ⟨x1.s, bN b1 != 80⟩ = (b2, x2) := by have := hx2; unfold kindR at this; rwa [hx1] at this
  have HX1 := hid hx1b
  have HX2 := hid hx2b
  have Hbk := hid hbk
  have hN : namesK k = 0 := by obtain ⟨h1, h2, h3, h4, h5⟩ := hk; simp [namesK, h1, h2, h3, h4, h5]
  have HN := hid hN
  have hsz1 : x1.s.size ≤ t.length := by have := take_size 1 ⟨⟨t.toArray⟩, false⟩; rw [hx1b] at this; exact Nat.le_trans this (by show t.toArray.size ≤ t.length; simp)
  have hsz2 : x2.s.size ≤ x1.s.size := by have := take_size 1 ⟨x1.s, bN b1 != 80⟩; rw [hx2b] at this; exact this
  have hkr : 0 ≤ k ∧ k < 65536 := by
    have h1 := take_len 1 ⟨x1.s, bN b1 != 80⟩
    rw [hx2b] at h1
    have h2 := beN_lt _ b2.data.toList rfl
    have h3 : b2.data.toList.length ≤ 1 := by simpa using h1
    have h4 := Nat.lt_of_lt_of_le h2 (Nat.pow_le_pow_right (by omega) h3)
    rw [← hbk]
    unfold bN
    omega
  have Hkr := hid hkr
  have Htl := hid htl
  have Hs1 := hid (Nat.le_trans hsz1 htl)
  have Hs2 := hid (Nat.le_trans hsz2 (Nat.le_trans hsz1 htl))
  have hpar : parseT t = parseK k x2 := by unfold parseT; rw [hx2]; exact congrArg (fun q => parseK q x2) hbk
  unfold parseK at hpar
  rw [if_neg hk.1, if_neg hk.2.1, if_neg hk.2.2.1, if_neg hk.2.2.2.1, if_neg hk.2.2.2.2] at hpar
  have Hpar := hid hpar
  clear hO hop hs hx1 hx2 hx1b hx2b hbk hN hsz1 hsz2 htl hpar hk 
  go_enter Try.func26, Try.ntmps26
  go_wp2_with fail
  refine HO.out.mono ?_
  rintro e w1 ⟨rfl, hb1⟩
  have hk1 : Keeps (fun _ => False) (w.alloc (.cells #[.int .i64 0, .int .u32 0, .int .u16 0, .int .u16 0, .slice none 0 0, .int .u32 0, .int .i64 0] 49)) w1 := Keeps.of_below hb1 (fun k h1 h2 => by omega)
  have hW1 : Below w.heap.size w w1 := ((Below.refl _ w).alloc (Nat.le_refl _) _).trans (hb1.mono (by simp))
  have hl1 : w.heap.size + 1 ≤ w1.heap.size := by have := hb1.size; simpa using this
  have hres := hk1.heap (blk_new w (.cells #[.int .i64 0, .int .u32 0, .int .u16 0, .int .u16 0, .slice none 0 0, .int .u32 0, .int .i64 0] 49)) id
  clear hb1 hk1
  go_wp2_with fail
  have hr0 : IsRd (w1.alloc (.cells #[.string ⟨t.toArray⟩, .bool false] 95)) w1.heap.size ⟨⟨t.toArray⟩, false⟩ := blk_new _ _
  have hg := get_16 hr0 1 (by omega) (by show (⟨t.toArray⟩ : ByteArray).size ≤ maxLen; have := Htl.out; simp [ByteArray.size, maxLen]; omega)
  rw [HX1.out] at hg
  refine hg.mono ?_
  rintro e w2 ⟨rfl, h2, hk2⟩
  have h2' : IsRd w2 w1.heap.size x1 := h2
  have hres2 := hk2.heap (blk_alloc hres _) (by omega)
  have hW2 := (hW1.alloc hW1.size _).trans (hk2.below (B := w.heap.size) (by simp; omega) (fun k h1 h2 => by omega))
  have f1 := blk_free h2' 1
  have cr1 : w2.cell? ⟨w1.heap.size, 1, none⟩ = some (.bool x1.bad) := blk_cell h2' rfl
  clear hg h2 hk2 hr0 hres hW1
  have h3 := h2'.setBad (bN b1 != 80)
  have hk3 : Keeps (fun b => b = w1.heap.size) w2 (w2.setCell ⟨w1.heap.size, 1, none⟩ (.bool (bN b1 != 80))) := (Keeps.refl (fun b => b = w1.heap.size) w2).setCell (p := ⟨w1.heap.size, 1, none⟩) rfl _
  have hres3 := hk3.heap hres2 (by omega)
  have hW3 := hW2.trans (hk3.below hW2.size (fun k h1 h2 => by omega))
  have hg := get_16 h3 1 (by omega) (by have := Hs1.out; show x1.s.size ≤ maxLen; unfold maxLen; omega)
  rw [HX2.out] at hg
  have Hg := hid hg
  clear hg h2' hres2 hW2 hk3 h3
  rw [show ((beN (b1, x1).1.data.toList : Nat) : Int) = bN b1 from rfl]
  go_wp2_with fail
  refine Hg.out.mono ?_
  rintro e w4 ⟨rfl, h4, hk4⟩
  have h4' : IsRd w4 w1.heap.size x2 := h4
  have hres4 := hk4.heap hres3 (by omega)
  have hW4 := hW3.trans (hk4.below hW3.size (fun k h1 h2 => by omega))
  have l4 := blk_lt h4'
  clear Hg h4 hk4 hres3 hW3 f1 cr1
  rw [show ((beN (b2, x2).1.data.toList : Nat) : Int) = k from Hbk.out]
  have hkr := Hkr.out
  have U : UnpSt w w1.heap.size w4.heap.size x2 #[.int .i64 k, .int .u32 0, .int .u16 0, .int .u16 0, .slice none 0 0, .int .u32 0, .int .i64 0] (w4.alloc (.cells #[.int .i64 k, .int .u32 0, .int .u16 0, .int .u16 0, .slice none 0 0, .int .u32 0, .int .i64 0] 49)) :=
    ⟨h4'.keeps ((Keeps.refl (fun _ => False) w4).alloc _) id, blk_new _ _, blk_alloc hres4 _, hW4.alloc hW4.size _, by omega, l4, Hs2.out⟩
  clear h4' hres4 hW4
  go_wp2_with fail
  refine (wire_names k _).mono ?_
  rintro e w5 ⟨rfl, rfl⟩
  rw [HN.out]
  have hRt := fun W (hb : IsBytes W none 0 ([] : List UInt8)) => wire_RightM (w := W) (m := ⟨k, 0, 0, 0, [], 0, 0⟩) hb
  have HRt := hid hRt
  have cb := blk_cell U.rd (k := 1) rfl
  have cst := blk_cell U.rd (k := 0) rfl
  have m0 := blk_cell U.msg (k := 0) rfl
  have m1 := blk_cell U.msg (k := 1) rfl
  have m2 := blk_cell U.msg (k := 2) rfl
  have m3 := blk_cell U.msg (k := 3) rfl
  have m4 := blk_cell U.msg (k := 4) rfl
  have m5 := blk_cell U.msg (k := 5) rfl
  have m6 := blk_cell U.msg (k := 6) rfl
  have hres := U.res
  unfold zeroC at hres
  have hW := U.below
  have r0 := blk_cell hres (k := 0) rfl
  have r1 := blk_cell hres (k := 1) rfl
  have r2 := blk_cell hres (k := 2) rfl
  have r3 := blk_cell hres (k := 3) rfl
  have r4 := blk_cell hres (k := 4) rfl
  have r5 := blk_cell hres (k := 5) rfl
  have r6 := blk_cell hres (k := 6) rfl
  have g0 := blk_free hres 0
  have g1 := blk_free hres 1
  have g2 := blk_free hres 2
  have g3 := blk_free hres 3
  have g4 := blk_free hres 4
  have g5 := blk_free hres 5
  have g6 := blk_free hres 6
  clear hRt
  by_cases hb : x2.bad = true
  · have hu := hid (show unpT t = (Msg.zero, 4) from if_pos (by rw [Hpar.out]; exact .inl hb))
    rw [hb] at cb
    clear hb HRt
    go_wp2_with fail
    have hf := blk_store hres (.int .i64 0) (.int .u32 0) (.int .u16 0) (.int .u16 0) (.slice none 0 0) (.int .u32 0) (.int .i64 0)
    have d0 := blk_cell hf (k := 0) rfl
    have d1 := blk_cell hf (k := 1) rfl
    have d2 := blk_cell hf (k := 2) rfl
    have d3 := blk_cell hf (k := 3) rfl
    have d4 := blk_cell hf (k := 4) rfl
    have d5 := blk_cell hf (k := 5) rfl
    have d6 := blk_cell hf (k := 6) rfl
    have hbl := ((((((hW.setCell (p := ⟨w.heap.size, 0, none⟩) (Nat.le_refl _) (.int .i64 0)).setCell (p := ⟨w.heap.size, 1, none⟩) (Nat.le_refl _) (.int .u32 0)).setCell (p := ⟨w.heap.size, 2, none⟩) (Nat.le_refl _) (.int .u16 0)).setCell (p := ⟨w.heap.size, 3, none⟩) (Nat.le_refl _) (.int .u16 0)).setCell (p := ⟨w.heap.size, 4, none⟩) (Nat.le_refl _) (.slice none 0 0)).setCell (p := ⟨w.heap.size, 5, none⟩) (Nat.le_refl _) (.int .u32 0)).setCell (p := ⟨w.heap.size, 6, none⟩) (Nat.le_refl _) (.int .i64 0)
    refine bodyPost_ret (v := .tuple #[.agg #[.int .i64 0, .int .u32 0, .int .u16 0, .int .u16 0, .slice none 0 0, .int .u32 0, .int .i64 0], .int .i64 4]) (by simp [results, Try.results26, go_sem, d0, d1, d2, d3, d4, d5, d6]) rfl ?_
    rw [hu.out]
    exact ⟨none, 0, rfl, IsBytes.none _, hbl, fun _ h => by cases h⟩
  have hb' : x2.bad = false := by simpa using hb
  rw [hb'] at cb
  by_cases he : x2.s.toList = []
  rotate_left
  · have hu := hid (show unpT t = (Msg.zero, 4) from if_pos (by rw [Hpar.out]; exact .inr (.inl he)))
    have q1 : x2.s.toList.isEmpty = false := by simpa using he
    clear hb hb' HRt
    go_wp2_with fail
    have hf := blk_store hres (.int .i64 0) (.int .u32 0) (.int .u16 0) (.int .u16 0) (.slice none 0 0) (.int .u32 0) (.int .i64 0)
    have d0 := blk_cell hf (k := 0) rfl
    have d1 := blk_cell hf (k := 1) rfl
    have d2 := blk_cell hf (k := 2) rfl
    have d3 := blk_cell hf (k := 3) rfl
    have d4 := blk_cell hf (k := 4) rfl
    have d5 := blk_cell hf (k := 5) rfl
    have d6 := blk_cell hf (k := 6) rfl
    have hbl := ((((((hW.setCell (p := ⟨w.heap.size, 0, none⟩) (Nat.le_refl _) (.int .i64 0)).setCell (p := ⟨w.heap.size, 1, none⟩) (Nat.le_refl _) (.int .u32 0)).setCell (p := ⟨w.heap.size, 2, none⟩) (Nat.le_refl _) (.int .u16 0)).setCell (p := ⟨w.heap.size, 3, none⟩) (Nat.le_refl _) (.int .u16 0)).setCell (p := ⟨w.heap.size, 4, none⟩) (Nat.le_refl _) (.slice none 0 0)).setCell (p := ⟨w.heap.size, 5, none⟩) (Nat.le_refl _) (.int .u32 0)).setCell (p := ⟨w.heap.size, 6, none⟩) (Nat.le_refl _) (.int .i64 0)
    refine bodyPost_ret (v := .tuple #[.agg #[.int .i64 0, .int .u32 0, .int .u16 0, .int .u16 0, .slice none 0 0, .int .u32 0, .int .i64 0], .int .i64 4]) (by simp [results, Try.results26, go_sem, d0, d1, d2, d3, d4, d5, d6]) rfl ?_
    rw [hu.out]
    exact ⟨none, 0, rfl, IsBytes.none _, hbl, fun _ h => by cases h⟩
  have q1 : x2.s.toList.isEmpty = true := by simpa using he
  by_cases hr : RightP ⟨k, 0, 0, 0, [], 0, 0⟩
  rotate_left
  · have hu := hid (show unpT t = (Msg.zero, 4) from if_pos (by rw [Hpar.out]; exact .inr (.inr hr)))
    rw [decide_eq_false hr] at HRt
    clear hb hb' hr he
    go_wp2_with fail
    refine (HRt.out _ (IsBytes.none _)).mono ?_
    rintro e w9 ⟨rfl, hb9⟩
    have hk9 : Keeps (fun _ => False) _ w9 := Keeps.of_below hb9 (fun k h1 h2 => by omega)
    have hres9 := hk9.heap hres id
    have hmsg9 := hk9.heap U.msg id
    have hW9 := hW.trans (hb9.mono hW.size)
    have s0 := blk_cell hres9 (k := 0) rfl
    have t0 := blk_free hres9 0
    have n0 := blk_cell hmsg9 (k := 0) rfl
    have s1 := blk_cell hres9 (k := 1) rfl
    have t1 := blk_free hres9 1
    have n1 := blk_cell hmsg9 (k := 1) rfl
    have s2 := blk_cell hres9 (k := 2) rfl
    have t2 := blk_free hres9 2
    have n2 := blk_cell hmsg9 (k := 2) rfl
    have s3 := blk_cell hres9 (k := 3) rfl
    have t3 := blk_free hres9 3
    have n3 := blk_cell hmsg9 (k := 3) rfl
    have s4 := blk_cell hres9 (k := 4) rfl
    have t4 := blk_free hres9 4
    have n4 := blk_cell hmsg9 (k := 4) rfl
    have s5 := blk_cell hres9 (k := 5) rfl
    have t5 := blk_free hres9 5
    have n5 := blk_cell hmsg9 (k := 5) rfl
    have s6 := blk_cell hres9 (k := 6) rfl
    have t6 := blk_free hres9 6
    have n6 := blk_cell hmsg9 (k := 6) rfl
    clear hb9 hk9 hmsg9
    go_wp2_with fail
    have hf := blk_store hres9 (.int .i64 0) (.int .u32 0) (.int .u16 0) (.int .u16 0) (.slice none 0 0) (.int .u32 0) (.int .i64 0)
    have d0 := blk_cell hf (k := 0) rfl
    have d1 := blk_cell hf (k := 1) rfl
    have d2 := blk_cell hf (k := 2) rfl
    have d3 := blk_cell hf (k := 3) rfl
    have d4 := blk_cell hf (k := 4) rfl
    have d5 := blk_cell hf (k := 5) rfl
    have d6 := blk_cell hf (k := 6) rfl
    have hbl := ((((((hW9.setCell (p := ⟨w.heap.size, 0, none⟩) (Nat.le_refl _) (.int .i64 0)).setCell (p := ⟨w.heap.size, 1, none⟩) (Nat.le_refl _) (.int .u32 0)).setCell (p := ⟨w.heap.size, 2, none⟩) (Nat.le_refl _) (.int .u16 0)).setCell (p := ⟨w.heap.size, 3, none⟩) (Nat.le_refl _) (.int .u16 0)).setCell (p := ⟨w.heap.size, 4, none⟩) (Nat.le_refl _) (.slice none 0 0)).setCell (p := ⟨w.heap.size, 5, none⟩) (Nat.le_refl _) (.int .u32 0)).setCell (p := ⟨w.heap.size, 6, none⟩) (Nat.le_refl _) (.int .i64 0)
    refine bodyPost_ret (v := .tuple #[.agg #[.int .i64 0, .int .u32 0, .int .u16 0, .int .u16 0, .slice none 0 0, .int .u32 0, .int .i64 0], .int .i64 4]) (by simp [results, Try.results26, go_sem, d0, d1, d2, d3, d4, d5, d6]) rfl ?_
    rw [hu.out]
    exact ⟨none, 0, rfl, IsBytes.none _, hbl, fun _ h => by cases h⟩
  · have hu := hid (show unpT t = (⟨k, 0, 0, 0, [], 0, 0⟩, 0) from by unfold unpT; rw [Hpar.out, if_neg]; rintro (h | h | h); exact hb h; exact h he; exact h hr)
    rw [decide_eq_true hr] at HRt
    clear hb hb' hr he
    go_wp2_with fail
    refine (HRt.out _ (IsBytes.none _)).mono ?_
    rintro e w9 ⟨rfl, hb9⟩
    have hk9 : Keeps (fun _ => False) _ w9 := Keeps.of_below hb9 (fun k h1 h2 => by omega)
    have hres9 := hk9.heap hres id
    have hmsg9 := hk9.heap U.msg id
    have hW9 := hW.trans (hb9.mono hW.size)
    have s0 := blk_cell hres9 (k := 0) rfl
    have t0 := blk_free hres9 0
    have n0 := blk_cell hmsg9 (k := 0) rfl
    have s1 := blk_cell hres9 (k := 1) rfl
    have t1 := blk_free hres9 1
    have n1 := blk_cell hmsg9 (k := 1) rfl
    have s2 := blk_cell hres9 (k := 2) rfl
    have t2 := blk_free hres9 2
    have n2 := blk_cell hmsg9 (k := 2) rfl
    have s3 := blk_cell hres9 (k := 3) rfl
    have t3 := blk_free hres9 3
    have n3 := blk_cell hmsg9 (k := 3) rfl
    have s4 := blk_cell hres9 (k := 4) rfl
    have t4 := blk_free hres9 4
    have n4 := blk_cell hmsg9 (k := 4) rfl
    have s5 := blk_cell hres9 (k := 5) rfl
    have t5 := blk_free hres9 5
    have n5 := blk_cell hmsg9 (k := 5) rfl
    have s6 := blk_cell hres9 (k := 6) rfl
    have t6 := blk_free hres9 6
    have n6 := blk_cell hmsg9 (k := 6) rfl
    clear hb9 hk9 hmsg9
    go_wp2_with fail
    have hf := blk_store hres9 (.int .i64 k) (.int .u32 0) (.int .u16 0) (.int .u16 0) (.slice none 0 0) (.int .u32 0) (.int .i64 0)
    have d0 := blk_cell hf (k := 0) rfl
    have d1 := blk_cell hf (k := 1) rfl
    have d2 := blk_cell hf (k := 2) rfl
    have d3 := blk_cell hf (k := 3) rfl
    have d4 := blk_cell hf (k := 4) rfl
    have d5 := blk_cell hf (k := 5) rfl
    have d6 := blk_cell hf (k := 6) rfl
    have hbl := ((((((hW9.setCell (p := ⟨w.heap.size, 0, none⟩) (Nat.le_refl _) (.int .i64 k)).setCell (p := ⟨w.heap.size, 1, none⟩) (Nat.le_refl _) (.int .u32 0)).setCell (p := ⟨w.heap.size, 2, none⟩) (Nat.le_refl _) (.int .u16 0)).setCell (p := ⟨w.heap.size, 3, none⟩) (Nat.le_refl _) (.int .u16 0)).setCell (p := ⟨w.heap.size, 4, none⟩) (Nat.le_refl _) (.slice none 0 0)).setCell (p := ⟨w.heap.size, 5, none⟩) (Nat.le_refl _) (.int .u32 0)).setCell (p := ⟨w.heap.size, 6, none⟩) (Nat.le_refl _) (.int .i64 0)
    refine bodyPost_ret (v := .tuple #[.agg #[.int .i64 k, .int .u32 0, .int .u16 0, .int .u16 0, .slice none 0 0, .int .u32 0, .int .i64 0], .int .i64 0]) (by simp [results, Try.results26, go_sem, d0, d1, d2, d3, d4, d5, d6]) rfl ?_
    rw [hu.out]
    exact ⟨none, 0, rfl, IsBytes.none _, hbl, fun _ h => by cases h⟩
end Go.Proofs.Ytaobhbfhbmenfaa
