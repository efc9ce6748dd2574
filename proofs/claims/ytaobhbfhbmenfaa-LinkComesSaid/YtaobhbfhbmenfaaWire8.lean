/- What the reader's gets and reads return. -/
import Derived.Test.YtaobhbfhbmenfaaWire7
import Derived.Laws.BitsAllLaws
namespace Go.Proofs.Ytaobhbfhbmenfaa
open Go.RowKit
set_option maxRecDepth 10000
variable {w w' : World} {r : Nat} {x : Rd}
def beN (l : List UInt8) : Nat := l.foldl (fun a c => a * 256 + c.toNat) 0
theorem beN_snoc (l : List UInt8) (c : UInt8) : beN (l ++ [c]) = beN l * 256 + c.toNat := by simp [beN, List.foldl_append]
theorem beN_lt : ∀ (n : Nat) (l : List UInt8), l.length = n → beN l < 256 ^ n := by
  intro n
  induction n with
  | zero => intro l h; rw [List.eq_nil_of_length_eq_zero h]; decide
  | succ n ih =>
    intro l h
    have hne : l ≠ [] := by intro e; rw [e] at h; simp at h
    rw [← List.dropLast_concat_getLast hne, beN_snoc]
    have h1 := ih l.dropLast (by simp; omega)
    have h2 := (l.getLast hne).toNat_lt
    rw [Nat.pow_succ]
    omega
theorem take_len (n : Nat) (x : Rd) : (takeR n x).1.size ≤ n := by
  unfold takeR
  split
  · exact Nat.zero_le _
  · rename_i h; simp; omega
theorem or16 (a c : Nat) (ha : a < 256) (hc : c < 256) : bits .or .u16 ((a : Int) * 256) (c : Int) = ((a * 256 + c : Nat) : Int) := by
  have e : (a : Int) * 256 = ((a * 256 : Nat) : Int) := by simp
  rw [e, u16_or_nat _ _ (by omega) (by omega), nat_join 8 (a * 256) c (by omega) (by omega)]
theorem or32 (a c : Nat) (ha : a < 16777216) (hc : c < 256) : bits .or .u32 ((a : Int) * 256) (c : Int) = ((a * 256 + c : Nat) : Int) := by
  have e : (a : Int) * 256 = ((a * 256 : Nat) : Int) := by simp
  rw [e, u32_or_nat _ _ (by omega) (by omega), nat_join 8 (a * 256) c (by omega) (by omega)]
set_option maxHeartbeats 1000000 in
theorem get_16 (h : IsRd w r x) (n : Nat) (hn : n ≤ 2) (hs : x.s.size ≤ maxLen) :
    Calls Try.prog 43 #[.pointer (some ⟨r, 0, none⟩), .int .i64 n] w fun e w' => e = .returned (.int .u16 ((beN (takeR n x).1.data.toList : Nat) : Int)) ∧ IsRd w' r (takeR n x).2 ∧ Keeps (fun b => b = r) w w' := by
  have hT := take_len n x
  have hR := hid (reader_take h n hs)
  generalize hTT : takeR n x = P at *
  obtain ⟨T, y⟩ := P
  simp only at hT ⊢
  have HTT := hid hTT
  clear hTT
  go_enter Try.func43, Try.ntmps43
  go_wp2_with fail
  refine hR.out.mono ?_
  rintro e w1 ⟨rfl, h1, hk1⟩
  obtain ⟨cap, w2, hcv, hcap, hb2, hs2, hcell, _⟩ := conv_bytes w1 T
  have Hcell := hid hcell
  have hk2 : Keeps (fun _ => False) w1 w2 := Keeps.of_below hb2 (fun k h1 h2 => by omega)
  have Hfin := hid (show IsRd w2 r y ∧ Keeps (fun b => b = r) w w2 from ⟨h1.keeps hk2 id, hk1.trans (keeps_any hk2)⟩)
  clear hcell hs2 hb2 hk1 hk2 h1 hR h
  go_wp2_with fail
  go_loopg [5, 13] 9 (fun g xv iv wr => ∃ k : Nat, g = 9 - k ∧ k ≤ T.size ∧ iv = .int .i64 k ∧ xv = .int .u16 ((beN (T.data.toList.take k) : Nat) : Int) ∧ w2 = wr)
  case atStart => exact ⟨0, rfl, Nat.zero_le _, rfl, rfl, rfl⟩
  case round =>
    obtain ⟨k, hg, hk, rfl, rfl, rfl⟩ := hrel
    by_cases hlt : k < T.size
    · have hkl : k < T.data.toList.length := by simpa using hlt
      have kc : w2.cell? ⟨w1.heap.size, 0 + k, none⟩ = some (.int .u8 (T.data.toList[k]).toNat) := by rw [Nat.zero_add]; exact Hcell.out k hlt
      have kc2 : w2.cell? ⟨w1.heap.size, k, none⟩ = some (.int .u8 (T.data.toList[k]).toNat) := Hcell.out k hlt
      have hsn : beN (T.data.toList.take (k + 1)) = beN (T.data.toList.take k) * 256 + (T.data.toList[k]).toNat := by rw [List.take_succ_eq_append_getElem hkl, beN_snoc]
      have hlt2 := beN_lt k (T.data.toList.take k) (by simp; omega)
      have hbd : beN (T.data.toList.take k) < 256 := Nat.lt_of_lt_of_le hlt2 (Nat.le_trans (Nat.pow_le_pow_right (by omega) (show k ≤ 1 by omega)) (by decide))
      have hc := (T.data.toList[k]).toNat_lt
      generalize T.data.toList[k] = cc at *
      generalize beN (T.data.toList.take k) = av at *
      have hor := or16 av cc.toNat hbd hc
      have Hsn := hid hsn
      have hc1 : (cc.toNat : Int) ≤ 255 := by omega
      have hb1 : (av : Int) < 256 := by omega
      clear hsn hlt2
      go_wp2
      go_roundg (9 - (k + 1))
      case measure => omega
      case rel => exact ⟨k + 1, rfl, by omega, by go_num, by rw [Hsn.out]; exact val_int (by omega), rfl⟩
    · obtain rfl : k = T.size := by omega
      go_wp2
      go_ret
      exact ⟨ret_int (by rw [List.take_of_length_le (by simp)]), Hfin.out⟩
set_option maxHeartbeats 1000000 in
theorem get_32 (h : IsRd w r x) (n : Nat) (hn : n ≤ 4) (hs : x.s.size ≤ maxLen) :
    Calls Try.prog 45 #[.pointer (some ⟨r, 0, none⟩), .int .i64 n] w fun e w' => e = .returned (.int .u32 ((beN (takeR n x).1.data.toList : Nat) : Int)) ∧ IsRd w' r (takeR n x).2 ∧ Keeps (fun b => b = r) w w' := by
  have hT := take_len n x
  have hR := hid (reader_take h n hs)
  generalize hTT : takeR n x = P at *
  obtain ⟨T, y⟩ := P
  simp only at hT ⊢
  have HTT := hid hTT
  clear hTT
  go_enter Try.func45, Try.ntmps45
  go_wp2_with fail
  refine hR.out.mono ?_
  rintro e w1 ⟨rfl, h1, hk1⟩
  obtain ⟨cap, w2, hcv, hcap, hb2, hs2, hcell, _⟩ := conv_bytes w1 T
  have Hcell := hid hcell
  have hk2 : Keeps (fun _ => False) w1 w2 := Keeps.of_below hb2 (fun k h1 h2 => by omega)
  have Hfin := hid (show IsRd w2 r y ∧ Keeps (fun b => b = r) w w2 from ⟨h1.keeps hk2 id, hk1.trans (keeps_any hk2)⟩)
  clear hcell hs2 hb2 hk1 hk2 h1 hR h
  go_wp2_with fail
  go_loopg [5, 13] 9 (fun g xv iv wr => ∃ k : Nat, g = 9 - k ∧ k ≤ T.size ∧ iv = .int .i64 k ∧ xv = .int .u32 ((beN (T.data.toList.take k) : Nat) : Int) ∧ w2 = wr)
  case atStart => exact ⟨0, rfl, Nat.zero_le _, rfl, rfl, rfl⟩
  case round =>
    obtain ⟨k, hg, hk, rfl, rfl, rfl⟩ := hrel
    by_cases hlt : k < T.size
    · have hkl : k < T.data.toList.length := by simpa using hlt
      have kc : w2.cell? ⟨w1.heap.size, 0 + k, none⟩ = some (.int .u8 (T.data.toList[k]).toNat) := by rw [Nat.zero_add]; exact Hcell.out k hlt
      have kc2 : w2.cell? ⟨w1.heap.size, k, none⟩ = some (.int .u8 (T.data.toList[k]).toNat) := Hcell.out k hlt
      have hsn : beN (T.data.toList.take (k + 1)) = beN (T.data.toList.take k) * 256 + (T.data.toList[k]).toNat := by rw [List.take_succ_eq_append_getElem hkl, beN_snoc]
      have hlt2 := beN_lt k (T.data.toList.take k) (by simp; omega)
      have hbd : beN (T.data.toList.take k) < 16777216 := Nat.lt_of_lt_of_le hlt2 (Nat.le_trans (Nat.pow_le_pow_right (by omega) (show k ≤ 3 by omega)) (by decide))
      have hc := (T.data.toList[k]).toNat_lt
      generalize T.data.toList[k] = cc at *
      generalize beN (T.data.toList.take k) = av at *
      have hor := or32 av cc.toNat hbd hc
      have Hsn := hid hsn
      have hc1 : (cc.toNat : Int) ≤ 255 := by omega
      have hb1 : (av : Int) < 16777216 := by omega
      clear hsn hlt2
      go_wp2
      go_roundg (9 - (k + 1))
      case measure => omega
      case rel => exact ⟨k + 1, rfl, by omega, by go_num, by rw [Hsn.out]; exact val_int (by omega), rfl⟩
    · obtain rfl : k = T.size := by omega
      go_wp2
      go_ret
      exact ⟨ret_int (by rw [List.take_of_length_le (by simp)]), Hfin.out⟩
def rdrR (x : Rd) : List UInt8 × Rd := ((rdRun x.s.data.toList).1, (takeR (rdRun x.s.data.toList).2.1 ⟨x.s, x.bad || ((rdRun x.s.data.toList).2.2 != 0)⟩).2)
def rdsR (x : Rd) : Int × Rd := (unzz (rdNum x.s.data.toList).1, (takeR (rdNum x.s.data.toList).2.1 ⟨x.s, x.bad || ((rdNum x.s.data.toList).2.2 != 0)⟩).2)
theorem IsRd.setBad (h : IsRd w r x) (b : Bool) : IsRd (w.setCell ⟨r, 1, none⟩ (.bool b)) r ⟨x.s, b⟩ := by
  have := blk_set h 1 (.bool b)
  simpa [IsRd] using this
set_option maxHeartbeats 1000000 in
theorem read_int (h : IsRd w r x) (hs : x.s.size ≤ maxLen) :
    Calls Try.prog 48 #[.pointer (some ⟨r, 0, none⟩), .func (.func 49) #[] #[]] w fun e w' => e = .returned (.int .i64 (rdsR x).1) ∧ IsRd w' r (rdsR x).2 ∧ Keeps (fun b => b = r) w w' := by
  have c0 : w.cell? ⟨r, 0, none⟩ = some (.string x.s) := blk_cell h rfl
  have c1 : w.cell? ⟨r, 1, none⟩ = some (.bool x.bad) := blk_cell h rfl
  have f1 := blk_free h 1
  have hP := pack_ReadSigned x.s hs w
  have hse := h.setBad (x.bad || ((rdNum x.s.data.toList).2.2 != 0))
  have hR := reader_take hse (rdNum x.s.data.toList).2.1 hs
  unfold rdsR
  generalize rdNum x.s.data.toList = P at *
  obtain ⟨v, k, e0⟩ := P
  simp only at hP hse hR ⊢
  have HP := hid hP
  have HR := hid hR
  clear hP hR h hse
  cases hb : x.bad with
  | true =>
    rw [hb] at HR c1
    simp only [Bool.true_or] at HR ⊢
    clear hb
    go_enter Try.func48, Try.ntmps48
    go_wp2_with fail
    refine HP.out.mono ?_
    rintro e w1 ⟨rfl, rfl⟩
    go_wp2_with fail
    refine HR.out.mono ?_
    rintro e w2 ⟨rfl, h2, hk⟩
    go_wp2_with fail
    go_ret
    exact ⟨rfl, h2, ((Keeps.refl (fun b => b = r) w).setCell (p := ⟨r, 1, none⟩) rfl _).trans hk⟩
  | false =>
    rw [hb] at HR c1
    simp only [Bool.false_or] at HR ⊢
    clear hb
    by_cases he : e0 = 0
    · have hq : (e0 != 0) = false := by simp [he]
      rw [hq] at HR ⊢
      clear he
      go_enter Try.func48, Try.ntmps48
      go_wp2_with fail
      refine HP.out.mono ?_
      rintro e w1 ⟨rfl, rfl⟩
      go_wp2_with fail
      refine HR.out.mono ?_
      rintro e w2 ⟨rfl, h2, hk⟩
      go_wp2_with fail
      go_ret
      exact ⟨rfl, h2, ((Keeps.refl (fun b => b = r) w).setCell (p := ⟨r, 1, none⟩) rfl _).trans hk⟩
    · have hq : (e0 != 0) = true := by simp [he]
      rw [hq] at HR ⊢
      clear he
      go_enter Try.func48, Try.ntmps48
      go_wp2_with fail
      refine HP.out.mono ?_
      rintro e w1 ⟨rfl, rfl⟩
      go_wp2_with fail
      refine HR.out.mono ?_
      rintro e w2 ⟨rfl, h2, hk⟩
      go_wp2_with fail
      go_ret
      exact ⟨rfl, h2, ((Keeps.refl (fun b => b = r) w).setCell (p := ⟨r, 1, none⟩) rfl _).trans hk⟩
set_option maxHeartbeats 1000000 in
theorem read_run (h : IsRd w r x) (hs : x.s.size ≤ maxLen) :
    Calls Try.prog 46 #[.pointer (some ⟨r, 0, none⟩), .func (.func 47) #[] #[]] w fun e w' => ∃ v, e = .returned v ∧ w'.ownsRow w.heap.size 5 1 v (rdrR x).1.length ((rdrR x).1.map byteV) ∧ IsRd w' r (rdrR x).2 ∧ Keeps (fun b => b = r) w w' := by
  have c0 : w.cell? ⟨r, 0, none⟩ = some (.string x.s) := blk_cell h rfl
  have lr := blk_lt h
  have hP := pack_ReadRun x.s hs w
  have hR : ∀ w1, IsRd w1 r x → _ := fun w1 (h1 : IsRd w1 r x) => reader_take (h1.setBad (x.bad || ((rdRun x.s.data.toList).2.2 != 0))) (rdRun x.s.data.toList).2.1 hs
  unfold rdrR
  unfold ReadsRun at hP
  generalize rdRun x.s.data.toList = P at *
  obtain ⟨L, k, e0⟩ := P
  simp only at hP hR ⊢
  have HP := hid hP
  have HR := hid hR
  have H := hid h
  clear hP hR h
  cases hb : x.bad with
  | true =>
    rw [hb] at HR
    simp only [Bool.true_or] at HR ⊢
    have Hb := hid hb
    clear hb
    go_enter Try.func46, Try.ntmps46
    go_wp2_with fail
    refine HP.out.mono ?_
    rintro e w1 ⟨v, rfl, ho, hb1⟩
    have hk1 : Keeps (fun _ => False) w w1 := Keeps.of_below hb1 (fun k h1 h2 => by omega)
    have h1 := H.out.keeps hk1 id
    have c1 : w1.cell? ⟨r, 1, none⟩ = some (.bool x.bad) := blk_cell h1 rfl
    rw [Hb.out] at c1
    have f1 := blk_free h1 1
    have hR1 := HR.out w1 h1
    have HR1 := hid hR1
    have H1 := hid h1
    clear hR1 hb1 h1
    go_wp2_with fail
    refine HR1.out.mono ?_
    rintro e w2 ⟨rfl, h2, hk⟩
    have hk3 : Keeps (fun b => b = r) w1 w2 := ((Keeps.refl (fun b => b = r) w1).setCell (p := ⟨r, 1, none⟩) rfl _).trans hk
    have ho2 := own_keeps ho hk3 (fun b hb e => by have := (ho.lt b hb).1; omega)
    have hkk := (keeps_any (S := fun b => b = r) hk1).trans hk3
    clear ho hk hk3 hk1
    go_wp2_with fail
    go_ret
    exact ⟨_, rfl, ho2, h2, hkk⟩
  | false =>
    rw [hb] at HR
    simp only [Bool.false_or] at HR ⊢
    have Hb := hid hb
    clear hb
    by_cases he : e0 = 0
    · have hq : (e0 != 0) = false := by simp [he]
      rw [hq] at HR ⊢
      clear he
      go_enter Try.func46, Try.ntmps46
      go_wp2_with fail
      refine HP.out.mono ?_
      rintro e w1 ⟨v, rfl, ho, hb1⟩
      have hk1 : Keeps (fun _ => False) w w1 := Keeps.of_below hb1 (fun k h1 h2 => by omega)
      have h1 := H.out.keeps hk1 id
      have c1 : w1.cell? ⟨r, 1, none⟩ = some (.bool x.bad) := blk_cell h1 rfl
      rw [Hb.out] at c1
      have f1 := blk_free h1 1
      have hR1 := HR.out w1 h1
      have HR1 := hid hR1
      have H1 := hid h1
      clear hR1 hb1 h1
      go_wp2_with fail
      refine HR1.out.mono ?_
      rintro e w2 ⟨rfl, h2, hk⟩
      have hk3 : Keeps (fun b => b = r) w1 w2 := ((Keeps.refl (fun b => b = r) w1).setCell (p := ⟨r, 1, none⟩) rfl _).trans hk
      have ho2 := own_keeps ho hk3 (fun b hb e => by have := (ho.lt b hb).1; omega)
      have hkk := (keeps_any (S := fun b => b = r) hk1).trans hk3
      clear ho hk hk3 hk1
      go_wp2_with fail
      go_ret
      exact ⟨_, rfl, ho2, h2, hkk⟩
    · have hq : (e0 != 0) = true := by simp [he]
      rw [hq] at HR ⊢
      clear he
      go_enter Try.func46, Try.ntmps46
      go_wp2_with fail
      refine HP.out.mono ?_
      rintro e w1 ⟨v, rfl, ho, hb1⟩
      have hk1 : Keeps (fun _ => False) w w1 := Keeps.of_below hb1 (fun k h1 h2 => by omega)
      have h1 := H.out.keeps hk1 id
      have c1 : w1.cell? ⟨r, 1, none⟩ = some (.bool x.bad) := blk_cell h1 rfl
      rw [Hb.out] at c1
      have f1 := blk_free h1 1
      have hR1 := HR.out w1 h1
      have HR1 := hid hR1
      have H1 := hid h1
      clear hR1 hb1 h1
      go_wp2_with fail
      refine HR1.out.mono ?_
      rintro e w2 ⟨rfl, h2, hk⟩
      have hk3 : Keeps (fun b => b = r) w1 w2 := ((Keeps.refl (fun b => b = r) w1).setCell (p := ⟨r, 1, none⟩) rfl _).trans hk
      have ho2 := own_keeps ho hk3 (fun b hb e => by have := (ho.lt b hb).1; omega)
      have hkk := (keeps_any (S := fun b => b = r) hk1).trans hk3
      clear ho hk hk3 hk1
      go_wp2_with fail
      go_ret
      exact ⟨_, rfl, ho2, h2, hkk⟩
end Go.Proofs.Ytaobhbfhbmenfaa
