/- A datagram's bytes, by the program: one that may be. -/
import Derived.Test.YtaobhbfhbmenfaaWire2
namespace Go.Proofs.Ytaobhbfhbmenfaa
open Go.RowKit
open Go.Lib (strCells)
set_option maxRecDepth 10000
variable {w : World} {a : Option Addr} {c : Nat}
theorem strCells_list (l : List UInt8) : strCells ⟨l.toArray⟩ = l.map byteV := by simp [strCells, byteV]
theorem own_list {w : World} {base n : Nat} {v : Value} {l r : List UInt8} (h : w.ownsRow base 5 1 v n (l.map byteV ++ r.map byteV)) : w.ownsRow base 5 1 v n ((l ++ r).map byteV) := by
  rwa [List.map_append]
theorem wsz (l : List UInt8) : (⟨l.toArray⟩ : ByteArray).size = l.length := by simp [ByteArray.size]
set_option maxHeartbeats 2000000 in
theorem pack_k1 (n s ak u l : Int) (i : List UInt8) (h : IsBytes w a c i) (hr : RightP ⟨1, n, s, ak, i, u, l⟩) (hn : 0 ≤ n ∧ n < 4294967296) :
    Calls Try.prog 33 #[.agg #[.int .i64 1, .int .u32 n, .int .u16 s, .int .u16 ak, .slice a i.length c, .int .u32 u, .int .i64 l]] w fun e w' => e = .returned (.tuple #[.string ⟨(packM ⟨1, n, s, ak, i, u, l⟩).toArray⟩, .int .i64 0]) ∧ Below w.heap.size w w' := by
  have hR := wire_RightM (m := ⟨1, n, s, ak, i, u, l⟩) (h.keeps ((Keeps.refl (fun _ => False) w).alloc (.cells #[.int .i64 1, .int .u32 n, .int .u16 s, .int .u16 ak, .slice a i.length c, .int .u32 u, .int .i64 l] 49)) (fun _ _ _ => id))
  rw [decide_eq_true hr] at hR
  have HR := hid hR
  have hlen := raw_len _ hr
  have hraw : rawM ⟨1, n, s, ak, i, u, l⟩ = [80, 1] ++ tail4 n := by simp [rawM, bodyM]
  unfold packM
  obtain ⟨R, hRR⟩ : ∃ R, rawM ⟨1, n, s, ak, i, u, l⟩ = R := ⟨_, rfl⟩
  rw [hRR] at hlen hraw ⊢
  have HRR := hid hraw
  have Hlen := hid hlen
  clear hR hr hlen hraw hRR
  go_enter Try.func33, Try.ntmps33
  go_wp2_with fail
  refine HR.out.mono ?_
  rintro e w1 ⟨rfl, hb1⟩
  have hB : w.heap.size + 1 ≤ w1.heap.size := by have := hb1.size; simpa using this
  have hW : Below w.heap.size w w1 := ((Below.refl _ w).alloc (Nat.le_refl _) _).trans (hb1.mono (by simp))
  have x0 := (hb1.cell (p := ⟨w.heap.size, 0, none⟩) (by simp)).trans (blk_cell' w _ _ (k := 0) rfl)
  have x1 := (hb1.cell (p := ⟨w.heap.size, 1, none⟩) (by simp)).trans (blk_cell' w _ _ (k := 1) rfl)
  clear hb1
  go_wp2_with fail
  refine (wire_names _ _).mono ?_
  rintro e w2 ⟨rfl, rfl⟩
  rw [show namesK 1 = 1 by decide]
  have ho : (w1.alloc (.cells #[.int .u8 80, .int .u8 1] 5)).ownsRow (w.heap.size + 1) 5 1 (.slice (some ⟨w1.heap.size, 0, none⟩) 2 2) 2 (([80, 1] : List UInt8).map byteV) := own_two hB 80 1
  have hX : Below (w.heap.size + 1) w1 (w1.alloc (.cells #[.int .u8 80, .int .u8 1] 5)) := (Below.refl _ w1).alloc hB _
  have y1 := (hX.cell (p := ⟨w.heap.size, 1, none⟩) (by simp)).trans x1
  go_wp2_with fail
  refine (wire_put4 ho (Nat.le_trans hB hX.size) (by omega) n hn).mono ?_
  rintro e w3 ⟨v3, rfl, hq3, hb3⟩
  have ho3 := own_list (l := [80, 1]) (r := tail4 n) hq3
  have hX3 := hX.trans hb3
  clear ho hX hq3 hb3 y1
  have y1 := (hX3.cell (p := ⟨w.heap.size, 1, none⟩) (by simp)).trans x1
  have hoR := ho3
  rw [← HRR.out] at hoR
  have hcv := conv_own R hoR
  clear hoR
  go_wp2_with fail
  refine (sum_Seal ⟨R.toArray⟩ (by rw [wsz]; have := Hlen.out; omega) _).mono ?_
  rintro e w9 ⟨rfl, hb9⟩
  have hfin : Below w.heap.size w w9 := (hW.trans (hX3.mono (by omega))).trans (hb9.mono (Nat.le_trans hW.size (hX3.size)))
  clear hb9 ho3 hX3 hcv hW
  go_wp2_with fail
  go_ret2
  exact ⟨by simp, hfin⟩
set_option maxHeartbeats 2000000 in
theorem pack_k2 (n s ak u l : Int) (i : List UInt8) (h : IsBytes w a c i) (hr : RightP ⟨2, n, s, ak, i, u, l⟩) (hn : 0 ≤ n ∧ n < 4294967296) :
    Calls Try.prog 33 #[.agg #[.int .i64 2, .int .u32 n, .int .u16 s, .int .u16 ak, .slice a i.length c, .int .u32 u, .int .i64 l]] w fun e w' => e = .returned (.tuple #[.string ⟨(packM ⟨2, n, s, ak, i, u, l⟩).toArray⟩, .int .i64 0]) ∧ Below w.heap.size w w' := by
  have hR := wire_RightM (m := ⟨2, n, s, ak, i, u, l⟩) (h.keeps ((Keeps.refl (fun _ => False) w).alloc (.cells #[.int .i64 2, .int .u32 n, .int .u16 s, .int .u16 ak, .slice a i.length c, .int .u32 u, .int .i64 l] 49)) (fun _ _ _ => id))
  rw [decide_eq_true hr] at hR
  have HR := hid hR
  have hlen := raw_len _ hr
  have hraw : rawM ⟨2, n, s, ak, i, u, l⟩ = [80, 2] ++ tail4 n := by simp [rawM, bodyM]
  unfold packM
  obtain ⟨R, hRR⟩ : ∃ R, rawM ⟨2, n, s, ak, i, u, l⟩ = R := ⟨_, rfl⟩
  rw [hRR] at hlen hraw ⊢
  have HRR := hid hraw
  have Hlen := hid hlen
  clear hR hr hlen hraw hRR
  go_enter Try.func33, Try.ntmps33
  go_wp2_with fail
  refine HR.out.mono ?_
  rintro e w1 ⟨rfl, hb1⟩
  have hB : w.heap.size + 1 ≤ w1.heap.size := by have := hb1.size; simpa using this
  have hW : Below w.heap.size w w1 := ((Below.refl _ w).alloc (Nat.le_refl _) _).trans (hb1.mono (by simp))
  have x0 := (hb1.cell (p := ⟨w.heap.size, 0, none⟩) (by simp)).trans (blk_cell' w _ _ (k := 0) rfl)
  have x1 := (hb1.cell (p := ⟨w.heap.size, 1, none⟩) (by simp)).trans (blk_cell' w _ _ (k := 1) rfl)
  clear hb1
  go_wp2_with fail
  refine (wire_names _ _).mono ?_
  rintro e w2 ⟨rfl, rfl⟩
  rw [show namesK 2 = 1 by decide]
  have ho : (w1.alloc (.cells #[.int .u8 80, .int .u8 2] 5)).ownsRow (w.heap.size + 1) 5 1 (.slice (some ⟨w1.heap.size, 0, none⟩) 2 2) 2 (([80, 2] : List UInt8).map byteV) := own_two hB 80 2
  have hX : Below (w.heap.size + 1) w1 (w1.alloc (.cells #[.int .u8 80, .int .u8 2] 5)) := (Below.refl _ w1).alloc hB _
  have y1 := (hX.cell (p := ⟨w.heap.size, 1, none⟩) (by simp)).trans x1
  go_wp2_with fail
  refine (wire_put4 ho (Nat.le_trans hB hX.size) (by omega) n hn).mono ?_
  rintro e w3 ⟨v3, rfl, hq3, hb3⟩
  have ho3 := own_list (l := [80, 2]) (r := tail4 n) hq3
  have hX3 := hX.trans hb3
  clear ho hX hq3 hb3 y1
  have y1 := (hX3.cell (p := ⟨w.heap.size, 1, none⟩) (by simp)).trans x1
  have hoR := ho3
  rw [← HRR.out] at hoR
  have hcv := conv_own R hoR
  clear hoR
  go_wp2_with fail
  refine (sum_Seal ⟨R.toArray⟩ (by rw [wsz]; have := Hlen.out; omega) _).mono ?_
  rintro e w9 ⟨rfl, hb9⟩
  have hfin : Below w.heap.size w w9 := (hW.trans (hX3.mono (by omega))).trans (hb9.mono (Nat.le_trans hW.size (hX3.size)))
  clear hb9 ho3 hX3 hcv hW
  go_wp2_with fail
  go_ret2
  exact ⟨by simp, hfin⟩
set_option maxHeartbeats 2000000 in
theorem pack_k3 (n s ak u l : Int) (i : List UInt8) (h : IsBytes w a c i) (hr : RightP ⟨3, n, s, ak, i, u, l⟩) (hs : 0 ≤ s ∧ s < 65536) (hak : 0 ≤ ak ∧ ak < 65536) :
    Calls Try.prog 33 #[.agg #[.int .i64 3, .int .u32 n, .int .u16 s, .int .u16 ak, .slice a i.length c, .int .u32 u, .int .i64 l]] w fun e w' => e = .returned (.tuple #[.string ⟨(packM ⟨3, n, s, ak, i, u, l⟩).toArray⟩, .int .i64 0]) ∧ Below w.heap.size w w' := by
  have hR := wire_RightM (m := ⟨3, n, s, ak, i, u, l⟩) (h.keeps ((Keeps.refl (fun _ => False) w).alloc (.cells #[.int .i64 3, .int .u32 n, .int .u16 s, .int .u16 ak, .slice a i.length c, .int .u32 u, .int .i64 l] 49)) (fun _ _ _ => id))
  rw [decide_eq_true hr] at hR
  have HR := hid hR
  have hlen := raw_len _ hr
  have Hfit := hid hr.2.1
  have hraw : rawM ⟨3, n, s, ak, i, u, l⟩ = [80, 3] ++ be2 s ++ be2 ak ++ runBytes i := by simp [rawM, bodyM]
  unfold packM
  obtain ⟨R, hRR⟩ : ∃ R, rawM ⟨3, n, s, ak, i, u, l⟩ = R := ⟨_, rfl⟩
  rw [hRR] at hlen hraw ⊢
  have HRR := hid hraw
  have Hlen := hid hlen
  clear hR hr hlen hraw hRR
  go_enter Try.func33, Try.ntmps33
  go_wp2_with fail
  refine HR.out.mono ?_
  rintro e w1 ⟨rfl, hb1⟩
  have hB : w.heap.size + 1 ≤ w1.heap.size := by have := hb1.size; simpa using this
  have hW : Below w.heap.size w w1 := ((Below.refl _ w).alloc (Nat.le_refl _) _).trans (hb1.mono (by simp))
  have x0 := (hb1.cell (p := ⟨w.heap.size, 0, none⟩) (by simp)).trans (blk_cell' w _ _ (k := 0) rfl)
  have x2 := (hb1.cell (p := ⟨w.heap.size, 2, none⟩) (by simp)).trans (blk_cell' w _ _ (k := 2) rfl)
  have x3 := (hb1.cell (p := ⟨w.heap.size, 3, none⟩) (by simp)).trans (blk_cell' w _ _ (k := 3) rfl)
  have x4 := (hb1.cell (p := ⟨w.heap.size, 4, none⟩) (by simp)).trans (blk_cell' w _ _ (k := 4) rfl)
  clear hb1
  go_wp2_with fail
  refine (wire_names _ _).mono ?_
  rintro e w2 ⟨rfl, rfl⟩
  rw [show namesK 3 = 14 by decide]
  have ho : (w1.alloc (.cells #[.int .u8 80, .int .u8 3] 5)).ownsRow (w.heap.size + 1) 5 1 (.slice (some ⟨w1.heap.size, 0, none⟩) 2 2) 2 (([80, 3] : List UInt8).map byteV) := own_two hB 80 3
  have hX : Below (w.heap.size + 1) w1 (w1.alloc (.cells #[.int .u8 80, .int .u8 3] 5)) := (Below.refl _ w1).alloc hB _
  have y2 := (hX.cell (p := ⟨w.heap.size, 2, none⟩) (by simp)).trans x2
  have y3 := (hX.cell (p := ⟨w.heap.size, 3, none⟩) (by simp)).trans x3
  have y4 := (hX.cell (p := ⟨w.heap.size, 4, none⟩) (by simp)).trans x4
  go_wp2_with fail
  refine (wire_put2 ho (Nat.le_trans hB hX.size) (by omega) s hs).mono ?_
  rintro e w3 ⟨v3, rfl, hq3, hb3⟩
  have ho3 := own_list (l := [80, 3]) (r := be2 s) hq3
  have hX3 := hX.trans hb3
  clear ho hX hq3 hb3 y2 y3 y4
  have y2 := (hX3.cell (p := ⟨w.heap.size, 2, none⟩) (by simp)).trans x2
  have y3 := (hX3.cell (p := ⟨w.heap.size, 3, none⟩) (by simp)).trans x3
  have y4 := (hX3.cell (p := ⟨w.heap.size, 4, none⟩) (by simp)).trans x4
  go_wp2_with fail
  refine (wire_put2 ho3 (Nat.le_trans hB hX3.size) (by omega) ak hak).mono ?_
  rintro e w4 ⟨v4, rfl, hq4, hb4⟩
  have ho4 := own_list (l := [80, 3] ++ be2 s) (r := be2 ak) hq4
  have hX4 := hX3.trans hb4
  clear ho3 hX3 hq4 hb4 y2 y3 y4
  have y2 := (hX4.cell (p := ⟨w.heap.size, 2, none⟩) (by simp)).trans x2
  have y3 := (hX4.cell (p := ⟨w.heap.size, 3, none⟩) (by simp)).trans x3
  have y4 := (hX4.cell (p := ⟨w.heap.size, 4, none⟩) (by simp)).trans x4
  go_wp2_with fail
  refine (pack_Run _ a c i (h.keeps (Keeps.of_below (S := fun _ => False) (hW.trans (hX4.mono (by omega))) (fun k h1 h2 => by omega)) (fun _ _ _ => id)) Hfit.out).mono ?_
  rintro e w5 ⟨rfl, hb5⟩
  have hX5 := hX4.trans (hb5.mono (Nat.le_trans hB hX4.size))
  have hp5 := own_keeps ho4 (Keeps.of_below (S := fun _ => False) hb5 (fun k h1 h2 => by omega)) (fun _ _ => id)
  clear ho4 hX4 y2 y3 y4 hb5
  have hq : (⟨(runBytes i).toArray⟩ : ByteArray).size ≤ 138 := by rw [wsz]; exact runBytes_le i Hfit.out
  obtain ⟨i0, hi, hz0, hz1, hz2⟩ := info_parts info_u8
  have Hi := hid hi
  clear hi
  go_wp2_with (at_builtin; refine Lib.wpList_append_own_string _ rfl (.tmp 51) (.tmp 52) 35 9 rfl (w.heap.size + 1) 5 i0 Try.underlying35 Try.underlying9 Hi.out hz0 hz1 hz2 _ (2 + 2 + 2) _ rfl hp5 ⟨(runBytes i).toArray⟩ rfl (by unfold maxLen; omega) (by omega) (Nat.le_trans hB hX5.size) ?_)
  intro v8 w8 ho8 hg8 _
  rw [strCells_list] at ho8
  have ho9 := own_list (l := [80, 3] ++ be2 s ++ be2 ak) (r := runBytes i) ho8
  have hX9 : Below (w.heap.size + 1) w1 w8 := hX5.grown hg8 (Nat.le_trans hB hX5.size) (fun k e => (hp5.lt k e).1)
  clear ho8 hg8 hp5 hX5 hq
  have hoR := ho9
  rw [← HRR.out] at hoR
  have hcv := conv_own R hoR
  clear hoR
  go_wp2_with fail
  refine (sum_Seal ⟨R.toArray⟩ (by rw [wsz]; have := Hlen.out; omega) _).mono ?_
  rintro e w9 ⟨rfl, hb9⟩
  have hfin : Below w.heap.size w w9 := (hW.trans (hX9.mono (by omega))).trans (hb9.mono (Nat.le_trans hW.size (hX9.size)))
  clear hb9 ho9 hX9 hcv hW
  go_wp2_with fail
  go_ret2
  exact ⟨by simp, hfin⟩
set_option maxHeartbeats 2000000 in
theorem pack_k4 (n s ak u l : Int) (i : List UInt8) (h : IsBytes w a c i) (hr : RightP ⟨4, n, s, ak, i, u, l⟩) (hs : 0 ≤ s ∧ s < 65536) (hu : 0 ≤ u ∧ u < 4294967296) :
    Calls Try.prog 33 #[.agg #[.int .i64 4, .int .u32 n, .int .u16 s, .int .u16 ak, .slice a i.length c, .int .u32 u, .int .i64 l]] w fun e w' => e = .returned (.tuple #[.string ⟨(packM ⟨4, n, s, ak, i, u, l⟩).toArray⟩, .int .i64 0]) ∧ Below w.heap.size w w' := by
  have hR := wire_RightM (m := ⟨4, n, s, ak, i, u, l⟩) (h.keeps ((Keeps.refl (fun _ => False) w).alloc (.cells #[.int .i64 4, .int .u32 n, .int .u16 s, .int .u16 ak, .slice a i.length c, .int .u32 u, .int .i64 l] 49)) (fun _ _ _ => id))
  rw [decide_eq_true hr] at hR
  have HR := hid hR
  have hlen := raw_len _ hr
  have hraw : rawM ⟨4, n, s, ak, i, u, l⟩ = [80, 4] ++ be2 s ++ tail4 u := by simp [rawM, bodyM]
  unfold packM
  obtain ⟨R, hRR⟩ : ∃ R, rawM ⟨4, n, s, ak, i, u, l⟩ = R := ⟨_, rfl⟩
  rw [hRR] at hlen hraw ⊢
  have HRR := hid hraw
  have Hlen := hid hlen
  clear hR hr hlen hraw hRR
  go_enter Try.func33, Try.ntmps33
  go_wp2_with fail
  refine HR.out.mono ?_
  rintro e w1 ⟨rfl, hb1⟩
  have hB : w.heap.size + 1 ≤ w1.heap.size := by have := hb1.size; simpa using this
  have hW : Below w.heap.size w w1 := ((Below.refl _ w).alloc (Nat.le_refl _) _).trans (hb1.mono (by simp))
  have x0 := (hb1.cell (p := ⟨w.heap.size, 0, none⟩) (by simp)).trans (blk_cell' w _ _ (k := 0) rfl)
  have x2 := (hb1.cell (p := ⟨w.heap.size, 2, none⟩) (by simp)).trans (blk_cell' w _ _ (k := 2) rfl)
  have x5 := (hb1.cell (p := ⟨w.heap.size, 5, none⟩) (by simp)).trans (blk_cell' w _ _ (k := 5) rfl)
  clear hb1
  go_wp2_with fail
  refine (wire_names _ _).mono ?_
  rintro e w2 ⟨rfl, rfl⟩
  rw [show namesK 4 = 18 by decide]
  have ho : (w1.alloc (.cells #[.int .u8 80, .int .u8 4] 5)).ownsRow (w.heap.size + 1) 5 1 (.slice (some ⟨w1.heap.size, 0, none⟩) 2 2) 2 (([80, 4] : List UInt8).map byteV) := own_two hB 80 4
  have hX : Below (w.heap.size + 1) w1 (w1.alloc (.cells #[.int .u8 80, .int .u8 4] 5)) := (Below.refl _ w1).alloc hB _
  have y2 := (hX.cell (p := ⟨w.heap.size, 2, none⟩) (by simp)).trans x2
  have y5 := (hX.cell (p := ⟨w.heap.size, 5, none⟩) (by simp)).trans x5
  go_wp2_with fail
  refine (wire_put2 ho (Nat.le_trans hB hX.size) (by omega) s hs).mono ?_
  rintro e w3 ⟨v3, rfl, hq3, hb3⟩
  have ho3 := own_list (l := [80, 4]) (r := be2 s) hq3
  have hX3 := hX.trans hb3
  clear ho hX hq3 hb3 y2 y5
  have y2 := (hX3.cell (p := ⟨w.heap.size, 2, none⟩) (by simp)).trans x2
  have y5 := (hX3.cell (p := ⟨w.heap.size, 5, none⟩) (by simp)).trans x5
  go_wp2_with fail
  refine (wire_put4 ho3 (Nat.le_trans hB hX3.size) (by omega) u hu).mono ?_
  rintro e w4 ⟨v4, rfl, hq4, hb4⟩
  have ho4 := own_list (l := [80, 4] ++ be2 s) (r := tail4 u) hq4
  have hX4 := hX3.trans hb4
  clear ho3 hX3 hq4 hb4 y2 y5
  have y2 := (hX4.cell (p := ⟨w.heap.size, 2, none⟩) (by simp)).trans x2
  have y5 := (hX4.cell (p := ⟨w.heap.size, 5, none⟩) (by simp)).trans x5
  have hoR := ho4
  rw [← HRR.out] at hoR
  have hcv := conv_own R hoR
  clear hoR
  go_wp2_with fail
  refine (sum_Seal ⟨R.toArray⟩ (by rw [wsz]; have := Hlen.out; omega) _).mono ?_
  rintro e w9 ⟨rfl, hb9⟩
  have hfin : Below w.heap.size w w9 := (hW.trans (hX4.mono (by omega))).trans (hb9.mono (Nat.le_trans hW.size (hX4.size)))
  clear hb9 ho4 hX4 hcv hW
  go_wp2_with fail
  go_ret2
  exact ⟨by simp, hfin⟩
set_option maxHeartbeats 2000000 in
theorem pack_k5 (n s ak u l : Int) (i : List UInt8) (h : IsBytes w a c i) (hr : RightP ⟨5, n, s, ak, i, u, l⟩) (hak : 0 ≤ ak ∧ ak < 65536) :
    Calls Try.prog 33 #[.agg #[.int .i64 5, .int .u32 n, .int .u16 s, .int .u16 ak, .slice a i.length c, .int .u32 u, .int .i64 l]] w fun e w' => e = .returned (.tuple #[.string ⟨(packM ⟨5, n, s, ak, i, u, l⟩).toArray⟩, .int .i64 0]) ∧ Below w.heap.size w w' := by
  have hR := wire_RightM (m := ⟨5, n, s, ak, i, u, l⟩) (h.keeps ((Keeps.refl (fun _ => False) w).alloc (.cells #[.int .i64 5, .int .u32 n, .int .u16 s, .int .u16 ak, .slice a i.length c, .int .u32 u, .int .i64 l] 49)) (fun _ _ _ => id))
  rw [decide_eq_true hr] at hR
  have HR := hid hR
  have hlen := raw_len _ hr
  have hraw : rawM ⟨5, n, s, ak, i, u, l⟩ = [80, 5] ++ be2 ak := by simp [rawM, bodyM]
  unfold packM
  obtain ⟨R, hRR⟩ : ∃ R, rawM ⟨5, n, s, ak, i, u, l⟩ = R := ⟨_, rfl⟩
  rw [hRR] at hlen hraw ⊢
  have HRR := hid hraw
  have Hlen := hid hlen
  clear hR hr hlen hraw hRR
  go_enter Try.func33, Try.ntmps33
  go_wp2_with fail
  refine HR.out.mono ?_
  rintro e w1 ⟨rfl, hb1⟩
  have hB : w.heap.size + 1 ≤ w1.heap.size := by have := hb1.size; simpa using this
  have hW : Below w.heap.size w w1 := ((Below.refl _ w).alloc (Nat.le_refl _) _).trans (hb1.mono (by simp))
  have x0 := (hb1.cell (p := ⟨w.heap.size, 0, none⟩) (by simp)).trans (blk_cell' w _ _ (k := 0) rfl)
  have x3 := (hb1.cell (p := ⟨w.heap.size, 3, none⟩) (by simp)).trans (blk_cell' w _ _ (k := 3) rfl)
  clear hb1
  go_wp2_with fail
  refine (wire_names _ _).mono ?_
  rintro e w2 ⟨rfl, rfl⟩
  rw [show namesK 5 = 4 by decide]
  have ho : (w1.alloc (.cells #[.int .u8 80, .int .u8 5] 5)).ownsRow (w.heap.size + 1) 5 1 (.slice (some ⟨w1.heap.size, 0, none⟩) 2 2) 2 (([80, 5] : List UInt8).map byteV) := own_two hB 80 5
  have hX : Below (w.heap.size + 1) w1 (w1.alloc (.cells #[.int .u8 80, .int .u8 5] 5)) := (Below.refl _ w1).alloc hB _
  have y3 := (hX.cell (p := ⟨w.heap.size, 3, none⟩) (by simp)).trans x3
  go_wp2_with fail
  refine (wire_put2 ho (Nat.le_trans hB hX.size) (by omega) ak hak).mono ?_
  rintro e w3 ⟨v3, rfl, hq3, hb3⟩
  have ho3 := own_list (l := [80, 5]) (r := be2 ak) hq3
  have hX3 := hX.trans hb3
  clear ho hX hq3 hb3 y3
  have y3 := (hX3.cell (p := ⟨w.heap.size, 3, none⟩) (by simp)).trans x3
  have hoR := ho3
  rw [← HRR.out] at hoR
  have hcv := conv_own R hoR
  clear hoR
  go_wp2_with fail
  refine (sum_Seal ⟨R.toArray⟩ (by rw [wsz]; have := Hlen.out; omega) _).mono ?_
  rintro e w9 ⟨rfl, hb9⟩
  have hfin : Below w.heap.size w w9 := (hW.trans (hX3.mono (by omega))).trans (hb9.mono (Nat.le_trans hW.size (hX3.size)))
  clear hb9 ho3 hX3 hcv hW
  go_wp2_with fail
  go_ret2
  exact ⟨by simp, hfin⟩
set_option maxHeartbeats 2000000 in
theorem pack_k6 (n s ak u l : Int) (i : List UInt8) (h : IsBytes w a c i) (hr : RightP ⟨6, n, s, ak, i, u, l⟩) (hs : 0 ≤ s ∧ s < 65536) :
    Calls Try.prog 33 #[.agg #[.int .i64 6, .int .u32 n, .int .u16 s, .int .u16 ak, .slice a i.length c, .int .u32 u, .int .i64 l]] w fun e w' => e = .returned (.tuple #[.string ⟨(packM ⟨6, n, s, ak, i, u, l⟩).toArray⟩, .int .i64 0]) ∧ Below w.heap.size w w' := by
  have hR := wire_RightM (m := ⟨6, n, s, ak, i, u, l⟩) (h.keeps ((Keeps.refl (fun _ => False) w).alloc (.cells #[.int .i64 6, .int .u32 n, .int .u16 s, .int .u16 ak, .slice a i.length c, .int .u32 u, .int .i64 l] 49)) (fun _ _ _ => id))
  rw [decide_eq_true hr] at hR
  have HR := hid hR
  have hlen := raw_len _ hr
  have Hlead := hid hr.2.2.1
  have hraw : rawM ⟨6, n, s, ak, i, u, l⟩ = [80, 6] ++ be2 s ++ num (zz l) := by simp [rawM, bodyM]
  unfold packM
  obtain ⟨R, hRR⟩ : ∃ R, rawM ⟨6, n, s, ak, i, u, l⟩ = R := ⟨_, rfl⟩
  rw [hRR] at hlen hraw ⊢
  have HRR := hid hraw
  have Hlen := hid hlen
  clear hR hr hlen hraw hRR
  go_enter Try.func33, Try.ntmps33
  go_wp2_with fail
  refine HR.out.mono ?_
  rintro e w1 ⟨rfl, hb1⟩
  have hB : w.heap.size + 1 ≤ w1.heap.size := by have := hb1.size; simpa using this
  have hW : Below w.heap.size w w1 := ((Below.refl _ w).alloc (Nat.le_refl _) _).trans (hb1.mono (by simp))
  have x0 := (hb1.cell (p := ⟨w.heap.size, 0, none⟩) (by simp)).trans (blk_cell' w _ _ (k := 0) rfl)
  have x2 := (hb1.cell (p := ⟨w.heap.size, 2, none⟩) (by simp)).trans (blk_cell' w _ _ (k := 2) rfl)
  have x6 := (hb1.cell (p := ⟨w.heap.size, 6, none⟩) (by simp)).trans (blk_cell' w _ _ (k := 6) rfl)
  clear hb1
  go_wp2_with fail
  refine (wire_names _ _).mono ?_
  rintro e w2 ⟨rfl, rfl⟩
  rw [show namesK 6 = 34 by decide]
  have ho : (w1.alloc (.cells #[.int .u8 80, .int .u8 6] 5)).ownsRow (w.heap.size + 1) 5 1 (.slice (some ⟨w1.heap.size, 0, none⟩) 2 2) 2 (([80, 6] : List UInt8).map byteV) := own_two hB 80 6
  have hX : Below (w.heap.size + 1) w1 (w1.alloc (.cells #[.int .u8 80, .int .u8 6] 5)) := (Below.refl _ w1).alloc hB _
  have y2 := (hX.cell (p := ⟨w.heap.size, 2, none⟩) (by simp)).trans x2
  have y6 := (hX.cell (p := ⟨w.heap.size, 6, none⟩) (by simp)).trans x6
  go_wp2_with fail
  refine (wire_put2 ho (Nat.le_trans hB hX.size) (by omega) s hs).mono ?_
  rintro e w3 ⟨v3, rfl, hq3, hb3⟩
  have ho3 := own_list (l := [80, 6]) (r := be2 s) hq3
  have hX3 := hX.trans hb3
  clear ho hX hq3 hb3 y2 y6
  have y2 := (hX3.cell (p := ⟨w.heap.size, 2, none⟩) (by simp)).trans x2
  have y6 := (hX3.cell (p := ⟨w.heap.size, 6, none⟩) (by simp)).trans x6
  go_wp2_with fail
  refine (pack_Signed l (by have := Hlead.out; omega) _).mono ?_
  rintro e w4 ⟨rfl, hb4⟩
  have hX4 := hX3.trans (hb4.mono (Nat.le_trans hB hX3.size))
  have hp4 := own_keeps ho3 (Keeps.of_below (S := fun _ => False) hb4 (fun k h1 h2 => by omega)) (fun _ _ => id)
  clear ho3 hX3 y2 y6 hb4
  have hq : (⟨(num (zz l)).toArray⟩ : ByteArray).size ≤ 138 := by rw [wsz]; have := zz_small l Hlead.out; omega
  obtain ⟨i0, hi, hz0, hz1, hz2⟩ := info_parts info_u8
  have Hi := hid hi
  clear hi
  go_wp2_with (at_builtin; refine Lib.wpList_append_own_string _ rfl (.tmp 64) (.tmp 67) 35 9 rfl (w.heap.size + 1) 5 i0 Try.underlying35 Try.underlying9 Hi.out hz0 hz1 hz2 _ (2 + 2) _ rfl hp4 ⟨(num (zz l)).toArray⟩ rfl (by unfold maxLen; omega) (by omega) (Nat.le_trans hB hX4.size) ?_)
  intro v8 w8 ho8 hg8 _
  rw [strCells_list] at ho8
  have ho9 := own_list (l := [80, 6] ++ be2 s) (r := num (zz l)) ho8
  have hX9 : Below (w.heap.size + 1) w1 w8 := hX4.grown hg8 (Nat.le_trans hB hX4.size) (fun k e => (hp4.lt k e).1)
  clear ho8 hg8 hp4 hX4 hq
  have hoR := ho9
  rw [← HRR.out] at hoR
  have hcv := conv_own R hoR
  clear hoR
  go_wp2_with fail
  refine (sum_Seal ⟨R.toArray⟩ (by rw [wsz]; have := Hlen.out; omega) _).mono ?_
  rintro e w9 ⟨rfl, hb9⟩
  have hfin : Below w.heap.size w w9 := (hW.trans (hX9.mono (by omega))).trans (hb9.mono (Nat.le_trans hW.size (hX9.size)))
  clear hb9 ho9 hX9 hcv hW
  go_wp2_with fail
  go_ret2
  exact ⟨by simp, hfin⟩
set_option maxHeartbeats 2000000 in
theorem pack_k7 (n s ak u l : Int) (i : List UInt8) (h : IsBytes w a c i) (hr : RightP ⟨7, n, s, ak, i, u, l⟩) :
    Calls Try.prog 33 #[.agg #[.int .i64 7, .int .u32 n, .int .u16 s, .int .u16 ak, .slice a i.length c, .int .u32 u, .int .i64 l]] w fun e w' => e = .returned (.tuple #[.string ⟨(packM ⟨7, n, s, ak, i, u, l⟩).toArray⟩, .int .i64 0]) ∧ Below w.heap.size w w' := by
  have hR := wire_RightM (m := ⟨7, n, s, ak, i, u, l⟩) (h.keeps ((Keeps.refl (fun _ => False) w).alloc (.cells #[.int .i64 7, .int .u32 n, .int .u16 s, .int .u16 ak, .slice a i.length c, .int .u32 u, .int .i64 l] 49)) (fun _ _ _ => id))
  rw [decide_eq_true hr] at hR
  have HR := hid hR
  have hlen := raw_len _ hr
  have hraw : rawM ⟨7, n, s, ak, i, u, l⟩ = [80, 7] := by simp [rawM, bodyM]
  unfold packM
  obtain ⟨R, hRR⟩ : ∃ R, rawM ⟨7, n, s, ak, i, u, l⟩ = R := ⟨_, rfl⟩
  rw [hRR] at hlen hraw ⊢
  have HRR := hid hraw
  have Hlen := hid hlen
  clear hR hr hlen hraw hRR
  go_enter Try.func33, Try.ntmps33
  go_wp2_with fail
  refine HR.out.mono ?_
  rintro e w1 ⟨rfl, hb1⟩
  have hB : w.heap.size + 1 ≤ w1.heap.size := by have := hb1.size; simpa using this
  have hW : Below w.heap.size w w1 := ((Below.refl _ w).alloc (Nat.le_refl _) _).trans (hb1.mono (by simp))
  have x0 := (hb1.cell (p := ⟨w.heap.size, 0, none⟩) (by simp)).trans (blk_cell' w _ _ (k := 0) rfl)
  clear hb1
  go_wp2_with fail
  refine (wire_names _ _).mono ?_
  rintro e w2 ⟨rfl, rfl⟩
  rw [show namesK 7 = 0 by decide]
  have ho : (w1.alloc (.cells #[.int .u8 80, .int .u8 7] 5)).ownsRow (w.heap.size + 1) 5 1 (.slice (some ⟨w1.heap.size, 0, none⟩) 2 2) 2 (([80, 7] : List UInt8).map byteV) := own_two hB 80 7
  have hX : Below (w.heap.size + 1) w1 (w1.alloc (.cells #[.int .u8 80, .int .u8 7] 5)) := (Below.refl _ w1).alloc hB _
  have hoR := ho
  rw [← HRR.out] at hoR
  have hcv := conv_own R hoR
  clear hoR
  go_wp2_with fail
  refine (sum_Seal ⟨R.toArray⟩ (by rw [wsz]; have := Hlen.out; omega) _).mono ?_
  rintro e w9 ⟨rfl, hb9⟩
  have hfin : Below w.heap.size w w9 := (hW.trans (hX.mono (by omega))).trans (hb9.mono (Nat.le_trans hW.size (hX.size)))
  clear hb9 ho hX hcv hW
  go_wp2_with fail
  go_ret2
  exact ⟨by simp, hfin⟩
end Go.Proofs.Ytaobhbfhbmenfaa
