/- A datagram's bytes, by the reference. -/
import Derived.Test.YtaobhbfhbmenfaaWire4
import Derived.Test.YtaobhbfhbmenfaaWire5
import Derived.Test.YtaobhbfhbmenfaaRefRun
namespace Go.Proofs.Ytaobhbfhbmenfaa
open Go.RowKit
set_option maxRecDepth 10000
variable {w : World} {a : Option Addr} {c : Nat}
theorem add_lists (A B C : List UInt8) (h : C = A ++ B) (hl : C.length ≤ 9223372036854775807) (w : World) : (Op.stringOp .add ⟨A.toArray⟩ ⟨B.toArray⟩).run Try.prog w = .ok (.string ⟨C.toArray⟩) w := by
  subst h
  exact add_strings w A B (by simpa using hl)
set_option maxHeartbeats 2000000 in
theorem refpack_k1 (n s ak u l : Int) (i : List UInt8) (hr : RightP ⟨1, n, s, ak, i, u, l⟩) (hn : 0 ≤ n ∧ n < 4294967296) :
    Calls Try.prog 18 #[.agg #[.int .i64 1, .int .u32 n, .int .u16 s, .int .u16 ak, .slice a i.length c, .int .u32 u, .int .i64 l]] w fun e w' => e = .returned (.string ⟨(packM ⟨1, n, s, ak, i, u, l⟩).toArray⟩) ∧ Below w.heap.size w w' := by
  have hlen := raw_len _ hr
  have hraw : rawM ⟨1, n, s, ak, i, u, l⟩ = [80, 1] ++ tail4 n := by simp [rawM, bodyM]
  unfold packM
  rw [hraw] at hlen ⊢
  have hcv := conv_own [80, 1] (own_two (w := w.alloc (.cells #[.int .i64 1, .int .u32 n, .int .u16 s, .int .u16 ak, .slice a i.length c, .int .u32 u, .int .i64 l] 49)) (base := 0) (Nat.zero_le _) 80 1)
  rw [World.size_alloc] at hcv
  have hc0 := fun W => ref_Word4 n hn W
  obtain ⟨L0, e0⟩ : ∃ L0 : List UInt8, [80, 1] = L0 := ⟨_, rfl⟩
  rw [e0] at hcv hlen ⊢
  obtain ⟨R0, r0⟩ : ∃ R, tail4 n = R := ⟨_, rfl⟩
  rw [r0] at hc0 hlen ⊢
  obtain ⟨L1, e1⟩ : ∃ L, L0 ++ R0 = L := ⟨_, rfl⟩
  rw [e1] at hlen ⊢
  have l1 : L1.length ≤ 144 := by exact hlen
  have a1 := add_lists L0 R0 L1 e1.symm (by omega)
  have HC0 := hid hc0
  have Hl := hid l1
  clear hlen hraw hr hc0 r0 e1 e0 l1
  go_enter Try.func18, Try.ntmps18
  go_wp2_with fail
  refine (HC0.out _).mono ?_
  rintro e w3 ⟨rfl, hb3⟩
  have hW : Below w.heap.size w w3 := (((Below.refl _ w).alloc (Nat.le_refl _) _).alloc (by simp) _).trans (hb3.mono (by simp; omega))
  clear hb3
  go_wp2_with fail
  refine (ref_Seal ⟨L1.toArray⟩ (by rw [wsz]; have := Hl.out; omega) _).mono ?_
  rintro e w9 ⟨rfl, hb9⟩
  have hfin : Below w.heap.size w w9 := hW.trans (hb9.mono hW.size)
  clear hb9 hW
  go_wp2_with fail
  go_ret
  exact ⟨by simp, hfin⟩
set_option maxHeartbeats 2000000 in
theorem refpack_k2 (n s ak u l : Int) (i : List UInt8) (hr : RightP ⟨2, n, s, ak, i, u, l⟩) (hn : 0 ≤ n ∧ n < 4294967296) :
    Calls Try.prog 18 #[.agg #[.int .i64 2, .int .u32 n, .int .u16 s, .int .u16 ak, .slice a i.length c, .int .u32 u, .int .i64 l]] w fun e w' => e = .returned (.string ⟨(packM ⟨2, n, s, ak, i, u, l⟩).toArray⟩) ∧ Below w.heap.size w w' := by
  have hlen := raw_len _ hr
  have hraw : rawM ⟨2, n, s, ak, i, u, l⟩ = [80, 2] ++ tail4 n := by simp [rawM, bodyM]
  unfold packM
  rw [hraw] at hlen ⊢
  have hcv := conv_own [80, 2] (own_two (w := w.alloc (.cells #[.int .i64 2, .int .u32 n, .int .u16 s, .int .u16 ak, .slice a i.length c, .int .u32 u, .int .i64 l] 49)) (base := 0) (Nat.zero_le _) 80 2)
  rw [World.size_alloc] at hcv
  have hc0 := fun W => ref_Word4 n hn W
  obtain ⟨L0, e0⟩ : ∃ L0 : List UInt8, [80, 2] = L0 := ⟨_, rfl⟩
  rw [e0] at hcv hlen ⊢
  obtain ⟨R0, r0⟩ : ∃ R, tail4 n = R := ⟨_, rfl⟩
  rw [r0] at hc0 hlen ⊢
  obtain ⟨L1, e1⟩ : ∃ L, L0 ++ R0 = L := ⟨_, rfl⟩
  rw [e1] at hlen ⊢
  have l1 : L1.length ≤ 144 := by exact hlen
  have a1 := add_lists L0 R0 L1 e1.symm (by omega)
  have HC0 := hid hc0
  have Hl := hid l1
  clear hlen hraw hr hc0 r0 e1 e0 l1
  go_enter Try.func18, Try.ntmps18
  go_wp2_with fail
  refine (HC0.out _).mono ?_
  rintro e w3 ⟨rfl, hb3⟩
  have hW : Below w.heap.size w w3 := (((Below.refl _ w).alloc (Nat.le_refl _) _).alloc (by simp) _).trans (hb3.mono (by simp; omega))
  clear hb3
  go_wp2_with fail
  refine (ref_Seal ⟨L1.toArray⟩ (by rw [wsz]; have := Hl.out; omega) _).mono ?_
  rintro e w9 ⟨rfl, hb9⟩
  have hfin : Below w.heap.size w w9 := hW.trans (hb9.mono hW.size)
  clear hb9 hW
  go_wp2_with fail
  go_ret
  exact ⟨by simp, hfin⟩
set_option maxHeartbeats 2000000 in
theorem refpack_k3 (n s ak u l : Int) (i : List UInt8) (h : IsBytes w a c i) (hr : RightP ⟨3, n, s, ak, i, u, l⟩) (hs : 0 ≤ s ∧ s < 65536) (hak : 0 ≤ ak ∧ ak < 65536) :
    Calls Try.prog 18 #[.agg #[.int .i64 3, .int .u32 n, .int .u16 s, .int .u16 ak, .slice a i.length c, .int .u32 u, .int .i64 l]] w fun e w' => e = .returned (.string ⟨(packM ⟨3, n, s, ak, i, u, l⟩).toArray⟩) ∧ Below w.heap.size w w' := by
  have hlen := raw_len _ hr
  have hraw : rawM ⟨3, n, s, ak, i, u, l⟩ = [80, 3] ++ be2 s ++ be2 ak ++ runBytes i := by simp [rawM, bodyM]
  unfold packM
  rw [hraw] at hlen ⊢
  have hcv := conv_own [80, 3] (own_two (w := w.alloc (.cells #[.int .i64 3, .int .u32 n, .int .u16 s, .int .u16 ak, .slice a i.length c, .int .u32 u, .int .i64 l] 49)) (base := 0) (Nat.zero_le _) 80 3)
  rw [World.size_alloc] at hcv
  have hc0 := fun W => ref_Word2 s hs W
  have hc1 := fun W => ref_Word2 ak hak W
  have hc2 := fun (x : After ((w.alloc (.cells #[.int .i64 3, .int .u32 n, .int .u16 s, .int .u16 ak, .slice a i.length c, .int .u32 u, .int .i64 l] 49)).alloc (.cells #[.int .u8 80, .int .u8 3] 5))) => ref_Run x.to a c i ((h.keeps (((Keeps.refl (fun _ => False) w).alloc (.cells #[.int .i64 3, .int .u32 n, .int .u16 s, .int .u16 ak, .slice a i.length c, .int .u32 u, .int .i64 l] 49)).alloc (.cells #[.int .u8 80, .int .u8 3] 5)) (fun _ _ _ => id)).after x) (by have := hr.2.1; unfold fits at this; simp only [Bool.and_eq_true, decide_eq_true_eq] at this; exact this.2)
  obtain ⟨L0, e0⟩ : ∃ L0 : List UInt8, [80, 3] = L0 := ⟨_, rfl⟩
  rw [e0] at hcv hlen ⊢
  obtain ⟨R0, r0⟩ : ∃ R, be2 s = R := ⟨_, rfl⟩
  rw [r0] at hc0 hlen ⊢
  obtain ⟨L1, e1⟩ : ∃ L, L0 ++ R0 = L := ⟨_, rfl⟩
  rw [e1] at hlen ⊢
  obtain ⟨R1, r1⟩ : ∃ R, be2 ak = R := ⟨_, rfl⟩
  rw [r1] at hc1 hlen ⊢
  obtain ⟨L2, e2⟩ : ∃ L, L1 ++ R1 = L := ⟨_, rfl⟩
  rw [e2] at hlen ⊢
  obtain ⟨R2, r2⟩ : ∃ R, runBytes i = R := ⟨_, rfl⟩
  rw [r2] at hc2 hlen ⊢
  obtain ⟨L3, e3⟩ : ∃ L, L2 ++ R2 = L := ⟨_, rfl⟩
  rw [e3] at hlen ⊢
  have l3 : L3.length ≤ 144 := by exact hlen
  have l2 : L2.length ≤ 144 := by have := l3; rw [← e3] at this; simp at this; omega
  have l1 : L1.length ≤ 144 := by have := l2; rw [← e2] at this; simp at this; omega
  have a1 := add_lists L0 R0 L1 e1.symm (by omega)
  have a2 := add_lists L1 R1 L2 e2.symm (by omega)
  have a3 := add_lists L2 R2 L3 e3.symm (by omega)
  have HC0 := hid hc0
  have HC1 := hid hc1
  have HC2 := hid hc2
  have Hl := hid l3
  clear hlen hraw hr hc0 hc1 hc2 r0 e1 r1 e2 r2 e3 e0 l1 l2 l3
  have y2 : ∀ x : After ((w.alloc (.cells #[.int .i64 3, .int .u32 n, .int .u16 s, .int .u16 ak, .slice a i.length c, .int .u32 u, .int .i64 l] 49)).alloc (.cells #[.int .u8 80, .int .u8 3] 5)), x.to.cell? ⟨w.heap.size, 2, none⟩ = some (.int .u16 s) := fun x => (x.below.cell (p := ⟨w.heap.size, 2, none⟩) (by simp; omega)).trans (cell_past (blk_cell' w _ _ (k := 2) rfl) _)
  have y3 : ∀ x : After ((w.alloc (.cells #[.int .i64 3, .int .u32 n, .int .u16 s, .int .u16 ak, .slice a i.length c, .int .u32 u, .int .i64 l] 49)).alloc (.cells #[.int .u8 80, .int .u8 3] 5)), x.to.cell? ⟨w.heap.size, 3, none⟩ = some (.int .u16 ak) := fun x => (x.below.cell (p := ⟨w.heap.size, 3, none⟩) (by simp; omega)).trans (cell_past (blk_cell' w _ _ (k := 3) rfl) _)
  have y4 : ∀ x : After ((w.alloc (.cells #[.int .i64 3, .int .u32 n, .int .u16 s, .int .u16 ak, .slice a i.length c, .int .u32 u, .int .i64 l] 49)).alloc (.cells #[.int .u8 80, .int .u8 3] 5)), x.to.cell? ⟨w.heap.size, 4, none⟩ = some (.slice a i.length c) := fun x => (x.below.cell (p := ⟨w.heap.size, 4, none⟩) (by simp; omega)).trans (cell_past (blk_cell' w _ _ (k := 4) rfl) _)
  go_enter Try.func18, Try.ntmps18
  go_wp2_with fail
  refine wp_region_after (by kernel_rfl) (by kernel_rfl) ?_
  repeat (go_big_quiet_step (first | (go_at_call 34; (with_reducible exact Calls.after_of (HC0.out _))) | (go_at_call 34; (with_reducible exact Calls.after_of (HC1.out _))) | (go_at_call 35; (with_reducible exact Calls.after_of (HC2.out _)))))
  refine wpQuiet_nil ?_
  intro _ hw2
  obtain ⟨x, hw3⟩ := hw2
  subst hw3
  have hW : Below w.heap.size w x.to := (((Below.refl _ w).alloc (Nat.le_refl _) _).alloc (by simp) _).trans (x.below.mono (by simp; omega))
  go_wp2_with fail
  refine (ref_Seal ⟨L3.toArray⟩ (by rw [wsz]; have := Hl.out; omega) _).mono ?_
  rintro e w9 ⟨rfl, hb9⟩
  have hfin : Below w.heap.size w w9 := hW.trans (hb9.mono hW.size)
  clear hb9 hW
  go_wp2_with fail
  go_ret
  exact ⟨by simp, hfin⟩
set_option maxHeartbeats 2000000 in
theorem refpack_k4 (n s ak u l : Int) (i : List UInt8) (hr : RightP ⟨4, n, s, ak, i, u, l⟩) (hs : 0 ≤ s ∧ s < 65536) (hu : 0 ≤ u ∧ u < 4294967296) :
    Calls Try.prog 18 #[.agg #[.int .i64 4, .int .u32 n, .int .u16 s, .int .u16 ak, .slice a i.length c, .int .u32 u, .int .i64 l]] w fun e w' => e = .returned (.string ⟨(packM ⟨4, n, s, ak, i, u, l⟩).toArray⟩) ∧ Below w.heap.size w w' := by
  have hlen := raw_len _ hr
  have hraw : rawM ⟨4, n, s, ak, i, u, l⟩ = [80, 4] ++ be2 s ++ tail4 u := by simp [rawM, bodyM]
  unfold packM
  rw [hraw] at hlen ⊢
  have hcv := conv_own [80, 4] (own_two (w := w.alloc (.cells #[.int .i64 4, .int .u32 n, .int .u16 s, .int .u16 ak, .slice a i.length c, .int .u32 u, .int .i64 l] 49)) (base := 0) (Nat.zero_le _) 80 4)
  rw [World.size_alloc] at hcv
  have hc0 := fun W => ref_Word2 s hs W
  have hc1 := fun W => ref_Word4 u hu W
  obtain ⟨L0, e0⟩ : ∃ L0 : List UInt8, [80, 4] = L0 := ⟨_, rfl⟩
  rw [e0] at hcv hlen ⊢
  obtain ⟨R0, r0⟩ : ∃ R, be2 s = R := ⟨_, rfl⟩
  rw [r0] at hc0 hlen ⊢
  obtain ⟨L1, e1⟩ : ∃ L, L0 ++ R0 = L := ⟨_, rfl⟩
  rw [e1] at hlen ⊢
  obtain ⟨R1, r1⟩ : ∃ R, tail4 u = R := ⟨_, rfl⟩
  rw [r1] at hc1 hlen ⊢
  obtain ⟨L2, e2⟩ : ∃ L, L1 ++ R1 = L := ⟨_, rfl⟩
  rw [e2] at hlen ⊢
  have l2 : L2.length ≤ 144 := by exact hlen
  have l1 : L1.length ≤ 144 := by have := l2; rw [← e2] at this; simp at this; omega
  have a1 := add_lists L0 R0 L1 e1.symm (by omega)
  have a2 := add_lists L1 R1 L2 e2.symm (by omega)
  have HC0 := hid hc0
  have HC1 := hid hc1
  have Hl := hid l2
  clear hlen hraw hr hc0 hc1 r0 e1 r1 e2 e0 l1 l2
  have y2 : ∀ x : After ((w.alloc (.cells #[.int .i64 4, .int .u32 n, .int .u16 s, .int .u16 ak, .slice a i.length c, .int .u32 u, .int .i64 l] 49)).alloc (.cells #[.int .u8 80, .int .u8 4] 5)), x.to.cell? ⟨w.heap.size, 2, none⟩ = some (.int .u16 s) := fun x => (x.below.cell (p := ⟨w.heap.size, 2, none⟩) (by simp; omega)).trans (cell_past (blk_cell' w _ _ (k := 2) rfl) _)
  have y5 : ∀ x : After ((w.alloc (.cells #[.int .i64 4, .int .u32 n, .int .u16 s, .int .u16 ak, .slice a i.length c, .int .u32 u, .int .i64 l] 49)).alloc (.cells #[.int .u8 80, .int .u8 4] 5)), x.to.cell? ⟨w.heap.size, 5, none⟩ = some (.int .u32 u) := fun x => (x.below.cell (p := ⟨w.heap.size, 5, none⟩) (by simp; omega)).trans (cell_past (blk_cell' w _ _ (k := 5) rfl) _)
  go_enter Try.func18, Try.ntmps18
  go_wp2_with fail
  refine wp_region_after (by kernel_rfl) (by kernel_rfl) ?_
  repeat (go_big_quiet_step (first | (go_at_call 34; (with_reducible exact Calls.after_of (HC0.out _))) | (go_at_call 34; (with_reducible exact Calls.after_of (HC1.out _)))))
  refine wpQuiet_nil ?_
  intro _ hw2
  obtain ⟨x, hw3⟩ := hw2
  subst hw3
  have hW : Below w.heap.size w x.to := (((Below.refl _ w).alloc (Nat.le_refl _) _).alloc (by simp) _).trans (x.below.mono (by simp; omega))
  go_wp2_with fail
  refine (ref_Seal ⟨L2.toArray⟩ (by rw [wsz]; have := Hl.out; omega) _).mono ?_
  rintro e w9 ⟨rfl, hb9⟩
  have hfin : Below w.heap.size w w9 := hW.trans (hb9.mono hW.size)
  clear hb9 hW
  go_wp2_with fail
  go_ret
  exact ⟨by simp, hfin⟩
set_option maxHeartbeats 2000000 in
theorem refpack_k5 (n s ak u l : Int) (i : List UInt8) (hr : RightP ⟨5, n, s, ak, i, u, l⟩) (hak : 0 ≤ ak ∧ ak < 65536) :
    Calls Try.prog 18 #[.agg #[.int .i64 5, .int .u32 n, .int .u16 s, .int .u16 ak, .slice a i.length c, .int .u32 u, .int .i64 l]] w fun e w' => e = .returned (.string ⟨(packM ⟨5, n, s, ak, i, u, l⟩).toArray⟩) ∧ Below w.heap.size w w' := by
  have hlen := raw_len _ hr
  have hraw : rawM ⟨5, n, s, ak, i, u, l⟩ = [80, 5] ++ be2 ak := by simp [rawM, bodyM]
  unfold packM
  rw [hraw] at hlen ⊢
  have hcv := conv_own [80, 5] (own_two (w := w.alloc (.cells #[.int .i64 5, .int .u32 n, .int .u16 s, .int .u16 ak, .slice a i.length c, .int .u32 u, .int .i64 l] 49)) (base := 0) (Nat.zero_le _) 80 5)
  rw [World.size_alloc] at hcv
  have hc0 := fun W => ref_Word2 ak hak W
  obtain ⟨L0, e0⟩ : ∃ L0 : List UInt8, [80, 5] = L0 := ⟨_, rfl⟩
  rw [e0] at hcv hlen ⊢
  obtain ⟨R0, r0⟩ : ∃ R, be2 ak = R := ⟨_, rfl⟩
  rw [r0] at hc0 hlen ⊢
  obtain ⟨L1, e1⟩ : ∃ L, L0 ++ R0 = L := ⟨_, rfl⟩
  rw [e1] at hlen ⊢
  have l1 : L1.length ≤ 144 := by exact hlen
  have a1 := add_lists L0 R0 L1 e1.symm (by omega)
  have HC0 := hid hc0
  have Hl := hid l1
  clear hlen hraw hr hc0 r0 e1 e0 l1
  go_enter Try.func18, Try.ntmps18
  go_wp2_with fail
  refine (HC0.out _).mono ?_
  rintro e w3 ⟨rfl, hb3⟩
  have hW : Below w.heap.size w w3 := (((Below.refl _ w).alloc (Nat.le_refl _) _).alloc (by simp) _).trans (hb3.mono (by simp; omega))
  clear hb3
  go_wp2_with fail
  refine (ref_Seal ⟨L1.toArray⟩ (by rw [wsz]; have := Hl.out; omega) _).mono ?_
  rintro e w9 ⟨rfl, hb9⟩
  have hfin : Below w.heap.size w w9 := hW.trans (hb9.mono hW.size)
  clear hb9 hW
  go_wp2_with fail
  go_ret
  exact ⟨by simp, hfin⟩
set_option maxHeartbeats 2000000 in
theorem refpack_k6 (n s ak u l : Int) (i : List UInt8) (hr : RightP ⟨6, n, s, ak, i, u, l⟩) (hs : 0 ≤ s ∧ s < 65536) :
    Calls Try.prog 18 #[.agg #[.int .i64 6, .int .u32 n, .int .u16 s, .int .u16 ak, .slice a i.length c, .int .u32 u, .int .i64 l]] w fun e w' => e = .returned (.string ⟨(packM ⟨6, n, s, ak, i, u, l⟩).toArray⟩) ∧ Below w.heap.size w w' := by
  have hlen := raw_len _ hr
  have hraw : rawM ⟨6, n, s, ak, i, u, l⟩ = [80, 6] ++ be2 s ++ num (zz l) := by simp [rawM, bodyM]
  unfold packM
  rw [hraw] at hlen ⊢
  have hcv := conv_own [80, 6] (own_two (w := w.alloc (.cells #[.int .i64 6, .int .u32 n, .int .u16 s, .int .u16 ak, .slice a i.length c, .int .u32 u, .int .i64 l] 49)) (base := 0) (Nat.zero_le _) 80 6)
  rw [World.size_alloc] at hcv
  have hc0 := fun W => ref_Word2 s hs W
  have hc1 := fun W => ref_Signed l (by have := hr.2.2.1; simp only at this; omega) W
  obtain ⟨L0, e0⟩ : ∃ L0 : List UInt8, [80, 6] = L0 := ⟨_, rfl⟩
  rw [e0] at hcv hlen ⊢
  obtain ⟨R0, r0⟩ : ∃ R, be2 s = R := ⟨_, rfl⟩
  rw [r0] at hc0 hlen ⊢
  obtain ⟨L1, e1⟩ : ∃ L, L0 ++ R0 = L := ⟨_, rfl⟩
  rw [e1] at hlen ⊢
  obtain ⟨R1, r1⟩ : ∃ R, num (zz l) = R := ⟨_, rfl⟩
  rw [r1] at hc1 hlen ⊢
  obtain ⟨L2, e2⟩ : ∃ L, L1 ++ R1 = L := ⟨_, rfl⟩
  rw [e2] at hlen ⊢
  have l2 : L2.length ≤ 144 := by exact hlen
  have l1 : L1.length ≤ 144 := by have := l2; rw [← e2] at this; simp at this; omega
  have a1 := add_lists L0 R0 L1 e1.symm (by omega)
  have a2 := add_lists L1 R1 L2 e2.symm (by omega)
  have HC0 := hid hc0
  have HC1 := hid hc1
  have Hl := hid l2
  clear hlen hraw hr hc0 hc1 r0 e1 r1 e2 e0 l1 l2
  have y2 : ∀ x : After ((w.alloc (.cells #[.int .i64 6, .int .u32 n, .int .u16 s, .int .u16 ak, .slice a i.length c, .int .u32 u, .int .i64 l] 49)).alloc (.cells #[.int .u8 80, .int .u8 6] 5)), x.to.cell? ⟨w.heap.size, 2, none⟩ = some (.int .u16 s) := fun x => (x.below.cell (p := ⟨w.heap.size, 2, none⟩) (by simp; omega)).trans (cell_past (blk_cell' w _ _ (k := 2) rfl) _)
  have y6 : ∀ x : After ((w.alloc (.cells #[.int .i64 6, .int .u32 n, .int .u16 s, .int .u16 ak, .slice a i.length c, .int .u32 u, .int .i64 l] 49)).alloc (.cells #[.int .u8 80, .int .u8 6] 5)), x.to.cell? ⟨w.heap.size, 6, none⟩ = some (.int .i64 l) := fun x => (x.below.cell (p := ⟨w.heap.size, 6, none⟩) (by simp; omega)).trans (cell_past (blk_cell' w _ _ (k := 6) rfl) _)
  go_enter Try.func18, Try.ntmps18
  go_wp2_with fail
  refine wp_region_after (by kernel_rfl) (by kernel_rfl) ?_
  repeat (go_big_quiet_step (first | (go_at_call 34; (with_reducible exact Calls.after_of (HC0.out _))) | (go_at_call 36; (with_reducible exact Calls.after_of (HC1.out _)))))
  refine wpQuiet_nil ?_
  intro _ hw2
  obtain ⟨x, hw3⟩ := hw2
  subst hw3
  have hW : Below w.heap.size w x.to := (((Below.refl _ w).alloc (Nat.le_refl _) _).alloc (by simp) _).trans (x.below.mono (by simp; omega))
  go_wp2_with fail
  refine (ref_Seal ⟨L2.toArray⟩ (by rw [wsz]; have := Hl.out; omega) _).mono ?_
  rintro e w9 ⟨rfl, hb9⟩
  have hfin : Below w.heap.size w w9 := hW.trans (hb9.mono hW.size)
  clear hb9 hW
  go_wp2_with fail
  go_ret
  exact ⟨by simp, hfin⟩
set_option maxHeartbeats 2000000 in
theorem refpack_k7 (n s ak u l : Int) (i : List UInt8) (hr : RightP ⟨7, n, s, ak, i, u, l⟩) :
    Calls Try.prog 18 #[.agg #[.int .i64 7, .int .u32 n, .int .u16 s, .int .u16 ak, .slice a i.length c, .int .u32 u, .int .i64 l]] w fun e w' => e = .returned (.string ⟨(packM ⟨7, n, s, ak, i, u, l⟩).toArray⟩) ∧ Below w.heap.size w w' := by
  have hlen := raw_len _ hr
  have hraw : rawM ⟨7, n, s, ak, i, u, l⟩ = [80, 7] := by simp [rawM, bodyM]
  unfold packM
  rw [hraw] at hlen ⊢
  have hcv := conv_own [80, 7] (own_two (w := w.alloc (.cells #[.int .i64 7, .int .u32 n, .int .u16 s, .int .u16 ak, .slice a i.length c, .int .u32 u, .int .i64 l] 49)) (base := 0) (Nat.zero_le _) 80 7)
  rw [World.size_alloc] at hcv
  obtain ⟨L0, e0⟩ : ∃ L0 : List UInt8, [80, 7] = L0 := ⟨_, rfl⟩
  rw [e0] at hcv hlen ⊢
  have l0 : L0.length ≤ 144 := hlen
  have Hl := hid l0
  clear hlen hraw hr   e0 l0
  go_enter Try.func18, Try.ntmps18
  go_wp2_with fail
  have hW : Below w.heap.size w ((w.alloc (.cells #[.int .i64 7, .int .u32 n, .int .u16 s, .int .u16 ak, .slice a i.length c, .int .u32 u, .int .i64 l] 49)).alloc (.cells #[.int .u8 80, .int .u8 7] 5)) := ((Below.refl _ w).alloc (Nat.le_refl _) _).alloc (by simp) _
  refine (ref_Seal ⟨L0.toArray⟩ (by rw [wsz]; have := Hl.out; omega) _).mono ?_
  rintro e w9 ⟨rfl, hb9⟩
  have hfin : Below w.heap.size w w9 := hW.trans (hb9.mono hW.size)
  clear hb9 hW
  go_wp2_with fail
  go_ret
  exact ⟨by simp, hfin⟩
end Go.Proofs.Ytaobhbfhbmenfaa
