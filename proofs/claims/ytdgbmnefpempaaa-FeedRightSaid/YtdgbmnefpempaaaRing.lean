/- What the methods of a ring return, and what they leave in memory. -/
import Derived.Test.YtdgbmnefpempaaaRows
import Derived.Test.YtdgbmnefpempaaaBlk
import Derived.Test.YtdgbmnefpempaaaTail
import Derived.Test.YtdgbmnefpempaaaRingM
namespace Go.Proofs.Ytdgbmnefpempaaa
open Go.RowKit
structure RingAt (w : World) (r B size : Nat) (A : List ByteArray) (first n : Nat) : Prop where
  head : w.heap[r]? = some (.cells #[.slice (some ⟨B, 0, none⟩) size size, .int .i64 first, .int .i64 n] 79 (0, 0))
  body : w.heap[B]? = some (.cells (A.map fun x => (Value.string x)).toArray 9 (0, 0))
  alen : A.length = size
  pos : 1 ≤ size
  most : size ≤ 4096
  fst : first < size
  cnt : n ≤ size
  ne : r ≠ B
namespace RingAt
variable {w w' : World} {r B size first n : Nat} {A : List ByteArray}
theorem drew (h : RingAt w r B size A first n) (m : Nat) : RingAt (w.drewN m) r B size A first n := ⟨h.head, h.body, h.alen, h.pos, h.most, h.fst, h.cnt, h.ne⟩
theorem keeps {S : Nat → Prop} (h : RingAt w r B size A first n) (hk : Keeps S w w') (hr : ¬ S r) (hB : ¬ S B) : RingAt w' r B size A first n :=
  ⟨hk.heap h.head hr, hk.heap h.body hB, h.alen, h.pos, h.most, h.fst, h.cnt, h.ne⟩
theorem c0 (h : RingAt w r B size A first n) : w.cell? ⟨r, 0, none⟩ = some (.slice (some ⟨B, 0, none⟩) size size) := blk_cell h.head rfl
theorem c1 (h : RingAt w r B size A first n) : w.cell? ⟨r, 1, none⟩ = some (.int .i64 first) := blk_cell h.head rfl
theorem c2 (h : RingAt w r B size A first n) : w.cell? ⟨r, 2, none⟩ = some (.int .i64 n) := blk_cell h.head rfl
theorem f0 (h : RingAt w r B size A first n) : w.frozen? ⟨r, 0, none⟩ = false := blk_free h.head 0
theorem f1 (h : RingAt w r B size A first n) : w.frozen? ⟨r, 1, none⟩ = false := blk_free h.head 1
theorem f2 (h : RingAt w r B size A first n) : w.frozen? ⟨r, 2, none⟩ = false := blk_free h.head 2
theorem cell (h : RingAt w r B size A first n) {k : Nat} {x : ByteArray} (hx : A[k]? = some x) : w.cell? ⟨B, k, none⟩ = some (Value.string x) := blk_cell h.body (by simp [hx])
theorem free (h : RingAt w r B size A first n) (k : Nat) : w.frozen? ⟨B, k, none⟩ = false := blk_free h.body k
/-- a store into the array -/
theorem setBody (h : RingAt w r B size A first n) (k : Nat) (x : ByteArray) : RingAt (w.setCell ⟨B, k, none⟩ (Value.string x)) r B size (A.set k x) first n :=
  ⟨blk_other h.head h.ne _, by have := blk_set h.body k (Value.string x); simpa [List.map_set] using this, by simpa using h.alen, h.pos, h.most, h.fst, h.cnt, h.ne⟩
theorem setFirst (h : RingAt w r B size A first n) (f : Nat) (hf : f < size) : RingAt (w.setCell ⟨r, 1, none⟩ (.int .i64 f)) r B size A f n :=
  ⟨by have := blk_set h.head 1 (.int .i64 f); simpa using this, blk_other h.body (Ne.symm h.ne) _, h.alen, h.pos, h.most, hf, h.cnt, h.ne⟩
theorem setCount (h : RingAt w r B size A first n) (m : Nat) (hm : m ≤ size) : RingAt (w.setCell ⟨r, 2, none⟩ (.int .i64 m)) r B size A first m :=
  ⟨by have := blk_set h.head 2 (.int .i64 m); simpa using this, blk_other h.body (Ne.symm h.ne) _, h.alen, h.pos, h.most, h.fst, hm, h.ne⟩
end RingAt
variable {w : World} {r B size first n : Nat} {A : List ByteArray}
theorem ring_may (x : Int) (w : World) : Calls Try.prog 45 #[.int .i64 x] w fun e w' => e = .returned (.bool (decide (1 ≤ x ∧ x ≤ 4096))) ∧ w = w' := by
  by_cases h1 : 1 ≤ x
  · by_cases h2 : x ≤ 4096
    · go_enter Try.func45, Try.ntmps45
      go_wp2
      go_ret
      exact ⟨ret_bool (by simp; omega), rfl⟩
    · go_enter Try.func45, Try.ntmps45
      go_wp2
      go_ret
      exact ⟨ret_bool (by simp; omega), rfl⟩
  · go_enter Try.func45, Try.ntmps45
    go_wp2
    go_ret
    exact ⟨ret_bool (by simp; omega), rfl⟩
theorem ring_place (h : RingAt w r B size A first n) (i k : Nat) (x : Int) (hx : x = i) (hi : i ≤ 100000) (hk : (first + i) % size = k) :
    Calls Try.prog 46 #[.pointer (some ⟨r, 0, none⟩), .int .i64 x] w fun e w' => e = .returned (.int .i64 k) ∧ ∃ m, w' = w.drewN m := by
  subst hx
  have c0 := h.c0
  have c1 := h.c1
  have hz : ((size : Int) == 0) = false := by have := h.pos; rw [beq_eq_false_iff_ne]; omega
  have b1 := h.fst
  have b2 := h.most
  have Hk := hid hk
  clear hk
  go_enter Try.func46, Try.ntmps46
  go_wp2
  go_quiet (fail)
  go_wp2
  go_ret
  exact ⟨ret_int (by rw [← Hk.out]; simp), _, rfl⟩
theorem ring_Len (h : RingAt w r B size A first n) : Calls Try.prog 34 #[.pointer (some ⟨r, 0, none⟩)] w fun e w' => e = .returned (.int .i64 n) ∧ w = w' := by
  have c2 := h.c2
  go_enter Try.func34, Try.ntmps34
  go_wp2
  go_ret
  exact ⟨rfl, rfl⟩
theorem ring_At_no (h : RingAt w r B size A first n) (x : Int) (hx : x < 0 ∨ (n : Int) ≤ x) :
    Calls Try.prog 33 #[.pointer (some ⟨r, 0, none⟩), .int .i64 x] w fun e w' => e = .returned (.tuple #[(Value.string ByteArray.empty), .bool false]) ∧ w = w' := by
  have c0 := h.c0
  have c2 := h.c2
  by_cases h0 : x < 0
  · clear hx
    go_enter Try.func33, Try.ntmps33
    go_wp2
    go_ret2
    exact ⟨rfl, rfl⟩
  · have h1 : (n : Int) ≤ x := by omega
    clear hx
    go_enter Try.func33, Try.ntmps33
    go_wp2
    go_ret2
    exact ⟨rfl, rfl⟩
theorem ring_At (h : RingAt w r B size A first n) (i k : Nat) (x : Int) (hx : x = i) (hi : i < n) (hk : (first + i) % size = k) (v : ByteArray) (hv : A[k]? = some v) :
    Calls Try.prog 33 #[.pointer (some ⟨r, 0, none⟩), .int .i64 x] w fun e w' => e = .returned (.tuple #[(Value.string v), .bool true]) ∧ ∃ m, w' = w.drewN m := by
  subst hx
  have c0 := h.c0
  have c2 := h.c2
  have cv := h.cell hv
  have b1 := h.cnt
  have b2 := h.most
  have hkl : k < size := hk ▸ Nat.mod_lt _ h.pos
  have hp := fun a => ring_place (h.drew a) i k i rfl (by omega) hk
  have Hp := hid hp
  clear hp hk hv
  go_enter Try.func33, Try.ntmps33
  go_wp2
  go_quiet ((go_at_call 46; exact Calls.quiet_of (Hp.out _)))
  go_wp2
  go_ret2
  exact ⟨rfl, _, rfl⟩
theorem ring_Push_full (h : RingAt w r B size A first n) (hn : n = size) (v : ByteArray) :
    Calls Try.prog 31 #[.pointer (some ⟨r, 0, none⟩), (Value.string v)] w fun e w' => e = .returned (.int .i64 8) ∧ ∃ m, w' = w.drewN m := by
  subst hn
  have c0 := h.c0
  have c2 := h.c2
  go_enter Try.func31, Try.ntmps31
  go_wp2
  go_quiet (fail)
  go_wp2
  go_ret
  exact ⟨rfl, _, rfl⟩
theorem ring_Push (h : RingAt w r B size A first n) (hn : n < size) (k : Nat) (hk : (first + n) % size = k) (v : ByteArray) :
    Calls Try.prog 31 #[.pointer (some ⟨r, 0, none⟩), (Value.string v)] w fun e w' => e = .returned (.int .i64 0) ∧ RingAt w' r B size (A.set k v) first (n + 1) ∧ Keeps (fun b => b = r ∨ b = B) w w' := by
  have c0 := h.c0
  have c2 := h.c2
  have f2 := h.f2
  have ne := h.ne
  have b1 := h.cnt
  have b2 := h.most
  have hkl : k < size := hk ▸ Nat.mod_lt _ h.pos
  have cv : w.cell? ⟨B, k, none⟩ = some (Value.string (A[k]'(by rw [h.alen]; exact hkl))) := h.cell (by simp)
  have fv := h.free k
  have hq : ((n : Int) == (size : Int)) = false := by rw [beq_eq_false_iff_ne]; omega
  have Hk := hid hk
  clear hk
  go_enter Try.func31, Try.ntmps31
  go_wp2
  go_quiet (fail)
  go_wp2
  refine wp_region_taild 12 (by kernel_rfl) (by kernel_rfl) ?_
  simp only [List.take_succ_cons, List.take_zero, List.drop_succ_cons, List.drop_zero]
  repeat (go_big_quiet_step ((go_at_call 46; first | exact Calls.quiet_of (ring_place (h.drew _) n k _ (by omega) (by omega) Hk.out) | exact quiet_d (ring_place (h.drew _) n k _ (by omega) (by omega) Hk.out))))
  refine wpQuiet_nil ?_
  intro _ hw'
  obtain ⟨nq, hw''⟩ := hw'
  subst hw''
  go_wp2
  go_ret
  refine ⟨rfl, ?_, ?_⟩
  · exact (((h.setBody k v).setCount (n + 1) (by omega)).drew _)
  · exact (((Keeps.refl (fun b => b = r ∨ b = B) w).setCell (p := ⟨B, k, none⟩) (.inr rfl) _).setCell (p := ⟨r, 2, none⟩) (.inl rfl) _).drewN _
theorem ring_Take_no (h : RingAt w r B size A first n) (x : Int) (hx : x < 0 ∨ (n : Int) ≤ x) :
    Calls Try.prog 32 #[.pointer (some ⟨r, 0, none⟩), .int .i64 x] w fun e w' => e = .returned (.tuple #[(Value.string ByteArray.empty), .bool false]) ∧ w = w' := by
  go_enter Try.func32, Try.ntmps32
  go_wp2_with fail
  refine (ring_At_no h x hx).mono ?_
  rintro e w' ⟨rfl, rfl⟩
  go_wp2
  go_ret2
  exact ⟨rfl, rfl⟩
set_option maxHeartbeats 800000 in
theorem ring_Take {L : List ByteArray} (h : RingAt w r B size A first L.length) (hL : Holds A first size L) (i : Nat) (x : Int) (hx : x = i) (hi : i < L.length) (v : ByteArray) (hv : L[i]? = some v) :
    Calls Try.prog 32 #[.pointer (some ⟨r, 0, none⟩), .int .i64 x] w fun e w' => e = .returned (.tuple #[(Value.string v), .bool true]) ∧ Keeps (fun b => b = r ∨ b = B) w w' ∧ ∃ A', RingAt w' r B size A' first (L.length - 1) ∧ Holds A' first size (L.eraseIdx i) := by
  subst hx
  have ne := h.ne
  have b1 := h.cnt
  have b2 := h.most
  have b3 := h.fst
  have hAv : A[(first + i) % size]? = some v := (hL i hi).trans hv
  have HA := hid hAv
  have HS := hid (hL.shift i)
  clear hAv hv hL
  go_enter Try.func32, Try.ntmps32
  go_wp2_with fail
  refine (ring_At h i _ i rfl hi rfl v HA.out).mono ?_
  rintro e w1 ⟨rfl, m, rfl⟩
  go_wp2_with fail
  go_loopw [1] (fun u wr => ∃ (j : Nat) (A' : List ByteArray), i ≤ j ∧ j ≤ L.length - 1 ∧ u = .int .i64 j ∧ RingAt wr r B size A' first L.length ∧ Keeps (fun b => b = r ∨ b = B) w wr ∧ Hid (Shifted A' first size L i j)) (fun u _ => L.length - (intOf u).toNat)
  case atStart => exact ⟨i, A, Nat.le_refl _, by omega, rfl, h.drew _, (Keeps.refl _ w).drewN _, HS⟩
  case round =>
    obtain ⟨j, A', hij, hj, rfl, hR, hK, hS⟩ := hrel
    have c0 := hR.c0
    have c2 := hR.c2
    have f2 := hR.f2
    by_cases hlt : j < L.length - 1
    · obtain ⟨k1, hk1⟩ : ∃ k1, (first + j) % size = k1 := ⟨_, rfl⟩
      obtain ⟨k2, hk2⟩ : ∃ k2, (first + (j + 1)) % size = k2 := ⟨_, rfl⟩
      have hl1 : k1 < size := hk1 ▸ Nat.mod_lt _ h.pos
      have hl2 : k2 < size := hk2 ▸ Nat.mod_lt _ h.pos
      obtain ⟨y, hy⟩ : ∃ y, A'[k2]? = some y := ⟨A'[k2]'(by rw [hR.alen]; exact hl2), by simp⟩
      have cy := hR.cell hy
      have cv : wr.cell? ⟨B, k1, none⟩ = some (Value.string (A'[k1]'(by rw [hR.alen]; exact hl1))) := hR.cell (by simp)
      have fv := hR.free k1
      have H1 := hid hk1
      have H2 := hid hk2
      have hn := hS.out.next b3 hR.alen b1 hij (by omega) y (by rw [hk2]; exact hy)
      rw [hk1] at hn
      have HN := hid hn
      clear hk1 hk2 hy hn
      go_wp2
      refine wp_region_taild 18 (by kernel_rfl) (by kernel_rfl) ?_
      simp only [List.take_succ_cons, List.take_zero, List.drop_succ_cons, List.drop_zero]
      repeat (go_big_quiet_step ((first | (go_at_call 46; first | exact Calls.quiet_of (ring_place (hR.drew _) j k1 _ (by omega) (by omega) H1.out) | exact quiet_d (ring_place (hR.drew _) j k1 _ (by omega) (by omega) H1.out)) | (go_at_call 46; first | exact Calls.quiet_of (ring_place (hR.drew _) (j + 1) k2 _ (by omega) (by omega) H2.out) | exact quiet_d (ring_place (hR.drew _) (j + 1) k2 _ (by omega) (by omega) H2.out)))))
      refine wpQuiet_nil ?_
      intro _ hw'
      obtain ⟨nq, hw''⟩ := hw'
      subst hw''
      go_wp2
      go_roundw
      case rel => exact ⟨j + 1, A'.set k1 y, by omega, by omega, by go_num, (hR.setBody k1 y).drew _, (hK.setCell (p := ⟨B, k1, none⟩) (.inr rfl) _).drewN _, HN⟩
      case measure => simp [intOf]; omega
    · obtain rfl : j = L.length - 1 := by omega
      obtain ⟨k1, hk1⟩ : ∃ k1, (first + (L.length - 1)) % size = k1 := ⟨_, rfl⟩
      have hl1 : k1 < size := hk1 ▸ Nat.mod_lt _ h.pos
      have cv : wr.cell? ⟨B, k1, none⟩ = some (Value.string (A'[k1]'(by rw [hR.alen]; exact hl1))) := hR.cell (by simp)
      have fv := hR.free k1
      have hd := hS.out.done b3 b1 hi ByteArray.empty
      rw [hk1] at hd
      have H1 := hid hk1
      have HD := hid hd
      clear hk1 hd
      go_wp2
      refine wp_region_taild 13 (by kernel_rfl) (by kernel_rfl) ?_
      simp only [List.take_succ_cons, List.take_zero, List.drop_succ_cons, List.drop_zero]
      repeat (go_big_quiet_step ((go_at_call 46; first | exact Calls.quiet_of (ring_place (hR.drew _) (L.length - 1) k1 _ (by omega) (by omega) H1.out) | exact quiet_d (ring_place (hR.drew _) (L.length - 1) k1 _ (by omega) (by omega) H1.out))))
      refine wpQuiet_nil ?_
      intro _ hw'
      obtain ⟨nq, hw''⟩ := hw'
      subst hw''
      go_wp2
      go_ret2
      rw [show ((L.length : Int) - 1) = ((L.length - 1 : Nat) : Int) by omega]
      exact ⟨rfl, ((hK.setCell (p := ⟨B, k1, none⟩) (.inr rfl) _).setCell (p := ⟨r, 2, none⟩) (.inl rfl) _).drewN _, _, ((hR.setBody k1 ByteArray.empty).setCount (L.length - 1) (by omega)).drew _, HD.out⟩
end Go.Proofs.Ytdgbmnefpempaaa
