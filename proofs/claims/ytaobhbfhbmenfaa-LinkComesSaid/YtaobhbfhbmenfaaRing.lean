/- What the methods of a ring return, and what they leave in memory. -/
import Derived.Test.YtaobhbfhbmenfaaRows
import Derived.Test.YtaobhbfhbmenfaaBlk
import Derived.Test.YtaobhbfhbmenfaaTail
import Derived.Test.YtaobhbfhbmenfaaRingM
namespace Go.Proofs.Ytaobhbfhbmenfaa
open Go.RowKit
structure RingAt (w : World) (r B size : Nat) (A : List Int) (first n : Nat) : Prop where
  head : w.heap[r]? = some (.cells #[.slice (some ⟨B, 0, none⟩) size size, .int .i64 first, .int .i64 n] 105 (0, 0))
  body : w.heap[B]? = some (.cells (A.map fun x => (Value.int .u8 x)).toArray 5 (0, 0))
  alen : A.length = size
  pos : 1 ≤ size
  most : size ≤ 4096
  fst : first < size
  cnt : n ≤ size
  ne : r ≠ B
namespace RingAt
variable {w w' : World} {r B size first n : Nat} {A : List Int}
theorem drew (h : RingAt w r B size A first n) (m : Nat) : RingAt (w.drewN m) r B size A first n := ⟨h.head, h.body, h.alen, h.pos, h.most, h.fst, h.cnt, h.ne⟩
theorem keeps {S : Nat → Prop} (h : RingAt w r B size A first n) (hk : Keeps S w w') (hr : ¬ S r) (hB : ¬ S B) : RingAt w' r B size A first n :=
  ⟨hk.heap h.head hr, hk.heap h.body hB, h.alen, h.pos, h.most, h.fst, h.cnt, h.ne⟩
theorem c0 (h : RingAt w r B size A first n) : w.cell? ⟨r, 0, none⟩ = some (.slice (some ⟨B, 0, none⟩) size size) := blk_cell h.head rfl
theorem c1 (h : RingAt w r B size A first n) : w.cell? ⟨r, 1, none⟩ = some (.int .i64 first) := blk_cell h.head rfl
theorem c2 (h : RingAt w r B size A first n) : w.cell? ⟨r, 2, none⟩ = some (.int .i64 n) := blk_cell h.head rfl
theorem f0 (h : RingAt w r B size A first n) : w.frozen? ⟨r, 0, none⟩ = false := blk_free h.head 0
theorem f1 (h : RingAt w r B size A first n) : w.frozen? ⟨r, 1, none⟩ = false := blk_free h.head 1
theorem f2 (h : RingAt w r B size A first n) : w.frozen? ⟨r, 2, none⟩ = false := blk_free h.head 2
theorem cell (h : RingAt w r B size A first n) {k : Nat} {x : Int} (hx : A[k]? = some x) : w.cell? ⟨B, k, none⟩ = some (Value.int .u8 x) := blk_cell h.body (by simp [hx])
theorem free (h : RingAt w r B size A first n) (k : Nat) : w.frozen? ⟨B, k, none⟩ = false := blk_free h.body k
/-- a store into the array -/
theorem setBody (h : RingAt w r B size A first n) (k : Nat) (x : Int) : RingAt (w.setCell ⟨B, k, none⟩ (Value.int .u8 x)) r B size (A.set k x) first n :=
  ⟨blk_other h.head h.ne _, by have := blk_set h.body k (Value.int .u8 x); simpa [List.map_set] using this, by simpa using h.alen, h.pos, h.most, h.fst, h.cnt, h.ne⟩
theorem setFirst (h : RingAt w r B size A first n) (f : Nat) (hf : f < size) : RingAt (w.setCell ⟨r, 1, none⟩ (.int .i64 f)) r B size A f n :=
  ⟨by have := blk_set h.head 1 (.int .i64 f); simpa using this, blk_other h.body (Ne.symm h.ne) _, h.alen, h.pos, h.most, hf, h.cnt, h.ne⟩
theorem setCount (h : RingAt w r B size A first n) (m : Nat) (hm : m ≤ size) : RingAt (w.setCell ⟨r, 2, none⟩ (.int .i64 m)) r B size A first m :=
  ⟨by have := blk_set h.head 2 (.int .i64 m); simpa using this, blk_other h.body (Ne.symm h.ne) _, h.alen, h.pos, h.most, h.fst, hm, h.ne⟩
end RingAt
variable {w : World} {r B size first n : Nat} {A : List Int}
theorem ring_may (x : Int) (w : World) : Calls Try.prog 51 #[.int .i64 x] w fun e w' => e = .returned (.bool (decide (1 ≤ x ∧ x ≤ 4096))) ∧ w = w' := by
  by_cases h1 : 1 ≤ x
  · by_cases h2 : x ≤ 4096
    · go_enter Try.func51, Try.ntmps51
      go_wp2
      go_ret
      exact ⟨ret_bool (by simp; omega), rfl⟩
    · go_enter Try.func51, Try.ntmps51
      go_wp2
      go_ret
      exact ⟨ret_bool (by simp; omega), rfl⟩
  · go_enter Try.func51, Try.ntmps51
    go_wp2
    go_ret
    exact ⟨ret_bool (by simp; omega), rfl⟩
theorem ring_place (h : RingAt w r B size A first n) (i k : Nat) (x : Int) (hx : x = i) (hi : i ≤ 100000) (hk : (first + i) % size = k) :
    Calls Try.prog 62 #[.pointer (some ⟨r, 0, none⟩), .int .i64 x] w fun e w' => e = .returned (.int .i64 k) ∧ ∃ m, w' = w.drewN m := by
  subst hx
  have c0 := h.c0
  have c1 := h.c1
  have hz : ((size : Int) == 0) = false := by have := h.pos; rw [beq_eq_false_iff_ne]; omega
  have b1 := h.fst
  have b2 := h.most
  have Hk := hid hk
  clear hk
  go_enter Try.func62, Try.ntmps62
  go_wp2
  go_quiet (fail)
  go_wp2
  go_ret
  exact ⟨ret_int (by rw [← Hk.out]; simp), _, rfl⟩
theorem ring_Len (h : RingAt w r B size A first n) : Calls Try.prog 28 #[.pointer (some ⟨r, 0, none⟩)] w fun e w' => e = .returned (.int .i64 n) ∧ w = w' := by
  have c2 := h.c2
  go_enter Try.func28, Try.ntmps28
  go_wp2
  go_ret
  exact ⟨rfl, rfl⟩
theorem ring_At_no (h : RingAt w r B size A first n) (x : Int) (hx : x < 0 ∨ (n : Int) ≤ x) :
    Calls Try.prog 89 #[.pointer (some ⟨r, 0, none⟩), .int .i64 x] w fun e w' => e = .returned (.tuple #[(Value.int .u8 0), .bool false]) ∧ w = w' := by
  have c0 := h.c0
  have c2 := h.c2
  by_cases h0 : x < 0
  · clear hx
    go_enter Try.func89, Try.ntmps89
    go_wp2
    go_ret2
    exact ⟨rfl, rfl⟩
  · have h1 : (n : Int) ≤ x := by omega
    clear hx
    go_enter Try.func89, Try.ntmps89
    go_wp2
    go_ret2
    exact ⟨rfl, rfl⟩
theorem ring_At (h : RingAt w r B size A first n) (i k : Nat) (x : Int) (hx : x = i) (hi : i < n) (hk : (first + i) % size = k) (v : Int) (hv : A[k]? = some v) :
    Calls Try.prog 89 #[.pointer (some ⟨r, 0, none⟩), .int .i64 x] w fun e w' => e = .returned (.tuple #[(Value.int .u8 v), .bool true]) ∧ ∃ m, w' = w.drewN m := by
  subst hx
  have c0 := h.c0
  have c2 := h.c2
  have cv := h.cell hv
  have b1 := h.cnt
  have b2 := h.most
  have hkl : k < size := hk ▸ Nat.mod_lt _ h.pos
  have hp := fun a => ring_place (h.drew a) i k i rfl (by omega) hk
  have Hp := hid hp
  clear hp hk hv
  go_enter Try.func89, Try.ntmps89
  go_wp2
  go_quiet ((go_at_call 62; exact Calls.quiet_of (Hp.out _)))
  go_wp2
  go_ret2
  exact ⟨rfl, _, rfl⟩
theorem ring_Push_full (h : RingAt w r B size A first n) (hn : n = size) (v : Int) :
    Calls Try.prog 39 #[.pointer (some ⟨r, 0, none⟩), (Value.int .u8 v)] w fun e w' => e = .returned (.int .i64 8) ∧ ∃ m, w' = w.drewN m := by
  subst hn
  have c0 := h.c0
  have c2 := h.c2
  go_enter Try.func39, Try.ntmps39
  go_wp2
  go_quiet (fail)
  go_wp2
  go_ret
  exact ⟨rfl, _, rfl⟩
theorem ring_Push (h : RingAt w r B size A first n) (hn : n < size) (k : Nat) (hk : (first + n) % size = k) (v : Int) :
    Calls Try.prog 39 #[.pointer (some ⟨r, 0, none⟩), (Value.int .u8 v)] w fun e w' => e = .returned (.int .i64 0) ∧ RingAt w' r B size (A.set k v) first (n + 1) ∧ Keeps (fun b => b = r ∨ b = B) w w' := by
  have c0 := h.c0
  have c2 := h.c2
  have f2 := h.f2
  have ne := h.ne
  have b1 := h.cnt
  have b2 := h.most
  have hkl : k < size := hk ▸ Nat.mod_lt _ h.pos
  have cv : w.cell? ⟨B, k, none⟩ = some (Value.int .u8 (A[k]'(by rw [h.alen]; exact hkl))) := h.cell (by simp)
  have fv := h.free k
  have hq : ((n : Int) == (size : Int)) = false := by rw [beq_eq_false_iff_ne]; omega
  have Hk := hid hk
  clear hk
  go_enter Try.func39, Try.ntmps39
  go_wp2
  go_quiet (fail)
  go_wp2
  refine wp_region_taild 12 (by kernel_rfl) (by kernel_rfl) ?_
  simp only [List.take_succ_cons, List.take_zero, List.drop_succ_cons, List.drop_zero]
  repeat (go_big_quiet_step ((go_at_call 62; first | exact Calls.quiet_of (ring_place (h.drew _) n k _ (by omega) (by omega) Hk.out) | exact quiet_d (ring_place (h.drew _) n k _ (by omega) (by omega) Hk.out))))
  refine wpQuiet_nil ?_
  intro _ hw'
  obtain ⟨nq, hw''⟩ := hw'
  subst hw''
  go_wp2
  go_ret
  refine ⟨rfl, ?_, ?_⟩
  · exact (((h.setBody k v).setCount (n + 1) (by omega)).drew _)
  · exact (((Keeps.refl (fun b => b = r ∨ b = B) w).setCell (p := ⟨B, k, none⟩) (.inr rfl) _).setCell (p := ⟨r, 2, none⟩) (.inl rfl) _).drewN _
theorem ring_Pop_none (h : RingAt w r B size A first 0) :
    Calls Try.prog 86 #[.pointer (some ⟨r, 0, none⟩)] w fun e w' => e = .returned (.tuple #[(Value.int .u8 0), .bool false]) ∧ w = w' := by
  go_enter Try.func86, Try.ntmps86
  go_wp2_with fail
  refine (ring_At_no h 0 (by omega)).mono ?_
  rintro e w' ⟨rfl, rfl⟩
  go_wp2
  go_ret2
  exact ⟨rfl, rfl⟩
theorem ring_Pop (h : RingAt w r B size A first n) (hn : 0 < n) (f' : Nat) (hf : (first + 1) % size = f') (v : Int) (hv : A[first]? = some v) :
    Calls Try.prog 86 #[.pointer (some ⟨r, 0, none⟩)] w fun e w' => e = .returned (.tuple #[(Value.int .u8 v), .bool true]) ∧ RingAt w' r B size (A.set first 0) f' (n - 1) ∧ Keeps (fun b => b = r ∨ b = B) w w' := by
  have c0 := h.c0
  have c1 := h.c1
  have c2 := h.c2
  have f1 := h.f1
  have f2 := h.f2
  have ne := h.ne
  have b1 := h.cnt
  have b2 := h.most
  have b3 := h.fst
  have cv := h.cell hv
  have fv := h.free first
  have hfl : f' < size := hf ▸ Nat.mod_lt _ h.pos
  have Hf := hid hf
  have Hv := hid hv
  clear hf hv
  have h0 : (first + 0) % size = first := Nat.mod_eq_of_lt b3
  have H0 := hid h0
  clear h0
  have hset : RingAt (w.setCell ⟨B, first, none⟩ (Value.int .u8 0)) r B size (A.set first 0) first n := h.setBody _ _
  go_enter Try.func86, Try.ntmps86
  go_wp2_with fail
  refine (ring_At h 0 first 0 rfl hn H0.out v Hv.out).mono ?_
  rintro e w1 ⟨rfl, m, rfl⟩
  go_wp2_with fail
  refine wp_region_taild 10 (by kernel_rfl) (by kernel_rfl) ?_
  simp only [List.take_succ_cons, List.take_zero, List.drop_succ_cons, List.drop_zero]
  repeat (go_big_quiet_step ((fail)))
  refine wpQuiet_nil ?_
  intro _ hw'
  obtain ⟨nq, hw''⟩ := hw'
  subst hw''
  go_wp2_with fail
  refine (ring_place (hset.keeps (S := fun _ => False) (by first | exact (Keeps.refl _ _).drewN _ | exact ((Keeps.refl _ _).drewN _).drewN _) id id) 1 f' 1 rfl (by omega) Hf.out).mono ?_
  rintro e w2 ⟨rfl, m2, rfl⟩
  go_wp2
  go_ret2
  rw [show ((n : Int) - 1) = ((n - 1 : Nat) : Int) by omega]
  exact ⟨rfl, ((((h.drew _).setBody first 0).drew _).setFirst f' hfl).setCount (n - 1) (by omega), (((((Keeps.refl (fun b => b = r ∨ b = B) w).drewN _).setCell (p := ⟨B, first, none⟩) (.inr rfl) _).drewN _).setCell (p := ⟨r, 1, none⟩) (.inl rfl) _).setCell (p := ⟨r, 2, none⟩) (.inl rfl) _⟩
end Go.Proofs.Ytaobhbfhbmenfaa
