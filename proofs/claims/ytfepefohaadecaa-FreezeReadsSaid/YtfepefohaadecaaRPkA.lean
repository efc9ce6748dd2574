/- RPk · RPk2 · FzS · Grd, in one text. -/
import Derived.Test.YtfepefohaadecaaRRgt
import Derived.Test.YtfepefohaadecaaBack
import Derived.Test.YtfepefohaadecaaSum2
import Derived.Test.YtfepefohaadecaaStEq
/- The document's bytes of a state. -/
namespace Go.Proofs.Ytfepefohaadecaa
open Go.RowKit
set_option maxRecDepth 10000
variable {w : World}
theorem rf_n (x : Int) (hx : 0 ≤ x ∧ x ≤ 9223372036854775807) (w : World) : Calls Try.prog 46 #[.int .i64 x] w fun e w' => e = .returned (.string ⟨(num x.toNat).toArray⟩) ∧ Below w.heap.size w w' := by
  obtain ⟨m, rfl⟩ := Int.eq_ofNat_of_zero_le hx.1
  have hN := fun W => ref_Number m (by unfold two64; omega) W
  have e : IntKind.u64.wrap (m : Int) = (m : Int) := by rw [wrap_u64]; omega
  rw [Int.toNat_natCast]
  go_enter Try.func46, Try.ntmps46
  go_wp2_with fail
  refine (hN _).mono ?_
  rintro e' w1 ⟨rfl, hb⟩
  go_wp2_with fail
  go_ret
  exact ⟨rfl, hb⟩
theorem rf_v (x y : Int) (hx : fitsI .i32 x) (hy : fitsI .i32 y) (w : World) : Calls Try.prog 48 #[.agg #[.int .i32 x, .int .i32 y]] w fun e w' => e = .returned (.string ⟨(num (zz x) ++ num (zz y)).toArray⟩) ∧ Below w.heap.size w w' := by
  have hx : -2147483648 ≤ x ∧ x ≤ 2147483647 := hx
  have hy : -2147483648 ≤ y ∧ y ≤ 2147483647 := hy
  have h1 := fun W => ref_Signed x (by omega) W
  have h2 := fun W => ref_Signed y (by omega) W
  have l1 := num_len10 (zz x) (zz_in x (by omega))
  have l2 := num_len10 (zz y) (zz_in y (by omega))
  have hsum := fun w => add_strings w (num (zz x)) (num (zz y)) (by omega)
  generalize num (zz x) = X at *
  generalize num (zz y) = Y at *
  clear l1 l2
  have y0 := after_cell (blk_cell (blk_new w (.cells #[.int .i32 x, .int .i32 y] 25)) (k := 0) rfl)
  have y1 := after_cell (blk_cell (blk_new w (.cells #[.int .i32 x, .int .i32 y] 25)) (k := 1) rfl)
  go_enter Try.func48, Try.ntmps48
  go_wp2_with fail
  refine wp_region_after (by kernel_rfl) (by kernel_rfl) ?_
  repeat (go_big_quiet_step (first | (go_at_call 74; first | (with_reducible exact Calls.after_of (h1 _)) | (with_reducible exact Calls.after_of (h2 _)))))
  refine wpQuiet_nil ?_
  intro _ hw2
  obtain ⟨x2, hw3⟩ := hw2
  subst hw3
  go_wp2_with fail
  go_ret
  exact ⟨rfl, ((Below.refl _ w).alloc (Nat.le_refl _) _).trans (x2.below.mono (by simp))⟩
theorem tell_len {v : Nat → Int} (h : Tame v) (o : Nat) (ho : o < 60) : (tellAt v o).length ≤ 10 := by
  have hf := h.wf o ho
  have hp := h.pos o ho
  unfold tellAt
  rcases kind_cases o with e | e | e <;> rw [e] at hf hp ⊢
  · have hp := hp (by decide)
    exact num_len10 _ (by unfold two64; omega)
  · have hp := hp (by decide)
    exact num_len10 _ (by unfold two64; omega)
  · have hf : -2147483648 ≤ v o ∧ v o ≤ 2147483647 := hf
    exact num_len10 _ (zz_in _ (by omega))
theorem told_len {v : Nat → Int} (h : Tame v) : ∀ L : List Nat, (∀ o ∈ L, o < 60) → (told v L).length ≤ 10 * L.length
  | [], _ => by simp [told]
  | o :: L, hL => by
    have h1 := tell_len h o (hL o (by simp))
    have h2 := told_len h L (fun x hx => hL x (by simp [hx]))
    unfold told at h2 ⊢
    rw [List.flatMap_cons, List.length_append, List.length_cons]
    omega
theorem told_append (v : Nat → Int) (L M : List Nat) : told v (L ++ M) = told v L ++ told v M := by simp [told]
theorem told_ply (v : Nat → Int) (o : Nat) (h0 : kindAt o = .i32) (h1 : kindAt (o + 1) = .i32) (h2 : kindAt (o + 2) = .i32) (h3 : kindAt (o + 3) = .i32) (h4 : ∀ j, j < 6 → kindAt (o + 4 + j) = .i64) (T : List UInt8) :
    T ++ told v (plyTo o 6) = (((((((T ++ (num (zz (v o)) ++ num (zz (v (o + 1))))) ++ (num (zz (v (o + 2))) ++ num (zz (v (o + 3))))) ++ num (v (o + 4)).toNat) ++ num (v (o + 5)).toNat) ++ num (v (o + 6)).toNat) ++ num (v (o + 7)).toNat) ++ num (v (o + 8)).toNat) ++ num (v (o + 9)).toNat := by
  have q4 := h4 0 (by omega)
  have q5 := h4 1 (by omega)
  have q6 := h4 2 (by omega)
  have q7 := h4 3 (by omega)
  have q8 := h4 4 (by omega)
  have q9 := h4 5 (by omega)
  rw [show plyTo o 6 = [o, o + 1, o + 2, o + 3, o + 4, o + 5, o + 6, o + 7, o + 8, o + 9] from rfl]
  simp only [Nat.add_assoc, Nat.reduceAdd, Nat.add_zero] at q4 q5 q6 q7 q8 q9
  simp [told, tellAt, h0, h1, h2, h3, q4, q5, q6, q7, q8, q9]
theorem told_sho (v : Nat → Int) (o : Nat) (h0 : kindAt o = .i32) (h1 : kindAt (o + 1) = .i32) (h2 : kindAt (o + 2) = .i32) (h3 : kindAt (o + 3) = .i32) (h4 : kindAt (o + 4) = .i64) (h5 : kindAt (o + 5) = .i64) (T : List UInt8) :
    T ++ told v (shotAt o) = (((T ++ (num (zz (v o)) ++ num (zz (v (o + 1))))) ++ (num (zz (v (o + 2))) ++ num (zz (v (o + 3))))) ++ num (v (o + 4)).toNat) ++ num (v (o + 5)).toNat := by
  rw [show shotAt o = [o, o + 1, o + 2, o + 3, o + 4, o + 5] from rfl]
  simp [told, tellAt, h0, h1, h2, h3, h4, h5]
theorem told_head (v : Nat → Int) : told v (plyL 0) = ((num (v 0).toNat ++ num (v 1).toNat) ++ num (v 2).toNat) ++ num (v 3).toNat := by
  rw [show plyL 0 = [0, 1, 2, 3] from rfl]
  simp [told, tellAt, show kindAt 0 = .i64 from rfl, show kindAt 1 = .u32 from rfl, show kindAt 2 = .i64 from rfl, show kindAt 3 = .i64 from rfl]
theorem plyL_succ (j : Nat) : plyL (j + 1) = plyL j ++ plyTo (4 + 10 * j) 6 := by
  unfold plyL
  rw [List.range_succ, List.flatMap_append, ← List.append_assoc]
  simp
theorem plyL_len (j : Nat) : (plyL j).length = 4 + 10 * j := by
  induction j with
  | zero => rfl
  | succ j ih => rw [plyL_succ, List.length_append, ih, show (plyTo (4 + 10 * j) 6).length = 10 from rfl]; omega
theorem shots_len {v : Nat → Int} (h : Tame v) : ∀ j, j ≤ 6 → (shotsTo v j).length ≤ 60 * j
  | 0, _ => by simp [shotsTo]
  | j + 1, hj => by
    have h1 := shots_len h j (by omega)
    have h2 := told_len h (shotAt (24 + 6 * j)) (shot_in j (by omega))
    unfold shotsTo
    rw [List.length_append]
    have h3 : (shotAt (24 + 6 * j)).length = 6 := rfl
    by_cases e : noSho v j
    · rw [if_pos e]; simp; omega
    · rw [if_neg e]; omega
theorem owner_is {v : Nat → Int} (h : rightS v = true) (j : Nat) (hj : j < 6) : noSho v j ↔ v (28 + 6 * j) = 0 := by
  have h1 := shosOk_at (v := v) (j := j) (by simp only [rightS, Bool.and_eq_true] at h; exact h.1) hj
  simp only [shoAt, shoOk, isNo, Bool.or_eq_true, Bool.and_eq_true, decide_eq_true_eq] at h1
  constructor
  · intro e; exact e.2.2.2.2.1
  · intro e
    rcases h1 with h1 | h1
    · exact h1
    · have := h1.1
      simp [inR] at this
      omega
end Go.Proofs.Ytfepefohaadecaa
/- The document's bytes of a state that may be: the walk. -/
namespace Go.Proofs.Ytfepefohaadecaa
open Go.RowKit
set_option maxRecDepth 10000
variable {w : World}
/-- a round's end -/
structure RpSt (w0 wr : World) (v : Nat → Int) (B : Nat) : Prop where
  blk : wr.heap[B]? = some (.cells (mkC v) 33 (0, 0))
  bel : Below w0.heap.size w0 wr
theorem RpSt.keep {w0 wr w' : World} {v : Nat → Int} {B : Nat} (h : RpSt w0 wr v B) (hk : Keeps (fun _ => False) wr w') : RpSt w0 w' v B := ⟨hk.heap h.blk id, h.bel.trans (hk.below h.bel.size (fun _ _ x => x))⟩
theorem ply_in3 : ∀ i : Fin 3, ∀ o ∈ plyL i.val, o < 60 := by decide
set_option maxHeartbeats 2000000 in
theorem rf_Pack (v : Nat → Int) (hw : WfS v) (hr : rightS v = true) (w : World) : Calls Try.prog 17 #[.agg (mkC v)] w fun e w' => e = .returned (.string ⟨(packS v).toArray⟩) ∧ Below w.heap.size w w' := by
  have hT := tame_of hw hr
  have hS0 : RpSt w (w.alloc (.cells (mkC v) 33)) v w.heap.size := ⟨blk_new w _, (Below.refl _ w).alloc (Nat.le_refl _) _⟩
  have y0 := after_cell (blk_cell hS0.blk (mkC_get v (o := 0) (by omega)))
  have y1 := after_cell (blk_cell hS0.blk (mkC_get v (o := 1) (by omega)))
  have y2 := after_cell (blk_cell hS0.blk (mkC_get v (o := 2) (by omega)))
  have y3 := after_cell (blk_cell hS0.blk (mkC_get v (o := 3) (by omega)))
  rw [show kindAt 0 = .i64 from rfl] at y0
  rw [show kindAt 1 = .u32 from rfl] at y1
  rw [show kindAt 2 = .i64 from rfl] at y2
  rw [show kindAt 3 = .i64 from rfl] at y3
  have p0 := hT.pos 0 (by omega) (by decide)
  have p1 := hT.pos 1 (by omega) (by decide)
  have p2 := hT.pos 2 (by omega) (by decide)
  have p3 := hT.pos 3 (by omega) (by decide)
  have c0 := fun W => rf_n (v 0) (by omega) W
  have c1 := fun W => ref_Number (v 1).toNat (by unfold two64; omega) W
  have e1 : IntKind.u64.wrap (v 1) = ((v 1).toNat : Int) := by rw [wrap_u64]; omega
  have c2 := fun W => rf_n (v 2) (by omega) W
  have c3 := fun W => rf_n (v 3) (by omega) W
  have l0 := num_len10 (v 0).toNat (by unfold two64; omega)
  have l1 := num_len10 (v 1).toNat (by unfold two64; omega)
  have l2 := num_len10 (v 2).toNat (by unfold two64; omega)
  have l3 := num_len10 (v 3).toNat (by unfold two64; omega)
  have s1 := fun W => add_strings W (num (v 0).toNat) (num (v 1).toNat) (by omega)
  have s2 := fun W => add_strings W (num (v 0).toNat ++ num (v 1).toNat) (num (v 2).toNat) (by rw [List.length_append]; omega)
  have s3 := fun W => add_strings W ((num (v 0).toNat ++ num (v 1).toNat) ++ num (v 2).toNat) (num (v 3).toNat) (by rw [List.length_append, List.length_append]; omega)
  rw [← told_head] at s3
  have HT := hid hT
  have HR := hid hr
  have HW := hid hw
  have HS0 := hid hS0
  clear l0 l1 l2 l3 p0 p1 p2 p3 hT hr hw hS0
  generalize num (v 0).toNat = N0 at *
  generalize num (v 1).toNat = N1 at *
  generalize num (v 2).toNat = N2 at *
  generalize num (v 3).toNat = N3 at *
  generalize N0 ++ N1 = M1 at *
  generalize M1 ++ N2 = M2 at *
  generalize (v 1).toNat = n1 at *
  generalize v 0 = v0 at *
  generalize v 1 = v1 at *
  generalize v 2 = v2 at *
  generalize v 3 = v3 at *
  go_enter Try.func17, Try.ntmps17
  go_wp2_with fail
  generalize hw0 : w.alloc (.cells (mkC v) 33) = w0 at *
  refine wp_region_after (by kernel_rfl) (by kernel_rfl) ?_
  try simp only [List.append_eq, List.cons_append, List.nil_append]
  repeat (go_big_quiet_step (first | (go_at_call 46; first | (with_reducible exact Calls.after_of (c0 _)) | (with_reducible exact Calls.after_of (c2 _)) | (with_reducible exact Calls.after_of (c3 _))) | (go_at_call 47; with_reducible exact Calls.after_of (c1 _))))
  refine wpQuiet_nil ?_
  intro _ hw2
  obtain ⟨x2, hw3⟩ := hw2
  subst hw3
  have HS1 := hid (HS0.out.keep (Keeps.of_below (S := fun _ => False) x2.below (fun k h1 h2 => by omega)))
  obtain ⟨w1, hw1⟩ : ∃ w1, w1 = x2.to := ⟨_, rfl⟩
  rw [← hw1] at HS1 ⊢
  clear hw1 x2 y0 y1 y2 y3 c0 c1 c2 c3 s1 s2 s3 e1 HS0 hw0
  generalize hB : w.heap.size = B at *
  go_wp2_with fail
  go_loopw [3, 4] (fun s i wr => ∃ k : Nat, k ≤ 2 ∧ i = .int .i64 k ∧ s = .string ⟨(told v (plyL k)).toArray⟩ ∧ Hid (RpSt w wr v B)) (fun _ i _ => 2 - (intOf i).toNat)
  case atStart => exact ⟨0, by omega, rfl, rfl, HS1⟩
  case round =>
    obtain ⟨i, hi, rfl, rfl, HSr⟩ := hrel
    obtain ⟨wo, rfl⟩ : ∃ wo : World, wo = wr := ⟨_, rfl⟩
    clear HS1
    by_cases hlt : i < 2
    · have hload := run_load_ply v (4 + i * 10) (by omega) B wo _ HSr.out.blk
      have hZ := blk_new wo (.cells #[.int .i32 0, .int .i32 0, .int .i32 0, .int .i32 0, .int .i64 0, .int .i64 0, .int .i64 0, .int .i64 0, .int .i64 0, .int .i64 0] 27)
      obtain ⟨hst, _, hk2⟩ := store_all (wo.alloc (.cells #[.int .i32 0, .int .i32 0, .int .i32 0, .int .i32 0, .int .i64 0, .int .i64 0, .int .i64 0, .int .i64 0, .int .i64 0, .int .i64 0] 27)) 27 10 wo.heap.size (plyC v (4 + i * 10)) _ Try.sizeOf27 rfl rfl hZ (plyC_one _ _)
      have hC2 := setRow_at (wo.alloc (.cells #[.int .i32 0, .int .i32 0, .int .i32 0, .int .i32 0, .int .i64 0, .int .i64 0, .int .i64 0, .int .i64 0, .int .i64 0, .int .i64 0] 27)) wo.heap.size _ (plyC v (4 + i * 10)) 27 hZ
      have HS := hid (HSr.out.keep (keeps_past ((Keeps.refl (fun _ => False) wo).alloc (.cells #[.int .i32 0, .int .i32 0, .int .i32 0, .int .i32 0, .int .i64 0, .int .i64 0, .int .i64 0, .int .i64 0, .int .i64 0, .int .i64 0] 27)) hk2 (fun k hk e => by omega)))
      have hkd : kindAt (4 + i * 10) = .i32 ∧ kindAt (4 + i * 10 + 1) = .i32 ∧ kindAt (4 + i * 10 + 2) = .i32 ∧ kindAt (4 + i * 10 + 3) = .i32 ∧ ∀ j, j < 6 → kindAt (4 + i * 10 + 4 + j) = .i64 := by
        obtain rfl | rfl : i = 0 ∨ i = 1 := by omega
        · exact ⟨rfl, rfl, rfl, rfl, by decide⟩
        · exact ⟨rfl, rfl, rfl, rfl, by decide⟩
      have hfin := told_ply v (4 + i * 10) hkd.1 hkd.2.1 hkd.2.2.1 hkd.2.2.2.1 hkd.2.2.2.2 (told v (plyL i))
      rw [show 4 + i * 10 = 4 + 10 * i by omega, ← told_append, ← plyL_succ, show 4 + 10 * i = 4 + i * 10 by omega] at hfin
      have hT := HT.out
      have f0 := hT.wf (4 + i * 10) (by omega)
      have f1 := hT.wf (4 + i * 10 + 1) (by omega)
      have f2 := hT.wf (4 + i * 10 + 2) (by omega)
      have f3 := hT.wf (4 + i * 10 + 3) (by omega)
      rw [hkd.1] at f0
      rw [hkd.2.1] at f1
      rw [hkd.2.2.1] at f2
      rw [hkd.2.2.2.1] at f3
      have p4 := hT.pos (4 + i * 10 + 4) (by omega) (by rw [hkd.2.2.2.2 0 (by omega)]; decide)
      have p5 := hT.pos (4 + i * 10 + 5) (by omega) (by rw [hkd.2.2.2.2 1 (by omega)]; decide)
      have p6 := hT.pos (4 + i * 10 + 6) (by omega) (by rw [hkd.2.2.2.2 2 (by omega)]; decide)
      have p7 := hT.pos (4 + i * 10 + 7) (by omega) (by rw [hkd.2.2.2.2 3 (by omega)]; decide)
      have p8 := hT.pos (4 + i * 10 + 8) (by omega) (by rw [hkd.2.2.2.2 4 (by omega)]; decide)
      have p9 := hT.pos (4 + i * 10 + 9) (by omega) (by rw [hkd.2.2.2.2 5 (by omega)]; decide)
      have hlT := told_len hT (plyL i) (ply_in3 ⟨i, by omega⟩)
      rw [plyL_len] at hlT
      clear hT hkd
      generalize (wo.alloc (.cells #[.int .i32 0, .int .i32 0, .int .i32 0, .int .i32 0, .int .i64 0, .int .i64 0, .int .i64 0, .int .i64 0, .int .i64 0, .int .i64 0] 27)).setRow wo.heap.size (plyC v (4 + i * 10)) = w2 at *
      clear hZ hk2 HSr
      unfold plyC at hload hst hC2
      generalize v (4 + i * 10 + 4) = f at *
      generalize v (4 + i * 10 + 5) = hp at *
      generalize v (4 + i * 10 + 6) = co at *
      generalize v (4 + i * 10 + 7) = wi at *
      generalize v (4 + i * 10 + 8) = dn at *
      generalize v (4 + i * 10 + 9) = sc at *
      generalize v (4 + i * 10) = x at *
      generalize v (4 + i * 10 + 1) = y at *
      generalize v (4 + i * 10 + 2) = u at *
      generalize v (4 + i * 10 + 3) = q at *
      have cv1 := fun W => rf_v x y f0 f1 W
      have cv2 := fun W => rf_v u q f2 f3 W
      have c4 := fun W => rf_n f (by omega) W
      have c5 := fun W => rf_n hp (by omega) W
      have c6 := fun W => rf_n co (by omega) W
      have c7 := fun W => rf_n wi (by omega) W
      have c8 := fun W => rf_n dn (by omega) W
      have c9 := fun W => rf_n sc (by omega) W
      have z32 : ∀ n : Int, fitsI .i32 n → (num (zz n)).length ≤ 10 := fun n h => num_len10 _ (zz_in _ (by have h : -2147483648 ≤ n ∧ n ≤ 2147483647 := h; omega))
      have lv1 : (num (zz x) ++ num (zz y)).length ≤ 20 := by rw [List.length_append]; have := z32 x f0; have := z32 y f1; omega
      have lv2 : (num (zz u) ++ num (zz q)).length ≤ 20 := by rw [List.length_append]; have := z32 u f2; have := z32 q f3; omega
      have l4 := num_len10 f.toNat (by unfold two64; omega)
      have l5 := num_len10 hp.toNat (by unfold two64; omega)
      have l6 := num_len10 co.toNat (by unfold two64; omega)
      have l7 := num_len10 wi.toNat (by unfold two64; omega)
      have l8 := num_len10 dn.toNat (by unfold two64; omega)
      have l9 := num_len10 sc.toNat (by unfold two64; omega)
      clear z32 p4 p5 p6 p7 p8 p9 f0 f1 f2 f3
      generalize num (zz x) ++ num (zz y) = V1 at *
      generalize num (zz u) ++ num (zz q) = V2 at *
      generalize num f.toNat = N4 at *
      generalize num hp.toNat = N5 at *
      generalize num co.toNat = N6 at *
      generalize num wi.toNat = N7 at *
      generalize num dn.toNat = N8 at *
      generalize num sc.toNat = N9 at *
      generalize told v (plyL i) = T at *
      have s1 := fun W => add_strings W T V1 (by omega)
      have s2 := fun W => add_strings W (T ++ V1) V2 (by rw [List.length_append]; omega)
      have s3 := fun W => add_strings W ((T ++ V1) ++ V2) N4 (by rw [List.length_append, List.length_append]; omega)
      have s4 := fun W => add_strings W (((T ++ V1) ++ V2) ++ N4) N5 (by rw [List.length_append, List.length_append, List.length_append]; omega)
      have s5 := fun W => add_strings W ((((T ++ V1) ++ V2) ++ N4) ++ N5) N6 (by rw [List.length_append, List.length_append, List.length_append, List.length_append]; omega)
      have s6 := fun W => add_strings W (((((T ++ V1) ++ V2) ++ N4) ++ N5) ++ N6) N7 (by rw [List.length_append, List.length_append, List.length_append, List.length_append, List.length_append]; omega)
      have s7 := fun W => add_strings W ((((((T ++ V1) ++ V2) ++ N4) ++ N5) ++ N6) ++ N7) N8 (by rw [List.length_append, List.length_append, List.length_append, List.length_append, List.length_append, List.length_append]; omega)
      have s8 := fun W => add_strings W (((((((T ++ V1) ++ V2) ++ N4) ++ N5) ++ N6) ++ N7) ++ N8) N9 (by rw [List.length_append, List.length_append, List.length_append, List.length_append, List.length_append, List.length_append, List.length_append]; omega)
      clear lv1 lv2 l4 l5 l6 l7 l8 l9 hlT
      have HF := hid hfin
      clear hfin
      generalize T ++ V1 = M1 at *
      generalize M1 ++ V2 = M2 at *
      generalize M2 ++ N4 = M3 at *
      generalize M3 ++ N5 = M4 at *
      generalize M4 ++ N6 = M5 at *
      generalize M5 ++ N7 = M6 at *
      generalize M6 ++ N8 = M7 at *
      generalize M7 ++ N9 = M8 at *
      have z0 := after_cell (show w2.cell? ⟨wo.heap.size, 0, none⟩ = some (.int .i32 x) from blk_cell hC2 rfl)
      have z1 := after_cell (show w2.cell? ⟨wo.heap.size, 1, none⟩ = some (.int .i32 y) from blk_cell hC2 rfl)
      have z2 := after_cell (show w2.cell? ⟨wo.heap.size, 2, none⟩ = some (.int .i32 u) from blk_cell hC2 rfl)
      have z3 := after_cell (show w2.cell? ⟨wo.heap.size, 3, none⟩ = some (.int .i32 q) from blk_cell hC2 rfl)
      have z4 := after_cell (show w2.cell? ⟨wo.heap.size, 4, none⟩ = some (.int .i64 f) from blk_cell hC2 rfl)
      have z5 := after_cell (show w2.cell? ⟨wo.heap.size, 5, none⟩ = some (.int .i64 hp) from blk_cell hC2 rfl)
      have z6 := after_cell (show w2.cell? ⟨wo.heap.size, 6, none⟩ = some (.int .i64 co) from blk_cell hC2 rfl)
      have z7 := after_cell (show w2.cell? ⟨wo.heap.size, 7, none⟩ = some (.int .i64 wi) from blk_cell hC2 rfl)
      have z8 := after_cell (show w2.cell? ⟨wo.heap.size, 8, none⟩ = some (.int .i64 dn) from blk_cell hC2 rfl)
      have z9 := after_cell (show w2.cell? ⟨wo.heap.size, 9, none⟩ = some (.int .i64 sc) from blk_cell hC2 rfl)
      go_wp2_with (first | (refine wpList_run_load hload rfl rfl rfl ?_) | (refine wpList_run_store hst rfl rfl rfl rfl ?_))
      try simp only [Act.put]
      refine wp_region_after (by kernel_rfl) (by kernel_rfl) ?_
      try simp only [List.append_eq, List.cons_append, List.nil_append]
      repeat (go_big_quiet_step (first | (go_at_call 48; first | (with_reducible exact Calls.after_of (cv1 _)) | (with_reducible exact Calls.after_of (cv2 _))) | (go_at_call 46; first | (with_reducible exact Calls.after_of (c4 _)) | (with_reducible exact Calls.after_of (c5 _)) | (with_reducible exact Calls.after_of (c6 _)) | (with_reducible exact Calls.after_of (c7 _)) | (with_reducible exact Calls.after_of (c8 _)) | (with_reducible exact Calls.after_of (c9 _)))))
      refine wpQuiet_nil ?_
      intro _ hw2
      obtain ⟨x2, hw3⟩ := hw2
      subst hw3
      have HS2 := hid (HS.out.keep (Keeps.of_below (S := fun _ => False) x2.below (fun k h1 h2 => by omega)))
      go_wp2_with fail
      go_roundw
      case rel => exact ⟨i + 1, by omega, by go_num, by rw [HF.out], HS2⟩
      case measure => simp [intOf]; omega
    · have hT2 : told v (plyL i) = told v (plyL 2) := by rw [show i = 2 by omega]
      rw [hT2]
      have hlT := told_len HT.out (plyL 2) (ply_in3 ⟨2, by omega⟩)
      rw [plyL_len] at hlT
      have hP : packS v = (told v (plyL 2) ++ num (bitsTo v 6)) ++ shotsTo v 6 := rfl
      generalize told v (plyL 2) = T at *
      have HP := hid hP
      clear hT2 hP
      go_wp2_with fail
      go_loopw [6, 7, 8, 9] (fun b s p i wr => ∃ k : Nat, k ≤ 6 ∧ i = .int .i64 k ∧ b = .int .i64 (bitsTo v k : Nat) ∧ s = .string ⟨(shotsTo v k).toArray⟩ ∧ p = .int .i64 (2 ^ k : Nat) ∧ Hid (RpSt w wr v B)) (fun _ _ _ i _ => 6 - (intOf i).toNat)
      case atStart => exact ⟨0, by omega, rfl, rfl, rfl, rfl, HSr⟩
      case round =>
        obtain ⟨j, hj, rfl, rfl, rfl, rfl, HSj⟩ := hrel
        clear HSr
        obtain ⟨wq, rfl⟩ : ∃ wq : World, wq = wr := ⟨_, rfl⟩
        by_cases hlt2 : j < 6
        · have hload := run_load_sho1 v j (by omega) B wq _ HSj.out.blk
          have hZ := blk_new wq (.cells #[.int .i32 0, .int .i32 0, .int .i32 0, .int .i32 0, .int .i64 0, .int .i64 0] 30)
          obtain ⟨hst, _, hk2⟩ := store_all (wq.alloc (.cells #[.int .i32 0, .int .i32 0, .int .i32 0, .int .i32 0, .int .i64 0, .int .i64 0] 30)) 30 6 wq.heap.size (shoC6 v j) _ Try.sizeOf30 rfl rfl hZ (shoC_one _ _)
          have hC2 := setRow_at (wq.alloc (.cells #[.int .i32 0, .int .i32 0, .int .i32 0, .int .i32 0, .int .i64 0, .int .i64 0] 30)) wq.heap.size _ (shoC6 v j) 30 hZ
          have HS := hid (HSj.out.keep (keeps_past ((Keeps.refl (fun _ => False) wq).alloc (.cells #[.int .i32 0, .int .i32 0, .int .i32 0, .int .i32 0, .int .i64 0, .int .i64 0] 30)) hk2 (fun k hk e => by omega)))
          have hlS := shots_len HT.out j (by omega)
          have hown := owner_is HR.out j hlt2
          have hbt := bitsTo_lt v j
          have hpw : 2 ^ j ≤ 32 := Nat.pow_le_pow_right (n := 2) (by omega) (show j ≤ 5 by omega)
          have hpn : 2 ^ (j + 1) = 2 * 2 ^ j := by rw [Nat.pow_succ, Nat.mul_comm]
          have hbn : bitsTo v (j + 1) = bitsTo v j + if noSho v j then 0 else 2 ^ j := rfl
          have hsn : shotsTo v (j + 1) = shotsTo v j ++ if noSho v j then [] else told v (shotAt (24 + 6 * j)) := rfl
          obtain ⟨k0, k1, k2, k3, k4, k5⟩ := shot_kinds j hlt2
          have hfin := told_sho v (24 + 6 * j) k0 k1 k2 k3 k4 k5 (shotsTo v j)
          have hT := HT.out
          have f0 := hT.wf (24 + 6 * j) (by omega)
          have f1 := hT.wf (24 + 6 * j + 1) (by omega)
          have f2 := hT.wf (24 + 6 * j + 2) (by omega)
          have f3 := hT.wf (24 + 6 * j + 3) (by omega)
          have p4 := hT.pos (24 + 6 * j + 4) (by omega) (by rw [k4]; decide)
          have p5 := hT.pos (24 + 6 * j + 5) (by omega) (by rw [k5]; decide)
          rw [k0] at f0
          rw [k1] at f1
          rw [k2] at f2
          rw [k3] at f3
          clear k0 k1 k2 k3 k4 k5 hT
          rw [show 24 + 6 * j + 1 = 25 + 6 * j by omega] at hfin f1
          rw [show 24 + 6 * j + 2 = 26 + 6 * j by omega] at hfin f2
          rw [show 24 + 6 * j + 3 = 27 + 6 * j by omega] at hfin f3
          rw [show 24 + 6 * j + 4 = 28 + 6 * j by omega] at hfin p4
          rw [show 24 + 6 * j + 5 = 29 + 6 * j by omega] at hfin p5
          generalize (wq.alloc (.cells #[.int .i32 0, .int .i32 0, .int .i32 0, .int .i32 0, .int .i64 0, .int .i64 0] 30)).setRow wq.heap.size (shoC6 v j) = w2 at *
          clear hZ hk2 HSj
          unfold shoC6 at hload hst hC2
          generalize v (24 + 6 * j) = x at *
          generalize v (25 + 6 * j) = y at *
          generalize v (26 + 6 * j) = u at *
          generalize v (27 + 6 * j) = q at *
          generalize v (28 + 6 * j) = ow at *
          generalize v (29 + 6 * j) = li at *
          generalize 2 ^ j = pw at *
          generalize bitsTo v j = bt at *
          have w1 : wrap64 (2 * (pw : Int)) = ((2 * pw : Nat) : Int) := by unfold wrap64; omega
          have w2' : wrap64 ((bt : Int) + (pw : Int)) = ((bt + pw : Nat) : Int) := by unfold wrap64; omega
          by_cases hz : noSho v j
          · rw [if_pos hz] at hbn hsn
            rw [List.append_nil] at hsn
            have h0 := hown.1 hz
            subst h0
            have HB := hid hbn
            have HN := hid hsn
            have HPn := hid hpn
            clear hbn hsn hpn hown hz f0 f1 f2 f3 p4 p5 hfin hbt
            have z4 : w2.cell? ⟨wq.heap.size, 4, none⟩ = some (.int .i64 0) := blk_cell hC2 rfl
            go_wp2_with (first | (refine wpList_run_load hload rfl rfl rfl ?_) | (refine wpList_run_store hst rfl rfl rfl rfl ?_))
            go_roundw
            case rel => exact ⟨j + 1, by omega, by go_num, by rw [HB.out]; rfl, by rw [HN.out], by rw [HPn.out]; first | rfl | go_num, HS⟩
            case measure => simp [intOf]; omega
          · rw [if_neg hz] at hbn hsn
            have h0 : ow ≠ 0 := fun e => hz (hown.2 e)
            clear hown
            rw [hfin] at hsn
            have cv1 := fun W => rf_v x y f0 f1 W
            have cv2 := fun W => rf_v u q f2 f3 W
            have c4 := fun W => rf_n ow (by omega) W
            have c5 := fun W => rf_n li (by omega) W
            have z32 : ∀ n : Int, fitsI .i32 n → (num (zz n)).length ≤ 10 := fun n h => num_len10 _ (zz_in _ (by have h : -2147483648 ≤ n ∧ n ≤ 2147483647 := h; omega))
            have lv1 : (num (zz x) ++ num (zz y)).length ≤ 20 := by rw [List.length_append]; have := z32 x f0; have := z32 y f1; omega
            have lv2 : (num (zz u) ++ num (zz q)).length ≤ 20 := by rw [List.length_append]; have := z32 u f2; have := z32 q f3; omega
            have l4 := num_len10 ow.toNat (by unfold two64; omega)
            have l5 := num_len10 li.toNat (by unfold two64; omega)
            clear z32 p4 p5 f0 f1 f2 f3 hfin
            generalize num (zz x) ++ num (zz y) = V1 at *
            generalize num (zz u) ++ num (zz q) = V2 at *
            generalize num ow.toNat = N4 at *
            generalize num li.toNat = N5 at *
            generalize shotsTo v j = S0 at *
            have s1 := fun W => add_strings W S0 V1 (by omega)
            have s2 := fun W => add_strings W (S0 ++ V1) V2 (by rw [List.length_append]; omega)
            have s3 := fun W => add_strings W ((S0 ++ V1) ++ V2) N4 (by rw [List.length_append, List.length_append]; omega)
            have s4 := fun W => add_strings W (((S0 ++ V1) ++ V2) ++ N4) N5 (by rw [List.length_append, List.length_append, List.length_append]; omega)
            have HB := hid hbn
            have HN := hid hsn
            have HPn := hid hpn
            clear hbn hsn hpn lv1 lv2 l4 l5 hlS hz
            generalize S0 ++ V1 = M1 at *
            generalize M1 ++ V2 = M2 at *
            generalize M2 ++ N4 = M3 at *
            generalize M3 ++ N5 = M4 at *
            have z4 : w2.cell? ⟨wq.heap.size, 4, none⟩ = some (.int .i64 ow) := blk_cell hC2 rfl
            have a0 := after_cell (show w2.cell? ⟨wq.heap.size, 0, none⟩ = some (.int .i32 x) from blk_cell hC2 rfl)
            have a1 := after_cell (show w2.cell? ⟨wq.heap.size, 1, none⟩ = some (.int .i32 y) from blk_cell hC2 rfl)
            have a2 := after_cell (show w2.cell? ⟨wq.heap.size, 2, none⟩ = some (.int .i32 u) from blk_cell hC2 rfl)
            have a3 := after_cell (show w2.cell? ⟨wq.heap.size, 3, none⟩ = some (.int .i32 q) from blk_cell hC2 rfl)
            have a4 := after_cell (show w2.cell? ⟨wq.heap.size, 4, none⟩ = some (.int .i64 ow) from blk_cell hC2 rfl)
            have a5 := after_cell (show w2.cell? ⟨wq.heap.size, 5, none⟩ = some (.int .i64 li) from blk_cell hC2 rfl)
            go_wp2_with (first | (refine wpList_run_load hload rfl rfl rfl ?_) | (refine wpList_run_store hst rfl rfl rfl rfl ?_))
            try simp only [Act.put]
            refine wp_region_after (by kernel_rfl) (by kernel_rfl) ?_
            try simp only [List.append_eq, List.cons_append, List.nil_append]
            repeat (go_big_quiet_step (first | (go_at_call 48; first | (with_reducible exact Calls.after_of (cv1 _)) | (with_reducible exact Calls.after_of (cv2 _))) | (go_at_call 46; first | (with_reducible exact Calls.after_of (c4 _)) | (with_reducible exact Calls.after_of (c5 _)))))
            refine wpQuiet_nil ?_
            intro _ hw2
            obtain ⟨x2, hw3⟩ := hw2
            subst hw3
            have HS2 := hid (HS.out.keep (Keeps.of_below (S := fun _ => False) x2.below (fun k h1 h2 => by omega)))
            go_wp2_with fail
            go_roundw
            case rel => exact ⟨j + 1, by omega, by go_num, by rw [HB.out]; first | rfl | go_num, by rw [HN.out], by rw [HPn.out]; first | rfl | go_num, HS2⟩
            case measure => simp [intOf]; omega
        · obtain rfl : j = 6 := by omega
          have hb6 := bitsTo_lt v 6
          have cb := fun W => rf_n (bitsTo v 6 : Nat) (by omega) W
          have lb := num_len10 (bitsTo v 6) (by unfold two64; omega)
          have ls := shots_len HT.out 6 (by omega)
          simp only [Int.toNat_natCast] at cb
          generalize bitsTo v 6 = bt at *
          generalize num bt = N at *
          generalize shotsTo v 6 = S6 at *
          have s1 := fun W => add_strings W T N (by omega)
          have s2 := fun W => add_strings W (T ++ N) S6 (by rw [List.length_append]; omega)
          generalize T ++ N = M1 at *
          generalize M1 ++ S6 = M2 at *
          clear lb ls hlT
          go_wp2_with fail
          refine (cb _).mono ?_
          rintro e w5 ⟨rfl, hb5⟩
          have hbel : Below B w w5 := hB ▸ HSj.out.bel.trans ((Keeps.of_below (S := fun _ => False) hb5 (fun k h1 h2 => by omega)).below HSj.out.bel.size (fun _ _ x => x))
          go_wp2_with fail
          go_ret
          exact ⟨by rw [HP.out]; rfl, by first | exact hbel | (rw [hB]; exact hbel)⟩
end Go.Proofs.Ytfepefohaadecaa
/- A state's sum: freeze.Sum and the document's. -/
namespace Go.Proofs.Ytfepefohaadecaa
open Go.RowKit
set_option maxRecDepth 10000
variable {w : World}
theorem packS_len {v : Nat → Int} (h : Tame v) : (packS v).length ≤ 610 := by
  have h1 := told_len h (plyL 2) ply_in
  have h2 := num_len10 (bitsTo v 6) (by have := bitsTo_lt v 6; unfold two64; omega)
  have h3 := shots_len h 6 (by omega)
  rw [plyL_len] at h1
  unfold packS
  rw [List.length_append, List.length_append]
  omega
theorem fz_Sum (v : Nat → Int) (hw : WfS v) (w : World) : Calls Try.prog 15 #[.agg (mkC v)] w fun e w' =>
    e = .returned (.tuple #[.int .u32 (if rightS v then more 1 (packS v) else 0), .int .i64 (if rightS v then 0 else 1)]) ∧ Below w.heap.size w w' := by
  have hB := blk_new w (.cells (mkC v) 33)
  have hb := (Below.refl w.heap.size w).alloc (Nat.le_refl _) (.cells (mkC v) 33)
  have hload := run_load_state v w.heap.size _ _ hB
  have hP := fun W => fz_Pack v hw W
  cases hr : rightS v
  · rw [hr] at hP
    simp only [Bool.false_eq_true, if_false] at hP ⊢
    go_enter Try.func15, Try.ntmps15
    go_wp2_with (refine wpList_run_load hload rfl rfl rfl ?_)
    refine (hP _).mono ?_
    rintro e w1 ⟨rfl, hb1⟩
    have hbf := hb.trans (hb1.mono hb.size)
    clear hload hB hb hb1
    go_wp2_with fail
    go_ret2
    exact ⟨rfl, hbf⟩
  · rw [hr] at hP
    simp only [↓reduceIte] at hP ⊢
    have hl := packS_len (tame_of hw hr)
    have hS := fun W => sum_Of ⟨(packS v).toArray⟩ (by show (packS v).toArray.size ≤ _; unfold maxLen; simp; omega) W
    simp only at hS
    generalize (⟨(packS v).toArray⟩ : ByteArray) = X at *
    go_enter Try.func15, Try.ntmps15
    go_wp2_with (refine wpList_run_load hload rfl rfl rfl ?_)
    refine (hP _).mono ?_
    rintro e w1 ⟨rfl, hb1⟩
    have hbf := hb.trans (hb1.mono hb.size)
    clear hload hB hb hb1
    go_wp2_with fail
    refine (hS _).mono ?_
    rintro e _ ⟨rfl, rfl⟩
    go_wp2_with fail
    go_ret2
    exact ⟨rfl, hbf⟩
theorem rf_Sum (v : Nat → Int) (hw : WfS v) (hr : rightS v = true) (w : World) : Calls Try.prog 18 #[.agg (mkC v)] w fun e w' =>
    e = .returned (.int .u32 (more 1 (packS v))) ∧ Below w.heap.size w w' := by
  have hB := blk_new w (.cells (mkC v) 33)
  have hb := (Below.refl w.heap.size w).alloc (Nat.le_refl _) (.cells (mkC v) 33)
  have hload := run_load_state v w.heap.size _ _ hB
  have hP := fun W => rf_Pack v hw hr W
  have hl := packS_len (tame_of hw hr)
  have hS := fun W => ref_OfSum ⟨(packS v).toArray⟩ (by show (packS v).toArray.size ≤ _; unfold maxLen; simp; omega) W
  simp only at hS
  generalize (⟨(packS v).toArray⟩ : ByteArray) = X at *
  go_enter Try.func18, Try.ntmps18
  go_wp2_with (refine wpList_run_load hload rfl rfl rfl ?_)
  refine (hP _).mono ?_
  rintro e w1 ⟨rfl, hb1⟩
  have hbf := hb.trans (hb1.mono hb.size)
  clear hload hB hb hb1
  go_wp2_with fail
  refine (hS _).mono ?_
  rintro e _ ⟨rfl, rfl⟩
  go_wp2_with fail
  go_ret
  exact ⟨rfl, hbf⟩
end Go.Proofs.Ytfepefohaadecaa
/- Loads and comparisons of whole states behind guards. -/
namespace Go.Proofs.Ytfepefohaadecaa
open Go.RowKit
set_option maxRecDepth 10000
theorem wpList_run_loadg {P : Program} {o : Oper} {a : Act} {Q : Exit → Act → World → Prop} {ops : Array Oper} {rest : List Oper} {w w' : World} {v p : Value} {T : TypeId} {x : Operand} (hrun : (Instr.loadAt T p).run P w = .ok v w') (hw : Region.wanted o (yielded ops a.tmps) = true) (ho : o.op = .load T x) (hx : a.eval x = p) (h : wpList P ops Q rest (a.put o.dst v) w') : wpList P ops Q (o :: rest) a w := by
  unfold wpList
  rw [if_pos hw]
  exact .inl (wp_run_load ho hx hrun h)
theorem st_guard : Try.prog.eqGuardType Try.prog.depth 33 = false := by kernel_rfl
theorem guard_state (x y : Operand) (c d : Array Value) (w : World) : (eqGuard .eql 33 x y (.agg c) (.agg d)).run Try.prog w = .ok () w := by
  unfold eqGuard
  simp [Sem.run_bind, Sem.run_pure, go_sem]
theorem wpList_run_opg {P : Program} {o : Oper} {a : Act} {Q : Exit → Act → World → Prop} {ops : Array Oper} {rest : List Oper} {w w' : World} {v u1 u2 : Value} {T T2 : TypeId} {x y : Operand} {b : BinOp} (hg : (eqGuard b T x y u1 u2).run P w = .ok () w) (hrun : (binOp b T u1 u2).run P w = .ok v w') (hw : Region.wanted o (yielded ops a.tmps) = true) (ho : o.op = .binOp b T x y T2) (hx : a.eval x = u1) (hy : a.eval y = u2) (h : wpList P ops Q rest (a.put o.dst v) w') : wpList P ops Q (o :: rest) a w := by
  unfold wpList
  rw [if_pos hw]
  refine .inl ?_
  unfold Oper.wp execOp
  simp only [ho, hx, hy, Sem.run_bind, hg, hrun, Result.andThen_ok, Sem.run_pure]
  exact h
end Go.Proofs.Ytfepefohaadecaa
