/- What a ring's List returns, and what making a ring leaves in memory. -/
import Derived.Test.YtaobhbfhbmenfaaRing
import Derived.Test.YtaobhbfhbmenfaaVals
import Derived.Test.YtaobhbfhbmenfaaIter
import Derived.OwnWalkIn
import Derived.TacticsInMore
import Derived.Shelf.RegionOpen
import Derived.LoopNIn
import Derived.LoopIn
import Derived.Deep.Cut
import Derived.RangeFuncBox
import Derived.OneCell
namespace Go.Proofs.Ytaobhbfhbmenfaa
open Go.RowKit
attribute [local go_sem] Oper.semAt_some
variable {w : World} {r B size first n : Nat} {A : List Int}
theorem ring_all (r : Nat) (w : World) :
    Calls Try.prog 84 #[.pointer (some ⟨r, 0, none⟩)] w fun e w' => e = .returned (.func (.func 88) #[] #[.pointer (some ⟨w.heap.size, 0, none⟩)]) ∧ w.alloc (.cells #[.pointer (some ⟨r, 0, none⟩)] 67) = w' := by
  go_enter Try.func84, Try.ntmps84
  go_wp2
  go_ret
  exact ⟨rfl, rfl⟩
theorem zip_at {α : Type} (L : List α) (k : Nat) (h : k < L.length) : L.zipIdx = L.zipIdx.take k ++ (L[k], k) :: L.zipIdx.drop (k + 1) ∧ L.zipIdx.take (k + 1) = L.zipIdx.take k ++ [(L[k], k)] := by
  have h2 : k < L.zipIdx.length := by simpa using h
  have e : L.zipIdx[k] = (L[k], k) := by simp
  refine ⟨?_, ?_⟩
  · rw [← e, ← List.drop_eq_getElem_cons h2, List.take_append_drop]
  · rw [List.take_succ_eq_append_getElem h2, e]
theorem all1 {L : List Int} (hR : RingAt w r B size A first L.length) (hL : Holds A first size L) (Bn : Nat) (hBn : Bn < w.heap.size) (hc : w.cell? ⟨Bn, 0, none⟩ = some (.pointer (some ⟨r, 0, none⟩)))
    (Wr : Nat → Prop) (hW : ¬ Wr Bn ∧ ¬ Wr r ∧ ¬ Wr B) :
    YieldsAll Try.prog 88 #[.pointer (some ⟨Bn, 0, none⟩)] (fun p : Int × Nat => #[.int .i64 p.2, (Value.int .u8 p.1)]) L.zipIdx Wr (fun _ => False) w := by
  intro l J W hl hk hsz hJ hY h0
  subst hl
  have lr := blk_lt hR.head
  have lB := blk_lt hR.body
  have HL := hid hL
  have b1 := hR.cnt
  have b2 := hR.most
  refine callsIn_wide.2 ?_
  go_enter Try.func88, Try.ntmps88
  go_wp2_with fail
  go_loopw [3] (fun v wr => ∃ k : Nat, k ≤ L.length ∧ v = .int .i64 k ∧ wr.cell? ⟨Bn, 0, none⟩ = some (.pointer (some ⟨r, 0, none⟩)) ∧ RingAt wr r B size A first L.length ∧ J (L.zipIdx.take k) wr ∧ w.heap.size + 2 ≤ wr.heap.size)
    (fun v _ => L.length - (intOf v).toNat)
  case atStart => exact ⟨0, Nat.zero_le _, rfl, hk.cell hc id, hR.keeps hk id id, by simpa using h0, by omega⟩
  case round =>
    obtain ⟨k, hkl, rfl, hcell, hRw, hJk, hsz2⟩ := hrel
    by_cases hlt : k < L.length
    · obtain ⟨hz1, hz2⟩ := zip_at L k hlt
      have hA : A[(first + k) % size]? = some L[k] := (HL.out k hlt).trans (by simp)
      obtain ⟨q, hq⟩ : ∃ q, (first + k) % size = q := ⟨_, rfl⟩
      rw [hq] at hA
      have c0 := hRw.c0
      have cq := hRw.cell hA
      have hql : q < size := hq ▸ Nat.mod_lt _ hR.pos
      have Hq := hid hq
      have Hz1 := hid hz1
      have Hz2 := hid hz2
      clear hz1 hz2 hq hA
      go_upto_region 3 with ((go_at_call 28; refine (ring_Len hRw).mono ?_; rintro e w' ⟨rfl, rfl⟩))
      refine (wpIn_wide (n := 0)).1 ?_
      refine wpIn_region_taild (open_wide _ _) 11 (by kernel_rfl) (by kernel_rfl) (by kernel_rfl) ?_
      simp only [List.take_succ_cons, List.take_zero, List.drop_succ_cons, List.drop_zero]
      repeat (go_big_quiet_step ((go_at_call 62; first | exact Calls.quiet_of (ring_place (hRw.drew _) k q _ (by omega) (by omega) Hq.out) | exact quiet_d (ring_place (hRw.drew _) k q _ (by omega) (by omega) Hq.out))))
      refine wpQuiet_nil ?_
      intro _ hw'
      obtain ⟨nq, hw''⟩ := hw'
      subst hw''
      obtain ⟨fn, tmps, assign, body, hy, hRd⟩ := hY (L.zipIdx.take k) (L[k], k) (L.zipIdx.drop (k + 1)) (wr.drewN nq) Hz1.out (hJ _ _ _ hJk ((Keeps.refl _ wr).drewN nq))
      dsimp only at hy
      gi_wp2
      refine ⟨rfl, hRd.mono ?_⟩
      rintro e W2 ⟨rfl, hJ2, hK2⟩
      clear hy hRd
      have hc2 := hK2.cell (p := ⟨Bn, 0, none⟩) hcell (fun h => h.elim hW.1 (fun h => by simp at h; omega))
      have hR2 := (hRw.drew nq).keeps hK2 (fun h => h.elim hW.2.1 (fun h => by omega)) (fun h => h.elim hW.2.2 (fun h => by omega))
      have hs2 := hK2.size
      gi_wp2
      go_wp2
      go_roundw
      case rel => exact ⟨k + 1, by omega, by go_num, hc2, hR2, by rw [Hz2.out]; exact hJ2, Nat.le_trans hsz2 hs2⟩
      case measure => simp [intOf]; omega
    · have he : L.zipIdx.take k = L.zipIdx := List.take_of_length_le (by simp; omega)
      have He := hid he
      clear he
      go_wp2_with ((go_at_call 28; refine (ring_Len hRw).mono ?_; rintro e w' ⟨rfl, rfl⟩))
      go_end0
      exact ⟨⟨_, rfl⟩, by rw [← He.out]; exact hJk⟩
theorem info_e : (Try.prog.info? 5).map (fun i => (i.zero, i.size, i.bytes)) = some (some (Value.int .u8 0), 1, 1) := by kernel_rfl
theorem zip_map (L : List Int) : L.zipIdx.map (fun p => (Value.int .u8 p.1)) = L.map (fun x => (Value.int .u8 x)) := by
  have : (fun p : Int × Nat => ((Value.int .u8 p.1) : Value)) = (fun x => (Value.int .u8 x)) ∘ Prod.fst := rfl
  rw [this, ← List.map_map]
  congr 1
  exact List.zipIdx_map_fst 0 L
set_option maxHeartbeats 800000 in
theorem ring_List {L : List Int} (hR : RingAt w r B size A first L.length) (hL : Holds A first size L) :
    Calls Try.prog 74 #[.pointer (some ⟨r, 0, none⟩)] w fun e w' => ∃ a cap, e = .returned (.slice a L.length cap) ∧ Vals w' 1 a L.length cap (L.map fun x => (Value.int .u8 x)) ∧ (∀ x, a = some x → w.heap.size ≤ x.block) ∧ Below w.heap.size w w' := by
  obtain ⟨i0, hi, hz0, hz1, hz2⟩ := info_parts info_e
  have lr := blk_lt hR.head
  have lB := blk_lt hR.body
  have HL := hid hL
  have b1 := hR.cnt
  have b2 := hR.most
  have HI := hid hi
  clear hi
  refine (callsIn_wide (n := 0)).1 ?_
  refine callsIn_of_wp_marks Try.func74 rfl trivial ?_ rfl
  simp only [Try.ntmps74, List.size_toArray, List.length_cons, List.length_nil, Nat.reduceAdd, Nat.reduceSub, Array.replicate_succ, Array.replicate_zero, List.push_toArray, List.append_toArray, List.nil_append, List.cons_append]
  gi_wp2_with (fail)
  refine ⟨trivial, rfl, callsIn_wide.2 ((ring_all r _).mono ?_)⟩
  rintro e w2 ⟨rfl, hw2⟩
  gi_wp2_with (fail)
  subst hw2
  have hR0 : RingAt ((w.alloc (.cells #[.slice none 0 0] 35)).alloc (.cells #[.pointer (some ⟨r, 0, none⟩)] 67)) r B size A first L.length :=
    hR.keeps (S := fun _ => False) (((Keeps.refl _ w).alloc _).alloc _) id id
  refine wpIn_range (gf := 88) (lb := #[.pointer (some ⟨w.heap.size + 1, 0, none⟩)]) rfl (enters_of Try.func88 (by kernel_rfl) rfl)
    (fun _ => rfl) L.zipIdx (fun k => k = w.heap.size ∨ w.heap.size + 3 < k) (fun _ => False)
    (all1 hR0 HL.out (w.heap.size + 1) (by simp) (by go_simp) _ ⟨by omega, by omega, by omega⟩)
    (by simp; omega) (by simp)
    (fun pre W => (∃ v, W.heap[w.heap.size]? = some (.cells #[v] 35 (0, 0)) ∧ W.ownsRow (w.heap.size + 4) 5 1 v pre.length (pre.map fun p => (Value.int .u8 p.1))) ∧ Below w.heap.size w W ∧ w.heap.size + 2 ≤ W.heap.size)
    (fun pre A B ⟨⟨v, i1, i2⟩, i3, i4⟩ hsz hk => ⟨⟨v, hk.heap i1 (fun h => by simp at h; omega), own_keeps i2 hk (fun b hb h => by have := (i2.lt b hb).1; simp at h; omega)⟩, i3.trans (hk.below i3.size (fun k h1 h2 => by simp at h2; omega)), Nat.le_trans i4 hk.size⟩)
    ⟨⟨_, blk_alloc (blk_new _ _) _, own_nil _ _ _ _⟩, ((Below.refl _ w).alloc (Nat.le_refl _) _).alloc (by simp) _, by simp⟩
    (fun x => { tmps := #[.pointer (some ⟨r, 0, none⟩), undef, .slice none 0 0, .pointer (some ⟨w.heap.size, 0, none⟩), undef, (Value.int .u8 x.1), .pointer (some ⟨r, 0, none⟩), .func (.func 88) #[] #[.pointer (some ⟨w.heap.size + 1, 0, none⟩)], .int .i64 x.2, (Value.int .u8 x.1), undef, undef, undef, undef, undef], defers := [] })
    ?assign ?body ?done
  case assign =>
    intro l x W K hK
    gi_wp2
    exact hK
  case body =>
    rintro l pre x rest A2 hl hx ⟨⟨v, i1, i2⟩, i3, i4⟩ hs4
    have hpl := congrArg List.length hx
    simp at hpl
    have Hx := hid hx
    have Hl := hid hl
    have Hpl := hid hpl
    have hpl2 : pre.length + 1 ≤ 4096 := by omega
    clear hx hl hpl
    have cv := cell_of_one i1
    have fv := free_of_one i1
    have H1 := hid i1
    clear i1
    gi_wp2_with (gi_at_builtin; refine wpListIn_append_own _ rfl _ _ 35 rfl (w.heap.size + 4) 5 i0 (Value.int .u8 0) 1 1 Try.underlying35 HI.out hz0 hz1 hz2 rfl (by decide) _ _ _ rfl (i2.alloc _) ⟨A2.heap.size, 0, none⟩ 1 1 [(Value.int .u8 x.1)] rfl rfl (cell_one_new _ _ _) (by simp [Value.oneCell']) (by simp only [maxLen]; omega) (by omega) (by simp at hs4 ⊢; omega) ?_; intro v' w1 hown' hgrow _; have hk1 : Keeps (fun k => k = w.heap.size ∨ w.heap.size + 3 < k) A2 w1 := ((Keeps.refl _ A2).alloc _).grown hgrow (fun k hk => .inl (.inr (by have := (i2.lt k hk).1; omega))); obtain ⟨g', cap', rfl⟩ := ownsRow_succ hown'; have h2 := (hgrow.block w.heap.size (by simp; omega) (fun e => by have := (i2.lt _ e.symm).1; omega)).trans (blk_alloc H1.out _); have cv1 := cell_of_one h2; have fv1 := free_of_one h2; have Hb := hid h2; clear h2 hgrow)
    have hk2 := hk1.setCell (p := ⟨w.heap.size, 0, none⟩) (.inl rfl) (.slice (some ⟨g', 0, none⟩) (pre.length + 1) cap')
    refine ⟨hk2, ⟨_, by simpa using blk_set Hb.out 0 _, own_keeps hown' ((Keeps.refl (fun k => k = w.heap.size) w1).setCell (p := ⟨w.heap.size, 0, none⟩) rfl _) (fun b hb h => by have := (hown'.lt b hb).1; omega)⟩, i3.trans (hk2.below i3.size (fun k h1 h2 => by omega)), ?_⟩
    have := hk1.size
    omega
  case done =>
    rintro W ⟨⟨v, i1, i2⟩, i3, i4⟩ hD
    have cv := cell_of_one i1
    rw [List.length_zipIdx, zip_map] at i2
    obtain ⟨a, cap, rfl, hv, hb⟩ := vals_of_own i2
    gi_wp2
    refine ⟨by simp, .inl ⟨_, _, rfl, run_takeDeferred hD, ?_⟩⟩
    refine ⟨_, results_tmp rfl _ _ _, a, cap, rfl, hv.keeps (S := fun k => k = w.heap.size + 2) ((Keeps.refl _ W).putObj (by simp) _) (fun _ x hx => by have := (hb x hx).1; omega), fun x hx => by have := (hb x hx).1; omega, ?_⟩
    exact i3.trans (((Keeps.refl (fun k => w.heap.size ≤ k) W).putObj (by simp; omega) _).below i3.size (fun k h1 h2 => by omega))
theorem ring_New_no (x : Int) (hx : x < 1 ∨ 4096 < x) (w : World) :
    Calls Try.prog 30 #[.int .i64 x] w fun e w' => e = .returned (.tuple #[.pointer none, .int .i64 1]) ∧ w = w' := by
  have hd : decide (1 ≤ x ∧ x ≤ 4096) = false := by simp; omega
  go_enter Try.func30, Try.ntmps30
  go_wp2_with fail
  refine (ring_may x w).mono ?_
  rintro e w' ⟨rfl, rfl⟩
  rw [hd]
  go_wp2
  go_ret2
  exact ⟨rfl, rfl⟩
theorem ring_New2 (size : Nat) (h1 : 1 ≤ size) (h2 : size ≤ 4096) (w : World) :
    Calls Try.prog 30 #[.int .i64 size] w fun e w' => e = .returned (.tuple #[.pointer (some ⟨w.heap.size + 1, 0, none⟩), .int .i64 0]) ∧ RingAt w' (w.heap.size + 1) w.heap.size size (List.replicate size 0) 0 0 ∧ Below w.heap.size w w' ∧ w'.heap.size = w.heap.size + 2 := by
  obtain ⟨i0, hi, hz0, hz1, hz2⟩ := info_parts info_e
  have hd : decide (1 ≤ (size : Int) ∧ (size : Int) ≤ 4096) = true := by simp; omega
  have hmk := run_make (P := Try.prog) w 35 5 i0 (Value.int .u8 0) Try.underlying35 hi hz0 .i64 .i64 size size (by omega) (Int.le_refl _) (by rw [hz2]; omega) (by omega)
  have hcells : madeCells ((Value.int .u8 0) : Value).cells size = ((List.replicate size (0 : Int)).map fun x => (Value.int .u8 x)).toArray := by
    apply Array.toList_inj.1
    rw [show ((Value.int .u8 0) : Value).cells = #[(Value.int .u8 0)] from rfl, toList_madeCells_one]
    simp
  rw [hz1, Int.toNat_natCast, Nat.mul_one, hcells] at hmk
  have Hhi := hid hi
  clear hcells hi hz0 hz1 hz2
  go_enter Try.func30, Try.ntmps30
  go_wp2_with fail
  refine (ring_may size w).mono ?_
  rintro e w' ⟨rfl, rfl⟩
  rw [hd]
  clear hd
  go_wp2
  go_ret2
  refine ⟨rfl, ⟨?_, ?_, by simp, h1, h2, by omega, by omega, by omega⟩, ((Below.refl _ w).alloc (Nat.le_refl _) _).alloc (by simp) _, by simp⟩
  · have := blk_new (w.alloc (.cells ((List.replicate size (0 : Int)).map fun x => (Value.int .u8 x)).toArray 5)) (.cells #[.slice (some ⟨w.heap.size, 0, none⟩) size size, .int .i64 0, .int .i64 0] 105)
    simpa using this
  · have := blk_alloc (blk_new w (.cells ((List.replicate size (0 : Int)).map fun x => (Value.int .u8 x)).toArray 5)) (.cells #[.slice (some ⟨w.heap.size, 0, none⟩) size size, .int .i64 0, .int .i64 0] 105)
    simpa using this
theorem ring_New (size : Nat) (h1 : 1 ≤ size) (h2 : size ≤ 4096) (w : World) :
    Calls Try.prog 30 #[.int .i64 size] w fun e w' => e = .returned (.tuple #[.pointer (some ⟨w.heap.size + 1, 0, none⟩), .int .i64 0]) ∧ RingAt w' (w.heap.size + 1) w.heap.size size (List.replicate size 0) 0 0 ∧ Below w.heap.size w w' :=
  (ring_New2 size h1 h2 w).mono fun _ _ ⟨h1, h2, h3, _⟩ => ⟨h1, h2, h3⟩
end Go.Proofs.Ytaobhbfhbmenfaa
