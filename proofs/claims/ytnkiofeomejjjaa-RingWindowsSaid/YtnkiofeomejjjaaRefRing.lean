/- What the reference's ring returns, and leaves in memory. -/
import Derived.Test.YtnkiofeomejjjaaRing2
import Derived.Test.YtnkiofeomejjjaaMix
import Derived.RegionTactic
import Derived.IntWalk
namespace Go.Proofs.Ytnkiofeomejjjaa
open Go.RowKit
/-- a slice of integers reads as L -/
def ints (L : List Int) : List Value := L.map fun x => .int .i64 x
theorem ints_get (L : List Int) (k : Nat) (h : k < L.length) : (ints L)[k]? = some (.int .i64 L[k]) := by simp [ints, h]
theorem ints_len (L : List Int) : (ints L).length = L.length := by simp [ints]
theorem ints_one (L : List Int) : ∀ u ∈ ints L, u.oneCell' = true := by
  intro u hu
  obtain ⟨x, _, rfl⟩ := List.mem_map.1 hu
  rfl
/-- the reference's ring lies in block m; its list in a block behind it -/
structure RefAt (w : World) (m size : Nat) (a : Option Addr) (cap : Nat) (L : List Int) : Prop where
  head : w.heap[m]? = some (.cells #[.int .i64 size, .slice a L.length cap] 38 (0, 0))
  vals : Vals w 1 a L.length cap (ints L)
  apart : ∀ x, a = some x → m < x.block
def IsRef (w : World) (m size : Nat) (L : List Int) : Prop := ∃ a cap, RefAt w m size a cap L
theorem IsRef.keeps {w w' : World} {m size : Nat} {L : List Int} {S : Nat → Prop} (h : IsRef w m size L) (hk : Keeps S w w') (hs : ∀ b, m ≤ b → b < w.heap.size → ¬ S b) : IsRef w' m size L := by
  obtain ⟨a, cap, h1, h2, h3⟩ := h
  exact ⟨a, cap, hk.heap h1 (hs m (Nat.le_refl _) (blk_lt h1)), h2.keeps hk (fun hn x hx => hs _ (Nat.le_of_lt (h3 x hx)) (h2.lt (by omega) hn hx)), h3⟩
theorem isRef_set {w : World} {m size base n : Nat} {L : List Int} {u v : Value} (h1 : w.heap[m]? = some (.cells #[.int .i64 size, u] 38 (0, 0))) (hown : w.ownsRow base 3 1 v n (ints L)) (hb : m < base) :
    IsRef (w.setCell ⟨m, 1, none⟩ v) m size L := by
  obtain ⟨a, cap, rfl, hv, hx⟩ := vals_of_own hown
  have hn : n = L.length := by have := hown.1; simp [ints] at this; omega
  subst hn
  exact ⟨a, cap, by simpa using blk_set h1 1 (.slice a L.length cap), hv.keeps (S := fun b => b = m) ((Keeps.refl (fun b => b = m) w).setCell (p := ⟨m, 1, none⟩) rfl _) (fun _ x h => by have := (hx x h).1; omega), fun x h => by have := (hx x h).1; omega⟩
variable {w : World} {m size : Nat} {L : List Int}
theorem refring_Push_full (h : IsRef w m size L) (hn : L.length = size) (x : Int) :
    Calls Try.prog 13 #[.pointer (some ⟨m, 0, none⟩), .int .i64 x] w fun e w' => e = .returned (.int .i64 8) ∧ ∃ q, w' = w.drewN q := by
  subst hn
  obtain ⟨a, cap, h1, h2, h3⟩ := h
  have c0 : w.cell? ⟨m, 0, none⟩ = some (.int .i64 L.length) := blk_cell h1 rfl
  have c1 : w.cell? ⟨m, 1, none⟩ = some (.slice a L.length cap) := blk_cell h1 rfl
  go_enter Try.func13, Try.ntmps13
  go_wp2
  go_quiet (fail)
  go_wp2
  go_ret
  exact ⟨rfl, _, rfl⟩
set_option maxHeartbeats 800000 in
theorem refring_Push (h : IsRef w m size L) (hn : L.length < size) (hs : size ≤ 4096) (x : Int) :
    Calls Try.prog 13 #[.pointer (some ⟨m, 0, none⟩), .int .i64 x] w fun e w' => e = .returned (.int .i64 0) ∧ IsRef w' m size (L ++ [x]) ∧ Keeps (fun b => b = m) w w' := by
  obtain ⟨i0, hi, hz0, hz1, hz2⟩ := info_parts info_e
  obtain ⟨a, cap, h1, h2, h3⟩ := h
  have c0 : w.cell? ⟨m, 0, none⟩ = some (.int .i64 size) := blk_cell h1 rfl
  have c1 : w.cell? ⟨m, 1, none⟩ = some (.slice a L.length cap) := blk_cell h1 rfl
  have f1 := blk_free h1 1
  have lm := blk_lt h1
  have hq : ((L.length : Int) == (size : Int)) = false := by rw [beq_eq_false_iff_ne]; omega
  have Hi := hid hi
  clear hi
  go_enter Try.func13, Try.ntmps13
  go_wp2
  go_quiet (fail)
  have c1a : ((w.drewN nq).alloc (.cells #[] 3)).cell? ⟨m, 1, none⟩ = some (.slice a L.length cap) := cell_past c1 _
  go_wp2_with (first
    | (at_builtin
       refine wpList_append_vals _ rfl (.tmp 16) (.tmp 20) _ rfl w.heap.size 3 i0 _ 1 8 Try.underlying22 Hi.out hz0 hz1 hz2 rfl (by omega) (.slice (some ⟨w.heap.size, 0, none⟩) 0 0) 0 [] rfl (own_empty (Nat.le_refl _) (blk_new _ _)) a L.length cap (ints L) rfl (h2.keeps (S := fun _ => False) (((Keeps.refl _ w).drewN _).alloc _) (fun _ _ _ => id)) (ints_one L) (by simp only [maxLen]; omega) (by omega) (by simp) ?_
       intro v1 w1 hown1 hg1 _
       have hk1 : Keeps (fun _ => False) w w1 := (((Keeps.refl _ w).drewN _).alloc _).grown hg1 (fun k hk => .inr (by simp [Value.ownBlock] at hk; omega))
       have c1' := hk1.cell c1 id
       have f1' := (hk1.frozen (p := ⟨m, 1, none⟩) lm id).trans f1
       clear hg1)
    | (at_builtin
       refine wpList_append_vals _ rfl (.tmp 21) (.tmp 23) _ rfl w.heap.size 3 i0 _ 1 8 Try.underlying22 Hi.out hz0 hz1 hz2 rfl (by omega) v1 (0 + L.length) ([] ++ ints L) rfl (hown1.alloc _) (some ⟨w1.heap.size, 0, none⟩) 1 1 [.int .i64 x] rfl (vals_one _ _ _) (by simp [Value.oneCell']) (by simp only [maxLen]; omega) (by omega) (by have := hk1.size; simp; omega) ?_
       intro v2 w2 hown2 hg2 _
       have hk2 : Keeps (fun _ => False) w w2 := (hk1.alloc _).grown hg2 (fun k hk => .inr ((hown1.lt k hk).1))
       obtain ⟨g', cap', rfl⟩ := ownsRow_succ hown2
       have c1'' := hk2.cell c1 id
       have f1'' := (hk2.frozen (p := ⟨m, 1, none⟩) lm id).trans f1
       clear hg2))
  go_ret
  exact ⟨rfl, isRef_set (hk2.heap h1 id) (by simpa [ints] using hown2) lm, (hk2.mono (T := fun b => b = m) fun _ _ h => h.elim).setCell (p := ⟨m, 1, none⟩) rfl _⟩
set_option maxHeartbeats 1600000 in
theorem refring_Take (h : IsRef w m size L) (hs : L.length ≤ 4096) (i : Nat) (x : Int) (hx : x = i) (hi : i < L.length) (v : Int) (hv : L[i]? = some v) :
    Calls Try.prog 33 #[.pointer (some ⟨m, 0, none⟩), .int .i64 x] w fun e w' => e = .returned (.tuple #[.int .i64 v, .bool true]) ∧ IsRef w' m size (L.eraseIdx i) ∧ Keeps (fun b => b = m) w w' := by
  subst hx
  obtain ⟨i0, hi, hz0, hz1, hz2⟩ := info_parts info_e
  obtain ⟨a, cap, h1, h2, h3⟩ := h
  obtain ⟨b, o, rfl, hc⟩ := h2.at' (by omega)
  have c0 : w.cell? ⟨m, 0, none⟩ = some (.int .i64 size) := blk_cell h1 rfl
  have c1 : w.cell? ⟨m, 1, none⟩ = some (.slice (some ⟨b, o, none⟩) L.length cap) := blk_cell h1 rfl
  have f1 := blk_free h1 1
  have lm := blk_lt h1
  have ci : w.cell? ⟨b, o + i, none⟩ = some (.int .i64 v) := hc i _ (by simp [ints, hv])
  obtain ⟨q1, hq1, hv1⟩ : ∃ q, (∀ w1 : World, (Instr.slice 22 (.slice (some ⟨b, o, none⟩) L.length cap) none (some (.int .i64 i)) none).run Try.prog w1 = .ok (.slice q i cap) w1) ∧ Vals w 1 q i cap ((ints L).take i) :=
    ⟨_, fun w1 => by rw [run_slice_h w1 22 (some ⟨b, o, none⟩) L.length cap Try.underlying22 .i64 i (by omega) (by have := h2.2.1; omega)]; simp [go_sem, sliced], h2.take i (by omega)⟩
  obtain ⟨q2, hq2, hv2⟩ : ∃ q, (∀ w1 : World, (Instr.slice 22 (.slice (some ⟨b, o, none⟩) L.length cap) (some (.int .i64 (i + 1))) none none).run Try.prog w1 = .ok (.slice q (L.length - (i + 1)) (cap - (i + 1))) w1) ∧ Vals w 1 q (L.length - (i + 1)) (cap - (i + 1)) ((ints L).drop (i + 1)) :=
    ⟨_, fun w1 => by rw [run_slice_l w1 22 (some ⟨b, o, none⟩) L.length cap Try.underlying22 .i64 (i + 1) (by omega) (by omega)]; simp [go_sem, sliced], h2.drop (i + 1) (by omega)⟩
  have hw1 : IntKind.i64.wrap ((i : Int) + 1) = (i : Int) + 1 := IntWalk.i64_in _ (by omega)
  have hfin : (ints L).take i ++ (ints L).drop (i + 1) = ints (L.eraseIdx i) := by
    rw [ints, ints, ← List.map_take, ← List.map_drop, ← List.map_append, List.eraseIdx_eq_take_drop_succ]
  have ho1 : ∀ u ∈ (ints L).take i, u.oneCell' = true := fun u hu => ints_one L u (List.mem_of_mem_take hu)
  have ho2 : ∀ u ∈ (ints L).drop (i + 1), u.oneCell' = true := fun u hu => ints_one L u (List.mem_of_mem_drop hu)
  have Hi := hid hi
  have Hv := hid hv
  have Hf := hid hfin
  have O1 := hid ho1
  have O2 := hid ho2
  clear hi hc hv hfin ho1 ho2
  go_enter Try.func33, Try.ntmps33
  go_wp2_with fail
  have ck1 := kept_cell c1
  refine wp_region_mixk [0, 2, 3, 4, 5, 6, 7, 9, 10, 11, 12, 13, 14, 15] [1, 8, 16] [17, 18, 19] (by kernel_rfl) (by kernel_rfl) (fun _ _ _ d _ h => by cases d <;> exact h) ?_
  simp only [opsAt, List.map_cons, List.map_nil, List.getElem?_toArray, List.getElem?_cons_zero, List.getElem?_cons_succ, Option.getD_some]
  repeat (go_big_quiet_step (fail))
  refine wpQuiet_nil ?_
  refine ⟨rfl, ?_⟩
  go_simp
  refine ⟨kept (by first | exact ((Keeps.refl _ w).alloc _).drew | exact (Keeps.refl _ w).drew.alloc _), rfl, ?_⟩
  refine wp_append_vals _ (.tmp 26) (.tmp 32) _ rfl w.heap.size 3 i0 _ 1 8 Try.underlying22 Hi.out hz0 hz1 hz2 rfl (by omega) (.slice (some ⟨w.heap.size, 0, none⟩) 0 0) 0 [] rfl (own_empty (Nat.le_refl _) (blk_new w _)) q1 i cap ((ints L).take i) rfl (hv1.keeps (S := fun _ => False) ((Keeps.refl _ w).alloc _).drew (fun _ _ _ => id)) O1.out (by simp only [maxLen]; omega) (by omega) (by simp) ?_
  intro v1 w1 hown1 hg1 _
  have hk1 : Keeps (fun _ => False) w w1 := (((Keeps.refl _ w).alloc _).drew).grown hg1 (fun k hk => .inr (by simp [Value.ownBlock] at hk; omega))
  refine ⟨kept hk1, rfl, ?_⟩
  refine wp_append_vals _ (.tmp 33) (.tmp 40) _ rfl w.heap.size 3 i0 _ 1 8 Try.underlying22 Hi.out hz0 hz1 hz2 rfl (by omega) v1 (0 + i) ([] ++ (ints L).take i) rfl hown1 q2 (L.length - (i + 1)) (cap - (i + 1)) ((ints L).drop (i + 1)) rfl (hv2.keeps hk1 (fun _ _ _ => id)) O2.out (by simp only [maxLen]; omega) (by omega) hk1.size ?_
  intro v2 w2 hown2 hg2 _
  have hk2 : Keeps (fun _ => False) w w2 := hk1.grown hg2 (fun k hk => .inr ((hown1.lt k hk).1))
  refine ⟨kept hk2, ?_⟩
  have hnn : 0 + i + (L.length - (i + 1)) = (L.eraseIdx i).length := by rw [List.length_eraseIdx_of_lt (by omega)]; omega
  rw [List.nil_append, Hf.out, hnn] at hown2
  have c1' := hk2.cell c1 id
  have f1' := (hk2.frozen (p := ⟨m, 1, none⟩) lm id).trans f1
  have hr := isRef_set (hk2.heap h1 id) hown2 lm
  have hkk := (hk2.mono (T := fun b => b = m) fun _ _ h => h.elim).setCell (p := ⟨m, 1, none⟩) rfl v2
  obtain ⟨A2, cap2, rfl, _, _⟩ := vals_of_own hown2
  clear hg2 hg1 hown1 hown2 hk1 ck1 hq1 hq2 hnn
  unfold wpLinks
  go_wp2
  go_ret2
  exact ⟨rfl, hr, hkk⟩
theorem refring_Take_no (h : IsRef w m size L) (x : Int) (hx : x < 0 ∨ (L.length : Int) ≤ x) :
    Calls Try.prog 33 #[.pointer (some ⟨m, 0, none⟩), .int .i64 x] w fun e w' => e = .returned (.tuple #[.int .i64 0, .bool false]) ∧ w = w' := by
  obtain ⟨a, cap, h1, h2, h3⟩ := h
  have c1 : w.cell? ⟨m, 1, none⟩ = some (.slice a L.length cap) := blk_cell h1 rfl
  by_cases h0 : x < 0
  · clear hx
    go_enter Try.func33, Try.ntmps33
    go_wp2
    go_ret2
    exact ⟨rfl, rfl⟩
  · have h1 : (L.length : Int) ≤ x := by omega
    clear hx
    go_enter Try.func33, Try.ntmps33
    go_wp2
    go_ret2
    exact ⟨rfl, rfl⟩
end Go.Proofs.Ytnkiofeomejjjaa
