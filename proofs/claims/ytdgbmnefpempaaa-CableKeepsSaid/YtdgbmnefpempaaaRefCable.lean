/- What the reference's cable returns, and leaves in memory. -/
import Derived.Test.YtdgbmnefpempaaaCable
import Derived.Test.YtdgbmnefpempaaaTree
import Derived.RegionTactic
import Derived.IntWalk
namespace Go.Proofs.Ytdgbmnefpempaaa
open Go.RowKit
def strs (L : List ByteArray) : List Value := L.map fun x => .string x
theorem strs_get (L : List ByteArray) (k : Nat) (h : k < L.length) : (strs L)[k]? = some (.string L[k]) := by simp [strs, h]
theorem strs_one (L : List ByteArray) : ∀ u ∈ strs L, u.oneCell' = true := by
  intro u hu
  obtain ⟨x, _, rfl⟩ := List.mem_map.1 hu
  rfl
/-- the reference's cable lies in block m; its lists in blocks behind it -/
structure RefCAt (w : World) (m most : Nat) (s : CS) (p q : Option Addr) (cp cq : Nat) : Prop where
  head : w.heap[m]? = some (.cells #[.int .i64 most, .slice p s.a.length cp, .slice q s.b.length cq, .int .i64 s.lost] 42 (0, 0))
  va : Vals w 1 p s.a.length cp (strs s.a)
  vb : Vals w 1 q s.b.length cq (strs s.b)
  pa : ∀ x, p = some x → m < x.block
  pb : ∀ x, q = some x → m < x.block
def IsRefC (w : World) (m most : Nat) (s : CS) : Prop := ∃ p q cp cq, RefCAt w m most s p q cp cq
section
variable {w w' : World} {m most : Nat} {s : CS}
theorem IsRefC.keeps {S : Nat → Prop} (h : IsRefC w m most s) (hk : Keeps S w w') (hs : ∀ b, m ≤ b → b < w.heap.size → ¬ S b) : IsRefC w' m most s := by
  obtain ⟨p, q, cp, cq, h1, h2, h3, h4, h5⟩ := h
  exact ⟨p, q, cp, cq, hk.heap h1 (hs m (Nat.le_refl _) (blk_lt h1)), h2.keeps hk (fun hn x hx => hs _ (Nat.le_of_lt (h4 x hx)) (h2.lt (by omega) hn hx)), h3.keeps hk (fun hn x hx => hs _ (Nat.le_of_lt (h5 x hx)) (h3.lt (by omega) hn hx)), h4, h5⟩
theorem IsRefC.lt (h : IsRefC w m most s) : m < w.heap.size := by
  obtain ⟨p, q, cp, cq, h1⟩ := h
  exact blk_lt h1.head
/-- a list of its own laid into an end -/
theorem refC_set {base n : Nat} {to : Int} {L : List ByteArray} {v : Value} (h : IsRefC w m most s) (ht : okTo to) (hown : w.ownsRow base 9 1 v n (strs L)) (hb : m < base) :
    IsRefC (w.setCell ⟨m, 1 + to.toNat, none⟩ v) m most (s.put to L) := by
  obtain ⟨p, q, cp, cq, h1, h2, h3, h4, h5⟩ := h
  obtain ⟨a, cap, rfl, hv, hx⟩ := vals_of_own hown
  have hn : n = L.length := by have := hown.1; simp [strs] at this; omega
  subst hn
  rcases ht with rfl | rfl
  · have hk := (Keeps.refl (fun b => b = m) w).setCell (p := ⟨m, 1, none⟩) rfl (.slice a L.length cap)
    exact ⟨a, q, cap, cq, by simpa [CS.put] using blk_set h1 1 (.slice a L.length cap), hv.keeps hk (fun _ x h => by have := (hx x h).1; omega), h3.keeps hk (fun _ x h => by have := h5 x h; omega), fun x h => by have := (hx x h).1; omega, h5⟩
  · have hk := (Keeps.refl (fun b => b = m) w).setCell (p := ⟨m, 2, none⟩) rfl (.slice a L.length cap)
    exact ⟨p, a, cp, cap, by simpa [CS.put] using blk_set h1 2 (.slice a L.length cap), h2.keeps hk (fun _ x h => by have := h4 x h; omega), hv.keeps hk (fun _ x h => by have := (hx x h).1; omega), h4, fun x h => by have := (hx x h).1; omega⟩
theorem IsRefC.setLost (h : IsRefC w m most s) (n : Int) : IsRefC (w.setCell ⟨m, 3, none⟩ (.int .i64 n)) m most { s with lost := n } := by
  obtain ⟨p, q, cp, cq, h1, h2, h3, h4, h5⟩ := h
  have hk := (Keeps.refl (fun b => b = m) w).setCell (p := ⟨m, 3, none⟩) rfl (.int .i64 n)
  exact ⟨p, q, cp, cq, by simpa using blk_set h1 3 (.int .i64 n), h2.keeps hk (fun _ x h => by have := h4 x h; omega), h3.keeps hk (fun _ x h => by have := h5 x h; omega), h4, h5⟩
/-- the slice of an end -/
theorem IsRefC.side (h : IsRefC w m most s) (to : Int) (ht : okTo to) : ∃ a cap, w.cell? ⟨m, 1 + to.toNat, none⟩ = some (.slice a (s.get to).length cap) ∧ Vals w 1 a (s.get to).length cap (strs (s.get to)) := by
  obtain ⟨p, q, cp, cq, h1, h2, h3, h4, h5⟩ := h
  rcases ht with rfl | rfl
  · exact ⟨p, cp, blk_cell h1 rfl, h2⟩
  · exact ⟨q, cq, blk_cell h1 rfl, h3⟩
theorem refC_Copy (h : IsRefC w m most s) (to i : Int) :
    Calls Try.prog 37 #[.pointer (some ⟨m, 0, none⟩), .int .i64 to, .int .i64 i] w fun e w' => e = .returned (.tuple #[strV (copyC s to i), .bool (copyC s to i).isSome]) ∧ w = w' := by
  by_cases ht : okTo to
  · obtain ⟨a, cap, hc, hv⟩ := h.side to ht
    by_cases hi : 0 ≤ i ∧ i < (s.get to).length
    · obtain ⟨k, rfl⟩ := Int.eq_ofNat_of_zero_le hi.1
      have hk : k < (s.get to).length := by omega
      have hcp : copyC s to k = some (s.get to)[k] := by unfold copyC; rw [if_pos ⟨ht, hi.1⟩]; simp [hk]
      rw [hcp]
      obtain ⟨b, o, rfl, hcl⟩ := hv.at' (by omega)
      have hck : w.cell? ⟨b, o + k, none⟩ = some (.string (s.get to)[k]) := hcl k _ (strs_get _ k hk)
      clear hi hcp hcl
      generalize hL : s.get to = L at *
      clear hL
      rcases ht with rfl | rfl
      · have hcj : w.cell? ⟨m, 1, none⟩ = some (.slice _ L.length cap) := hc
        clear hc
        go_enter Try.func37, Try.ntmps37
        go_wp2
        go_ret2
        exact ⟨rfl, rfl⟩
      · have hcj : w.cell? ⟨m, 2, none⟩ = some (.slice _ L.length cap) := hc
        clear hc
        go_enter Try.func37, Try.ntmps37
        go_wp2
        go_ret2
        exact ⟨rfl, rfl⟩
    · have hno : i < 0 ∨ ((s.get to).length : Int) ≤ i := by omega
      rw [(copyC_no ht hno).1]
      clear hi
      generalize hL : s.get to = L at *
      clear hL
      by_cases h0 : i < 0
      · clear hno
        rcases ht with rfl | rfl
        · have hcj : w.cell? ⟨m, 1, none⟩ = some (.slice _ L.length cap) := hc
          clear hc
          go_enter Try.func37, Try.ntmps37
          go_wp2
          go_ret2
          exact ⟨rfl, rfl⟩
        · have hcj : w.cell? ⟨m, 2, none⟩ = some (.slice _ L.length cap) := hc
          clear hc
          go_enter Try.func37, Try.ntmps37
          go_wp2
          go_ret2
          exact ⟨rfl, rfl⟩
      · have h1 : (L.length : Int) ≤ i := by omega
        clear hno
        rcases ht with rfl | rfl
        · have hcj : w.cell? ⟨m, 1, none⟩ = some (.slice _ L.length cap) := hc
          clear hc
          go_enter Try.func37, Try.ntmps37
          go_wp2
          go_ret2
          exact ⟨rfl, rfl⟩
        · have hcj : w.cell? ⟨m, 2, none⟩ = some (.slice _ L.length cap) := hc
          clear hc
          go_enter Try.func37, Try.ntmps37
          go_wp2
          go_ret2
          exact ⟨rfl, rfl⟩
  · have hcp : copyC s to i = none := by unfold copyC; rw [if_neg (fun h => ht h.1)]
    rw [hcp]
    unfold okTo at ht
    by_cases h0 : to < 0
    · clear hcp ht
      go_enter Try.func37, Try.ntmps37
      go_wp2
      go_ret2
      exact ⟨rfl, rfl⟩
    · have h1 : 1 < to := by omega
      clear hcp ht
      go_enter Try.func37, Try.ntmps37
      go_wp2
      go_ret2
      exact ⟨rfl, rfl⟩
theorem info_s : (Try.prog.info? 9).map (fun i => (i.zero, i.size, i.bytes)) = some (some (.string ByteArray.empty), 1, 16) := by kernel_rfl
theorem strs_erase (L : List ByteArray) (i : Nat) : (strs L).take i ++ (strs L).drop (i + 1) = strs (L.eraseIdx i) := by
  rw [strs, strs, ← List.map_take, ← List.map_drop, ← List.map_append, List.eraseIdx_eq_take_drop_succ]
/-- the two pieces of a slice about an element -/
theorem pieces {w : World} {b o cap i : Nat} {L : List ByteArray} (h2 : Vals w 1 (some ⟨b, o, none⟩) L.length cap (strs L)) (hil : i < L.length) :
    (∃ q, (∀ w1 : World, (Instr.slice 28 (.slice (some ⟨b, o, none⟩) L.length cap) none (some (.int .i64 i)) none).run Try.prog w1 = .ok (.slice q i cap) w1) ∧ Vals w 1 q i cap ((strs L).take i)) ∧
    ∃ q, (∀ w1 : World, (Instr.slice 28 (.slice (some ⟨b, o, none⟩) L.length cap) (some (.int .i64 (i + 1))) none none).run Try.prog w1 = .ok (.slice q (L.length - (i + 1)) (cap - (i + 1))) w1) ∧ Vals w 1 q (L.length - (i + 1)) (cap - (i + 1)) ((strs L).drop (i + 1)) :=
  ⟨⟨_, fun w1 => by rw [run_slice_h w1 28 (some ⟨b, o, none⟩) L.length cap Try.underlying28 .i64 i (by omega) (by have := h2.2.1; omega)]; simp [go_sem, sliced], h2.take i (by omega)⟩,
   ⟨_, fun w1 => by rw [run_slice_l w1 28 (some ⟨b, o, none⟩) L.length cap Try.underlying28 .i64 (i + 1) (by omega) (by omega)]; simp [go_sem, sliced], h2.drop (i + 1) (by omega)⟩⟩
set_option maxHeartbeats 3200000 in
theorem refC_Take (h : IsRefC w m most s) (to i : Int) (hs : (s.get to).length ≤ 4096) :
    Calls Try.prog 36 #[.pointer (some ⟨m, 0, none⟩), .int .i64 to, .int .i64 i] w fun e w' => e = .returned (.tuple #[strV (copyC s to i), .bool (copyC s to i).isSome]) ∧ IsRefC w' m most (takeC s to i) ∧ Keeps (fun b => b = m) w w' := by
  have hC := refC_Copy h to i
  cases hcp : copyC s to i with
  | none =>
    rw [takeC_none hcp]
    rw [hcp] at hC
    have hcopy := hid hC
    clear hC hcp
    go_enter Try.func36, Try.ntmps36
    go_wp2_with fail
    refine (hcopy.out).mono ?_
    rintro e w' ⟨rfl, rfl⟩
    go_wp2
    go_ret2
    exact ⟨rfl, h, Keeps.refl _ _⟩
  | some v =>
    have hcv := hcp
    unfold copyC at hcv
    split at hcv
    · rename_i hti
      obtain ⟨ht, hi0⟩ := hti
      obtain ⟨i, rfl⟩ := Int.eq_ofNat_of_zero_le hi0
      have htk : takeC s to i = s.put to ((s.get to).eraseIdx i) := by unfold takeC; rw [if_pos ⟨ht, hi0⟩]; rfl
      have hil := (List.getElem?_eq_some_iff.1 hcv).1
      simp only [Int.toNat_natCast] at hil
      obtain ⟨i0, hi, hz0, hz1, hz2⟩ := info_parts info_s
      obtain ⟨a, cap, hc, hv⟩ := h.side to ht
      have lm := h.lt
      obtain ⟨b, o, rfl, _⟩ := hv.at' (by omega)
      rw [htk]
      rw [hcp] at hC
      have hcopy := hid hC
      have Hi := hid hi
      clear hC hcp hcv htk hi
      have Ht := hid ht
      generalize hL : s.get to = L at *
      clear hL
      obtain ⟨⟨q1, hq1, hv1⟩, q2, hq2, hv2⟩ := pieces hv hil
      have hw1 : IntKind.i64.wrap ((i : Int) + 1) = (i : Int) + 1 := IntWalk.i64_in _ (by omega)
      have O1 := hid (show ∀ u ∈ (strs L).take i, u.oneCell' = true from fun u hu => strs_one L u (List.mem_of_mem_take hu))
      have O2 := hid (show ∀ u ∈ (strs L).drop (i + 1), u.oneCell' = true from fun u hu => strs_one L u (List.mem_of_mem_drop hu))
      rcases ht with rfl | rfl
      · have c1 : w.cell? ⟨m, 1, none⟩ = some (.slice (some ⟨b, o, none⟩) L.length cap) := hc
        have f1 : w.frozen? ⟨m, 1, none⟩ = false := by
          obtain ⟨_, _, _, _, h1⟩ := h
          exact blk_free h1.head 1
        clear hc
        go_enter Try.func36, Try.ntmps36
        go_wp2_with fail
        refine (hcopy.out).mono ?_
        rintro e w' ⟨rfl, rfl⟩
        go_wp2_with fail
        have ck1 := keptS_cell (S := fun _ => False) (w := w.drew) c1 id
        refine stages_start (by kernel_rfl) 26 rfl ?_
        refine stagek (fun _ => False) [0, 1, 3, 4, 5, 6, 7, 8, 9, 10, 12, 13, 14, 15, 16, 17, 18, 19, 20, 22, 23] [2, 11, 21] 2 rfl #[true, true, true, true, true, true, true, true, true, true, true, true, true, true, true, true, true, true, true, true, true, true, true, true, false, false] (by kernel_rfl) (by kernel_rfl) (fun _ _ _ d _ h => by cases d <;> exact h) ?_
        simp only [opsAt, List.map_cons, List.map_nil, List.getElem?_toArray, List.getElem?_cons_zero, List.getElem?_cons_succ, Option.getD_some]
        repeat (go_big_quiet_step (fail))
        refine wpQuiet_nil ?_
        refine links_cons (by first | rfl | simp [go_sem]) (fun K hK => ?_)
        go_simp
        refine hK _ _ (keptS (by first | exact (Keeps.refl _ w.drew).alloc _ | exact (Keeps.trans ⟨rfl, rfl, rfl, Nat.le_refl _, fun _ _ _ => rfl⟩ ((Keeps.refl _ w).alloc _).drew))) ?_
        clear hK K
        refine links_cons (by first | rfl | simp [go_sem]) (fun K hK => ?_)
        refine wp_append_vals _ (.tmp 21) (.tmp 29) _ rfl w.heap.size 9 i0 _ 1 16 Try.underlying28 Hi.out hz0 hz1 hz2 rfl (by omega) (.slice (some ⟨w.heap.size, 0, none⟩) 0 0) 0 [] rfl (own_empty (Nat.le_refl _) (blk_new w _)) q1 i cap ((strs L).take i) rfl (hv1.keeps (S := fun _ => False) ((Keeps.refl _ w).alloc _).drew (fun _ _ _ => id)) O1.out (by simp only [maxLen]; omega) (by omega) (by simp) ?_
        intro v1 w1 hown1 hg1 _
        have hk1 : Keeps (fun _ => False) w w1 := (((Keeps.refl _ w).alloc _).drew).grown hg1 (fun k hk => .inr (by simp [Value.ownBlock] at hk; omega))
        refine hK _ _ (keptS (keeps_drew hk1)) ?_
        clear hK K
        refine links_cons (by first | rfl | simp [go_sem]) (fun K hK => ?_)
        refine wp_append_vals _ (.tmp 30) (.tmp 39) _ rfl w.heap.size 9 i0 _ 1 16 Try.underlying28 Hi.out hz0 hz1 hz2 rfl (by omega) v1 (0 + i) ([] ++ (strs L).take i) rfl hown1 q2 (L.length - (i + 1)) (cap - (i + 1)) ((strs L).drop (i + 1)) rfl (hv2.keeps hk1 (fun _ _ _ => id)) O2.out (by simp only [maxLen]; omega) (by omega) hk1.size ?_
        intro v2 w2 hown2 hg2 _
        have hk2 : Keeps (fun _ => False) w w2 := hk1.grown hg2 (fun k hk => .inr ((hown1.lt k hk).1))
        refine hK _ _ (keptS (keeps_drew hk2)) ?_
        clear hK K
        refine links_nil ?_
        have hnn : 0 + i + (L.length - (i + 1)) = (L.eraseIdx i).length := by rw [List.length_eraseIdx_of_lt (by omega)]; omega
        rw [List.nil_append, strs_erase, hnn] at hown2
        have c1' := hk2.cell c1 id
        have f1' := (hk2.frozen (p := ⟨m, 1, none⟩) lm id).trans f1
        have hr := refC_set (h.keeps hk2 (fun _ _ _ => id)) Ht.out hown2 lm
        have hkk := (hk2.mono (T := fun b => b = m) fun _ _ h => h.elim).setCell (p := ⟨m, 1, none⟩) rfl v2
        obtain ⟨A2, cap2, rfl, _, _⟩ := vals_of_own hown2
        clear hg2 hg1 hown1 hown2 hk1 ck1 hq1 hq2 hnn
        simp only [Act.put, List.setIfInBounds_toArray, List.set_cons_succ, List.set_cons_zero]
        refine stagek (fun _ => True) [24] [25] 0 rfl #[true, true, true, true, true, true, true, true, true, true, true, true, true, true, true, true, true, true, true, true, true, true, true, true, true, true] (by kernel_rfl) (by kernel_rfl) (fun _ _ _ d _ h => by cases d <;> exact h) ?_
        simp only [opsAt, List.map_cons, List.map_nil, List.getElem?_toArray, List.getElem?_cons_zero, List.getElem?_cons_succ, Option.getD_some]
        repeat (go_big_quiet_step (fail))
        refine wpQuiet_nil ?_
        refine links_cons (by first | rfl | simp [go_sem]) (fun K hK => ?_)
        go_simp
        refine hK _ _ (keptS ((Keeps.refl _ w2).setCell (p := ⟨m, 1, none⟩) trivial _)) ?_
        clear hK K
        refine links_nil ?_
        refine stages_end (by kernel_rfl) ?_
        go_wp2
        go_ret2
        exact ⟨rfl, hr, hkk⟩
      · have c1 : w.cell? ⟨m, 2, none⟩ = some (.slice (some ⟨b, o, none⟩) L.length cap) := hc
        have f1 : w.frozen? ⟨m, 2, none⟩ = false := by
          obtain ⟨_, _, _, _, h1⟩ := h
          exact blk_free h1.head 2
        clear hc
        go_enter Try.func36, Try.ntmps36
        go_wp2_with fail
        refine (hcopy.out).mono ?_
        rintro e w' ⟨rfl, rfl⟩
        go_wp2_with fail
        have ck1 := keptS_cell (S := fun _ => False) (w := w.drew) c1 id
        refine stages_start (by kernel_rfl) 26 rfl ?_
        refine stagek (fun _ => False) [0, 1, 3, 4, 5, 6, 7, 8, 9, 10, 12, 13, 14, 15, 16, 17, 18, 19, 20, 22, 23] [2, 11, 21] 2 rfl #[true, true, true, true, true, true, true, true, true, true, true, true, true, true, true, true, true, true, true, true, true, true, true, true, false, false] (by kernel_rfl) (by kernel_rfl) (fun _ _ _ d _ h => by cases d <;> exact h) ?_
        simp only [opsAt, List.map_cons, List.map_nil, List.getElem?_toArray, List.getElem?_cons_zero, List.getElem?_cons_succ, Option.getD_some]
        repeat (go_big_quiet_step (fail))
        refine wpQuiet_nil ?_
        refine links_cons (by first | rfl | simp [go_sem]) (fun K hK => ?_)
        go_simp
        refine hK _ _ (keptS (by first | exact (Keeps.refl _ w.drew).alloc _ | exact (Keeps.trans ⟨rfl, rfl, rfl, Nat.le_refl _, fun _ _ _ => rfl⟩ ((Keeps.refl _ w).alloc _).drew))) ?_
        clear hK K
        refine links_cons (by first | rfl | simp [go_sem]) (fun K hK => ?_)
        refine wp_append_vals _ (.tmp 21) (.tmp 29) _ rfl w.heap.size 9 i0 _ 1 16 Try.underlying28 Hi.out hz0 hz1 hz2 rfl (by omega) (.slice (some ⟨w.heap.size, 0, none⟩) 0 0) 0 [] rfl (own_empty (Nat.le_refl _) (blk_new w _)) q1 i cap ((strs L).take i) rfl (hv1.keeps (S := fun _ => False) ((Keeps.refl _ w).alloc _).drew (fun _ _ _ => id)) O1.out (by simp only [maxLen]; omega) (by omega) (by simp) ?_
        intro v1 w1 hown1 hg1 _
        have hk1 : Keeps (fun _ => False) w w1 := (((Keeps.refl _ w).alloc _).drew).grown hg1 (fun k hk => .inr (by simp [Value.ownBlock] at hk; omega))
        refine hK _ _ (keptS (keeps_drew hk1)) ?_
        clear hK K
        refine links_cons (by first | rfl | simp [go_sem]) (fun K hK => ?_)
        refine wp_append_vals _ (.tmp 30) (.tmp 39) _ rfl w.heap.size 9 i0 _ 1 16 Try.underlying28 Hi.out hz0 hz1 hz2 rfl (by omega) v1 (0 + i) ([] ++ (strs L).take i) rfl hown1 q2 (L.length - (i + 1)) (cap - (i + 1)) ((strs L).drop (i + 1)) rfl (hv2.keeps hk1 (fun _ _ _ => id)) O2.out (by simp only [maxLen]; omega) (by omega) hk1.size ?_
        intro v2 w2 hown2 hg2 _
        have hk2 : Keeps (fun _ => False) w w2 := hk1.grown hg2 (fun k hk => .inr ((hown1.lt k hk).1))
        refine hK _ _ (keptS (keeps_drew hk2)) ?_
        clear hK K
        refine links_nil ?_
        have hnn : 0 + i + (L.length - (i + 1)) = (L.eraseIdx i).length := by rw [List.length_eraseIdx_of_lt (by omega)]; omega
        rw [List.nil_append, strs_erase, hnn] at hown2
        have c1' := hk2.cell c1 id
        have f1' := (hk2.frozen (p := ⟨m, 2, none⟩) lm id).trans f1
        have hr := refC_set (h.keeps hk2 (fun _ _ _ => id)) Ht.out hown2 lm
        have hkk := (hk2.mono (T := fun b => b = m) fun _ _ h => h.elim).setCell (p := ⟨m, 2, none⟩) rfl v2
        obtain ⟨A2, cap2, rfl, _, _⟩ := vals_of_own hown2
        clear hg2 hg1 hown1 hown2 hk1 ck1 hq1 hq2 hnn
        simp only [Act.put, List.setIfInBounds_toArray, List.set_cons_succ, List.set_cons_zero]
        refine stagek (fun _ => True) [24] [25] 0 rfl #[true, true, true, true, true, true, true, true, true, true, true, true, true, true, true, true, true, true, true, true, true, true, true, true, true, true] (by kernel_rfl) (by kernel_rfl) (fun _ _ _ d _ h => by cases d <;> exact h) ?_
        simp only [opsAt, List.map_cons, List.map_nil, List.getElem?_toArray, List.getElem?_cons_zero, List.getElem?_cons_succ, Option.getD_some]
        repeat (go_big_quiet_step (fail))
        refine wpQuiet_nil ?_
        refine links_cons (by first | rfl | simp [go_sem]) (fun K hK => ?_)
        go_simp
        refine hK _ _ (keptS ((Keeps.refl _ w2).setCell (p := ⟨m, 2, none⟩) trivial _)) ?_
        clear hK K
        refine links_nil ?_
        refine stages_end (by kernel_rfl) ?_
        go_wp2
        go_ret2
        exact ⟨rfl, hr, hkk⟩
    · cases hcv
end
end Go.Proofs.Ytdgbmnefpempaaa
