/- Sending, on a cable and on the reference's. -/
import Derived.Test.YtdgbmnefpempaaaRefCable
namespace Go.Proofs.Ytdgbmnefpempaaa
open Go.RowKit
def okText (t : ByteArray) : Prop := 0 < t.size ∧ t.size ≤ 256
instance (t : ByteArray) : Decidable (okText t) := by unfold okText; infer_instance
def sendE (to : Int) (t : ByteArray) : Int := if ¬ okTo to ∨ t.size = 0 then 1 else if 256 < t.size then 5 else 0
def sendB (s : CS) (most : Nat) (to : Int) (t : ByteArray) : Bool := decide (okTo to ∧ okText t ∧ (s.get to).length < most)
def sendC (s : CS) (most : Nat) (to : Int) (t : ByteArray) : CS := if okTo to ∧ okText t then (if (s.get to).length < most then s.put to (s.get to ++ [t]) else { s with lost := s.lost + 1 }) else s
section
variable {w w' : World} {c m most : Nat} {s : CS}
theorem empty_of (t : ByteArray) (h : t.size = 0) : t.toList.isEmpty = true := by
  rw [ByteArray.toList_eq, show t.data.toList = [] from List.length_eq_zero_iff.1 (by simpa using h)]; rfl
theorem nonempty_of (t : ByteArray) (h : 0 < t.size) : t.toList.isEmpty = false := by
  rw [ByteArray.toList_eq]
  cases hd : t.data.toList with
  | nil =>
    have h1 : t.data.toList.length = t.size := by simp
    rw [hd] at h1
    simp at h1
    omega
  | cons a l => rfl
theorem strs_snoc (L : List ByteArray) (t : ByteArray) : strs L ++ [.string t] = strs (L ++ [t]) := by simp [strs]
theorem send_no {to : Int} {t : ByteArray} (h : ¬ (okTo to ∧ okText t)) : sendB s most to t = false ∧ sendC s most to t = s := by
  unfold sendB sendC
  rw [if_neg h]
  exact ⟨by simp; exact fun h1 h2 => absurd ⟨h1, h2⟩ h, rfl⟩
theorem cable_Send (h : IsCable w c most s) (hl : 0 ≤ s.lost ∧ s.lost ≤ 1000000) (to : Int) (t : ByteArray) (hsz : t.size ≤ maxLen) :
    Calls Try.prog 10 #[.pointer (some ⟨c, 0, none⟩), .int .i64 to, .string t] w fun e w' => e = .returned (.tuple #[.bool (sendB s most to t), .int .i64 (sendE to t)]) ∧ IsCable w' c most (sendC s most to t) ∧ Keeps (ofCable c) w w' := by
  unfold maxLen at hsz
  by_cases ht : okTo to
  · by_cases h0 : t.size = 0
    · have he : sendE to t = 1 := by unfold sendE; rw [if_pos (.inr h0)]
      have hno := send_no (s := s) (most := most) (to := to) (t := t) (fun hh => by have := hh.2.1; omega)
      rw [he, hno.1, hno.2]
      have hem := empty_of t h0
      clear he hno h0
      go_enter Try.func10, Try.ntmps10
      go_wp2_with fail
      refine (cable_end h to ht).mono ?_
      rintro e w' ⟨rfl, rfl⟩
      go_wp2_with fail
      go_ret2
      exact ⟨rfl, h, Keeps.refl _ _⟩
    · have hem := nonempty_of t (by omega)
      by_cases h1 : 256 < t.size
      · have he : sendE to t = 5 := by unfold sendE; rw [if_neg (by simp [ht, h0]), if_pos h1]
        have hno := send_no (s := s) (most := most) (to := to) (t := t) (fun hh => by have := hh.2.2; omega)
        rw [he, hno.1, hno.2]
        clear he hno h0
        go_enter Try.func10, Try.ntmps10
        go_wp2_with fail
        refine (cable_end h to ht).mono ?_
        rintro e w' ⟨rfl, rfl⟩
        go_wp2_with fail
        go_ret2
        exact ⟨rfl, h, Keeps.refl _ _⟩
      · have he : sendE to t = 0 := by unfold sendE; rw [if_neg (by simp [ht, h0]), if_neg h1]
        have hok : okText t := ⟨by omega, by omega⟩
        by_cases hf : (s.get to).length < most
        · have hb : sendB s most to t = true := by unfold sendB; simp [ht, hok, hf]
          have hc : sendC s most to t = s.put to (s.get to ++ [t]) := by unfold sendC; rw [if_pos ⟨ht, hok⟩, if_pos hf]
          rw [he, hb, hc]
          clear he hb hc h0
          go_enter Try.func10, Try.ntmps10
          go_wp2_with fail
          refine (cable_end h to ht).mono ?_
          rintro e w' ⟨rfl, rfl⟩
          go_wp2_with fail
          refine (is_Push (h.ring to) hf t).mono ?_
          rintro e w' ⟨rfl, hr, hk⟩
          go_wp2_with fail
          go_ret2
          exact ⟨rfl, h.put to hr hk, hk.mono (fun b _ hb => end_of c to b hb)⟩
        · have hb : sendB s most to t = false := by unfold sendB; simp [hf]
          have hc : sendC s most to t = { s with lost := s.lost + 1 } := by unfold sendC; rw [if_pos ⟨ht, hok⟩, if_neg hf]
          rw [he, hb, hc]
          have hfl : (s.get to).length = most := by have := (h.ring to).le.1; omega
          have Hfl := hid hfl
          clear he hb hc h0 hf hfl
          go_enter Try.func10, Try.ntmps10
          go_wp2_with fail
          refine (cable_end h to ht).mono ?_
          rintro e w' ⟨rfl, rfl⟩
          go_wp2_with fail
          refine (is_Push_full (h.ring to) Hfl.out t).mono ?_
          rintro e w2 ⟨rfl, hr, hk⟩
          have h2 := h.put to hr hk
          rw [CS.put_get] at h2
          have c2 : w2.cell? ⟨c, 2, none⟩ = some (.int .i64 s.lost) := blk_cell h2.head rfl
          have f2 := blk_free h2.head 2
          go_wp2_with fail
          go_ret2
          exact ⟨rfl, h2.setLost _, (hk.mono (fun b _ hb => end_of c to b hb)).setCell (p := ⟨c, 2, none⟩) ⟨by simp, by simp⟩ _⟩
  · have he : sendE to t = 1 := by unfold sendE; rw [if_pos (.inl ht)]
    have hno := send_no (s := s) (most := most) (to := to) (t := t) (fun hh => ht hh.1)
    rw [he, hno.1, hno.2]
    clear he hno
    go_enter Try.func10, Try.ntmps10
    go_wp2_with fail
    refine (cable_end_no c to ht w).mono ?_
    rintro e w' ⟨rfl, rfl⟩
    go_wp2_with fail
    go_ret2
    exact ⟨rfl, h, Keeps.refl _ _⟩
set_option maxHeartbeats 3200000 in
theorem refC_Send (h : IsRefC w m most s) (to : Int) (hmost : most ≤ 64) (hle : (s.get to).length ≤ most) (hl : 0 ≤ s.lost ∧ s.lost ≤ 1000000) (t : ByteArray) (hsz : t.size ≤ maxLen) :
    Calls Try.prog 35 #[.pointer (some ⟨m, 0, none⟩), .int .i64 to, .string t] w fun e w' => e = .returned (.tuple #[.bool (sendB s most to t), .int .i64 (sendE to t)]) ∧ IsRefC w' m most (sendC s most to t) ∧ Keeps (fun b => b = m) w w' := by
  unfold maxLen at hsz
  by_cases ht : okTo to
  · by_cases h0 : t.size = 0
    · have he : sendE to t = 1 := by unfold sendE; rw [if_pos (.inr h0)]
      have hno := send_no (s := s) (most := most) (to := to) (t := t) (fun hh => by have := hh.2.1; omega)
      rw [he, hno.1, hno.2]
      have hq : ((t.size : Int) == 0) = true := by rw [beq_iff_eq]; omega
      clear he hno h0
      rcases ht with rfl | rfl
      · go_enter Try.func35, Try.ntmps35
        go_wp2_with fail
        go_ret2
        exact ⟨rfl, h, Keeps.refl _ _⟩
      · go_enter Try.func35, Try.ntmps35
        go_wp2_with fail
        go_ret2
        exact ⟨rfl, h, Keeps.refl _ _⟩
    · have hq : ((t.size : Int) == 0) = false := by rw [beq_eq_false_iff_ne]; omega
      by_cases h1 : 256 < t.size
      · have he : sendE to t = 5 := by unfold sendE; rw [if_neg (by simp [ht, h0]), if_pos h1]
        have hno := send_no (s := s) (most := most) (to := to) (t := t) (fun hh => by have := hh.2.2; omega)
        rw [he, hno.1, hno.2]
        clear he hno h0
        rcases ht with rfl | rfl
        · go_enter Try.func35, Try.ntmps35
          go_wp2_with fail
          go_ret2
          exact ⟨rfl, h, Keeps.refl _ _⟩
        · go_enter Try.func35, Try.ntmps35
          go_wp2_with fail
          go_ret2
          exact ⟨rfl, h, Keeps.refl _ _⟩
      · have he : sendE to t = 0 := by unfold sendE; rw [if_neg (by simp [ht, h0]), if_neg h1]
        have hok : okText t := ⟨by omega, by omega⟩
        obtain ⟨a, cap, hc, hv⟩ := h.side to ht
        have c0 : w.cell? ⟨m, 0, none⟩ = some (.int .i64 most) := by
          obtain ⟨_, _, _, _, h1⟩ := h
          exact blk_cell h1.head rfl
        by_cases hf : (s.get to).length < most
        · have hb : sendB s most to t = true := by unfold sendB; simp [ht, hok, hf]
          have hcs : sendC s most to t = s.put to (s.get to ++ [t]) := by unfold sendC; rw [if_pos ⟨ht, hok⟩, if_pos hf]
          rw [he, hb, hcs]
          have hq2 : (((s.get to).length : Int) == (most : Int)) = false := by rw [beq_eq_false_iff_ne]; omega
          obtain ⟨i0, hi, hz0, hz1, hz2⟩ := info_parts info_s
          have Hi := hid hi
          have Ht := hid ht
          have lm := h.lt
          clear he hb hcs h0 hi
          generalize hL : s.get to = L at *
          clear hL
          rcases ht with rfl | rfl
          · have c1 : w.cell? ⟨m, 1, none⟩ = some (.slice a L.length cap) := hc
            have f1 : w.frozen? ⟨m, 1, none⟩ = false := by
              obtain ⟨_, _, _, _, h1⟩ := h
              exact blk_free h1.head 1
            clear hc
            go_enter Try.func35, Try.ntmps35
            go_wp2_with fail
            go_quiet (fail)
            go_wp2_with fail
            have hk0 : Keeps (fun _ => False) w (w.drewN nq) := (Keeps.refl _ w).drewN nq
            have h' := h.keeps hk0 (fun _ _ _ => id)
            have c1' := hk0.cell c1 id
            have f1' : (w.drewN nq).frozen? ⟨m, 1, none⟩ = false := f1
            have hv' := hv.keeps hk0 (fun _ _ _ => id)
            have lm' : m < (w.drewN nq).heap.size := lm
            generalize w.drewN nq = w0 at *
            clear h c1 f1 hv lm
            have lm := lm'
            have ck1 := keptS_cell (S := fun _ => False) (w := w0.drew) c1' id
            refine stages_start (by kernel_rfl) 17 rfl ?_
            refine staget (fun _ => False) [0, 1, 3, 4, 5, 6, 7, 8, 10, 13, 14] [2, 9, 11, 12] 2 rfl #[true, true, true, true, true, true, true, true, true, true, true, true, true, true, true, false, false] #[true, true, false, true, true, true, true, true, true, false, true, false, false, true, true, false, false] (by kernel_rfl) (by kernel_rfl) (fun _ _ _ d _ h => by cases d <;> exact h) ?_
            simp only [opsAt, List.map_cons, List.map_nil, List.getElem?_toArray, List.getElem?_cons_zero, List.getElem?_cons_succ, Option.getD_some]
            repeat (go_big_quiet_step (fail))
            refine wpQuiet_nil ?_
            clear ck1
            refine tree_two 2 11 #[true, true, true, true, true, true, true, true, true, false, true, false, false, true, true, false, false] #[true, true, false, true, true, true, true, true, true, false, true, true, false, true, true, false, false] (by kernel_rfl) (by kernel_rfl) (by kernel_rfl) (by kernel_rfl) (by kernel_rfl) (by kernel_rfl) (by kernel_rfl) (by simp only [opAt, List.getElem?_toArray, List.getElem?_cons_zero, List.getElem?_cons_succ, Option.getD_some]; first | rfl | simp [go_sem]) (by simp only [opAt, List.getElem?_toArray, List.getElem?_cons_zero, List.getElem?_cons_succ, Option.getD_some]; first | rfl | simp [go_sem]) (fun K hK => ?_) (fun K hK => ?_)
            all_goals simp only [opAt, List.getElem?_toArray, List.getElem?_cons_zero, List.getElem?_cons_succ, Option.getD_some]
            · have hkn : Keeps (fun _ => False) w0 (w0.alloc (.cells #[] 9)) := (Keeps.refl _ w0).alloc _
              go_simp
              refine hK _ _ (keeps_drew (by first | exact hkn | exact hkn.drew)) ?_
              clear hK K
              refine tree_two 9 11 #[true, true, true, true, true, true, true, true, true, true, true, false, false, true, true, false, false] #[true, true, true, true, true, true, true, true, true, false, true, true, false, true, true, false, false] (by kernel_rfl) (by kernel_rfl) (by kernel_rfl) (by kernel_rfl) (by kernel_rfl) (by kernel_rfl) (by kernel_rfl) (by simp only [opAt, List.getElem?_toArray, List.getElem?_cons_zero, List.getElem?_cons_succ, Option.getD_some]; first | rfl | simp [go_sem]) (by simp only [opAt, List.getElem?_toArray, List.getElem?_cons_zero, List.getElem?_cons_succ, Option.getD_some]; first | rfl | simp [go_sem]) (fun K hK => ?_) (fun K hK => ?_)
              all_goals simp only [opAt, List.getElem?_toArray, List.getElem?_cons_zero, List.getElem?_cons_succ, Option.getD_some]
              · have hkc : Keeps (fun _ => False) w0 (w0.alloc (.cells #[] 9)).drew := hkn.drew
                refine wp_append_vals _ (.tmp 44) (.tmp 50) _ rfl w0.heap.size 9 i0 _ 1 16 Try.underlying28 Hi.out hz0 hz1 hz2 rfl (by omega) (.slice (some ⟨w0.heap.size, 0, none⟩) 0 0) 0 [] rfl (own_empty (by omega) (blk_new w0 _)) a L.length cap (strs L) rfl (hv'.keeps hkc (fun _ _ _ => id)) (strs_one L) (by simp only [maxLen]; omega) (by omega) hkc.size ?_
                intro v1 w1 hown1 hg1 _
                have hk1 : Keeps (fun _ => False) w0 w1 := hkc.grown hg1 (fun k hk => .inr (by simp [Value.ownBlock] at hk; omega))
                refine hK _ _ (keeps_drew hk1) ?_
                clear hK K
                simp only [Act.put, List.setIfInBounds_toArray, List.set_cons_succ, List.set_cons_zero]
                clear hkn
                have hkn : Keeps (fun _ => False) w0 (w1.alloc (.cells #[.string t] 9)) := hk1.alloc _
                refine tree_one 11 #[true, true, true, true, true, true, true, true, true, true, true, true, false, true, true, false, false] (by kernel_rfl) (by kernel_rfl) (by kernel_rfl) (by kernel_rfl) (by simp only [opAt, List.getElem?_toArray, List.getElem?_cons_zero, List.getElem?_cons_succ, Option.getD_some]; first | rfl | simp [go_sem]) (fun K hK => ?_)
                simp only [opAt, List.getElem?_toArray, List.getElem?_cons_zero, List.getElem?_cons_succ, Option.getD_some]
                go_simp
                refine hK _ _ (keeps_drew (by first | exact hkn | exact hkn.drew)) ?_
                clear hK K
                have hown7 := hown1.alloc (.cells #[.string t] 9)
                have hk7 := hkn
                refine tree_one 12 #[true, true, true, true, true, true, true, true, true, true, true, true, true, true, true, false, false] (by kernel_rfl) (by kernel_rfl) (by kernel_rfl) (by kernel_rfl) (by simp only [opAt, List.getElem?_toArray, List.getElem?_cons_zero, List.getElem?_cons_succ, Option.getD_some]; first | rfl | simp [go_sem]) (fun K hK => ?_)
                simp only [opAt, List.getElem?_toArray, List.getElem?_cons_zero, List.getElem?_cons_succ, Option.getD_some]
                refine wp_append_vals _ (.tmp 51) (.tmp 53) _ rfl w0.heap.size 9 i0 _ 1 16 Try.underlying28 Hi.out hz0 hz1 hz2 rfl (by omega) v1 (0 + L.length) ([] ++ strs L) rfl hown7 (some ⟨w1.heap.size, 0, none⟩) 1 1 [.string t] rfl (vals_one w1 _ _) (by simp [Value.oneCell']) (by simp only [maxLen]; omega) (by omega) hk7.size ?_
                intro v9 w9 hown9 hg9 _
                have hk9 : Keeps (fun _ => False) w0 w9 := hk7.grown hg9 (fun k hk => .inr ((hown7.lt k hk).1))
                refine hK _ _ (keeps_drew hk9) ?_
                clear hK K
                refine tree_nil (by kernel_rfl) ?_
                rw [List.nil_append, strs_snoc, show 0 + L.length + 1 = (L ++ [t]).length by simp] at hown9
                have c9 := hk9.cell c1' id
                have f9 := (hk9.frozen (p := ⟨m, 1, none⟩) lm id).trans f1'
                have hr := refC_set (h'.keeps hk9 (fun _ _ _ => id)) Ht.out hown9 lm
                have hkk := ((hk0.trans hk9).mono (T := fun b => b = m) fun _ _ h => h.elim).setCell (p := ⟨m, 1, none⟩) rfl v9
                obtain ⟨A2, cap2, rfl, _, _⟩ := vals_of_own hown9
                simp only [List.length_append, List.length_cons, List.length_nil, Nat.zero_add] at hr hkk
                clear hg9 hown9 hown7 hk7
                simp only [Act.put, List.setIfInBounds_toArray, List.set_cons_succ, List.set_cons_zero]
                refine stagek (fun _ => True) [15] [16] 0 rfl #[true, true, true, true, true, true, true, true, true, true, true, true, true, true, true, true, true] (by kernel_rfl) (by kernel_rfl) (fun _ _ _ d _ h => by cases d <;> exact h) ?_
                simp only [opsAt, List.map_cons, List.map_nil, List.getElem?_toArray, List.getElem?_cons_zero, List.getElem?_cons_succ, Option.getD_some]
                repeat (go_big_quiet_step (fail))
                refine wpQuiet_nil ?_
                refine links_cons (by first | rfl | simp [go_sem]) (fun K hK => ?_)
                go_simp
                refine hK _ _ (keptS ((Keeps.refl _ w9).setCell (p := ⟨m, 1, none⟩) trivial _)) ?_
                clear hK K
                refine links_nil ?_
                refine stages_end (by kernel_rfl) ?_
                go_wp2
                go_ret2
                exact ⟨rfl, hr, hkk⟩
              · have hkn2 := hkn.alloc (.cells #[.string t] 9)
                clear hkn
                have hkn := hkn2
                go_simp
                refine hK _ _ (keeps_drew (by first | exact hkn | exact hkn.drew)) ?_
                clear hK K
                have hkc : Keeps (fun _ => False) w0 ((w0.alloc (.cells #[] 9)).alloc (.cells #[.string t] 9)).drew := hkn2.drew
                refine tree_one 9 #[true, true, true, true, true, true, true, true, true, true, true, true, false, true, true, false, false] (by kernel_rfl) (by kernel_rfl) (by kernel_rfl) (by kernel_rfl) (by simp only [opAt, List.getElem?_toArray, List.getElem?_cons_zero, List.getElem?_cons_succ, Option.getD_some]; first | rfl | simp [go_sem]) (fun K hK => ?_)
                simp only [opAt, List.getElem?_toArray, List.getElem?_cons_zero, List.getElem?_cons_succ, Option.getD_some]
                refine wp_append_vals _ (.tmp 44) (.tmp 50) _ rfl w0.heap.size 9 i0 _ 1 16 Try.underlying28 Hi.out hz0 hz1 hz2 rfl (by omega) (.slice (some ⟨w0.heap.size, 0, none⟩) 0 0) 0 [] rfl (own_empty (by omega) (blk_alloc (blk_new w0 _) _)) a L.length cap (strs L) rfl (hv'.keeps hkc (fun _ _ _ => id)) (strs_one L) (by simp only [maxLen]; omega) (by omega) hkc.size ?_
                intro v1 w1 hown1 hg1 _
                have hk1 : Keeps (fun _ => False) w0 w1 := hkc.grown hg1 (fun k hk => .inr (by simp [Value.ownBlock] at hk; omega))
                refine hK _ _ (keeps_drew hk1) ?_
                clear hK K
                simp only [Act.put, List.setIfInBounds_toArray, List.set_cons_succ, List.set_cons_zero]
                have hown7 := hown1
                have hk7 := hk1
                have hsrc := (vals_one (w0.alloc (.cells #[] 9)) (.string t) 9).keeps (S := fun b => b = w0.heap.size) ((Keeps.refl _ _).drew.grown hg1 (fun k hk => .inl (by simp [Value.ownBlock] at hk; omega))) (fun _ x hx => by cases hx; simp)
                rw [World.size_alloc] at hsrc
                refine tree_one 12 #[true, true, true, true, true, true, true, true, true, true, true, true, true, true, true, false, false] (by kernel_rfl) (by kernel_rfl) (by kernel_rfl) (by kernel_rfl) (by simp only [opAt, List.getElem?_toArray, List.getElem?_cons_zero, List.getElem?_cons_succ, Option.getD_some]; first | rfl | simp [go_sem]) (fun K hK => ?_)
                simp only [opAt, List.getElem?_toArray, List.getElem?_cons_zero, List.getElem?_cons_succ, Option.getD_some]
                refine wp_append_vals _ (.tmp 51) (.tmp 53) _ rfl w0.heap.size 9 i0 _ 1 16 Try.underlying28 Hi.out hz0 hz1 hz2 rfl (by omega) v1 (0 + L.length) ([] ++ strs L) rfl hown7 (some ⟨w0.heap.size + 1, 0, none⟩) 1 1 [.string t] rfl (hsrc) (by simp [Value.oneCell']) (by simp only [maxLen]; omega) (by omega) hk7.size ?_
                intro v9 w9 hown9 hg9 _
                have hk9 : Keeps (fun _ => False) w0 w9 := hk7.grown hg9 (fun k hk => .inr ((hown7.lt k hk).1))
                refine hK _ _ (keeps_drew hk9) ?_
                clear hK K
                refine tree_nil (by kernel_rfl) ?_
                rw [List.nil_append, strs_snoc, show 0 + L.length + 1 = (L ++ [t]).length by simp] at hown9
                have c9 := hk9.cell c1' id
                have f9 := (hk9.frozen (p := ⟨m, 1, none⟩) lm id).trans f1'
                have hr := refC_set (h'.keeps hk9 (fun _ _ _ => id)) Ht.out hown9 lm
                have hkk := ((hk0.trans hk9).mono (T := fun b => b = m) fun _ _ h => h.elim).setCell (p := ⟨m, 1, none⟩) rfl v9
                obtain ⟨A2, cap2, rfl, _, _⟩ := vals_of_own hown9
                simp only [List.length_append, List.length_cons, List.length_nil, Nat.zero_add] at hr hkk
                clear hg9 hown9 hown7 hk7
                simp only [Act.put, List.setIfInBounds_toArray, List.set_cons_succ, List.set_cons_zero]
                refine stagek (fun _ => True) [15] [16] 0 rfl #[true, true, true, true, true, true, true, true, true, true, true, true, true, true, true, true, true] (by kernel_rfl) (by kernel_rfl) (fun _ _ _ d _ h => by cases d <;> exact h) ?_
                simp only [opsAt, List.map_cons, List.map_nil, List.getElem?_toArray, List.getElem?_cons_zero, List.getElem?_cons_succ, Option.getD_some]
                repeat (go_big_quiet_step (fail))
                refine wpQuiet_nil ?_
                refine links_cons (by first | rfl | simp [go_sem]) (fun K hK => ?_)
                go_simp
                refine hK _ _ (keptS ((Keeps.refl _ w9).setCell (p := ⟨m, 1, none⟩) trivial _)) ?_
                clear hK K
                refine links_nil ?_
                refine stages_end (by kernel_rfl) ?_
                go_wp2
                go_ret2
                exact ⟨rfl, hr, hkk⟩
            · have hkn : Keeps (fun _ => False) w0 (w0.alloc (.cells #[.string t] 9)) := (Keeps.refl _ w0).alloc _
              go_simp
              refine hK _ _ (keeps_drew (by first | exact hkn | exact hkn.drew)) ?_
              clear hK K
              have hkn2 := hkn.alloc (.cells #[] 9)
              clear hkn
              have hkn := hkn2
              refine tree_one 2 #[true, true, true, true, true, true, true, true, true, false, true, true, false, true, true, false, false] (by kernel_rfl) (by kernel_rfl) (by kernel_rfl) (by kernel_rfl) (by simp only [opAt, List.getElem?_toArray, List.getElem?_cons_zero, List.getElem?_cons_succ, Option.getD_some]; first | rfl | simp [go_sem]) (fun K hK => ?_)
              simp only [opAt, List.getElem?_toArray, List.getElem?_cons_zero, List.getElem?_cons_succ, Option.getD_some]
              go_simp
              refine hK _ _ (keeps_drew (by first | exact hkn | exact hkn.drew)) ?_
              clear hK K
              have hkc : Keeps (fun _ => False) w0 ((w0.alloc (.cells #[.string t] 9)).alloc (.cells #[] 9)).drew := hkn2.drew
              refine tree_one 9 #[true, true, true, true, true, true, true, true, true, true, true, true, false, true, true, false, false] (by kernel_rfl) (by kernel_rfl) (by kernel_rfl) (by kernel_rfl) (by simp only [opAt, List.getElem?_toArray, List.getElem?_cons_zero, List.getElem?_cons_succ, Option.getD_some]; first | rfl | simp [go_sem]) (fun K hK => ?_)
              simp only [opAt, List.getElem?_toArray, List.getElem?_cons_zero, List.getElem?_cons_succ, Option.getD_some]
              refine wp_append_vals _ (.tmp 44) (.tmp 50) _ rfl w0.heap.size 9 i0 _ 1 16 Try.underlying28 Hi.out hz0 hz1 hz2 rfl (by omega) (.slice (some ⟨w0.heap.size + 1, 0, none⟩) 0 0) 0 [] rfl (own_empty (by omega) (by have := blk_new (w0.alloc (.cells #[.string t] 9)) (.cells #[] 9); rw [World.size_alloc] at this; exact this)) a L.length cap (strs L) rfl (hv'.keeps hkc (fun _ _ _ => id)) (strs_one L) (by simp only [maxLen]; omega) (by omega) hkc.size ?_
              intro v1 w1 hown1 hg1 _
              have hk1 : Keeps (fun _ => False) w0 w1 := hkc.grown hg1 (fun k hk => .inr (by simp [Value.ownBlock] at hk; omega))
              refine hK _ _ (keeps_drew hk1) ?_
              clear hK K
              simp only [Act.put, List.setIfInBounds_toArray, List.set_cons_succ, List.set_cons_zero]
              have hown7 := hown1
              have hk7 := hk1
              have hsrc := ((vals_one w0 (.string t) 9).keeps (S := fun _ => False) ((Keeps.refl _ _).alloc (.cells #[] 9)) (fun _ _ _ => id)).keeps (S := fun b => b = w0.heap.size + 1) ((Keeps.refl _ _).drew.grown hg1 (fun k hk => .inl (by simp [Value.ownBlock] at hk; omega))) (fun _ x hx => by cases hx; simp)
              refine tree_one 12 #[true, true, true, true, true, true, true, true, true, true, true, true, true, true, true, false, false] (by kernel_rfl) (by kernel_rfl) (by kernel_rfl) (by kernel_rfl) (by simp only [opAt, List.getElem?_toArray, List.getElem?_cons_zero, List.getElem?_cons_succ, Option.getD_some]; first | rfl | simp [go_sem]) (fun K hK => ?_)
              simp only [opAt, List.getElem?_toArray, List.getElem?_cons_zero, List.getElem?_cons_succ, Option.getD_some]
              refine wp_append_vals _ (.tmp 51) (.tmp 53) _ rfl w0.heap.size 9 i0 _ 1 16 Try.underlying28 Hi.out hz0 hz1 hz2 rfl (by omega) v1 (0 + L.length) ([] ++ strs L) rfl hown7 (some ⟨w0.heap.size, 0, none⟩) 1 1 [.string t] rfl (hsrc) (by simp [Value.oneCell']) (by simp only [maxLen]; omega) (by omega) hk7.size ?_
              intro v9 w9 hown9 hg9 _
              have hk9 : Keeps (fun _ => False) w0 w9 := hk7.grown hg9 (fun k hk => .inr ((hown7.lt k hk).1))
              refine hK _ _ (keeps_drew hk9) ?_
              clear hK K
              refine tree_nil (by kernel_rfl) ?_
              rw [List.nil_append, strs_snoc, show 0 + L.length + 1 = (L ++ [t]).length by simp] at hown9
              have c9 := hk9.cell c1' id
              have f9 := (hk9.frozen (p := ⟨m, 1, none⟩) lm id).trans f1'
              have hr := refC_set (h'.keeps hk9 (fun _ _ _ => id)) Ht.out hown9 lm
              have hkk := ((hk0.trans hk9).mono (T := fun b => b = m) fun _ _ h => h.elim).setCell (p := ⟨m, 1, none⟩) rfl v9
              obtain ⟨A2, cap2, rfl, _, _⟩ := vals_of_own hown9
              simp only [List.length_append, List.length_cons, List.length_nil, Nat.zero_add] at hr hkk
              clear hg9 hown9 hown7 hk7
              simp only [Act.put, List.setIfInBounds_toArray, List.set_cons_succ, List.set_cons_zero]
              refine stagek (fun _ => True) [15] [16] 0 rfl #[true, true, true, true, true, true, true, true, true, true, true, true, true, true, true, true, true] (by kernel_rfl) (by kernel_rfl) (fun _ _ _ d _ h => by cases d <;> exact h) ?_
              simp only [opsAt, List.map_cons, List.map_nil, List.getElem?_toArray, List.getElem?_cons_zero, List.getElem?_cons_succ, Option.getD_some]
              repeat (go_big_quiet_step (fail))
              refine wpQuiet_nil ?_
              refine links_cons (by first | rfl | simp [go_sem]) (fun K hK => ?_)
              go_simp
              refine hK _ _ (keptS ((Keeps.refl _ w9).setCell (p := ⟨m, 1, none⟩) trivial _)) ?_
              clear hK K
              refine links_nil ?_
              refine stages_end (by kernel_rfl) ?_
              go_wp2
              go_ret2
              exact ⟨rfl, hr, hkk⟩
          · have c1 : w.cell? ⟨m, 2, none⟩ = some (.slice a L.length cap) := hc
            have f1 : w.frozen? ⟨m, 2, none⟩ = false := by
              obtain ⟨_, _, _, _, h1⟩ := h
              exact blk_free h1.head 2
            clear hc
            go_enter Try.func35, Try.ntmps35
            go_wp2_with fail
            go_quiet (fail)
            go_wp2_with fail
            have hk0 : Keeps (fun _ => False) w (w.drewN nq) := (Keeps.refl _ w).drewN nq
            have h' := h.keeps hk0 (fun _ _ _ => id)
            have c1' := hk0.cell c1 id
            have f1' : (w.drewN nq).frozen? ⟨m, 2, none⟩ = false := f1
            have hv' := hv.keeps hk0 (fun _ _ _ => id)
            have lm' : m < (w.drewN nq).heap.size := lm
            generalize w.drewN nq = w0 at *
            clear h c1 f1 hv lm
            have lm := lm'
            have ck1 := keptS_cell (S := fun _ => False) (w := w0.drew) c1' id
            refine stages_start (by kernel_rfl) 17 rfl ?_
            refine staget (fun _ => False) [0, 1, 3, 4, 5, 6, 7, 8, 10, 13, 14] [2, 9, 11, 12] 2 rfl #[true, true, true, true, true, true, true, true, true, true, true, true, true, true, true, false, false] #[true, true, false, true, true, true, true, true, true, false, true, false, false, true, true, false, false] (by kernel_rfl) (by kernel_rfl) (fun _ _ _ d _ h => by cases d <;> exact h) ?_
            simp only [opsAt, List.map_cons, List.map_nil, List.getElem?_toArray, List.getElem?_cons_zero, List.getElem?_cons_succ, Option.getD_some]
            repeat (go_big_quiet_step (fail))
            refine wpQuiet_nil ?_
            clear ck1
            refine tree_two 2 11 #[true, true, true, true, true, true, true, true, true, false, true, false, false, true, true, false, false] #[true, true, false, true, true, true, true, true, true, false, true, true, false, true, true, false, false] (by kernel_rfl) (by kernel_rfl) (by kernel_rfl) (by kernel_rfl) (by kernel_rfl) (by kernel_rfl) (by kernel_rfl) (by simp only [opAt, List.getElem?_toArray, List.getElem?_cons_zero, List.getElem?_cons_succ, Option.getD_some]; first | rfl | simp [go_sem]) (by simp only [opAt, List.getElem?_toArray, List.getElem?_cons_zero, List.getElem?_cons_succ, Option.getD_some]; first | rfl | simp [go_sem]) (fun K hK => ?_) (fun K hK => ?_)
            all_goals simp only [opAt, List.getElem?_toArray, List.getElem?_cons_zero, List.getElem?_cons_succ, Option.getD_some]
            · have hkn : Keeps (fun _ => False) w0 (w0.alloc (.cells #[] 9)) := (Keeps.refl _ w0).alloc _
              go_simp
              refine hK _ _ (keeps_drew (by first | exact hkn | exact hkn.drew)) ?_
              clear hK K
              refine tree_two 9 11 #[true, true, true, true, true, true, true, true, true, true, true, false, false, true, true, false, false] #[true, true, true, true, true, true, true, true, true, false, true, true, false, true, true, false, false] (by kernel_rfl) (by kernel_rfl) (by kernel_rfl) (by kernel_rfl) (by kernel_rfl) (by kernel_rfl) (by kernel_rfl) (by simp only [opAt, List.getElem?_toArray, List.getElem?_cons_zero, List.getElem?_cons_succ, Option.getD_some]; first | rfl | simp [go_sem]) (by simp only [opAt, List.getElem?_toArray, List.getElem?_cons_zero, List.getElem?_cons_succ, Option.getD_some]; first | rfl | simp [go_sem]) (fun K hK => ?_) (fun K hK => ?_)
              all_goals simp only [opAt, List.getElem?_toArray, List.getElem?_cons_zero, List.getElem?_cons_succ, Option.getD_some]
              · have hkc : Keeps (fun _ => False) w0 (w0.alloc (.cells #[] 9)).drew := hkn.drew
                refine wp_append_vals _ (.tmp 44) (.tmp 50) _ rfl w0.heap.size 9 i0 _ 1 16 Try.underlying28 Hi.out hz0 hz1 hz2 rfl (by omega) (.slice (some ⟨w0.heap.size, 0, none⟩) 0 0) 0 [] rfl (own_empty (by omega) (blk_new w0 _)) a L.length cap (strs L) rfl (hv'.keeps hkc (fun _ _ _ => id)) (strs_one L) (by simp only [maxLen]; omega) (by omega) hkc.size ?_
                intro v1 w1 hown1 hg1 _
                have hk1 : Keeps (fun _ => False) w0 w1 := hkc.grown hg1 (fun k hk => .inr (by simp [Value.ownBlock] at hk; omega))
                refine hK _ _ (keeps_drew hk1) ?_
                clear hK K
                simp only [Act.put, List.setIfInBounds_toArray, List.set_cons_succ, List.set_cons_zero]
                clear hkn
                have hkn : Keeps (fun _ => False) w0 (w1.alloc (.cells #[.string t] 9)) := hk1.alloc _
                refine tree_one 11 #[true, true, true, true, true, true, true, true, true, true, true, true, false, true, true, false, false] (by kernel_rfl) (by kernel_rfl) (by kernel_rfl) (by kernel_rfl) (by simp only [opAt, List.getElem?_toArray, List.getElem?_cons_zero, List.getElem?_cons_succ, Option.getD_some]; first | rfl | simp [go_sem]) (fun K hK => ?_)
                simp only [opAt, List.getElem?_toArray, List.getElem?_cons_zero, List.getElem?_cons_succ, Option.getD_some]
                go_simp
                refine hK _ _ (keeps_drew (by first | exact hkn | exact hkn.drew)) ?_
                clear hK K
                have hown7 := hown1.alloc (.cells #[.string t] 9)
                have hk7 := hkn
                refine tree_one 12 #[true, true, true, true, true, true, true, true, true, true, true, true, true, true, true, false, false] (by kernel_rfl) (by kernel_rfl) (by kernel_rfl) (by kernel_rfl) (by simp only [opAt, List.getElem?_toArray, List.getElem?_cons_zero, List.getElem?_cons_succ, Option.getD_some]; first | rfl | simp [go_sem]) (fun K hK => ?_)
                simp only [opAt, List.getElem?_toArray, List.getElem?_cons_zero, List.getElem?_cons_succ, Option.getD_some]
                refine wp_append_vals _ (.tmp 51) (.tmp 53) _ rfl w0.heap.size 9 i0 _ 1 16 Try.underlying28 Hi.out hz0 hz1 hz2 rfl (by omega) v1 (0 + L.length) ([] ++ strs L) rfl hown7 (some ⟨w1.heap.size, 0, none⟩) 1 1 [.string t] rfl (vals_one w1 _ _) (by simp [Value.oneCell']) (by simp only [maxLen]; omega) (by omega) hk7.size ?_
                intro v9 w9 hown9 hg9 _
                have hk9 : Keeps (fun _ => False) w0 w9 := hk7.grown hg9 (fun k hk => .inr ((hown7.lt k hk).1))
                refine hK _ _ (keeps_drew hk9) ?_
                clear hK K
                refine tree_nil (by kernel_rfl) ?_
                rw [List.nil_append, strs_snoc, show 0 + L.length + 1 = (L ++ [t]).length by simp] at hown9
                have c9 := hk9.cell c1' id
                have f9 := (hk9.frozen (p := ⟨m, 2, none⟩) lm id).trans f1'
                have hr := refC_set (h'.keeps hk9 (fun _ _ _ => id)) Ht.out hown9 lm
                have hkk := ((hk0.trans hk9).mono (T := fun b => b = m) fun _ _ h => h.elim).setCell (p := ⟨m, 2, none⟩) rfl v9
                obtain ⟨A2, cap2, rfl, _, _⟩ := vals_of_own hown9
                simp only [List.length_append, List.length_cons, List.length_nil, Nat.zero_add] at hr hkk
                clear hg9 hown9 hown7 hk7
                simp only [Act.put, List.setIfInBounds_toArray, List.set_cons_succ, List.set_cons_zero]
                refine stagek (fun _ => True) [15] [16] 0 rfl #[true, true, true, true, true, true, true, true, true, true, true, true, true, true, true, true, true] (by kernel_rfl) (by kernel_rfl) (fun _ _ _ d _ h => by cases d <;> exact h) ?_
                simp only [opsAt, List.map_cons, List.map_nil, List.getElem?_toArray, List.getElem?_cons_zero, List.getElem?_cons_succ, Option.getD_some]
                repeat (go_big_quiet_step (fail))
                refine wpQuiet_nil ?_
                refine links_cons (by first | rfl | simp [go_sem]) (fun K hK => ?_)
                go_simp
                refine hK _ _ (keptS ((Keeps.refl _ w9).setCell (p := ⟨m, 2, none⟩) trivial _)) ?_
                clear hK K
                refine links_nil ?_
                refine stages_end (by kernel_rfl) ?_
                go_wp2
                go_ret2
                exact ⟨rfl, hr, hkk⟩
              · have hkn2 := hkn.alloc (.cells #[.string t] 9)
                clear hkn
                have hkn := hkn2
                go_simp
                refine hK _ _ (keeps_drew (by first | exact hkn | exact hkn.drew)) ?_
                clear hK K
                have hkc : Keeps (fun _ => False) w0 ((w0.alloc (.cells #[] 9)).alloc (.cells #[.string t] 9)).drew := hkn2.drew
                refine tree_one 9 #[true, true, true, true, true, true, true, true, true, true, true, true, false, true, true, false, false] (by kernel_rfl) (by kernel_rfl) (by kernel_rfl) (by kernel_rfl) (by simp only [opAt, List.getElem?_toArray, List.getElem?_cons_zero, List.getElem?_cons_succ, Option.getD_some]; first | rfl | simp [go_sem]) (fun K hK => ?_)
                simp only [opAt, List.getElem?_toArray, List.getElem?_cons_zero, List.getElem?_cons_succ, Option.getD_some]
                refine wp_append_vals _ (.tmp 44) (.tmp 50) _ rfl w0.heap.size 9 i0 _ 1 16 Try.underlying28 Hi.out hz0 hz1 hz2 rfl (by omega) (.slice (some ⟨w0.heap.size, 0, none⟩) 0 0) 0 [] rfl (own_empty (by omega) (blk_alloc (blk_new w0 _) _)) a L.length cap (strs L) rfl (hv'.keeps hkc (fun _ _ _ => id)) (strs_one L) (by simp only [maxLen]; omega) (by omega) hkc.size ?_
                intro v1 w1 hown1 hg1 _
                have hk1 : Keeps (fun _ => False) w0 w1 := hkc.grown hg1 (fun k hk => .inr (by simp [Value.ownBlock] at hk; omega))
                refine hK _ _ (keeps_drew hk1) ?_
                clear hK K
                simp only [Act.put, List.setIfInBounds_toArray, List.set_cons_succ, List.set_cons_zero]
                have hown7 := hown1
                have hk7 := hk1
                have hsrc := (vals_one (w0.alloc (.cells #[] 9)) (.string t) 9).keeps (S := fun b => b = w0.heap.size) ((Keeps.refl _ _).drew.grown hg1 (fun k hk => .inl (by simp [Value.ownBlock] at hk; omega))) (fun _ x hx => by cases hx; simp)
                rw [World.size_alloc] at hsrc
                refine tree_one 12 #[true, true, true, true, true, true, true, true, true, true, true, true, true, true, true, false, false] (by kernel_rfl) (by kernel_rfl) (by kernel_rfl) (by kernel_rfl) (by simp only [opAt, List.getElem?_toArray, List.getElem?_cons_zero, List.getElem?_cons_succ, Option.getD_some]; first | rfl | simp [go_sem]) (fun K hK => ?_)
                simp only [opAt, List.getElem?_toArray, List.getElem?_cons_zero, List.getElem?_cons_succ, Option.getD_some]
                refine wp_append_vals _ (.tmp 51) (.tmp 53) _ rfl w0.heap.size 9 i0 _ 1 16 Try.underlying28 Hi.out hz0 hz1 hz2 rfl (by omega) v1 (0 + L.length) ([] ++ strs L) rfl hown7 (some ⟨w0.heap.size + 1, 0, none⟩) 1 1 [.string t] rfl (hsrc) (by simp [Value.oneCell']) (by simp only [maxLen]; omega) (by omega) hk7.size ?_
                intro v9 w9 hown9 hg9 _
                have hk9 : Keeps (fun _ => False) w0 w9 := hk7.grown hg9 (fun k hk => .inr ((hown7.lt k hk).1))
                refine hK _ _ (keeps_drew hk9) ?_
                clear hK K
                refine tree_nil (by kernel_rfl) ?_
                rw [List.nil_append, strs_snoc, show 0 + L.length + 1 = (L ++ [t]).length by simp] at hown9
                have c9 := hk9.cell c1' id
                have f9 := (hk9.frozen (p := ⟨m, 2, none⟩) lm id).trans f1'
                have hr := refC_set (h'.keeps hk9 (fun _ _ _ => id)) Ht.out hown9 lm
                have hkk := ((hk0.trans hk9).mono (T := fun b => b = m) fun _ _ h => h.elim).setCell (p := ⟨m, 2, none⟩) rfl v9
                obtain ⟨A2, cap2, rfl, _, _⟩ := vals_of_own hown9
                simp only [List.length_append, List.length_cons, List.length_nil, Nat.zero_add] at hr hkk
                clear hg9 hown9 hown7 hk7
                simp only [Act.put, List.setIfInBounds_toArray, List.set_cons_succ, List.set_cons_zero]
                refine stagek (fun _ => True) [15] [16] 0 rfl #[true, true, true, true, true, true, true, true, true, true, true, true, true, true, true, true, true] (by kernel_rfl) (by kernel_rfl) (fun _ _ _ d _ h => by cases d <;> exact h) ?_
                simp only [opsAt, List.map_cons, List.map_nil, List.getElem?_toArray, List.getElem?_cons_zero, List.getElem?_cons_succ, Option.getD_some]
                repeat (go_big_quiet_step (fail))
                refine wpQuiet_nil ?_
                refine links_cons (by first | rfl | simp [go_sem]) (fun K hK => ?_)
                go_simp
                refine hK _ _ (keptS ((Keeps.refl _ w9).setCell (p := ⟨m, 2, none⟩) trivial _)) ?_
                clear hK K
                refine links_nil ?_
                refine stages_end (by kernel_rfl) ?_
                go_wp2
                go_ret2
                exact ⟨rfl, hr, hkk⟩
            · have hkn : Keeps (fun _ => False) w0 (w0.alloc (.cells #[.string t] 9)) := (Keeps.refl _ w0).alloc _
              go_simp
              refine hK _ _ (keeps_drew (by first | exact hkn | exact hkn.drew)) ?_
              clear hK K
              have hkn2 := hkn.alloc (.cells #[] 9)
              clear hkn
              have hkn := hkn2
              refine tree_one 2 #[true, true, true, true, true, true, true, true, true, false, true, true, false, true, true, false, false] (by kernel_rfl) (by kernel_rfl) (by kernel_rfl) (by kernel_rfl) (by simp only [opAt, List.getElem?_toArray, List.getElem?_cons_zero, List.getElem?_cons_succ, Option.getD_some]; first | rfl | simp [go_sem]) (fun K hK => ?_)
              simp only [opAt, List.getElem?_toArray, List.getElem?_cons_zero, List.getElem?_cons_succ, Option.getD_some]
              go_simp
              refine hK _ _ (keeps_drew (by first | exact hkn | exact hkn.drew)) ?_
              clear hK K
              have hkc : Keeps (fun _ => False) w0 ((w0.alloc (.cells #[.string t] 9)).alloc (.cells #[] 9)).drew := hkn2.drew
              refine tree_one 9 #[true, true, true, true, true, true, true, true, true, true, true, true, false, true, true, false, false] (by kernel_rfl) (by kernel_rfl) (by kernel_rfl) (by kernel_rfl) (by simp only [opAt, List.getElem?_toArray, List.getElem?_cons_zero, List.getElem?_cons_succ, Option.getD_some]; first | rfl | simp [go_sem]) (fun K hK => ?_)
              simp only [opAt, List.getElem?_toArray, List.getElem?_cons_zero, List.getElem?_cons_succ, Option.getD_some]
              refine wp_append_vals _ (.tmp 44) (.tmp 50) _ rfl w0.heap.size 9 i0 _ 1 16 Try.underlying28 Hi.out hz0 hz1 hz2 rfl (by omega) (.slice (some ⟨w0.heap.size + 1, 0, none⟩) 0 0) 0 [] rfl (own_empty (by omega) (by have := blk_new (w0.alloc (.cells #[.string t] 9)) (.cells #[] 9); rw [World.size_alloc] at this; exact this)) a L.length cap (strs L) rfl (hv'.keeps hkc (fun _ _ _ => id)) (strs_one L) (by simp only [maxLen]; omega) (by omega) hkc.size ?_
              intro v1 w1 hown1 hg1 _
              have hk1 : Keeps (fun _ => False) w0 w1 := hkc.grown hg1 (fun k hk => .inr (by simp [Value.ownBlock] at hk; omega))
              refine hK _ _ (keeps_drew hk1) ?_
              clear hK K
              simp only [Act.put, List.setIfInBounds_toArray, List.set_cons_succ, List.set_cons_zero]
              have hown7 := hown1
              have hk7 := hk1
              have hsrc := ((vals_one w0 (.string t) 9).keeps (S := fun _ => False) ((Keeps.refl _ _).alloc (.cells #[] 9)) (fun _ _ _ => id)).keeps (S := fun b => b = w0.heap.size + 1) ((Keeps.refl _ _).drew.grown hg1 (fun k hk => .inl (by simp [Value.ownBlock] at hk; omega))) (fun _ x hx => by cases hx; simp)
              refine tree_one 12 #[true, true, true, true, true, true, true, true, true, true, true, true, true, true, true, false, false] (by kernel_rfl) (by kernel_rfl) (by kernel_rfl) (by kernel_rfl) (by simp only [opAt, List.getElem?_toArray, List.getElem?_cons_zero, List.getElem?_cons_succ, Option.getD_some]; first | rfl | simp [go_sem]) (fun K hK => ?_)
              simp only [opAt, List.getElem?_toArray, List.getElem?_cons_zero, List.getElem?_cons_succ, Option.getD_some]
              refine wp_append_vals _ (.tmp 51) (.tmp 53) _ rfl w0.heap.size 9 i0 _ 1 16 Try.underlying28 Hi.out hz0 hz1 hz2 rfl (by omega) v1 (0 + L.length) ([] ++ strs L) rfl hown7 (some ⟨w0.heap.size, 0, none⟩) 1 1 [.string t] rfl (hsrc) (by simp [Value.oneCell']) (by simp only [maxLen]; omega) (by omega) hk7.size ?_
              intro v9 w9 hown9 hg9 _
              have hk9 : Keeps (fun _ => False) w0 w9 := hk7.grown hg9 (fun k hk => .inr ((hown7.lt k hk).1))
              refine hK _ _ (keeps_drew hk9) ?_
              clear hK K
              refine tree_nil (by kernel_rfl) ?_
              rw [List.nil_append, strs_snoc, show 0 + L.length + 1 = (L ++ [t]).length by simp] at hown9
              have c9 := hk9.cell c1' id
              have f9 := (hk9.frozen (p := ⟨m, 2, none⟩) lm id).trans f1'
              have hr := refC_set (h'.keeps hk9 (fun _ _ _ => id)) Ht.out hown9 lm
              have hkk := ((hk0.trans hk9).mono (T := fun b => b = m) fun _ _ h => h.elim).setCell (p := ⟨m, 2, none⟩) rfl v9
              obtain ⟨A2, cap2, rfl, _, _⟩ := vals_of_own hown9
              simp only [List.length_append, List.length_cons, List.length_nil, Nat.zero_add] at hr hkk
              clear hg9 hown9 hown7 hk7
              simp only [Act.put, List.setIfInBounds_toArray, List.set_cons_succ, List.set_cons_zero]
              refine stagek (fun _ => True) [15] [16] 0 rfl #[true, true, true, true, true, true, true, true, true, true, true, true, true, true, true, true, true] (by kernel_rfl) (by kernel_rfl) (fun _ _ _ d _ h => by cases d <;> exact h) ?_
              simp only [opsAt, List.map_cons, List.map_nil, List.getElem?_toArray, List.getElem?_cons_zero, List.getElem?_cons_succ, Option.getD_some]
              repeat (go_big_quiet_step (fail))
              refine wpQuiet_nil ?_
              refine links_cons (by first | rfl | simp [go_sem]) (fun K hK => ?_)
              go_simp
              refine hK _ _ (keptS ((Keeps.refl _ w9).setCell (p := ⟨m, 2, none⟩) trivial _)) ?_
              clear hK K
              refine links_nil ?_
              refine stages_end (by kernel_rfl) ?_
              go_wp2
              go_ret2
              exact ⟨rfl, hr, hkk⟩
        · have hb : sendB s most to t = false := by unfold sendB; simp [hf]
          have hcs : sendC s most to t = { s with lost := s.lost + 1 } := by unfold sendC; rw [if_pos ⟨ht, hok⟩, if_neg hf]
          rw [he, hb, hcs]
          have hfl : (((s.get to).length : Int) == (most : Int)) = true := by rw [beq_iff_eq]; omega
          clear he hb hcs h0 hf
          generalize hL : s.get to = L at *
          clear hL
          rcases ht with rfl | rfl
          · have c1 : w.cell? ⟨m, 1, none⟩ = some (.slice a L.length cap) := hc
            have f1 : w.frozen? ⟨m, 1, none⟩ = false := by
              obtain ⟨_, _, _, _, h1⟩ := h
              exact blk_free h1.head 1
            clear hc
            go_enter Try.func35, Try.ntmps35
            go_wp2_with fail
            go_quiet (fail)
            have hh := h.keeps (S := fun _ => False) ((Keeps.refl _ w).drewN nq) (fun _ _ _ => id)
            have c3 : (w.drewN nq).cell? ⟨m, 3, none⟩ = some (.int .i64 s.lost) := by
              obtain ⟨_, _, _, _, h1⟩ := hh
              exact blk_cell h1.head rfl
            have f3 : (w.drewN nq).frozen? ⟨m, 3, none⟩ = false := by
              obtain ⟨_, _, _, _, h1⟩ := hh
              exact blk_free h1.head 3
            go_wp2_with fail
            go_ret2
            exact ⟨rfl, hh.setLost _, ((Keeps.refl (fun b => b = m) w).drewN nq).setCell (p := ⟨m, 3, none⟩) rfl _⟩
          · have c1 : w.cell? ⟨m, 2, none⟩ = some (.slice a L.length cap) := hc
            have f1 : w.frozen? ⟨m, 2, none⟩ = false := by
              obtain ⟨_, _, _, _, h1⟩ := h
              exact blk_free h1.head 2
            clear hc
            go_enter Try.func35, Try.ntmps35
            go_wp2_with fail
            go_quiet (fail)
            have hh := h.keeps (S := fun _ => False) ((Keeps.refl _ w).drewN nq) (fun _ _ _ => id)
            have c3 : (w.drewN nq).cell? ⟨m, 3, none⟩ = some (.int .i64 s.lost) := by
              obtain ⟨_, _, _, _, h1⟩ := hh
              exact blk_cell h1.head rfl
            have f3 : (w.drewN nq).frozen? ⟨m, 3, none⟩ = false := by
              obtain ⟨_, _, _, _, h1⟩ := hh
              exact blk_free h1.head 3
            go_wp2_with fail
            go_ret2
            exact ⟨rfl, hh.setLost _, ((Keeps.refl (fun b => b = m) w).drewN nq).setCell (p := ⟨m, 3, none⟩) rfl _⟩
  · have he : sendE to t = 1 := by unfold sendE; rw [if_pos (.inl ht)]
    have hno := send_no (s := s) (most := most) (to := to) (t := t) (fun hh => ht hh.1)
    rw [he, hno.1, hno.2]
    unfold okTo at ht
    by_cases h0 : to < 0
    · clear he hno ht
      go_enter Try.func35, Try.ntmps35
      go_wp2_with fail
      go_ret2
      exact ⟨rfl, h, Keeps.refl _ _⟩
    · have h1 : 1 < to := by omega
      clear he hno ht
      go_enter Try.func35, Try.ntmps35
      go_wp2_with fail
      go_ret2
      exact ⟨rfl, h, Keeps.refl _ _⟩
end
end Go.Proofs.Ytdgbmnefpempaaa
