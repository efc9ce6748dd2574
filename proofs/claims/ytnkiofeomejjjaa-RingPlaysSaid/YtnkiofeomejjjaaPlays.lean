/- The law on whatever is done with a ring. -/
import Derived.Test.YtnkiofeomejjjaaOrder
import Derived.Test.YtnkiofeomejjjaaOpen
import Derived.Test.YtnkiofeomejjjaaStage
namespace Go.Proofs.Ytnkiofeomejjjaa
open Go.RowKit
/-- calls: of which kind, of what -/
structure Act3 where
  kind : Int
  n : Int
  x : Int
def Act3.wf (c : Act3) : Prop := (Lit.int .i64 c.kind).wf = true ∧ (Lit.int .i64 c.n).wf = true ∧ (Lit.int .i64 c.x).wf = true
def acts (L : List Act3) : List Value := L.flatMap fun c => [.int .i64 c.kind, .int .i64 c.n, .int .i64 c.x]
theorem acts_len (L : List Act3) : (acts L).length = L.length * 3 := by
  induction L with
  | nil => rfl
  | cons c L ih => simp only [acts, List.flatMap_cons] at ih ⊢; simp [ih, Nat.succ_mul]
theorem acts_at (L : List Act3) (i : Nat) (h : i < L.length) : (acts L)[i * 3]? = some (.int .i64 L[i].kind) ∧ (acts L)[i * 3 + 1]? = some (.int .i64 L[i].n) ∧ (acts L)[i * 3 + 2]? = some (.int .i64 L[i].x) := by
  induction L generalizing i with
  | nil => exact absurd h (Nat.not_lt_zero _)
  | cons c L ih =>
    simp only [acts, List.flatMap_cons] at ih ⊢
    cases i with
    | zero => simp
    | succ i =>
      have := ih i (by simpa using h)
      simp only [Nat.succ_mul, List.getElem_cons_succ, List.cons_append, List.nil_append]
      exact this
theorem acts_of {w : World} : ∀ (n : Nat) (xs : List Value), xs.length = n * 3 → (∀ i, i < n → LeavesAre w [.int .i64, .int .i64, .int .i64] ((xs.drop (i * 3)).take 3)) → ∃ L : List Act3, L.length = n ∧ xs = acts L ∧ ∀ c ∈ L, c.wf
  | 0, xs, h, _ => ⟨[], rfl, List.eq_nil_of_length_eq_zero (by simpa using h), fun _ h => by cases h⟩
  | n + 1, xs, h, hl => by
    obtain ⟨a, b, c, r, rfl⟩ : ∃ a b c r, xs = a :: b :: c :: r := by
      match xs, h with
      | a :: b :: c :: r, _ => exact ⟨a, b, c, r, rfl⟩
      | [_, _], h => simp at h; omega
      | [_], h => simp at h; omega
      | [], h => simp at h
    obtain ⟨L, h1, h2, h3⟩ := acts_of n r (by simp at h; omega) (fun i hi => by
      have := hl (i + 1) (by omega)
      rwa [Nat.succ_mul, show i * 3 + 3 = 3 + i * 3 by omega, ← List.drop_drop] at this)
    have h0 := hl 0 (by omega)
    obtain ⟨ka, rfl, wa⟩ := h0.2 0 _ a rfl rfl
    obtain ⟨kb, rfl, wb⟩ := h0.2 1 _ b rfl rfl
    obtain ⟨kc, rfl, wc⟩ := h0.2 2 _ c rfl rfl
    exact ⟨⟨ka, kb, kc⟩ :: L, by simp [h1], by rw [h2]; rfl, fun c hc => by
      rcases List.mem_cons.1 hc with rfl | hc
      · exact ⟨wa, wb, wc⟩
      · exact h3 c hc⟩
variable {w : World} {r B m size : Nat} {L : List Int}
/-- what a call that takes off does to the list -/
def after (c : Act3) (L : List Int) : List Int :=
  if c.kind = 2 then L.tail else if c.kind = 3 then (if 0 ≤ c.n ∧ c.n < L.length then L.eraseIdx c.n.toNat else L) else L
set_option maxHeartbeats 1000000 in
theorem law_played (c : Act3) (hR : IsRing w r B size L) (hM : IsRef w m size L) (hrm : r < m ∧ B < m) :
    Calls Try.prog 14 #[.pointer (some ⟨r, 0, none⟩), .pointer (some ⟨m, 0, none⟩), .agg #[.int .i64 c.kind, .int .i64 c.n, .int .i64 c.x]] w fun e w' =>
      e = .returned (.bool true) ∧ IsRing w' r B size (after c L) ∧ IsRef w' m size (after c L) ∧ Keeps (fun b => b = r ∨ b = B ∨ b = m) w w' := by
  obtain ⟨l1, l2, l3, l4, l5, l6⟩ := hR.le
  have hR0 := hid (fun o => hR.keeps (S := fun _ => False) ((Keeps.refl _ w).alloc o) id id)
  have hM0 := hid (fun o => hM.keeps (S := fun _ => False) ((Keeps.refl _ w).alloc o) (fun _ _ _ => id))
  by_cases h2 : c.kind = 2
  · have ha : after c L = L.tail := by simp [after, h2]
    rw [ha]
    have hq2 : (c.kind == 2) = true := by rw [beq_iff_eq]; exact h2
    clear h2 ha
    cases L with
    | nil =>
      go_enter Try.func14, Try.ntmps14
      go_wp2_with fail
      refine (is_Pop_none (hR0.out _)).mono ?_
      rintro e w2 ⟨rfl, rfl⟩
      go_wp2_with fail
      refine (refring_Take_no (hM0.out _) 0 (by simp)).mono ?_
      rintro e w3 ⟨rfl, rfl⟩
      go_wp2_with fail
      go_ret
      exact ⟨rfl, hR0.out _, hM0.out _, (Keeps.refl _ w).alloc _⟩
    | cons y L =>
      go_enter Try.func14, Try.ntmps14
      go_wp2_with fail
      refine (is_Pop (hR0.out _)).mono ?_
      rintro e w2 ⟨rfl, hr2, hk2⟩
      have hm2 := (hM0.out _).keeps hk2 (fun b h1 h2 h3 => by omega)
      go_wp2_with fail
      refine (refring_Take hm2 (by omega) 0 0 rfl (by simp) y (by simp)).mono ?_
      rintro e w3 ⟨rfl, hm3, hk3⟩
      go_wp2_with fail
      go_ret
      exact ⟨by simp, hr2.keeps hk3 (by omega) (by omega), by simpa using hm3, ((keeps_any ((Keeps.refl _ w).alloc _)).trans (hk2.mono (fun _ _ h => by omega))).trans (hk3.mono (fun _ _ h => by omega))⟩
  have hq2 : (c.kind == 2) = false := by rw [beq_eq_false_iff_ne]; exact h2
  by_cases h3 : c.kind = 3
  · have hq3 : (c.kind == 3) = true := by rw [beq_iff_eq]; exact h3
    by_cases hn : 0 ≤ c.n ∧ c.n < L.length
    · obtain ⟨i, hi⟩ := Int.eq_ofNat_of_zero_le hn.1
      have hil : i < L.length := by omega
      have ha : after c L = L.eraseIdx i := by unfold after; rw [if_neg h2, if_pos h3, if_pos hn, hi]; rfl
      rw [ha]
      obtain ⟨y, hy⟩ : ∃ y, L[i]? = some y := ⟨L[i], by simp⟩
      have Hy := hid hy
      have Hi := hid hi
      clear h2 h3 ha hy hi hn
      go_enter Try.func14, Try.ntmps14
      go_wp2_with fail
      refine (is_Take (hR0.out _) i _ Hi.out y Hy.out).mono ?_
      rintro e w2 ⟨rfl, hr2, hk2⟩
      have hm2 := (hM0.out _).keeps hk2 (fun b h1 h2 h3 => by omega)
      have hx := hk2.cell (p := ⟨w.heap.size, 1, none⟩) (v := .int .i64 c.n) (by go_simp) (by simp; omega)
      go_wp2_with fail
      refine (refring_Take hm2 (by omega) i _ Hi.out hil y Hy.out).mono ?_
      rintro e w3 ⟨rfl, hm3, hk3⟩
      go_wp2_with fail
      go_ret
      exact ⟨by simp, hr2.keeps hk3 (by omega) (by omega), hm3, ((keeps_any ((Keeps.refl _ w).alloc _)).trans (hk2.mono (fun _ _ h => by omega))).trans (hk3.mono (fun _ _ h => by omega))⟩
    · have ha : after c L = L := by unfold after; rw [if_neg h2, if_pos h3, if_neg hn]
      rw [ha]
      have hno : c.n < 0 ∨ (L.length : Int) ≤ c.n := by omega
      clear h2 h3 ha hn
      go_enter Try.func14, Try.ntmps14
      go_wp2_with fail
      refine (is_Take_no (hR0.out _) _ hno).mono ?_
      rintro e w2 ⟨rfl, rfl⟩
      go_wp2_with fail
      refine (refring_Take_no (hM0.out _) _ hno).mono ?_
      rintro e w3 ⟨rfl, rfl⟩
      go_wp2_with fail
      go_ret
      exact ⟨rfl, hR0.out _, hM0.out _, (Keeps.refl _ w).alloc _⟩
  · have ha : after c L = L := by simp [after, h2, h3]
    rw [ha]
    have hq3 : (c.kind == 3) = false := by rw [beq_eq_false_iff_ne]; exact h3
    clear h2 h3 ha
    go_enter Try.func14, Try.ntmps14
    go_wp2_with fail
    go_ret
    exact ⟨rfl, hR0.out _, hM0.out _, (Keeps.refl _ w).alloc _⟩
/-- what a push does to the list, and what it answers -/
def pushed (L : List Int) (n : Int) (size : Nat) : List Int := if L.length < size then L ++ [n] else L
def pushE (L : List Int) (size : Nat) : Int := if L.length < size then 0 else 8
theorem is_Push_any (h : IsRing w r B size L) (n : Int) :
    Calls Try.prog 9 #[.pointer (some ⟨r, 0, none⟩), .int .i64 n] w fun e w' => e = .returned (.int .i64 (pushE L size)) ∧ IsRing w' r B size (pushed L n size) ∧ Keeps (fun b => b = r ∨ b = B) w w' := by
  unfold pushE pushed
  by_cases hl : L.length < size
  · rw [if_pos hl, if_pos hl]; exact is_Push h hl n
  · rw [if_neg hl, if_neg hl]; exact is_Push_full h (by have := h.le.1; omega) n
theorem refring_Push_any (h : IsRef w m size L) (hl : L.length ≤ size) (hs : size ≤ 4096) (n : Int) :
    Calls Try.prog 13 #[.pointer (some ⟨m, 0, none⟩), .int .i64 n] w fun e w' => e = .returned (.int .i64 (pushE L size)) ∧ IsRef w' m size (pushed L n size) ∧ Keeps (fun b => b = m) w w' := by
  unfold pushE pushed
  by_cases hlt : L.length < size
  · rw [if_pos hlt, if_pos hlt]; exact refring_Push h hlt hs n
  · rw [if_neg hlt, if_neg hlt]
    refine (refring_Push_full h (by omega) n).mono ?_
    rintro e w' ⟨rfl, q, rfl⟩
    exact ⟨rfl, h.keeps (S := fun _ => False) ((Keeps.refl _ w).drewN q) (fun _ _ _ => id), (Keeps.refl _ w).drewN q⟩
set_option maxRecDepth 100000 in
set_option maxHeartbeats 8000000 in
theorem law_RingPlays (x at' : Int) (hx : -9223372036854775808 ≤ x ∧ x ≤ 9223372036854775807) (hat : -9223372036854775808 ≤ at' ∧ at' ≤ 9223372036854775807) (w : World) (la : Option Addr) (lc : Nat) (M : List Act3)
    (hM : Vals w 3 la M.length lc (acts M)) (hMw : ∀ c ∈ M, c.wf) :
    Calls Try.prog 4 #[.int .i64 x, .slice la M.length lc, .int .i64 at'] w fun e w' => e = .returned (.bool true) ∧ Below w.heap.size w w' := by
  have hm1 : M.length ≤ 9223372036854775807 := Nat.le_trans hM.2.1 hM.2.2.1
  by_cases h1 : x < 1 ∨ 4096 < x
  · have hno := h1
    by_cases h2 : x < 1
    · clear h1
      go_enter Try.func4, Try.ntmps4
      go_wp2_with fail
      refine (awake04 _).mono ?_
      rintro e w1 ⟨rfl, hb1⟩
      go_wp2_with fail
      refine (ring_New_no x hno _).mono ?_
      rintro e w2 ⟨rfl, rfl⟩
      go_wp2_with fail
      go_ret
      exact ⟨rfl, hb1⟩
    · have h3 : 4096 < x := by omega
      clear h1
      go_enter Try.func4, Try.ntmps4
      go_wp2_with fail
      refine (awake04 _).mono ?_
      rintro e w1 ⟨rfl, hb1⟩
      go_wp2_with fail
      refine (ring_New_no x hno _).mono ?_
      rintro e w2 ⟨rfl, rfl⟩
      go_wp2_with fail
      go_ret
      exact ⟨rfl, hb1⟩
  have ha : 1 ≤ x := by omega
  have hb : x ≤ 4096 := by omega
  clear h1
  by_cases h2 : 40 < x
  · go_enter Try.func4, Try.ntmps4
    go_wp2_with fail
    refine (awake04 _).mono ?_
    rintro e w1 ⟨rfl, hb1⟩
    go_wp2_with fail
    go_ret
    exact ⟨rfl, hb1⟩
  obtain ⟨size, rfl⟩ := Int.eq_ofNat_of_zero_le (show 0 ≤ x by omega)
  have HMw := hid hMw
  clear hMw
  go_enter Try.func4, Try.ntmps4
  go_wp2_with fail
  refine (awake04 _).mono ?_
  rintro e w1 ⟨rfl, hb1⟩
  go_wp2_with fail
  refine (is_New size (by omega) (by omega) w1).mono ?_
  rintro e w2 ⟨rfl, hr2, hb2⟩
  have hlt2 := hr2.le
  have hbb := hb1.trans (hb2.mono hb1.size)
  have hbz := hb1.size
  generalize w1.heap.size = B at *
  have hw2 : B + 1 < w2.heap.size := hlt2.2.2.2.1
  clear hlt2 hb1 hb2
  go_wp2_with fail
  have hm0 : IsRef (w2.alloc (.cells #[.int .i64 size, .slice none 0 0] 38)) w2.heap.size size [] := ⟨none, 0, blk_new _ _, Vals.nil _ _, fun x h => by cases h⟩
  have hr0 := hr2.keeps (S := fun _ => False) ((Keeps.refl _ w2).alloc (.cells #[.int .i64 size, .slice none 0 0] 38)) id id
  have hb0 := hbb.alloc hbb.size (.cells #[.int .i64 size, .slice none 0 0] 38)
  clear hr2 hbb
  generalize w2.heap.size = m at *
  go_loopw [10] (fun i wr => ∃ (k : Nat) (L : List Int), k ≤ 150 ∧ i = .int .i64 k ∧ IsRing wr (B + 1) B size L ∧ IsRef wr m size L ∧ Below w.heap.size w wr) (fun i _ => 150 - (intOf i).toNat)
  case atStart => exact ⟨0, [], by omega, rfl, hr0, hm0, hb0⟩
  case round =>
    obtain ⟨k, L, hk, rfl, hR, hF, hW⟩ := hrel
    clear hr0 hm0 hb0
    by_cases hlt : k < M.length
    · by_cases hl2 : k < 150
      · obtain ⟨b, o, rfl, hc⟩ := (hM.below hW (fun hn x hx => hM.lt (by omega) hn hx)).at' (by omega)
        obtain ⟨a0, a1, a2⟩ := acts_at M k hlt
        have hc0 : wr.cell? ⟨b, o + k * 3, none⟩ = some (.int .i64 M[k].kind) := hc _ _ a0
        have hc1 : wr.cell? ⟨b, o + k * 3 + 1, none⟩ = some (.int .i64 M[k].n) := by rw [Nat.add_assoc]; exact hc _ _ a1
        have hc2 : wr.cell? ⟨b, o + k * 3 + 2, none⟩ = some (.int .i64 M[k].x) := by rw [Nat.add_assoc]; exact hc _ _ a2
        have hwf := HMw.out M[k] (List.getElem_mem hlt)
        clear hc a0 a1 a2
        generalize M[k] = c at *
        by_cases hk1 : c.kind = 1
        · have hq1 : (c.kind == 1) = true := by rw [beq_iff_eq]; exact hk1
          clear hk1
          go_wp2_with fail
          have hle := hR.le
          have hR1 := hR.keeps (S := fun _ => False) ((Keeps.refl _ wr).alloc (.cells #[.int .i64 c.kind, .int .i64 c.n, .int .i64 c.x] 40)) id id
          have hF1 := hF.keeps (S := fun _ => False) ((Keeps.refl _ wr).alloc (.cells #[.int .i64 c.kind, .int .i64 c.n, .int .i64 c.x] 40)) (fun _ _ _ => id)
          have hk0 : Keeps (fun _ => False) wr (wr.alloc (.cells #[.int .i64 c.kind, .int .i64 c.n, .int .i64 c.x] 40)) := (Keeps.refl _ wr).alloc _
          have hxb := blk_new wr (.cells #[.int .i64 c.kind, .int .i64 c.n, .int .i64 c.x] 40)
          have x0 : (wr.alloc (.cells #[.int .i64 c.kind, .int .i64 c.n, .int .i64 c.x] 40)).cell? ⟨wr.heap.size, 0, none⟩ = some (.int .i64 c.kind) := blk_cell (k := 0) hxb rfl
          have x1 : (wr.alloc (.cells #[.int .i64 c.kind, .int .i64 c.n, .int .i64 c.x] 40)).cell? ⟨wr.heap.size, 1, none⟩ = some (.int .i64 c.n) := blk_cell (k := 1) hxb rfl
          have x2 : (wr.alloc (.cells #[.int .i64 c.kind, .int .i64 c.n, .int .i64 c.x] 40)).cell? ⟨wr.heap.size, 2, none⟩ = some (.int .i64 c.x) := blk_cell (k := 2) hxb rfl
          have hms : m < wr.heap.size := by obtain ⟨a, cap, h⟩ := hF; exact blk_lt h.head
          generalize wr.alloc (.cells #[.int .i64 c.kind, .int .i64 c.n, .int .i64 c.x] 40) = W0 at *
          obtain ⟨xb, hxe⟩ : ∃ xb, wr.heap.size = xb := ⟨_, rfl⟩
          rw [hxe] at x0 x1 x2 hms ⊢
          have Hxe := hid hxe
          clear hxe hxb hc0 hc1 hc2
          refine stages_start (by kernel_rfl) 14 rfl ?_
          have k0 := keptS_cell (S := fun b => b = B + 1 ∨ b = B ∨ b = m) (w := W0.drew) x0 (by simp; omega)
          have k1 := keptS_cell (S := fun b => b = B + 1 ∨ b = B ∨ b = m) (w := W0.drew) x1 (by simp; omega)
          refine stagek (fun b => b = B + 1 ∨ b = B ∨ b = m) [0, 1, 2, 3, 4, 5, 6, 8, 9, 10] [7, 11] 2 rfl #[true, true, true, true, true, true, true, true, true, true, true, true, false, false] (by kernel_rfl) (by kernel_rfl) (fun _ _ _ d _ h => by cases d <;> exact h) ?_
          simp only [opsAt, List.map_cons, List.map_nil, List.getElem?_toArray, List.getElem?_cons_zero, List.getElem?_cons_succ, Option.getD_some]
          repeat (go_big_quiet_step (fail))
          refine wpQuiet_nil ?_
          refine links_cons (by first | rfl | simp [go_sem]) (fun K hK => ?_)
          go_simp
          refine (is_Push_any (hR1.keeps (S := fun _ => False) (Keeps.refl _ _).drew id id) _).mono ?_
          rintro e w3 ⟨rfl, hR3, hk3⟩
          have hF3 := (hF1.keeps (S := fun _ => False) (Keeps.refl _ W0).drew (fun _ _ _ => id)).keeps hk3 (fun b h1 h2 h3 => by omega)
          refine hK _ _ (keptS (hk3.mono (fun _ _ h => by omega))) ?_
          clear hK K
          try refine links_nil ?_
          refine links_cons (by first | rfl | simp [go_sem]) (fun K hK => ?_)
          go_simp
          refine (refring_Push_any hF3 hle.1 hle.2.2.1 _).mono ?_
          rintro e w4 ⟨rfl, hF4, hk4⟩
          have hR4 := hR3.keeps hk4 (by omega) (by omega)
          refine hK _ _ (keptS ((hk3.mono (fun _ _ h => by omega)).trans (hk4.mono (fun _ _ h => by omega)))) ?_
          clear hK K
          try refine links_nil ?_
          refine stagek (fun _ => False) [12, 13] [] 0 rfl #[true, true, true, true, true, true, true, true, true, true, true, true, true, true] (by kernel_rfl) (by kernel_rfl) (fun _ _ _ d _ h => by cases d <;> exact h) ?_
          simp only [opsAt, List.map_cons, List.map_nil, List.getElem?_toArray, List.getElem?_cons_zero, List.getElem?_cons_succ, Option.getD_some]
          repeat (go_big_quiet_step (fail))
          refine wpQuiet_nil ?_
          refine links_nil ?_
          refine stages_end (by kernel_rfl) ?_
          have hk5 : Keeps (fun b => b = B + 1 ∨ b = B ∨ b = m) wr w4 := ((keeps_any hk0.drew).trans (hk3.mono (fun _ _ h => by omega))).trans (hk4.mono (fun _ _ h => by omega))
          have y0 := (hk3.mono (T := fun b => b = B + 1 ∨ b = B ∨ b = m) (fun _ _ h => by omega)).trans (hk4.mono (fun _ _ h => by omega))
          have z0 := y0.cell x0 (by simp; omega)
          have z1 := y0.cell x1 (by simp; omega)
          have z2 := y0.cell x2 (by simp; omega)
          generalize pushed L c.n size = L1 at *
          clear hR hF hR1 hF1 hk0 hk3 hk4 hR3 hF3 y0 x0 x1 x2 k0 k1
          go_wp2_with fail
          refine stages_start (by kernel_rfl) 37 rfl ?_
          have k0 := keptS_cell (S := fun b => b = B + 1 ∨ b = B ∨ b = m) (w := w4.drew) z0 (by simp; omega)
          have k1 := keptS_cell (S := fun b => b = B + 1 ∨ b = B ∨ b = m) (w := w4.drew) z1 (by simp; omega)
          have k2 := keptS_cell (S := fun b => b = B + 1 ∨ b = B ∨ b = m) (w := w4.drew) z2 (by simp; omega)
          refine stagek (fun b => b = B + 1 ∨ b = B ∨ b = m) [0, 1, 2] [3] 33 rfl #[true, true, true, true, false, false, false, false, false, false, false, false, false, false, false, false, false, false, false, false, false, false, false, false, false, false, false, false, false, false, false, false, false, false, false, false, false] (by kernel_rfl) (by kernel_rfl) (fun _ _ _ d _ h => by cases d <;> exact h) ?_
          simp only [opsAt, List.map_cons, List.map_nil, List.getElem?_toArray, List.getElem?_cons_zero, List.getElem?_cons_succ, Option.getD_some]
          repeat (go_big_quiet_step (fail))
          refine wpQuiet_nil ?_
          refine links_cons (by first | rfl | simp [go_sem]) (fun K hK => ?_)
          go_simp
          refine (law_played c (hR4.keeps (S := fun _ => False) (Keeps.refl _ _).drew id id) (hF4.keeps (S := fun _ => False) (Keeps.refl _ _).drew (fun _ _ _ => id)) (by omega)).mono ?_
          rintro e w5 ⟨rfl, hR5, hF5, hk6⟩
          refine hK _ _ (keptS (hk6)) ?_
          clear hK K
          try refine links_nil ?_
          clear k0 k1 k2
          have hk7 := hk5.trans (Keeps.trans (Keeps.refl _ w4).drew hk6)
          clear hR4 hF4 z0 z1 z2 hk5 hk6
          generalize after c _ = L2 at *
          obtain ⟨a5, c5, f5⟩ := id hF5
          have d1 : w5.cell? ⟨m, 1, none⟩ = some (.slice a5 L2.length c5) := blk_cell f5.head rfl
          have k1 := keptS_cell (S := fun _ => False) d1 id
          have hle5 := hR5.le
          have hv5 := f5.vals
          clear f5
          refine stagek (fun _ => False) [4, 5, 6, 8, 9, 10, 11] [7, 12] 24 rfl #[true, true, true, true, true, true, true, true, true, true, true, true, true, false, false, false, false, false, false, false, false, false, false, false, false, false, false, false, false, false, false, false, false, false, false, false, false] (by kernel_rfl) (by kernel_rfl) (fun _ _ _ d _ h => by cases d <;> exact h) ?_
          simp only [opsAt, List.map_cons, List.map_nil, List.getElem?_toArray, List.getElem?_cons_zero, List.getElem?_cons_succ, Option.getD_some]
          repeat (go_big_quiet_step (fail))
          refine wpQuiet_nil ?_
          refine links_cons (by first | rfl | simp [go_sem]) (fun K hK => ?_)
          go_simp
          refine (is_List hR5).mono ?_
          rintro e w6 ⟨a6, c6, rfl, hv6, hx6, hb6⟩
          have hk8 : Keeps (fun _ => False) w5 w6 := Keeps.of_below hb6 (fun k h1 h2 => by omega)
          refine hK _ _ (keptS (hk8)) ?_
          clear hK K
          try refine links_nil ?_
          refine links_cons (by first | rfl | simp [go_sem]) (fun K hK => ?_)
          go_simp
          refine (ref_Ints _ _ _ _ _ _ _ L2 L2 rfl rfl hv6 (hv5.keeps hk8 (fun _ _ _ => id))).mono ?_
          rintro e w7 ⟨rfl, q, rfl⟩
          have hde : decide (L2 = L2) = true := by simp
          rw [hde]
          clear hde
          refine hK _ _ (keptS (hk8.drewN q)) ?_
          clear hK K
          try refine links_nil ?_
          have hk9 := hk7.trans (keeps_any (hk8.drewN q))
          have hR7 := hR5.keeps (hk8.drewN q) id id
          have hF7 := hF5.keeps (hk8.drewN q) (fun _ _ _ => id)
          have d2 := (hk8.drewN q).cell d1 id
          have hv7 := hv5.keeps (hk8.drewN q) (fun _ _ _ => id)
          generalize w6.drewN q = w7 at *
          clear k1 hk7 hk8 hb6 hx6 hv6 hv5 hR5 hF5 d1
          have k1 := keptS_cell (S := fun _ => False) d2 id
          refine stagek (fun _ => False) [13, 14, 15, 16, 18, 19, 20, 21, 22] [17] 14 rfl #[true, true, true, true, true, true, true, true, true, true, true, true, true, true, true, true, true, true, true, true, true, true, true, false, false, false, false, false, false, false, false, false, false, false, false, false, false] (by kernel_rfl) (by kernel_rfl) (fun _ _ _ d _ h => by cases d <;> exact h) ?_
          simp only [opsAt, List.map_cons, List.map_nil, List.getElem?_toArray, List.getElem?_cons_zero, List.getElem?_cons_succ, Option.getD_some]
          repeat (go_big_quiet_step (fail))
          refine wpQuiet_nil ?_
          refine links_cons (by first | rfl | simp [go_sem]) (fun K hK => ?_)
          go_simp
          refine (is_Len hR7).mono ?_
          rintro e w8 ⟨rfl, rfl⟩
          refine hK _ _ (keptS (Keeps.refl _ w7)) ?_
          clear hK K
          try refine links_nil ?_
          have hroom : IntKind.i64.wrap ((size : Int) - (L2.length : Int)) = ((size - L2.length : Nat) : Int) := (IntWalk.i64_in _ (by omega)).trans (by omega)
          refine stagek (fun _ => False) [23, 24, 25, 26, 28, 29, 30, 31, 32, 33, 34] [27] 2 rfl #[true, true, true, true, true, true, true, true, true, true, true, true, true, true, true, true, true, true, true, true, true, true, true, true, true, true, true, true, true, true, true, true, true, true, true, false, false] (by kernel_rfl) (by kernel_rfl) (fun _ _ _ d _ h => by cases d <;> exact h) ?_
          simp only [opsAt, List.map_cons, List.map_nil, List.getElem?_toArray, List.getElem?_cons_zero, List.getElem?_cons_succ, Option.getD_some]
          repeat (go_big_quiet_step (fail))
          refine wpQuiet_nil ?_
          refine links_cons (by first | rfl | simp [go_sem]) (fun K hK => ?_)
          go_simp
          refine (is_Room hR7).mono ?_
          rintro e w8 ⟨rfl, q8, rfl⟩
          refine hK _ _ (keptS ((Keeps.refl _ w7).drewN q8)) ?_
          clear hK K
          try refine links_nil ?_
          clear hroom k1
          refine stagek (fun _ => False) [35, 36] [] 0 rfl #[true, true, true, true, true, true, true, true, true, true, true, true, true, true, true, true, true, true, true, true, true, true, true, true, true, true, true, true, true, true, true, true, true, true, true, true, true] (by kernel_rfl) (by kernel_rfl) (fun _ _ _ d _ h => by cases d <;> exact h) ?_
          simp only [opsAt, List.map_cons, List.map_nil, List.getElem?_toArray, List.getElem?_cons_zero, List.getElem?_cons_succ, Option.getD_some]
          repeat (go_big_quiet_step (fail))
          refine wpQuiet_nil ?_
          refine links_nil ?_
          refine stages_end (by kernel_rfl) ?_
          go_wp2_with fail
          have hb7 := hW.trans (hk9.below hW.size (fun k h1 h2 => by omega))
          clear hk9
          as_aux_lemma =>
            by_cases hin : 0 ≤ at' ∧ at' < L2.length
            · obtain ⟨i, rfl⟩ := Int.eq_ofNat_of_zero_le hin.1
              have hil : i < L2.length := by omega
              obtain ⟨y, hy⟩ : ∃ y, L2[i]? = some y := ⟨L2[i], by simp⟩
              obtain ⟨bb, oo, rfl, hcl⟩ := hv7.at' (by omega)
              have ci : w7.cell? ⟨bb, oo + i, none⟩ = some (.int .i64 y) := hcl _ _ (by simp [ints, hy])
              have Hy := hid hy
              clear hin hy
              have hnn : 0 < L2.length := by omega
              obtain ⟨yl, hyl⟩ : ∃ yl, L2[L2.length - 1]? = some yl := ⟨L2[L2.length - 1], by simp⟩
              have cl : w7.cell? ⟨bb, oo + (L2.length - 1), none⟩ = some (.int .i64 yl) := hcl _ _ (by simp [ints, hyl])
              have hql : decide ((0 : Int) < (L2.length : Int)) = true := by simp; omega
              have hwl : IntKind.i64.wrap ((L2.length : Int) - 1) = ((L2.length - 1 : Nat) : Int) := (IntWalk.i64_in _ (by omega)).trans (by omega)
              have Hyl := hid hyl
              clear hyl hcl
              refine (is_At (hR7.keeps (S := fun _ => False) ((Keeps.refl _ w7).drewN _) id id) i _ rfl y Hy.out).mono ?_
              rintro e w9 ⟨rfl, q9, rfl⟩
              go_wp2_with fail
              refine (is_Last (hR7.keeps (S := fun _ => False) (by first | exact (Keeps.refl _ w7).drewN _ | exact ((Keeps.refl _ w7).drewN _).drewN _) id id) yl Hyl.out (by omega)).mono ?_
              rintro e w10 ⟨rfl, q10, rfl⟩
              go_wp2_with fail
              as_aux_lemma =>
                go_quiet (fail)
                go_wp2_with fail
                go_roundw
                case rel => exact ⟨k + 1, _, by omega, by go_num, hR7.keeps (S := fun _ => False) ((Keeps.refl _ w7).drewN _) id id, hF7.keeps (S := fun _ => False) ((Keeps.refl _ w7).drewN _) (fun _ _ _ => id), below_drewN hb7 _⟩
                case measure => simp [intOf]; omega
            · have hno : at' < 0 ∨ (L2.length : Int) ≤ at' := by omega
              refine (is_At_no (hR7.keeps (S := fun _ => False) ((Keeps.refl _ w7).drewN _) id id) at' hno).mono ?_
              rintro e w9 ⟨rfl, rfl⟩
              by_cases hnil : L2.length = 0
              · obtain rfl : L2 = [] := List.eq_nil_of_length_eq_zero hnil
                simp only [List.length_nil] at d2
                clear hnil hno hin
                by_cases hneg : at' < 0
                · go_wp2_with fail
                  refine (is_Last_none (hR7.keeps (S := fun _ => False) (by first | exact (Keeps.refl _ w7).drewN _ | exact ((Keeps.refl _ w7).drewN _).drewN _) id id)).mono ?_
                  rintro e w10 ⟨rfl, rfl⟩
                  go_wp2_with fail
                  as_aux_lemma =>
                    go_quiet (fail)
                    go_wp2_with fail
                    go_roundw
                    case rel => exact ⟨k + 1, _, by omega, by go_num, hR7.keeps (S := fun _ => False) ((Keeps.refl _ w7).drewN _) id id, hF7.keeps (S := fun _ => False) ((Keeps.refl _ w7).drewN _) (fun _ _ _ => id), below_drewN hb7 _⟩
                    case measure => simp [intOf]; omega
                · go_wp2_with fail
                  refine (is_Last_none (hR7.keeps (S := fun _ => False) (by first | exact (Keeps.refl _ w7).drewN _ | exact ((Keeps.refl _ w7).drewN _).drewN _) id id)).mono ?_
                  rintro e w10 ⟨rfl, rfl⟩
                  go_wp2_with fail
                  as_aux_lemma =>
                    go_quiet (fail)
                    go_wp2_with fail
                    go_roundw
                    case rel => exact ⟨k + 1, _, by omega, by go_num, hR7.keeps (S := fun _ => False) ((Keeps.refl _ w7).drewN _) id id, hF7.keeps (S := fun _ => False) ((Keeps.refl _ w7).drewN _) (fun _ _ _ => id), below_drewN hb7 _⟩
                    case measure => simp [intOf]; omega
              · obtain ⟨bb, oo, rfl, hcl⟩ := hv7.at' (by omega)
                have hnn : 0 < L2.length := by omega
                obtain ⟨yl, hyl⟩ : ∃ yl, L2[L2.length - 1]? = some yl := ⟨L2[L2.length - 1], by simp⟩
                have cl : w7.cell? ⟨bb, oo + (L2.length - 1), none⟩ = some (.int .i64 yl) := hcl _ _ (by simp [ints, hyl])
                have hql : decide ((0 : Int) < (L2.length : Int)) = true := by simp; omega
                have hwl : IntKind.i64.wrap ((L2.length : Int) - 1) = ((L2.length - 1 : Nat) : Int) := (IntWalk.i64_in _ (by omega)).trans (by omega)
                have Hyl := hid hyl
                clear hyl hcl
                by_cases hneg : at' < 0
                · clear hno hin
                  go_wp2_with fail
                  refine (is_Last (hR7.keeps (S := fun _ => False) (by first | exact (Keeps.refl _ w7).drewN _ | exact ((Keeps.refl _ w7).drewN _).drewN _) id id) yl Hyl.out (by omega)).mono ?_
                  rintro e w10 ⟨rfl, q10, rfl⟩
                  go_wp2_with fail
                  as_aux_lemma =>
                    go_quiet (fail)
                    go_wp2_with fail
                    go_roundw
                    case rel => exact ⟨k + 1, _, by omega, by go_num, hR7.keeps (S := fun _ => False) ((Keeps.refl _ w7).drewN _) id id, hF7.keeps (S := fun _ => False) ((Keeps.refl _ w7).drewN _) (fun _ _ _ => id), below_drewN hb7 _⟩
                    case measure => simp [intOf]; omega
                · have hge : (L2.length : Int) ≤ at' := by omega
                  clear hno hin
                  go_wp2_with fail
                  refine (is_Last (hR7.keeps (S := fun _ => False) (by first | exact (Keeps.refl _ w7).drewN _ | exact ((Keeps.refl _ w7).drewN _).drewN _) id id) yl Hyl.out (by omega)).mono ?_
                  rintro e w10 ⟨rfl, q10, rfl⟩
                  go_wp2_with fail
                  as_aux_lemma =>
                    go_quiet (fail)
                    go_wp2_with fail
                    go_roundw
                    case rel => exact ⟨k + 1, _, by omega, by go_num, hR7.keeps (S := fun _ => False) ((Keeps.refl _ w7).drewN _) id id, hF7.keeps (S := fun _ => False) ((Keeps.refl _ w7).drewN _) (fun _ _ _ => id), below_drewN hb7 _⟩
                    case measure => simp [intOf]; omega
        · have hq1 : (c.kind == 1) = false := by rw [beq_eq_false_iff_ne]; exact hk1
          clear hk1
          go_wp2_with fail
          have hle := hR.le
          have hR1 := hR.keeps (S := fun _ => False) ((Keeps.refl _ wr).alloc (.cells #[.int .i64 c.kind, .int .i64 c.n, .int .i64 c.x] 40)) id id
          have hF1 := hF.keeps (S := fun _ => False) ((Keeps.refl _ wr).alloc (.cells #[.int .i64 c.kind, .int .i64 c.n, .int .i64 c.x] 40)) (fun _ _ _ => id)
          have hk0 : Keeps (fun _ => False) wr (wr.alloc (.cells #[.int .i64 c.kind, .int .i64 c.n, .int .i64 c.x] 40)) := (Keeps.refl _ wr).alloc _
          have hxb := blk_new wr (.cells #[.int .i64 c.kind, .int .i64 c.n, .int .i64 c.x] 40)
          have x0 : (wr.alloc (.cells #[.int .i64 c.kind, .int .i64 c.n, .int .i64 c.x] 40)).cell? ⟨wr.heap.size, 0, none⟩ = some (.int .i64 c.kind) := blk_cell (k := 0) hxb rfl
          have x1 : (wr.alloc (.cells #[.int .i64 c.kind, .int .i64 c.n, .int .i64 c.x] 40)).cell? ⟨wr.heap.size, 1, none⟩ = some (.int .i64 c.n) := blk_cell (k := 1) hxb rfl
          have x2 : (wr.alloc (.cells #[.int .i64 c.kind, .int .i64 c.n, .int .i64 c.x] 40)).cell? ⟨wr.heap.size, 2, none⟩ = some (.int .i64 c.x) := blk_cell (k := 2) hxb rfl
          have hms : m < wr.heap.size := by obtain ⟨a, cap, h⟩ := hF; exact blk_lt h.head
          generalize wr.alloc (.cells #[.int .i64 c.kind, .int .i64 c.n, .int .i64 c.x] 40) = W0 at *
          obtain ⟨xb, hxe⟩ : ∃ xb, wr.heap.size = xb := ⟨_, rfl⟩
          rw [hxe] at x0 x1 x2 hms ⊢
          have Hxe := hid hxe
          clear hxe hxb hc0 hc1 hc2
          go_quiet (fail)
          have hk5 : Keeps (fun b => b = B + 1 ∨ b = B ∨ b = m) wr (W0.drewN nq) := keeps_any (hk0.drewN nq)
          have hR4 := hR1.keeps (S := fun _ => False) ((Keeps.refl _ W0).drewN nq) id id
          have hF4 := hF1.keeps (S := fun _ => False) ((Keeps.refl _ W0).drewN nq) (fun _ _ _ => id)
          have z0 : (W0.drewN nq).cell? ⟨xb, 0, none⟩ = some (.int .i64 c.kind) := x0
          have z1 : (W0.drewN nq).cell? ⟨xb, 1, none⟩ = some (.int .i64 c.n) := x1
          have z2 : (W0.drewN nq).cell? ⟨xb, 2, none⟩ = some (.int .i64 c.x) := x2
          generalize W0.drewN nq = w4 at *
          clear hR hF hR1 hF1 hk0 x0 x1 x2
          go_wp2_with fail
          refine stages_start (by kernel_rfl) 37 rfl ?_
          have k0 := keptS_cell (S := fun b => b = B + 1 ∨ b = B ∨ b = m) (w := w4.drew) z0 (by simp; omega)
          have k1 := keptS_cell (S := fun b => b = B + 1 ∨ b = B ∨ b = m) (w := w4.drew) z1 (by simp; omega)
          have k2 := keptS_cell (S := fun b => b = B + 1 ∨ b = B ∨ b = m) (w := w4.drew) z2 (by simp; omega)
          refine stagek (fun b => b = B + 1 ∨ b = B ∨ b = m) [0, 1, 2] [3] 33 rfl #[true, true, true, true, false, false, false, false, false, false, false, false, false, false, false, false, false, false, false, false, false, false, false, false, false, false, false, false, false, false, false, false, false, false, false, false, false] (by kernel_rfl) (by kernel_rfl) (fun _ _ _ d _ h => by cases d <;> exact h) ?_
          simp only [opsAt, List.map_cons, List.map_nil, List.getElem?_toArray, List.getElem?_cons_zero, List.getElem?_cons_succ, Option.getD_some]
          repeat (go_big_quiet_step (fail))
          refine wpQuiet_nil ?_
          refine links_cons (by first | rfl | simp [go_sem]) (fun K hK => ?_)
          go_simp
          refine (law_played c (hR4.keeps (S := fun _ => False) (Keeps.refl _ _).drew id id) (hF4.keeps (S := fun _ => False) (Keeps.refl _ _).drew (fun _ _ _ => id)) (by omega)).mono ?_
          rintro e w5 ⟨rfl, hR5, hF5, hk6⟩
          refine hK _ _ (keptS (hk6)) ?_
          clear hK K
          try refine links_nil ?_
          clear k0 k1 k2
          have hk7 := hk5.trans (Keeps.trans (Keeps.refl _ w4).drew hk6)
          clear hR4 hF4 z0 z1 z2 hk5 hk6
          generalize after c _ = L2 at *
          obtain ⟨a5, c5, f5⟩ := id hF5
          have d1 : w5.cell? ⟨m, 1, none⟩ = some (.slice a5 L2.length c5) := blk_cell f5.head rfl
          have k1 := keptS_cell (S := fun _ => False) d1 id
          have hle5 := hR5.le
          have hv5 := f5.vals
          clear f5
          refine stagek (fun _ => False) [4, 5, 6, 8, 9, 10, 11] [7, 12] 24 rfl #[true, true, true, true, true, true, true, true, true, true, true, true, true, false, false, false, false, false, false, false, false, false, false, false, false, false, false, false, false, false, false, false, false, false, false, false, false] (by kernel_rfl) (by kernel_rfl) (fun _ _ _ d _ h => by cases d <;> exact h) ?_
          simp only [opsAt, List.map_cons, List.map_nil, List.getElem?_toArray, List.getElem?_cons_zero, List.getElem?_cons_succ, Option.getD_some]
          repeat (go_big_quiet_step (fail))
          refine wpQuiet_nil ?_
          refine links_cons (by first | rfl | simp [go_sem]) (fun K hK => ?_)
          go_simp
          refine (is_List hR5).mono ?_
          rintro e w6 ⟨a6, c6, rfl, hv6, hx6, hb6⟩
          have hk8 : Keeps (fun _ => False) w5 w6 := Keeps.of_below hb6 (fun k h1 h2 => by omega)
          refine hK _ _ (keptS (hk8)) ?_
          clear hK K
          try refine links_nil ?_
          refine links_cons (by first | rfl | simp [go_sem]) (fun K hK => ?_)
          go_simp
          refine (ref_Ints _ _ _ _ _ _ _ L2 L2 rfl rfl hv6 (hv5.keeps hk8 (fun _ _ _ => id))).mono ?_
          rintro e w7 ⟨rfl, q, rfl⟩
          have hde : decide (L2 = L2) = true := by simp
          rw [hde]
          clear hde
          refine hK _ _ (keptS (hk8.drewN q)) ?_
          clear hK K
          try refine links_nil ?_
          have hk9 := hk7.trans (keeps_any (hk8.drewN q))
          have hR7 := hR5.keeps (hk8.drewN q) id id
          have hF7 := hF5.keeps (hk8.drewN q) (fun _ _ _ => id)
          have d2 := (hk8.drewN q).cell d1 id
          have hv7 := hv5.keeps (hk8.drewN q) (fun _ _ _ => id)
          generalize w6.drewN q = w7 at *
          clear k1 hk7 hk8 hb6 hx6 hv6 hv5 hR5 hF5 d1
          have k1 := keptS_cell (S := fun _ => False) d2 id
          refine stagek (fun _ => False) [13, 14, 15, 16, 18, 19, 20, 21, 22] [17] 14 rfl #[true, true, true, true, true, true, true, true, true, true, true, true, true, true, true, true, true, true, true, true, true, true, true, false, false, false, false, false, false, false, false, false, false, false, false, false, false] (by kernel_rfl) (by kernel_rfl) (fun _ _ _ d _ h => by cases d <;> exact h) ?_
          simp only [opsAt, List.map_cons, List.map_nil, List.getElem?_toArray, List.getElem?_cons_zero, List.getElem?_cons_succ, Option.getD_some]
          repeat (go_big_quiet_step (fail))
          refine wpQuiet_nil ?_
          refine links_cons (by first | rfl | simp [go_sem]) (fun K hK => ?_)
          go_simp
          refine (is_Len hR7).mono ?_
          rintro e w8 ⟨rfl, rfl⟩
          refine hK _ _ (keptS (Keeps.refl _ w7)) ?_
          clear hK K
          try refine links_nil ?_
          have hroom : IntKind.i64.wrap ((size : Int) - (L2.length : Int)) = ((size - L2.length : Nat) : Int) := (IntWalk.i64_in _ (by omega)).trans (by omega)
          refine stagek (fun _ => False) [23, 24, 25, 26, 28, 29, 30, 31, 32, 33, 34] [27] 2 rfl #[true, true, true, true, true, true, true, true, true, true, true, true, true, true, true, true, true, true, true, true, true, true, true, true, true, true, true, true, true, true, true, true, true, true, true, false, false] (by kernel_rfl) (by kernel_rfl) (fun _ _ _ d _ h => by cases d <;> exact h) ?_
          simp only [opsAt, List.map_cons, List.map_nil, List.getElem?_toArray, List.getElem?_cons_zero, List.getElem?_cons_succ, Option.getD_some]
          repeat (go_big_quiet_step (fail))
          refine wpQuiet_nil ?_
          refine links_cons (by first | rfl | simp [go_sem]) (fun K hK => ?_)
          go_simp
          refine (is_Room hR7).mono ?_
          rintro e w8 ⟨rfl, q8, rfl⟩
          refine hK _ _ (keptS ((Keeps.refl _ w7).drewN q8)) ?_
          clear hK K
          try refine links_nil ?_
          clear hroom k1
          refine stagek (fun _ => False) [35, 36] [] 0 rfl #[true, true, true, true, true, true, true, true, true, true, true, true, true, true, true, true, true, true, true, true, true, true, true, true, true, true, true, true, true, true, true, true, true, true, true, true, true] (by kernel_rfl) (by kernel_rfl) (fun _ _ _ d _ h => by cases d <;> exact h) ?_
          simp only [opsAt, List.map_cons, List.map_nil, List.getElem?_toArray, List.getElem?_cons_zero, List.getElem?_cons_succ, Option.getD_some]
          repeat (go_big_quiet_step (fail))
          refine wpQuiet_nil ?_
          refine links_nil ?_
          refine stages_end (by kernel_rfl) ?_
          go_wp2_with fail
          have hb7 := hW.trans (hk9.below hW.size (fun k h1 h2 => by omega))
          clear hk9
          as_aux_lemma =>
            by_cases hin : 0 ≤ at' ∧ at' < L2.length
            · obtain ⟨i, rfl⟩ := Int.eq_ofNat_of_zero_le hin.1
              have hil : i < L2.length := by omega
              obtain ⟨y, hy⟩ : ∃ y, L2[i]? = some y := ⟨L2[i], by simp⟩
              obtain ⟨bb, oo, rfl, hcl⟩ := hv7.at' (by omega)
              have ci : w7.cell? ⟨bb, oo + i, none⟩ = some (.int .i64 y) := hcl _ _ (by simp [ints, hy])
              have Hy := hid hy
              clear hin hy
              have hnn : 0 < L2.length := by omega
              obtain ⟨yl, hyl⟩ : ∃ yl, L2[L2.length - 1]? = some yl := ⟨L2[L2.length - 1], by simp⟩
              have cl : w7.cell? ⟨bb, oo + (L2.length - 1), none⟩ = some (.int .i64 yl) := hcl _ _ (by simp [ints, hyl])
              have hql : decide ((0 : Int) < (L2.length : Int)) = true := by simp; omega
              have hwl : IntKind.i64.wrap ((L2.length : Int) - 1) = ((L2.length - 1 : Nat) : Int) := (IntWalk.i64_in _ (by omega)).trans (by omega)
              have Hyl := hid hyl
              clear hyl hcl
              refine (is_At (hR7.keeps (S := fun _ => False) ((Keeps.refl _ w7).drewN _) id id) i _ rfl y Hy.out).mono ?_
              rintro e w9 ⟨rfl, q9, rfl⟩
              go_wp2_with fail
              refine (is_Last (hR7.keeps (S := fun _ => False) (by first | exact (Keeps.refl _ w7).drewN _ | exact ((Keeps.refl _ w7).drewN _).drewN _) id id) yl Hyl.out (by omega)).mono ?_
              rintro e w10 ⟨rfl, q10, rfl⟩
              go_wp2_with fail
              as_aux_lemma =>
                go_quiet (fail)
                go_wp2_with fail
                go_roundw
                case rel => exact ⟨k + 1, _, by omega, by go_num, hR7.keeps (S := fun _ => False) ((Keeps.refl _ w7).drewN _) id id, hF7.keeps (S := fun _ => False) ((Keeps.refl _ w7).drewN _) (fun _ _ _ => id), below_drewN hb7 _⟩
                case measure => simp [intOf]; omega
            · have hno : at' < 0 ∨ (L2.length : Int) ≤ at' := by omega
              refine (is_At_no (hR7.keeps (S := fun _ => False) ((Keeps.refl _ w7).drewN _) id id) at' hno).mono ?_
              rintro e w9 ⟨rfl, rfl⟩
              by_cases hnil : L2.length = 0
              · obtain rfl : L2 = [] := List.eq_nil_of_length_eq_zero hnil
                simp only [List.length_nil] at d2
                clear hnil hno hin
                by_cases hneg : at' < 0
                · go_wp2_with fail
                  refine (is_Last_none (hR7.keeps (S := fun _ => False) (by first | exact (Keeps.refl _ w7).drewN _ | exact ((Keeps.refl _ w7).drewN _).drewN _) id id)).mono ?_
                  rintro e w10 ⟨rfl, rfl⟩
                  go_wp2_with fail
                  as_aux_lemma =>
                    go_quiet (fail)
                    go_wp2_with fail
                    go_roundw
                    case rel => exact ⟨k + 1, _, by omega, by go_num, hR7.keeps (S := fun _ => False) ((Keeps.refl _ w7).drewN _) id id, hF7.keeps (S := fun _ => False) ((Keeps.refl _ w7).drewN _) (fun _ _ _ => id), below_drewN hb7 _⟩
                    case measure => simp [intOf]; omega
                · go_wp2_with fail
                  refine (is_Last_none (hR7.keeps (S := fun _ => False) (by first | exact (Keeps.refl _ w7).drewN _ | exact ((Keeps.refl _ w7).drewN _).drewN _) id id)).mono ?_
                  rintro e w10 ⟨rfl, rfl⟩
                  go_wp2_with fail
                  as_aux_lemma =>
                    go_quiet (fail)
                    go_wp2_with fail
                    go_roundw
                    case rel => exact ⟨k + 1, _, by omega, by go_num, hR7.keeps (S := fun _ => False) ((Keeps.refl _ w7).drewN _) id id, hF7.keeps (S := fun _ => False) ((Keeps.refl _ w7).drewN _) (fun _ _ _ => id), below_drewN hb7 _⟩
                    case measure => simp [intOf]; omega
              · obtain ⟨bb, oo, rfl, hcl⟩ := hv7.at' (by omega)
                have hnn : 0 < L2.length := by omega
                obtain ⟨yl, hyl⟩ : ∃ yl, L2[L2.length - 1]? = some yl := ⟨L2[L2.length - 1], by simp⟩
                have cl : w7.cell? ⟨bb, oo + (L2.length - 1), none⟩ = some (.int .i64 yl) := hcl _ _ (by simp [ints, hyl])
                have hql : decide ((0 : Int) < (L2.length : Int)) = true := by simp; omega
                have hwl : IntKind.i64.wrap ((L2.length : Int) - 1) = ((L2.length - 1 : Nat) : Int) := (IntWalk.i64_in _ (by omega)).trans (by omega)
                have Hyl := hid hyl
                clear hyl hcl
                by_cases hneg : at' < 0
                · clear hno hin
                  go_wp2_with fail
                  refine (is_Last (hR7.keeps (S := fun _ => False) (by first | exact (Keeps.refl _ w7).drewN _ | exact ((Keeps.refl _ w7).drewN _).drewN _) id id) yl Hyl.out (by omega)).mono ?_
                  rintro e w10 ⟨rfl, q10, rfl⟩
                  go_wp2_with fail
                  as_aux_lemma =>
                    go_quiet (fail)
                    go_wp2_with fail
                    go_roundw
                    case rel => exact ⟨k + 1, _, by omega, by go_num, hR7.keeps (S := fun _ => False) ((Keeps.refl _ w7).drewN _) id id, hF7.keeps (S := fun _ => False) ((Keeps.refl _ w7).drewN _) (fun _ _ _ => id), below_drewN hb7 _⟩
                    case measure => simp [intOf]; omega
                · have hge : (L2.length : Int) ≤ at' := by omega
                  clear hno hin
                  go_wp2_with fail
                  refine (is_Last (hR7.keeps (S := fun _ => False) (by first | exact (Keeps.refl _ w7).drewN _ | exact ((Keeps.refl _ w7).drewN _).drewN _) id id) yl Hyl.out (by omega)).mono ?_
                  rintro e w10 ⟨rfl, q10, rfl⟩
                  go_wp2_with fail
                  as_aux_lemma =>
                    go_quiet (fail)
                    go_wp2_with fail
                    go_roundw
                    case rel => exact ⟨k + 1, _, by omega, by go_num, hR7.keeps (S := fun _ => False) ((Keeps.refl _ w7).drewN _) id id, hF7.keeps (S := fun _ => False) ((Keeps.refl _ w7).drewN _) (fun _ _ _ => id), below_drewN hb7 _⟩
                    case measure => simp [intOf]; omega
      · go_wp2_with fail
        go_ret
        exact ⟨rfl, hW⟩
    · go_wp2_with fail
      go_ret
      exact ⟨rfl, hW⟩
end Go.Proofs.Ytnkiofeomejjjaa
