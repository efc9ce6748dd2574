/- The reference's window: a frame is put. -/
import Derived.Test.YtnkiofeomejjjaaRefWin
namespace Go.Proofs.Ytnkiofeomejjjaa
open Go.RowKit
variable {w : World} {m size first : Nat} {L : List (Nat × Int)}
theorem own_ones {w : World} {base : Nat} {v : Value} {out : List (Nat × Int)} {f : Int} (g : Nat) (z : Int) (h : w.ownsRow base 56 2 v (out.length + 1) (ones out ++ [.int .i64 f, .int .i64 z])) (hf : f = g) : w.ownsRow base 56 2 v (out ++ [(g, z)]).length (ones (out ++ [(g, z)])) := by
  subst hf
  simpa [ones_append, ones] using h
/-- a round's own part -/
theorem put_step (f : Nat) (x : Int) (out : List (Nat × Int)) (b : Bool) (g : Nat) (z : Int) : putStep f x (out, b) (g, z) =
    ((if (!b && decide (f ≤ g)) = true then out ++ [(f, x)] else out) ++ (if g = f then [] else [(g, z)]), b || decide (f ≤ g)) := rfl
set_option maxHeartbeats 1600000 in
theorem refwin_Put (h : IsRefW w m size first L) (hs : L.length ≤ 4096) (n : Nat) (f : Int) (hfn : f = n) (hf : inW first size f) (hsz : size ≤ 4096) (x : Int) :
    Calls Try.prog 21 #[.pointer (some ⟨m, 0, none⟩), .int .i64 f, .int .i64 x] w fun e w' => e = .returned (.int .i64 0) ∧ IsRefW w' m size first (putL L n x) ∧ Keeps (fun b => b = m) w w' := by
  obtain ⟨i0, hi, hz0, hz1, hz2⟩ := info_parts info_one
  obtain ⟨a, cap, h1, h2, h3⟩ := h
  have c0 : w.cell? ⟨m, 0, none⟩ = some (.int .i64 size) := blk_cell h1 rfl
  have c1 : w.cell? ⟨m, 1, none⟩ = some (.int .i64 first) := blk_cell h1 rfl
  have c2 : w.cell? ⟨m, 2, none⟩ = some (.slice a L.length cap) := blk_cell h1 rfl
  have f2 := blk_free h1 2
  have lm := blk_lt h1
  obtain ⟨p1, p2, p3⟩ := hf
  have p4 : f - first < size := by omega
  have hw : IntKind.i64.wrap (f - first) = f - first := IntWalk.i64_in _ (by omega)
  have Hi := hid hi
  have H1 := hid h1
  have Hfn := hid hfn
  clear hi h1 hfn
  go_enter Try.func21, Try.ntmps21
  go_wp2
  go_quiet (fail)
  go_wp2
  go_loopw [7, 8, 9] (fun v pv i wr => ∃ (k : Nat) (out : List (Nat × Int)) (b : Bool), k ≤ L.length ∧ i = .int .i64 k ∧ pv = .bool b ∧ Hid (putFold n x (L.take k) = (out, b)) ∧ wr.ownsRow w.heap.size 56 2 v out.length (ones out) ∧ Keeps (fun _ => False) w wr) (fun _ _ i _ => L.length - (intOf i).toNat)
  case atStart => exact ⟨0, [], false, Nat.zero_le _, rfl, rfl, rfl, own_empty (Nat.le_refl _) (blk_new _ _), ((Keeps.refl _ w).drewN nq).alloc _⟩
  case round =>
    obtain ⟨k, out, b, hk, rfl, rfl, hfo, hown, hkw⟩ := hrel
    have c2r := hkw.cell c2 id
    have f2r := (hkw.frozen (p := ⟨m, 2, none⟩) lm id).trans f2
    have hol : out.length ≤ L.length + 1 := by
      have := putFold_len n x (L.take k)
      rw [hfo.out] at this
      have h2 := List.length_take_le k L
      simp only at this
      omega
    by_cases hlt : k < L.length
    · obtain ⟨bb, o, rfl, hc⟩ := h2.at' (by omega)
      obtain ⟨a0, a1⟩ := ones_at L k hlt
      have w0 : w.cell? ⟨bb, o + k * 2, none⟩ = some (.int .i64 L[k].1) := hc _ _ a0
      have w1' : w.cell? ⟨bb, o + k * 2 + 1, none⟩ = some (.int .i64 L[k].2) := by rw [Nat.add_assoc]; exact hc _ _ a1
      have hsucc : putFold n x (L.take (k + 1)) = putStep n x (out, b) L[k] := by rw [List.take_succ_eq_append_getElem hlt, putFold_snoc, hfo.out]
      clear hc a0 a1
      generalize L[k] = p at *
      obtain ⟨g, z⟩ := p
      rw [put_step] at hsucc
      have Hs := hid hsucc
      have k0 : wr.cell? ⟨bb, o + k * 2, none⟩ = some (.int .i64 g) := hkw.cell w0 id
      have k1 : wr.cell? ⟨bb, o + k * 2 + 1, none⟩ = some (.int .i64 z) := hkw.cell w1' id
      clear hsucc hfo
      by_cases hgf : (g : Int) = f
      · have hq : ((g : Int) == f) = true := by rw [beq_iff_eq]; exact hgf
        have hq2 : ((g : Int) != f) = false := by simp [hgf]
        have hgn : g = n := by have := Hfn.out; omega
        have hge : f ≤ (g : Int) := by omega
        have Hgn := hid hgn
        clear hgf hgn
        cases b with
        | true =>
          go_wp2
          go_roundw
          case rel => exact ⟨k + 1, out, true, by omega, by go_num, rfl, hid (Hs.out.trans (by simp [Hgn.out])), hown, hkw⟩
          case measure => simp [intOf]; omega
        | false =>
          go_wp2_with (at_builtin; refine wpList_append_vals _ rfl (.tmp 55) (.tmp 59) _ rfl w.heap.size 56 i0 _ 2 16 Try.underlying49 Hi.out hz0 hz1 hz2 rfl (by omega) _ (out).length (ones out) rfl (own_keeps hown ((Keeps.refl (fun _ => False) _).alloc _) (fun _ _ => id)) (some ⟨_, 0, none⟩) 1 1 [.int .i64 f, .int .i64 x] rfl (vals_two _ _ _ _) (by simp [Value.oneCell']) (by simp only [maxLen]; omega) (by omega) (by have := hkw.size; simp; omega) ?_)
          intro v1 w1 hown1 hg1 _
          have hk1 : Keeps (fun _ => False) w w1 := (hkw.alloc _).grown hg1 (fun k hk => .inr ((hown.lt k hk).1))
          have c21 := hk1.cell c2 id
          have f21 := (hk1.frozen (p := ⟨m, 2, none⟩) lm id).trans f2
          have k01 : w1.cell? ⟨bb, o + k * 2, none⟩ = some (.int .i64 g) := hk1.cell w0 id
          have k11 : w1.cell? ⟨bb, o + k * 2 + 1, none⟩ = some (.int .i64 z) := hk1.cell w1' id
          go_wp2
          go_roundw
          case rel => exact ⟨k + 1, out ++ [(n, x)], true, by omega, by go_num, rfl, hid (Hs.out.trans (by simp [Hgn.out])), own_ones n x hown1 Hfn.out, hk1⟩
          case measure => simp [intOf]; omega
      · have hq : ((g : Int) == f) = false := by rw [beq_eq_false_iff_ne]; exact hgf
        have hq2 : ((g : Int) != f) = true := by simp [hgf]
        have hgn : ¬ g = n := by have := Hfn.out; omega
        have Hgn := hid hgn
        clear hgf hgn
        cases b with
        | true =>
          go_wp2_with (at_builtin; refine wpList_append_vals _ rfl (.tmp 71) (.tmp 79) _ rfl w.heap.size 56 i0 _ 2 16 Try.underlying49 Hi.out hz0 hz1 hz2 rfl (by omega) _ (out).length (ones out) rfl (own_keeps hown ((Keeps.refl (fun _ => False) _).alloc _) (fun _ _ => id)) (some ⟨_, 0, none⟩) 1 1 [.int .i64 (g : Int), .int .i64 z] rfl (vals_two _ _ _ _) (by simp [Value.oneCell']) (by simp only [maxLen]; omega) (by omega) (by have := hkw.size; simp; omega) ?_)
          intro v1 w1 hown1 hg1 _
          have hk1 : Keeps (fun _ => False) w w1 := (hkw.alloc _).grown hg1 (fun k hk => .inr ((hown.lt k hk).1))
          go_wp2
          go_roundw
          case rel => exact ⟨k + 1, out ++ [(g, z)], true, by omega, by go_num, rfl, hid (Hs.out.trans (by simp [Hgn.out])), own_ones g z hown1 rfl, hk1⟩
          case measure => simp [intOf]; omega
        | false =>
          by_cases hge : f ≤ (g : Int)
          · have Hge := hid (show n ≤ g by have := Hfn.out; omega)
            go_wp2_with (at_builtin; refine wpList_append_vals _ rfl (.tmp 55) (.tmp 59) _ rfl w.heap.size 56 i0 _ 2 16 Try.underlying49 Hi.out hz0 hz1 hz2 rfl (by omega) _ (out).length (ones out) rfl (own_keeps hown ((Keeps.refl (fun _ => False) _).alloc _) (fun _ _ => id)) (some ⟨_, 0, none⟩) 1 1 [.int .i64 f, .int .i64 x] rfl (vals_two _ _ _ _) (by simp [Value.oneCell']) (by simp only [maxLen]; omega) (by omega) (by have := hkw.size; simp; omega) ?_)
            intro v1 w1 hown1 hg1 _
            have hk1 : Keeps (fun _ => False) w w1 := (hkw.alloc _).grown hg1 (fun k hk => .inr ((hown.lt k hk).1))
            have c21 := hk1.cell c2 id
            have f21 := (hk1.frozen (p := ⟨m, 2, none⟩) lm id).trans f2
            have k01 : w1.cell? ⟨bb, o + k * 2, none⟩ = some (.int .i64 g) := hk1.cell w0 id
            have k11 : w1.cell? ⟨bb, o + k * 2 + 1, none⟩ = some (.int .i64 z) := hk1.cell w1' id
            have hown2 := own_ones n x hown1 Hfn.out
            have hol2 : (out ++ [(n, x)]).length ≤ L.length + 2 := by simp; omega
            clear hown1 hg1
            go_wp2_with (at_builtin; refine wpList_append_vals _ rfl (.tmp 71) (.tmp 79) _ rfl w.heap.size 56 i0 _ 2 16 Try.underlying49 Hi.out hz0 hz1 hz2 rfl (by omega) _ ((out ++ [(n, x)])).length (ones (out ++ [(n, x)])) rfl (own_keeps hown2 ((Keeps.refl (fun _ => False) _).alloc _) (fun _ _ => id)) (some ⟨_, 0, none⟩) 1 1 [.int .i64 (g : Int), .int .i64 z] rfl (vals_two _ _ _ _) (by simp [Value.oneCell']) (by simp only [maxLen]; omega) (by omega) (by have := hk1.size; simp; omega) ?_)
            intro v3 w3 hown3 hg3 _
            have hk3 : Keeps (fun _ => False) w w3 := (hk1.alloc _).grown hg3 (fun k hk => .inr ((hown2.lt k hk).1))
            go_wp2
            go_roundw
            case rel => exact ⟨k + 1, out ++ [(n, x)] ++ [(g, z)], true, by omega, by go_num, rfl, hid (Hs.out.trans (by simp [Hgn.out, Hge.out])), own_ones g z (by rw [show (out ++ [(n, x)]).length = out.length + 1 by simp]; exact hown3) rfl, hk3⟩
            case measure => simp [intOf]; omega
          · have Hge := hid (show ¬ n ≤ g by have := Hfn.out; omega)
            go_wp2_with (at_builtin; refine wpList_append_vals _ rfl (.tmp 71) (.tmp 79) _ rfl w.heap.size 56 i0 _ 2 16 Try.underlying49 Hi.out hz0 hz1 hz2 rfl (by omega) _ (out).length (ones out) rfl (own_keeps hown ((Keeps.refl (fun _ => False) _).alloc _) (fun _ _ => id)) (some ⟨_, 0, none⟩) 1 1 [.int .i64 (g : Int), .int .i64 z] rfl (vals_two _ _ _ _) (by simp [Value.oneCell']) (by simp only [maxLen]; omega) (by omega) (by have := hkw.size; simp; omega) ?_)
            intro v1 w1 hown1 hg1 _
            have hk1 : Keeps (fun _ => False) w w1 := (hkw.alloc _).grown hg1 (fun k hk => .inr ((hown.lt k hk).1))
            go_wp2
            go_roundw
            case rel => exact ⟨k + 1, out ++ [(g, z)], false, by omega, by go_num, rfl, hid (Hs.out.trans (by simp [Hgn.out, Hge.out])), own_ones g z hown1 rfl, hk1⟩
            case measure => simp [intOf]; omega
    · obtain rfl : k = L.length := by omega
      have hend := putFold_end n x L
      rw [List.take_length] at hfo
      rw [hfo.out] at hend
      cases b with
      | true =>
        have He : Hid (out = putL L n x) := hend
        obtain ⟨A2, cap2, rfl, _, _⟩ := vals_of_own hown
        have hr := isRefW_set (hkw.heap H1.out id) hown lm
        have hkk := (hkw.mono (T := fun b => b = m) fun _ _ h => h.elim).setCell (p := ⟨m, 2, none⟩) rfl (.slice A2 out.length cap2)
        clear hown h2 hkw hend
        go_wp2
        go_ret
        exact ⟨rfl, by rw [← He.out]; exact hr, hkk⟩
      | false =>
        have He : Hid (out ++ [(n, x)] = putL L n x) := hend
        clear hend
        go_wp2_with (at_builtin; refine wpList_append_vals _ rfl (.tmp 83) (.tmp 87) _ rfl w.heap.size 56 i0 _ 2 16 Try.underlying49 Hi.out hz0 hz1 hz2 rfl (by omega) _ (out).length (ones out) rfl (own_keeps hown ((Keeps.refl (fun _ => False) _).alloc _) (fun _ _ => id)) (some ⟨_, 0, none⟩) 1 1 [.int .i64 f, .int .i64 x] rfl (vals_two _ _ _ _) (by simp [Value.oneCell']) (by simp only [maxLen]; omega) (by omega) (by have := hkw.size; simp; omega) ?_)
        intro v1 w1 hown1 hg1 _
        have hk1 : Keeps (fun _ => False) w w1 := (hkw.alloc _).grown hg1 (fun k hk => .inr ((hown.lt k hk).1))
        have c21 := hk1.cell c2 id
        have f21 := (hk1.frozen (p := ⟨m, 2, none⟩) lm id).trans f2
        have hown2 := own_ones n x hown1 Hfn.out
        obtain ⟨A2, cap2, rfl, _, _⟩ := vals_of_own hown2
        have hr := isRefW_set (hk1.heap H1.out id) hown2 lm
        have hkk := (hk1.mono (T := fun b => b = m) fun _ _ h => h.elim).setCell (p := ⟨m, 2, none⟩) rfl (.slice A2 (out ++ [(n, x)]).length cap2)
        clear hown hown1 hown2 hg1 h2 hkw
        go_wp2
        go_ret
        exact ⟨rfl, by rw [← He.out]; simpa using hr, by simpa using hkk⟩
end Go.Proofs.Ytnkiofeomejjjaa
