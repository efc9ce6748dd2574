/- A window's Get and Move, by its list of frames and things. -/
import Derived.Test.YtdgbmnefpempaaaWin6
import Derived.Test.YtdgbmnefpempaaaLook
import Derived.Test.YtdgbmnefpempaaaDel
namespace Go.Proofs.Ytdgbmnefpempaaa
open Go.RowKit
variable {w w' : World} {r B size first : Nat} {L : List (Nat × Int)}
theorem is_Get (h : IsWin w r B size first L) (f : Int) (hr : -9223372036854775808 ≤ f ∧ f ≤ 9223372036854775807) :
    Calls Try.prog 43 #[.pointer (some ⟨r, 0, none⟩), .int .i64 f] w fun e w' => e = .returned (.tuple #[(Value.int .u8 ((lookI L f).getD 0)), .bool (lookI L f).isSome]) ∧ ∃ q, w' = w.drewN q := by
  obtain ⟨S, h, h4⟩ := h
  by_cases hf : inW first size f
  · obtain ⟨n, rfl⟩ := Int.eq_ofNat_of_zero_le (show 0 ≤ f by unfold inW at hf; omega)
    rw [lookI_nat]
    rcases hl : lookL L n with _ | x
    · obtain ⟨y, hy⟩ := h4.none' n (by unfold inW at hf; omega) (by unfold inW at hf; omega) (by unfold inW at hf; omega) hl
      exact win_Get h n _ n rfl hf rfl y false hy
    · exact win_Get h n _ n rfl hf rfl x true (h4.some' n x hl)
  · rw [lookI_none (fun p hp e => hf (by have := h4.isin p hp; unfold inW; omega))]
    exact win_Get_no h f hf hr
theorem is_Move_no (h : IsWin w r B size first L) (f : Int) (hf : f < first ∨ 1073741824 < f) :
    Calls Try.prog 41 #[.pointer (some ⟨r, 0, none⟩), .int .i64 f] w fun e w' => e = .returned (.int .i64 0) ∧ IsWin w' r B size first L ∧ Keeps (fun _ => False) w w' := by
  obtain ⟨S, h, h4⟩ := h
  have h1 := (h.keeps (T := fun _ => False) ((Keeps.refl _ w).alloc (.cells #[.int .i64 f] 3)) id id)
  have c0 := h1.c0
  have cf : (w.alloc (.cells #[.int .i64 f] 3)).cell? ⟨w.heap.size, 0, none⟩ = some (.int .i64 f) := cell_one_new' _ _ _
  have hk : Keeps (fun _ => False) w (w.alloc (.cells #[.int .i64 f] 3)) := (Keeps.refl _ w).alloc _
  by_cases h2 : f < first
  · clear hf
    go_enter Try.func41, Try.ntmps41
    go_upto_region 1 with fail
    generalize w.alloc (.cells #[.int .i64 f] 3) = w1 at *
    go_quiet (fail)
    go_wp2
    go_ret
    exact ⟨rfl, ⟨S, h1.drew _, h4⟩, hk.drewN _⟩
  · have h3 : 1073741824 < f := by omega
    have h5 : (first : Int) ≤ f := by omega
    clear hf
    go_enter Try.func41, Try.ntmps41
    go_upto_region 1 with fail
    generalize w.alloc (.cells #[.int .i64 f] 3) = w1 at *
    go_quiet (fail)
    go_wp2
    go_ret
    exact ⟨rfl, ⟨S, h1.drew _, h4⟩, hk.drewN _⟩
theorem move1 (Bc : Nat) (n x : Int) (W : World) (hc : W.cell? ⟨Bc, 0, none⟩ = some (.int .i64 n)) :
    Calls Try.prog 49 #[.int .i64 x, .pointer (some ⟨Bc, 0, none⟩)] W fun e w' => e = .returned (.bool (decide (n ≤ x))) ∧ ∃ q, w' = W.drewN q := by
  go_enter Try.func49, Try.ntmps49
  go_wp2
  all_goals
    go_ret
    exact ⟨by simp_all, 0, rfl⟩
theorem WinAt.setFirst {S : List (Int × Bool)} (h : WinAt w r B size first S) (n : Nat) (hn : n ≤ 1073741824) : WinAt (w.setCell ⟨r, 0, none⟩ (.int .i64 (n : Int))) r B size n S :=
  ⟨by simpa using blk_set h.head 0 (.int .i64 (n : Int)), blk_other h.body (Ne.symm h.ne) _, h.slen, h.pos, h.most, hn, h.ne⟩
set_option maxHeartbeats 800000 in
theorem is_Move (h : IsWin w r B size first L) (n : Nat) (f : Int) (hfn : f = n) (hf : first ≤ n ∧ n ≤ 1073741824) :
    Calls Try.prog 41 #[.pointer (some ⟨r, 0, none⟩), .int .i64 f] w fun e w' => e = .returned (.int .i64 (((L.filter fun p => decide (p.1 < n)).length : Nat) : Int)) ∧ IsWin w' r B size n (L.filter fun p => !decide (p.1 < n)) ∧ Keeps (fun b => b = r ∨ b = B) w w' := by
  obtain ⟨S, h, h4⟩ := h
  have hk0 : Keeps (fun _ => False) w (w.alloc (.cells #[.int .i64 f] 3)) := (Keeps.refl _ w).alloc _
  have h1 := h.keeps hk0 id id
  have c0 := h1.c0
  have cf : (w.alloc (.cells #[.int .i64 f] 3)).cell? ⟨w.heap.size, 0, none⟩ = some (.int .i64 f) := cell_one_new' _ _ _
  have hs1 : (w.alloc (.cells #[.int .i64 f] 3)).heap.size = w.heap.size + 1 := by simp
  have lr := blk_lt h.head
  have lB := blk_lt h.body
  have h5 : (first : Int) ≤ f := by omega
  have h6 : f ≤ 1073741824 := by omega
  have hd := h4.drop fun k => decide (k < n)
  have hm := hd.move n hf.1 (fun p hp => by have := (List.mem_filter.1 hp).2; simpa using this)
  have hll : ((L.map (·.1)).filter fun k : Nat => decide (k < n)).length = (L.filter fun p => decide (p.1 < n)).length := by rw [List.filter_map, List.length_map]; rfl
  have hin : ∀ k ∈ (L.map (·.1)).filter fun k : Nat => decide (k < n), inW first size (k : Int) := fun k hk => by
    obtain ⟨p, hp, rfl⟩ := List.mem_map.1 (List.mem_filter.1 hk).1
    have := h4.isin p hp
    unfold inW
    omega
  have hlen : L.length ≤ 4096 := Nat.le_trans (IsWin.le ⟨S, h, h4⟩).1 h.most
  have hfil : ((natsL (L.map (·.1))).filter fun x => !decide (f ≤ x)) = natsL ((L.map (·.1)).filter fun k : Nat => decide (k < n)) := by
    unfold natsL
    rw [List.filter_map]
    congr 1
    refine List.filter_congr fun k _ => ?_
    simp only [Function.comp_apply]
    rw [Bool.eq_iff_iff]
    simp
    omega
  rw [← hll]
  have Hfn := hid hfn
  clear hll hd hfn
  generalize ((L.map (·.1)).filter fun k : Nat => decide (k < n)) = fs at *
  have hll2 : (natsL fs).length = fs.length := by simp [natsL]
  have Hin := hid hin
  have Hfil := hid hfil
  have Hll := hid hll2
  have Hn := hid hf
  have hml : (L.map (·.1)).length ≤ 4096 := by simpa using hlen
  clear hin hfil hll2 hf
  go_enter Try.func41, Try.ntmps41
  go_upto_region 1 with fail
  generalize w.alloc (.cells #[.int .i64 f] 3) = w1 at *
  generalize w.heap.size = Bc at *
  go_quiet (fail)
  go_wp2_with fail
  refine (is_Frames ⟨S, h1.drew nq, h4⟩).mono ?_
  rintro e w3 ⟨v, rfl, ho3, hb3⟩
  have hk3 : Keeps (fun _ => False) w1 w3 := ((Keeps.refl _ w1).drewN nq).then_below hb3
  have cf3 := hk3.cell cf id
  have hs3 : (w1.drewN nq).heap.size = w1.heap.size := rfl
  rw [hs3] at ho3
  clear hs3 hb3
  go_wp2_with fail
  refine (del_ints (natsL (L.map (·.1))) ho3 hml (fun x => decide (f ≤ x)) 49 #[.pointer (some ⟨Bc, 0, none⟩)] (enters_of Try.func49 (by kernel_rfl) rfl)
    (fun W x hk => move1 Bc f x W (hk.cell cf3 (fun e => by have := (ho3.lt Bc e).1; omega)))).mono ?_
  rintro e w4 ⟨v4, rfl, ho4, hk4⟩
  rw [Hfil.out, Hll.out] at ho4
  have hk34 : ∀ b, b < w1.heap.size → ¬ v.ownBlock = some b := fun b hb e => by have := (ho3.lt b e).1; omega
  obtain ⟨A, cap, rfl, hv, hb⟩ := vals_of_own ho4
  have hk14 : Keeps (fun b => w1.heap.size ≤ b) w1 w4 := (hk3.mono (fun _ _ h => h.elim)).trans (hk4.mono fun b _ e => (ho3.lt b e).1 |> fun h => by omega)
  have cf4 := hk14.cell cf (by simp; omega)
  have h14 := h1.keeps hk14 (by omega) (by omega)
  clear ho3 ho4 hk34 hk4 hk3 cf3
  go_wp2_with fail
  refine (win_drop h14 fs A cap hv (fun _ x hx => by have := (hb x hx).1; omega) Hin.out).mono ?_
  rintro e w5 ⟨rfl, h5, h6⟩
  have cf5 := h6.cell cf4 (by simp; omega)
  have c05 := h5.c0
  have g5 := blk_free h5.head 0
  have hset := h5.setFirst n Hn.out.2
  rw [← Hfn.out] at hset
  have hkk : Keeps (fun b => b = r ∨ b = B) w (w5.setCell ⟨r, 0, none⟩ (.int .i64 f)) :=
    (((keeps_any hk0).trans (hk14.mono fun b hb e => by omega)).trans (h6.mono fun b _ e => .inr e)).setCell (p := ⟨r, 0, none⟩) (.inl rfl) _
  clear h5 h6 hk14 h14 h1
  go_wp2_with fail
  go_ret
  exact ⟨rfl, ⟨_, hset, hm⟩, hkk⟩
end Go.Proofs.Ytdgbmnefpempaaa
