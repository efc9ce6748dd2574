/- The frames of a window, told one by one. -/
import Derived.Test.YtdgbmnefpempaaaWin3
namespace Go.Proofs.Ytdgbmnefpempaaa
open Go.RowKit
attribute [local go_sem] Oper.semAt_some
/-- a frame of which there is a thing -/
def hasW (S : List (Int × Bool)) (size f : Nat) : Bool := decide (f ≤ 1073741824) && ((S[f % size]?).map (·.2)).getD false
def framesW (S : List (Int × Bool)) (size first : Nat) (fr : Int) (k : Nat) : List Nat := ((List.range k).map (first + ·)).filter fun f => decide (fr ≤ (f : Int)) && hasW S size f
theorem framesW_succ (S : List (Int × Bool)) (size first : Nat) (fr : Int) (k : Nat) : framesW S size first fr (k + 1) = framesW S size first fr k ++ if (decide (fr ≤ ((first + k : Nat) : Int)) && hasW S size (first + k)) = true then [first + k] else [] := by
  unfold framesW
  rw [List.range_succ, List.map_append, List.filter_append, List.map_singleton, List.filter_cons, List.filter_nil]
theorem framesW_split (S : List (Int × Bool)) (size first : Nat) (fr : Int) (k : Nat) (hk : k < size) (h : (decide (fr ≤ ((first + k : Nat) : Int)) && hasW S size (first + k)) = true) :
    ∃ rest, framesW S size first fr size = framesW S size first fr k ++ (first + k) :: rest := by
  have : ∀ d, ∃ rest, framesW S size first fr (k + 1 + d) = framesW S size first fr k ++ (first + k) :: rest := by
    intro d
    induction d with
    | zero => exact ⟨[], by rw [Nat.add_zero, framesW_succ, if_pos h]⟩
    | succ d ih =>
      obtain ⟨r, hr⟩ := ih
      exact ⟨r ++ _, by rw [← Nat.add_assoc, framesW_succ, hr, List.append_assoc, List.cons_append]⟩
  obtain ⟨r, hr⟩ := this (size - (k + 1))
  exact ⟨r, by rw [← hr]; congr 1; omega⟩
section
variable {w w' : World} {r B size first : Nat} {S : List (Int × Bool)}
theorem win_frames (r : Nat) (f : Int) (w : World) : Calls Try.prog 52 #[.pointer (some ⟨r, 0, none⟩), .int .i64 f] w fun e w' => e = .returned (.func (.func 55) #[] #[.pointer (some ⟨w.heap.size, 0, none⟩), .pointer (some ⟨w.heap.size + 1, 0, none⟩)]) ∧ (w.alloc (.cells #[.pointer (some ⟨r, 0, none⟩)] 70)).alloc (.cells #[.int .i64 f] 3) = w' := by
  go_enter Try.func52, Try.ntmps52
  go_wp2
  go_ret
  exact ⟨rfl, rfl⟩
theorem hasW_of (h : WinAt w r B size first S) (n : Nat) : hasW S size n = (decide (n ≤ 1073741824) && (S[n % size]'(by rw [h.slen]; exact Nat.mod_lt _ h.pos)).2) := by
  unfold hasW
  rw [List.getElem?_eq_getElem (by rw [h.slen]; exact Nat.mod_lt _ h.pos)]
  rfl
set_option maxHeartbeats 1600000 in
theorem frames1 (h : WinAt w r B size first S) (Bn Bf : Nat) (fr : Int) (hc : w.cell? ⟨Bn, 0, none⟩ = some (.pointer (some ⟨r, 0, none⟩))) (hf : w.cell? ⟨Bf, 0, none⟩ = some (.int .i64 fr))
    (Wr : Nat → Prop) (hW : ¬ Wr Bn ∧ ¬ Wr Bf ∧ ¬ Wr r ∧ ¬ Wr B) (hBn : Bn < w.heap.size ∧ Bf < w.heap.size) :
    YieldsAll Try.prog 55 #[.pointer (some ⟨Bn, 0, none⟩), .pointer (some ⟨Bf, 0, none⟩)] (fun f : Nat => #[.int .i64 f]) (framesW S size first fr size) Wr (fun _ => False) w := by
  intro l J W hl hk hsz hJ hY h0
  subst hl
  have lr := blk_lt h.head
  have lB := blk_lt h.body
  have b1 := h.fst
  have b2 := h.most
  refine callsIn_wide.2 ?_
  have hcW := hk.cell hc id
  have hRW := h.keeps hk id id
  have c1W := hRW.c1
  go_enter Try.func55, Try.ntmps55
  go_wp2_with fail
  go_loopw [14] (fun v wr => ∃ k : Nat, k ≤ size ∧ v = .int .i64 k ∧ wr.cell? ⟨Bn, 0, none⟩ = some (.pointer (some ⟨r, 0, none⟩)) ∧ wr.cell? ⟨Bf, 0, none⟩ = some (.int .i64 fr) ∧ WinAt wr r B size first S ∧ J (framesW S size first fr k) wr ∧ w.heap.size + 2 ≤ wr.heap.size)
    (fun v _ => size - (intOf v).toNat)
  case atStart => exact ⟨0, Nat.zero_le _, rfl, hcW, hk.cell hf id, hRW, by simpa [framesW] using h0, by omega⟩
  case round =>
    obtain ⟨k, hkl, rfl, hcell, hfell, hRw, hJk, hsz2⟩ := hrel
    by_cases hlt : k < size
    · have c0 := hRw.c0
      have hsucc := framesW_succ S size first fr k
      have hhas := hasW_of hRw (first + k)
      have hfn : (first : Int) + (k : Int) = ((first + k : Nat) : Int) := by omega
      by_cases hbig : 1073741824 < first + k
      · have hno := hid (win_inside_no hRw ((first : Int) + k) (by unfold inW; omega) (by omega))
        have hh : hasW S size (first + k) = false := by rw [hhas]; simp; omega
        rw [hh, Bool.and_false, if_neg (by simp), List.append_nil] at hsucc
        have Hs := hid hsucc
        clear hh hhas hsucc hfn hbig
        by_cases hfr : fr ≤ (first : Int) + k
        · go_wp2_with fail
          refine hno.out.mono ?_
          rintro e w2 ⟨rfl, q, rfl⟩
          go_wp2_with fail
          go_roundw
          case rel => exact ⟨k + 1, by omega, by go_num, hcell, hfell, hRw.drew q, by rw [Hs.out]; exact hJ _ _ _ hJk ((Keeps.refl _ wr).drewN q), hsz2⟩
          case measure => simp [intOf]; omega
        · go_wp2_with fail
          refine hno.out.mono ?_
          rintro e w2 ⟨rfl, q, rfl⟩
          go_wp2_with fail
          go_roundw
          case rel => exact ⟨k + 1, by omega, by go_num, hcell, hfell, hRw.drew q, by rw [Hs.out]; exact hJ _ _ _ hJk ((Keeps.refl _ wr).drewN q), hsz2⟩
          case measure => simp [intOf]; omega
      · obtain ⟨k', hk'⟩ : ∃ k', (first + k) % size = k' := ⟨_, rfl⟩
        have hk'l : k' < S.length := by rw [hRw.slen, ← hk']; exact Nat.mod_lt _ hRw.pos
        have hin := hid (win_inside hRw (first + k) k' ((first : Int) + k) hfn (by unfold inW; omega) hk')
        have hS : S[k']? = some ((S[k'].1 : Int), S[k'].2) := List.getElem?_eq_getElem hk'l
        obtain ⟨_, s1⟩ := hRw.slot hS
        have hh : hasW S size (first + k) = S[k'].2 := by rw [hhas]; simp only [hk']; rw [show decide (first + k ≤ 1073741824) = true from decide_eq_true (by omega), Bool.true_and]
        have hspl := framesW_split S size first fr k hlt
        rw [hh] at hsucc hspl
        generalize S[k'].2 = bv at *
        have Hspl := hid hspl
        have Hs := hid hsucc
        have Hfn := hid hfn
        clear hspl hsucc hhas hh hS hk' hfn
        by_cases hfr : fr ≤ (first : Int) + k
        · cases bv with
          | false =>
            go_wp2_with fail
            refine hin.out.mono ?_
            rintro e w2 ⟨rfl, q, rfl⟩
            go_wp2_with fail
            go_roundw
            case rel => exact ⟨k + 1, by omega, by go_num, hcell, hfell, hRw.drew q, by rw [Hs.out, Bool.and_false, if_neg (by simp), List.append_nil]; exact hJ _ _ _ hJk ((Keeps.refl _ wr).drewN q), hsz2⟩
            case measure => simp [intOf]; omega
          | true =>
            go_wp2_with fail
            refine hin.out.mono ?_
            rintro e w2 ⟨rfl, q, rfl⟩
            have hJk2 := hJ _ _ _ hJk ((Keeps.refl _ wr).drewN q)
            obtain ⟨rest, hrest⟩ := Hspl.out (by simp; have := Hfn.out; omega)
            obtain ⟨fn, tmps, assign, body, hy, hRd⟩ := hY (framesW S size first fr k) (first + k) rest (wr.drewN q) hrest hJk2
            have Hrest := hid hrest
            clear hrest
            rw [← Hfn.out] at hy
            go_upto_region 6 with fail
            refine (wpIn_wide (n := 0)).1 ?_
            gi_wp2
            refine ⟨rfl, hRd.mono ?_⟩
            rintro e W2 ⟨rfl, hJ2, hK2⟩
            clear hy hRd
            have hz2 := hK2.cell (p := ⟨Bn, 0, none⟩) hcell (fun h => h.elim hW.1 (fun h => by simp at h; omega))
            have hz3 := hK2.cell (p := ⟨Bf, 0, none⟩) hfell (fun h => h.elim hW.2.1 (fun h => by simp at h; omega))
            have hR2 := (hRw.drew q).keeps hK2 (fun h => h.elim hW.2.2.1 (fun h => by omega)) (fun h => h.elim hW.2.2.2 (fun h => by omega))
            have hs2 := hK2.size
            gi_wp2
            go_wp2
            go_roundw
            case rel => exact ⟨k + 1, by omega, by go_num, hz2, hz3, hR2, by rw [Hs.out, if_pos (by have := Hfn.out; simp; omega)]; exact hJ2, Nat.le_trans hsz2 hs2⟩
            case measure => simp [intOf]; omega
        · go_wp2_with fail
          refine hin.out.mono ?_
          rintro e w2 ⟨rfl, q, rfl⟩
          go_wp2_with fail
          go_roundw
          case rel => exact ⟨k + 1, by omega, by go_num, hcell, hfell, hRw.drew q, by rw [Hs.out, if_neg (by have := Hfn.out; simp; omega), List.append_nil]; exact hJ _ _ _ hJk ((Keeps.refl _ wr).drewN q), hsz2⟩
          case measure => simp [intOf]; omega
    · have he : k = size := by omega
      subst he
      go_wp2_with fail
      go_end0
      exact ⟨⟨_, rfl⟩, hJk⟩
end
end Go.Proofs.Ytdgbmnefpempaaa
