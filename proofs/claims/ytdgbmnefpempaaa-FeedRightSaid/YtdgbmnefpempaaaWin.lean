/- What a window is in memory; its inner methods. -/
import Derived.Test.YtdgbmnefpempaaaSeq
import Derived.Test.YtdgbmnefpempaaaWinM
import Derived.IntWalk
namespace Go.Proofs.Ytdgbmnefpempaaa
open Go.RowKit
def slots (S : List (Int × Bool)) : List Value := S.flatMap fun p => [(Value.int .u8 p.1), .bool p.2]
theorem slots_len (S : List (Int × Bool)) : (slots S).length = S.length * 2 := by
  induction S with
  | nil => rfl
  | cons c S ih => simp only [slots, List.flatMap_cons, List.length_append, List.length_cons, List.length_nil] at ih ⊢; omega
theorem slots_at (S : List (Int × Bool)) (i : Nat) (h : i < S.length) : (slots S)[i * 2]? = some (Value.int .u8 (S[i].1)) ∧ (slots S)[i * 2 + 1]? = some (.bool S[i].2) := by
  induction S generalizing i with
  | nil => exact absurd h (Nat.not_lt_zero _)
  | cons c S ih =>
    simp only [slots, List.flatMap_cons] at ih ⊢
    cases i with
    | zero => simp
    | succ i =>
      have := ih i (by simpa using h)
      simp only [Nat.succ_mul, List.getElem_cons_succ, List.cons_append, List.nil_append]
      exact this
theorem slots_set (S : List (Int × Bool)) (i : Nat) (x : Int) (b : Bool) : ((slots S).set (i * 2) (Value.int .u8 x)).set (i * 2 + 1) (.bool b) = slots (S.set i (x, b)) := by
  induction S generalizing i with
  | nil => rfl
  | cons c S ih =>
    cases i with
    | zero => rfl
    | succ i =>
      have h := ih i
      simp only [slots, List.flatMap_cons, Nat.succ_mul, List.cons_append, List.nil_append, List.set_cons_succ] at h ⊢
      rw [h]
structure WinAt (w : World) (r B size first : Nat) (S : List (Int × Bool)) : Prop where
  head : w.heap[r]? = some (.cells #[.int .i64 first, .slice (some ⟨B, 0, none⟩) size size] 82 (0, 0))
  body : w.heap[B]? = some (.cells (slots S).toArray 86 (0, 0))
  slen : S.length = size
  pos : 0 < size
  most : size ≤ 4096
  fst : first ≤ 1073741824
  ne : r ≠ B
namespace WinAt
variable {w w' : World} {r B size first : Nat} {S : List (Int × Bool)}
theorem keeps {T : Nat → Prop} (h : WinAt w r B size first S) (hk : Keeps T w w') (h1 : ¬ T r) (h2 : ¬ T B) : WinAt w' r B size first S :=
  ⟨hk.heap h.head h1, hk.heap h.body h2, h.slen, h.pos, h.most, h.fst, h.ne⟩
theorem drew (h : WinAt w r B size first S) (n : Nat) : WinAt (w.drewN n) r B size first S := ⟨h.head, h.body, h.slen, h.pos, h.most, h.fst, h.ne⟩
theorem c0 (h : WinAt w r B size first S) : w.cell? ⟨r, 0, none⟩ = some (.int .i64 first) := blk_cell h.head rfl
theorem c1 (h : WinAt w r B size first S) : w.cell? ⟨r, 1, none⟩ = some (.slice (some ⟨B, 0, none⟩) size size) := blk_cell h.head rfl
end WinAt
/-- a frame of which a window may have a thing -/
def inW (first size : Nat) (f : Int) : Prop := (first : Int) ≤ f ∧ f < first + size ∧ f ≤ 1073741824
section
variable {w w' : World} {r B size first : Nat} {S : List (Int × Bool)}
theorem win_inside_no (h : WinAt w r B size first S) (f : Int) (hf : ¬ inW first size f) (hr : -9223372036854775808 ≤ f ∧ f ≤ 9223372036854775807) :
    Calls Try.prog 47 #[.pointer (some ⟨r, 0, none⟩), .int .i64 f] w fun e w' => e = .returned (.pointer none) ∧ ∃ q, w' = w.drewN q := by
  have c0 := h.c0
  have c1 := h.c1
  have b1 := h.fst
  have b2 := h.most
  unfold inW at hf
  by_cases h1 : f < first
  · clear hf
    go_enter Try.func47, Try.ntmps47
    go_wp2
    go_quiet (fail)
    go_wp2
    go_ret
    exact ⟨rfl, _, rfl⟩
  · by_cases h2 : f < first + size
    · have h3 : 1073741824 < f := by omega
      have h4 : f - first < size := by omega
      have h5 : (first : Int) ≤ f := by omega
      have hw : IntKind.i64.wrap (f - first) = f - first := IntWalk.i64_in _ (by omega)
      clear hf
      go_enter Try.func47, Try.ntmps47
      go_wp2
      go_quiet (fail)
      go_wp2
      go_ret
      exact ⟨rfl, _, rfl⟩
    · have h4 : (size : Int) ≤ f - first := by omega
      have h5 : (first : Int) ≤ f := by omega
      have hw : IntKind.i64.wrap (f - first) = f - first := IntWalk.i64_in _ (by omega)
      clear hf
      go_enter Try.func47, Try.ntmps47
      go_wp2
      go_quiet (fail)
      go_wp2
      go_ret
      exact ⟨rfl, _, rfl⟩
theorem win_inside (h : WinAt w r B size first S) (n k : Nat) (f : Int) (hfn : f = n) (hf : inW first size f) (hk : n % size = k) :
    Calls Try.prog 47 #[.pointer (some ⟨r, 0, none⟩), .int .i64 f] w fun e w' => e = .returned (.pointer (some ⟨B, k * 2, none⟩)) ∧ ∃ q, w' = w.drewN q := by
  have c0 := h.c0
  have c1 := h.c1
  have b1 := h.fst
  have b2 := h.most
  obtain ⟨h1, h2, h3⟩ := hf
  have h4 : f - first < size := by omega
  have hw : IntKind.i64.wrap (f - first) = f - first := IntWalk.i64_in _ (by omega)
  have hkl : k < size := hk ▸ Nat.mod_lt _ h.pos
  have ht : f.tmod (size : Int) = (k : Int) := by
    rw [hfn, Int.tmod_eq_emod_of_nonneg (by omega), ← hk]
    simp
  have hz : ((size : Int) == 0) = false := by have := h.pos; rw [beq_eq_false_iff_ne]; omega
  have h0 : 0 ≤ f := by omega
  clear hk hfn
  go_enter Try.func47, Try.ntmps47
  go_wp2
  go_quiet (fail)
  go_wp2
  go_quiet (fail)
  go_wp2
  go_ret
  exact ⟨rfl, _, by rw [World.drewN_drewN]⟩
theorem win_First (h : WinAt w r B size first S) : Calls Try.prog 44 #[.pointer (some ⟨r, 0, none⟩)] w fun e w' => e = .returned (.int .i64 first) ∧ w = w' := by
  have c0 := h.c0
  go_enter Try.func44, Try.ntmps44
  go_wp2
  go_ret
  exact ⟨rfl, rfl⟩
end
end Go.Proofs.Ytdgbmnefpempaaa
