/- The reference's window in memory: what its methods return, and leave. -/
import Derived.Test.YtnkiofeomejjjaaRefWinM
import Derived.Test.YtnkiofeomejjjaaMix
import Derived.RegionTactic
import Derived.IntWalk
namespace Go.Proofs.Ytnkiofeomejjjaa
open Go.RowKit
def ones (L : List (Nat × Int)) : List Value := L.flatMap fun p => [.int .i64 p.1, .int .i64 p.2]
theorem ones_append (L M : List (Nat × Int)) : ones (L ++ M) = ones L ++ ones M := by simp [ones]
theorem ones_len (L : List (Nat × Int)) : (ones L).length = L.length * 2 := by
  induction L with
  | nil => rfl
  | cons c L ih => simp only [ones, List.flatMap_cons, List.length_append, List.length_cons, List.length_nil] at ih ⊢; omega
theorem ones_at (L : List (Nat × Int)) (i : Nat) (h : i < L.length) : (ones L)[i * 2]? = some (.int .i64 L[i].1) ∧ (ones L)[i * 2 + 1]? = some (.int .i64 L[i].2) := by
  induction L generalizing i with
  | nil => exact absurd h (Nat.not_lt_zero _)
  | cons c L ih =>
    simp only [ones, List.flatMap_cons] at ih ⊢
    cases i with
    | zero => simp
    | succ i =>
      have := ih i (by simpa using h)
      simp only [Nat.succ_mul, List.getElem_cons_succ, List.cons_append, List.nil_append]
      exact this
theorem ones_one (L : List (Nat × Int)) : ∀ u ∈ ones L, u.oneCell' = true := by
  intro u hu
  obtain ⟨p, _, hp⟩ := List.mem_flatMap.1 hu
  simp at hp
  rcases hp with rfl | rfl <;> rfl
/-- a block of two cells just made -/
theorem vals_two (w : World) (u v : Value) (t : TypeId) : Vals (w.alloc (.cells #[u, v] t)) 2 (some ⟨w.heap.size, 0, none⟩) 1 1 [u, v] :=
  ⟨rfl, Nat.le_refl _, by simp [maxLen], fun _ => ⟨_, _, rfl, fun j x hx => by
    match j, hx with
    | 0, hx => exact blk_cell (blk_new w _) hx
    | 1, hx => exact blk_cell (blk_new w _) hx
    | j + 2, hx => simp at hx⟩⟩
/-- the reference's window lies in block m; its list in a block behind it -/
structure RefWAt (w : World) (m size first : Nat) (a : Option Addr) (cap : Nat) (L : List (Nat × Int)) : Prop where
  head : w.heap[m]? = some (.cells #[.int .i64 size, .int .i64 first, .slice a L.length cap] 51 (0, 0))
  vals : Vals w 2 a L.length cap (ones L)
  apart : ∀ x, a = some x → m < x.block
def IsRefW (w : World) (m size first : Nat) (L : List (Nat × Int)) : Prop := ∃ a cap, RefWAt w m size first a cap L
theorem IsRefW.lt {w : World} {m size first : Nat} {L : List (Nat × Int)} (h : IsRefW w m size first L) : m < w.heap.size := by
  obtain ⟨a, cap, h⟩ := h
  exact blk_lt h.head
theorem IsRefW.keeps {w w' : World} {m size first : Nat} {L : List (Nat × Int)} {S : Nat → Prop} (h : IsRefW w m size first L) (hk : Keeps S w w') (hs : ∀ b, m ≤ b → b < w.heap.size → ¬ S b) : IsRefW w' m size first L := by
  obtain ⟨a, cap, h1, h2, h3⟩ := h
  exact ⟨a, cap, hk.heap h1 (hs m (Nat.le_refl _) (blk_lt h1)), h2.keeps hk (fun hn x hx => hs _ (Nat.le_of_lt (h3 x hx)) (h2.lt (by omega) hn hx)), h3⟩
theorem isRefW_set {w : World} {m size first base n : Nat} {L : List (Nat × Int)} {u v : Value} (h1 : w.heap[m]? = some (.cells #[.int .i64 size, .int .i64 first, u] 51 (0, 0))) (hown : w.ownsRow base 56 2 v n (ones L)) (hb : m < base) :
    IsRefW (w.setCell ⟨m, 2, none⟩ v) m size first L := by
  obtain ⟨a, cap, rfl, hv, hx⟩ := vals_of_own hown
  have hn : n = L.length := by have := hown.1; rw [ones_len] at this; omega
  subst hn
  exact ⟨a, cap, by simpa using blk_set h1 2 (.slice a L.length cap), hv.keeps (S := fun b => b = m) ((Keeps.refl (fun b => b = m) w).setCell (p := ⟨m, 2, none⟩) rfl _) (fun _ x h => by have := (hx x h).1; omega), fun x h => by have := (hx x h).1; omega⟩
/-- what there is of a number, a frame or none -/
def lookI {α : Type} : List (Nat × α) → Int → Option α
  | [], _ => none
  | (g, y) :: r, f => if (g : Int) = f then some y else lookI r f
theorem lookI_nat {α : Type} (L : List (Nat × α)) (n : Nat) : lookI L (n : Int) = lookL L n := by
  induction L with
  | nil => rfl
  | cons c L ih =>
    obtain ⟨g, y⟩ := c
    simp only [lookI, lookL, ih]
    by_cases h : g = n
    · rw [if_pos (by omega), if_pos h]
    · rw [if_neg (by omega), if_neg h]
theorem lookI_none {α : Type} {L : List (Nat × α)} {f : Int} (h : ∀ p ∈ L, ((p.1 : Nat) : Int) ≠ f) : lookI L f = none := by
  induction L with
  | nil => rfl
  | cons c L ih =>
    obtain ⟨g, y⟩ := c
    simp only [lookI]
    rw [if_neg (h (g, y) (by simp)), ih (fun p hp => h p (by simp [hp]))]
def keepL (a b : Int) (L : List (Nat × Int)) : List (Nat × Int) := L.filter fun p => decide (a ≤ (p.1 : Int)) && decide ((p.1 : Int) < b)
theorem keepL_succ (a b : Int) (L : List (Nat × Int)) (k : Nat) (h : k < L.length) : keepL a b (L.take (k + 1)) = keepL a b (L.take k) ++ if (decide (a ≤ (L[k].1 : Int)) && decide ((L[k].1 : Int) < b)) = true then [L[k]] else [] := by
  unfold keepL
  rw [List.take_succ_eq_append_getElem h, List.filter_append, List.filter_cons, List.filter_nil]
theorem info_one : (Try.prog.info? 56).map (fun i => (i.zero, i.size, i.bytes)) = some (some (.agg #[.int .i64 0, .int .i64 0]), 2, 16) := by kernel_rfl
variable {w : World} {m size first : Nat} {L : List (Nat × Int)}
set_option maxHeartbeats 400000 in
theorem refwin_Get (h : IsRefW w m size first L) (f : Int) :
    Calls Try.prog 26 #[.pointer (some ⟨m, 0, none⟩), .int .i64 f] w fun e w' => e = .returned (.tuple #[.int .i64 ((lookI L f).getD 0), .bool (lookI L f).isSome]) ∧ w = w' := by
  obtain ⟨a, cap, h1, h2, h3⟩ := h
  have c2 : w.cell? ⟨m, 2, none⟩ = some (.slice a L.length cap) := blk_cell h1 rfl
  have hl1 : L.length ≤ 9223372036854775807 := Nat.le_trans h2.2.1 h2.2.2.1
  obtain ⟨rv, hr⟩ : ∃ rv, lookI L f = rv := ⟨_, rfl⟩
  rw [hr]
  have Hr := hid hr
  clear hr h3
  go_enter Try.func26, Try.ntmps26
  go_wp2
  go_loop [6] (fun i => ∃ k : Nat, k ≤ L.length ∧ i = .int .i64 k ∧ Hid (lookI (L.drop k) f = rv)) (fun i => L.length - (intOf i).toNat)
  case atStart => exact ⟨0, Nat.zero_le _, rfl, Hr⟩
  case round =>
    obtain ⟨k, hk, rfl, hrest⟩ := hrel
    by_cases hlt : k < L.length
    · obtain ⟨b, o, rfl, hc⟩ := h2.at' (by omega)
      obtain ⟨a0, a1⟩ := ones_at L k hlt
      have k0 : w.cell? ⟨b, o + k * 2, none⟩ = some (.int .i64 L[k].1) := hc _ _ a0
      have k1 : w.cell? ⟨b, o + k * 2 + 1, none⟩ = some (.int .i64 L[k].2) := by rw [Nat.add_assoc]; exact hc _ _ a1
      have hrest2 := hrest.out
      rw [List.drop_eq_getElem_cons hlt] at hrest2
      clear hrest hc a0 a1
      generalize L[k] = p at *
      obtain ⟨g, y⟩ := p
      simp only [lookI] at hrest2
      by_cases he : (g : Int) = f
      · have hq : ((g : Int) == f) = true := by rw [beq_iff_eq]; exact he
        rw [if_pos he] at hrest2
        subst hrest2
        clear he
        go_wp2
        go_ret2
        exact ⟨rfl, rfl⟩
      · have hq : ((g : Int) == f) = false := by rw [beq_eq_false_iff_ne]; exact he
        rw [if_neg he] at hrest2
        have Hrest := hid hrest2
        clear he hrest2
        go_wp2
        go_round
        case rel => exact ⟨k + 1, by omega, by go_num, Hrest⟩
        case measure => simp [intOf]; omega
    · have hrest2 := hrest.out
      rw [List.drop_of_length_le (by omega)] at hrest2
      simp only [lookI] at hrest2
      subst hrest2
      go_wp2
      go_ret2
      exact ⟨rfl, rfl⟩
set_option maxHeartbeats 800000 in
theorem refwin_Keep (h : IsRefW w m size first L) (hs : L.length ≤ 4096) (x y : Int) :
    Calls Try.prog 22 #[.pointer (some ⟨m, 0, none⟩), .int .i64 x, .int .i64 y] w fun e w' => e = .returned (.int .i64 ((L.length - (keepL x y L).length : Nat) : Int)) ∧ IsRefW w' m size first (keepL x y L) ∧ Keeps (fun b => b = m) w w' := by
  obtain ⟨i0, hi, hz0, hz1, hz2⟩ := info_parts info_one
  obtain ⟨a, cap, h1, h2, h3⟩ := h
  have c2 : w.cell? ⟨m, 2, none⟩ = some (.slice a L.length cap) := blk_cell h1 rfl
  have f2 := blk_free h1 2
  have lm := blk_lt h1
  have Hi := hid hi
  have H1 := hid h1
  have hle := List.length_filter_le (fun p : Nat × Int => decide (x ≤ (p.1 : Int)) && decide ((p.1 : Int) < y)) L
  clear hi h1
  go_enter Try.func22, Try.ntmps22
  go_wp2
  go_loopw [7, 8] (fun v i wr => ∃ k : Nat, k ≤ L.length ∧ i = .int .i64 k ∧ wr.ownsRow w.heap.size 56 2 v (keepL x y (L.take k)).length (ones (keepL x y (L.take k))) ∧ Keeps (fun _ => False) w wr) (fun _ i _ => L.length - (intOf i).toNat)
  case atStart => exact ⟨0, Nat.zero_le _, rfl, own_empty (Nat.le_refl _) (blk_new _ _), (Keeps.refl _ w).alloc _⟩
  case round =>
    obtain ⟨k, hk, rfl, hown, hkw⟩ := hrel
    have c2r := hkw.cell c2 id
    have f2r := (hkw.frozen (p := ⟨m, 2, none⟩) lm id).trans f2
    by_cases hlt : k < L.length
    · obtain ⟨b, o, rfl, hc⟩ := (h2.keeps hkw (fun _ _ _ => id)).at' (by omega)
      obtain ⟨a0, a1⟩ := ones_at L k hlt
      have k0 : wr.cell? ⟨b, o + k * 2, none⟩ = some (.int .i64 L[k].1) := hc _ _ a0
      have k1 : wr.cell? ⟨b, o + k * 2 + 1, none⟩ = some (.int .i64 L[k].2) := by rw [Nat.add_assoc]; exact hc _ _ a1
      have hsucc := keepL_succ x y L k hlt
      have hlk : (keepL x y (L.take k)).length ≤ k := by unfold keepL; exact Nat.le_trans (List.length_filter_le _ _) (List.length_take_le _ _)
      clear hc a0 a1
      generalize L[k] = p at *
      obtain ⟨g, z⟩ := p
      generalize keepL x y (L.take k) = K at *
      have Hs := hid hsucc
      clear hsucc
      by_cases hx : x ≤ (g : Int)
      · by_cases hy : (g : Int) < y
        · go_wp2_with (at_builtin; refine wpList_append_vals _ rfl (.tmp 42) (.tmp 50) _ rfl w.heap.size 56 i0 _ 2 16 Try.underlying49 Hi.out hz0 hz1 hz2 rfl (by omega) _ (K).length (ones K) rfl (own_keeps hown ((Keeps.refl (fun _ => False) wr).alloc _) (fun _ _ => id)) (some ⟨wr.heap.size, 0, none⟩) 1 1 [.int .i64 (g : Int), .int .i64 z] rfl (vals_two _ _ _ _) (by simp [Value.oneCell']) (by simp only [maxLen]; omega) (by omega) (by have := hkw.size; simp; omega) ?_)
          intro v1 w1 hown1 hg1 _
          have hk1 : Keeps (fun _ => False) w w1 := (hkw.alloc _).grown hg1 (fun k hk => .inr ((hown.lt k hk).1))
          go_wp2
          go_roundw
          case rel => exact ⟨k + 1, by omega, by go_num, by rw [Hs.out, if_pos (by simp; omega)]; simpa [ones_append, ones] using hown1, hk1⟩
          case measure => simp [intOf]; omega
        · go_wp2
          go_roundw
          case rel => exact ⟨k + 1, by omega, by go_num, by rw [Hs.out, if_neg (by simp; omega), List.append_nil]; exact hown, hkw⟩
          case measure => simp [intOf]; omega
      · go_wp2
        go_roundw
        case rel => exact ⟨k + 1, by omega, by go_num, by rw [Hs.out, if_neg (by simp; omega), List.append_nil]; exact hown, hkw⟩
        case measure => simp [intOf]; omega
    · obtain rfl : k = L.length := by omega
      rw [List.take_length] at hown
      have hle' : (keepL x y L).length ≤ L.length := hle
      clear hle
      have hr := isRefW_set (hkw.heap H1.out id) hown lm
      obtain ⟨A2, cap2, rfl, _, _⟩ := vals_of_own hown
      have hwr : IntKind.i64.wrap ((L.length : Int) - ((keepL x y L).length : Int)) = ((L.length - (keepL x y L).length : Nat) : Int) := (IntWalk.i64_in _ (by omega)).trans (by omega)
      have hkk := (hkw.mono (T := fun b => b = m) fun _ _ h => h.elim).setCell (p := ⟨m, 2, none⟩) rfl (.slice A2 (keepL x y L).length cap2)
      clear hown h2 hkw
      go_wp2
      go_ret
      exact ⟨rfl, hr, hkk⟩
theorem refwin_Put_no (h : IsRefW w m size first L) (f x : Int) (hf : ¬ inW first size f) (hr : -9223372036854775808 ≤ f ∧ f ≤ 9223372036854775807) :
    Calls Try.prog 21 #[.pointer (some ⟨m, 0, none⟩), .int .i64 f, .int .i64 x] w fun e w' => e = .returned (.int .i64 (if f < first then 10 else 8)) ∧ ∃ q, w' = w.drewN q := by
  obtain ⟨a, cap, h1, h2, h3⟩ := h
  have c0 : w.cell? ⟨m, 0, none⟩ = some (.int .i64 size) := blk_cell h1 rfl
  have c1 : w.cell? ⟨m, 1, none⟩ = some (.int .i64 first) := blk_cell h1 rfl
  unfold inW at hf
  clear h1 h2 h3
  by_cases h1 : f < first
  · rw [if_pos h1]
    clear hf
    go_enter Try.func21, Try.ntmps21
    go_wp2
    go_ret
    exact ⟨rfl, 0, rfl⟩
  · rw [if_neg h1]
    by_cases h2 : f < first + size
    · have h3 : 1073741824 < f := by omega
      have h4 : f - first < size := by omega
      have h5 : (first : Int) ≤ f := by omega
      have hw : IntKind.i64.wrap (f - first) = f - first := IntWalk.i64_in _ (by omega)
      clear hf h2
      go_enter Try.func21, Try.ntmps21
      go_wp2
      go_quiet (fail)
      go_wp2
      go_ret
      exact ⟨rfl, _, rfl⟩
    · have h4 : (size : Int) ≤ f - first := by omega
      have h5 : (first : Int) ≤ f := by omega
      have hw : IntKind.i64.wrap (f - first) = f - first := IntWalk.i64_in _ (by omega)
      clear hf h2
      go_enter Try.func21, Try.ntmps21
      go_wp2
      go_quiet (fail)
      go_wp2
      go_ret
      exact ⟨rfl, _, rfl⟩
end Go.Proofs.Ytnkiofeomejjjaa
