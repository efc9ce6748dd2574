/- Calls on windows, as data; what a round of the law on windows keeps. -/
import Derived.Test.YtnkiofeomejjjaaWin7
import Derived.Test.YtnkiofeomejjjaaRefWin2
import Derived.Test.YtnkiofeomejjjaaOrder
import Derived.Test.YtnkiofeomejjjaaOpen
namespace Go.Proofs.Ytnkiofeomejjjaa
open Go.RowKit
/-- calls: of which kind, of what -/
structure WAct where
  kind : Int
  n : Int
  x : Int
def WAct.wf (c : WAct) : Prop := (Lit.int .i64 c.kind).wf = true ∧ (Lit.int .i64 c.n).wf = true ∧ (Lit.int .i64 c.x).wf = true
def wacts (L : List WAct) : List Value := L.flatMap fun c => [.int .i64 c.kind, .int .i64 c.n, .int .i64 c.x]
theorem wacts_at (L : List WAct) (i : Nat) (h : i < L.length) : (wacts L)[i * 3]? = some (.int .i64 L[i].kind) ∧ (wacts L)[i * 3 + 1]? = some (.int .i64 L[i].n) ∧ (wacts L)[i * 3 + 2]? = some (.int .i64 L[i].x) := by
  induction L generalizing i with
  | nil => exact absurd h (Nat.not_lt_zero _)
  | cons c L ih =>
    simp only [wacts, List.flatMap_cons] at ih ⊢
    cases i with
    | zero => simp
    | succ i =>
      have := ih i (by simpa using h)
      simp only [Nat.succ_mul, List.getElem_cons_succ, List.cons_append, List.nil_append]
      exact this
theorem wacts_of {w : World} : ∀ (n : Nat) (xs : List Value), xs.length = n * 3 → (∀ i, i < n → LeavesAre w [.int .i64, .int .i64, .int .i64] ((xs.drop (i * 3)).take 3)) → ∃ L : List WAct, L.length = n ∧ xs = wacts L ∧ ∀ c ∈ L, c.wf
  | 0, xs, h, _ => ⟨[], rfl, List.eq_nil_of_length_eq_zero (by simpa using h), fun _ h => by cases h⟩
  | n + 1, xs, h, hl => by
    obtain ⟨a, b, c, r, rfl⟩ : ∃ a b c r, xs = a :: b :: c :: r := by
      match xs, h with
      | a :: b :: c :: r, _ => exact ⟨a, b, c, r, rfl⟩
      | [_, _], h => simp at h; omega
      | [_], h => simp at h; omega
      | [], h => simp at h
    obtain ⟨L, h1, h2, h3⟩ := wacts_of n r (by simp at h; omega) (fun i hi => by
      have := hl (i + 1) (by omega)
      rwa [Nat.succ_mul, show i * 3 + 3 = 3 + i * 3 by omega, ← List.drop_drop] at this)
    have h0 := hl 0 (by omega)
    obtain ⟨ka, rfl, wa⟩ := h0.2 0 _ a rfl rfl
    obtain ⟨kb, rfl, wb⟩ := h0.2 1 _ b rfl rfl
    obtain ⟨kc, rfl, wc⟩ := h0.2 2 _ c rfl rfl
    exact ⟨⟨ka, kb, kc⟩ :: L, by simp [h1], by rw [h2]; rfl, fun c hc => by
      rcases List.mem_cons.1 hc with rfl | hc
      · exact ⟨wa, wb, wc⟩
      · exact h3 c hc⟩
/-- both windows, the call that is looked at, and what was there before -/
structure Both (w0 : World) (B m size xb : Nat) (c : WAct) (first : Nat) (L : List (Nat × Int)) (w : World) : Prop where
  win : IsWin w (B + 1) B size first L
  ref : IsRefW w m size first L
  x0 : w.cell? ⟨xb, 0, none⟩ = some (.int .i64 c.kind)
  x1 : w.cell? ⟨xb, 1, none⟩ = some (.int .i64 c.n)
  x2 : w.cell? ⟨xb, 2, none⟩ = some (.int .i64 c.x)
  below : Below w0.heap.size w0 w
  lB : w0.heap.size ≤ B
  lm : B + 1 < m
  lx : m < xb
def AnyBoth (w0 : World) (B m size xb : Nat) (c : WAct) (w : World) : Prop := ∃ first L, Both w0 B m size xb c first L w
/-- the blocks of both windows -/
def Wins (B m : Nat) (b : Nat) : Prop := b = B + 1 ∨ b = B ∨ b = m
namespace Both
variable {w0 w w' : World} {B m size xb first first' : Nat} {c : WAct} {L L' : List (Nat × Int)}
theorem step (h : Both w0 B m size xb c first L w) (hk : Keeps (Wins B m) w w') (h1 : IsWin w' (B + 1) B size first' L') (h2 : IsRefW w' m size first' L') : Both w0 B m size xb c first' L' w' :=
  ⟨h1, h2, hk.cell h.x0 (by have := h.lx; have := h.lm; unfold Wins; simp; omega), hk.cell h.x1 (by have := h.lx; have := h.lm; unfold Wins; simp; omega), hk.cell h.x2 (by have := h.lx; have := h.lm; unfold Wins; simp; omega),
    h.below.trans (hk.below h.below.size (fun k hk => by have := h.lB; have := h.lm; unfold Wins; omega)), h.lB, h.lm, h.lx⟩
theorem keeps (h : Both w0 B m size xb c first L w) (hk : Keeps (fun _ => False) w w') : Both w0 B m size xb c first L w' :=
  h.step (keeps_any hk) (h.win.keeps hk id id) (h.ref.keeps hk (fun _ _ _ => id))
theorem drew (h : Both w0 B m size xb c first L w) (n : Nat) : Both w0 B m size xb c first L (w.drewN n) := h.keeps ((Keeps.refl _ w).drewN n)
theorem winS (h : Both w0 B m size xb c first L w) (hk : Keeps (fun b => b = m) w w') : IsWin w' (B + 1) B size first L := h.win.keeps hk (by have := h.lm; omega) (by have := h.lm; omega)
theorem refS (h : Both w0 B m size xb c first L w) (hk : Keeps (fun b => b = B + 1 ∨ b = B) w w') : IsRefW w' m size first L := h.ref.keeps hk (fun b _ _ => by have := h.lm; omega)
end Both
section
variable {w : World} {r B m size first : Nat} {L : List (Nat × Int)}
def putA (first size : Nat) (L : List (Nat × Int)) (f x : Int) : List (Nat × Int) := if (first : Int) ≤ f ∧ f < first + size ∧ f ≤ 1073741824 then putL L f.toNat x else L
def putE (first size : Nat) (f : Int) : Int := if (first : Int) ≤ f ∧ f < first + size ∧ f ≤ 1073741824 then 0 else if f < first then 10 else 8
theorem is_Put_any (h : IsWin w r B size first L) (f x : Int) (hr : -9223372036854775808 ≤ f ∧ f ≤ 9223372036854775807) :
    Calls Try.prog 20 #[.pointer (some ⟨r, 0, none⟩), .int .i64 f, .int .i64 x] w fun e w' => e = .returned (.int .i64 (putE first size f)) ∧ IsWin w' r B size first (putA first size L f x) ∧ Keeps (fun b => b = B) w w' := by
  unfold putE putA
  by_cases hf : (first : Int) ≤ f ∧ f < first + size ∧ f ≤ 1073741824
  · rw [if_pos hf, if_pos hf]
    exact is_Put h f.toNat f (by omega) hf x
  · rw [if_neg hf, if_neg hf]
    refine (is_Put_no h f hf hr x).mono ?_
    rintro e w' ⟨rfl, q, rfl⟩
    exact ⟨rfl, h.keeps ((Keeps.refl (fun _ => False) w).drewN q) id id, (Keeps.refl _ w).drewN q⟩
theorem refwin_Put_any (h : IsRefW w m size first L) (hs : L.length ≤ 4096) (hsz : size ≤ 4096) (f x : Int) (hr : -9223372036854775808 ≤ f ∧ f ≤ 9223372036854775807) :
    Calls Try.prog 21 #[.pointer (some ⟨m, 0, none⟩), .int .i64 f, .int .i64 x] w fun e w' => e = .returned (.int .i64 (putE first size f)) ∧ IsRefW w' m size first (putA first size L f x) ∧ Keeps (fun b => b = m) w w' := by
  unfold putE putA
  by_cases hf : (first : Int) ≤ f ∧ f < first + size ∧ f ≤ 1073741824
  · rw [if_pos hf, if_pos hf]
    exact refwin_Put h hs f.toNat f (by omega) hf hsz x
  · rw [if_neg hf, if_neg hf]
    refine (refwin_Put_no h f x hf hr).mono ?_
    rintro e w' ⟨rfl, q, rfl⟩
    exact ⟨rfl, h.keeps ((Keeps.refl (fun _ => False) w).drewN q) (fun _ _ _ => id), (Keeps.refl _ w).drewN q⟩
theorem refwin_Keep_from (h : IsRefW w m size first L) (hs : L.length ≤ 4096) (n : Nat) (x : Int) (hx : x = n) (hL : ∀ p ∈ L, p.1 ≤ 1073741824) :
    Calls Try.prog 22 #[.pointer (some ⟨m, 0, none⟩), .int .i64 x, .int .i64 1073741825] w fun e w' => e = .returned (.int .i64 (((L.filter fun p => decide (p.1 < n)).length : Nat) : Int)) ∧ IsRefW w' m size first (L.filter fun p => !decide (p.1 < n)) ∧ Keeps (fun b => b = m) w w' := by
  have hK := refwin_Keep h hs x 1073741825
  have e1 : keepL x 1073741825 L = L.filter fun p => !decide (p.1 < n) := by
    unfold keepL
    refine List.filter_congr fun p hp => ?_
    have := hL p hp
    rw [Bool.eq_iff_iff]
    simp
    omega
  have e2 := filter_lens L (fun p => decide (p.1 < n))
  rw [e1, show L.length - (L.filter fun p => !decide (p.1 < n)).length = (L.filter fun p => decide (p.1 < n)).length by omega] at hK
  exact hK
theorem refwin_Keep_to (h : IsRefW w m size first L) (hs : L.length ≤ 4096) (y : Int) :
    Calls Try.prog 22 #[.pointer (some ⟨m, 0, none⟩), .int .i64 0, .int .i64 y] w fun e w' => e = .returned (.int .i64 (((L.filter fun p => decide (y ≤ (p.1 : Int))).length : Nat) : Int)) ∧ IsRefW w' m size first (L.filter fun p => !decide (y ≤ (p.1 : Int))) ∧ Keeps (fun b => b = m) w w' := by
  have hK := refwin_Keep h hs 0 y
  have e1 : keepL 0 y L = L.filter fun p => !decide (y ≤ (p.1 : Int)) := by
    unfold keepL
    refine List.filter_congr fun p hp => ?_
    rw [Bool.eq_iff_iff]
    simp
  have e2 := filter_lens L (fun p => decide (y ≤ (p.1 : Int)))
  rw [e1, show L.length - (L.filter fun p => !decide (y ≤ (p.1 : Int))).length = (L.filter fun p => decide (y ≤ (p.1 : Int))).length by omega] at hK
  exact hK
theorem IsRefW.setFirst (h : IsRefW w m size first L) (n : Nat) : IsRefW (w.setCell ⟨m, 1, none⟩ (.int .i64 (n : Int))) m size n L := by
  obtain ⟨a, cap, h1, h2, h3⟩ := h
  exact ⟨a, cap, by simpa using blk_set h1 1 (.int .i64 (n : Int)), h2.keeps (S := fun b => b = m) ((Keeps.refl (fun b => b = m) w).setCell (p := ⟨m, 1, none⟩) rfl _) (fun hn x hx e => by have := h3 x hx; omega), h3⟩
theorem IsRefW.c1 (h : IsRefW w m size first L) : w.cell? ⟨m, 1, none⟩ = some (.int .i64 first) ∧ w.frozen? ⟨m, 1, none⟩ = false := by
  obtain ⟨a, cap, h1, h2, h3⟩ := h
  exact ⟨blk_cell h1 rfl, blk_free h1 1⟩
theorem IsWin.most (h : IsWin w r B size first L) : ∀ p ∈ L, p.1 ≤ 1073741824 := by
  obtain ⟨S, _, h⟩ := h
  exact fun p hp => (h.isin p hp).2.2
end
end Go.Proofs.Ytnkiofeomejjjaa
