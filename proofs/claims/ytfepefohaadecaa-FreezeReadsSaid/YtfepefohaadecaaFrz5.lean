/- freeze: a state's bytes: the codec that writes, at a whole state. -/
import Derived.Test.YtfepefohaadecaaFrz4
namespace Go.Proofs.Ytfepefohaadecaa
open Go.RowKit
set_option maxRecDepth 10000
variable {w : World}
def wrC (r : Nat) : Codec (List UInt8) where
  T := 82
  r := r
  fN := 162
  fS := 163
  St S k w := IsWr w r S ∧ S.length + 10 * k ≤ 9223372036854775807
  nF S n := (S ++ num n.toNat, n)
  sF S n := (S ++ num (zz n), n)
  okN n := 0 ≤ n
theorem nil_num (r : Nat) (w : World) : (nilAhead 390 82 (.pointer (some ⟨r, 0, none⟩)) "promptbook/freeze.number").run Try.prog w = .ok (some false) w := by kernel_rfl
theorem nil_sgn (r : Nat) (w : World) : (nilAhead 390 82 (.pointer (some ⟨r, 0, none⟩)) "promptbook/freeze.signed").run Try.prog w = .ok (some false) w := by kernel_rfl
theorem met_num (r : Nat) (w : World) : (method 390 82 (.pointer (some ⟨r, 0, none⟩)) "promptbook/freeze.number").run Try.prog w = .ok (162, .pointer (some ⟨r, 0, none⟩)) w := by kernel_rfl
theorem met_sgn (r : Nat) (w : World) : (method 390 82 (.pointer (some ⟨r, 0, none⟩)) "promptbook/freeze.signed").run Try.prog w = .ok (163, .pointer (some ⟨r, 0, none⟩)) w := by kernel_rfl
theorem ent_num (x y : Value) (w : World) : (callFunc 162 #[x, y]).run Try.prog w = .ok (.enter 162 #[x, y]) w := by kernel_rfl
theorem ent_sgn (x y : Value) (w : World) : (callFunc 163 #[x, y]).run Try.prog w = .ok (.enter 163 #[x, y]) w := by kernel_rfl
theorem wrC_right (r : Nat) : (wrC r).Right where
  aN := nil_num r
  aS := nil_sgn r
  mN := met_num r
  mS := met_sgn r
  eN := ent_num
  eS := ent_sgn
  keeps h hk hr := ⟨hk.heap h.1 hr, h.2⟩
  less h := ⟨h.1, by have := h.2; omega⟩
  there h := blk_lt h.1
  num := by
    intro S k B o cs t n w h hB hne hc hf ho
    obtain ⟨m, rfl⟩ := Int.eq_ofNat_of_zero_le ho
    have hf : -9223372036854775808 ≤ (m : Int) ∧ (m : Int) ≤ 9223372036854775807 := hf
    have hl := num_len10 m (by unfold two64; omega)
    have h2 := h.2
    refine (wr_number r B o S cs t m h.1 hB hne hc (by omega) (by omega)).mono ?_
    rintro e w' ⟨rfl, h3, h4, h5⟩
    refine ⟨rfl, ⟨h3, ?_⟩, ?_, h5.mono fun _ _ => Or.inl⟩
    · show (S ++ num _).length + _ ≤ _
      rw [List.length_append]
      simp only [Int.toNat_natCast]
      omega
    · show w'.heap[B]? = some (.cells (cs.setIfInBounds o (.int .i64 (m : Int))) t (0, 0))
      rw [set_same hc]
      exact h4
  sgn := by
    intro S k B o cs t n w h hB hne hc hf
    have hf : -2147483648 ≤ n ∧ n ≤ 2147483647 := hf
    have hl := num_len10 (zz n) (by unfold two64 zz; split <;> omega)
    have h2 := h.2
    refine (wr_signed r B o S cs t n h.1 hB hne hc hf (by omega)).mono ?_
    rintro e w' ⟨rfl, h3, h4, h5⟩
    refine ⟨rfl, ⟨h3, ?_⟩, ?_, h5.mono fun _ _ => Or.inl⟩
    · show (S ++ num _).length + _ ≤ _
      rw [List.length_append]
      omega
    · show w'.heap[B]? = some (.cells (cs.setIfInBounds o (.int .i32 n)) t (0, 0))
      rw [set_same hc]
      exact h4
  fN64 _ _ h := h
  ok _ _ _ h := h
  okB _ h := h
  okW _ n _ _ := by
    show 0 ≤ IntKind.u32.wrap _
    rw [wrap_u32]
    omega
  fS32 _ _ h := h
/-- what a state's numbers are told as -/
def tellAt (v : Nat → Int) (o : Nat) : List UInt8 := if kindAt o = .i32 then num (zz (v o)) else num (v o).toNat
def told (v : Nat → Int) (l : List Nat) : List UInt8 := l.flatMap (tellAt v)
def shotsTo (v : Nat → Int) : Nat → List UInt8
  | 0 => []
  | j + 1 => shotsTo v j ++ if noSho v j then [] else told v (shotAt (24 + 6 * j))
/-- a state's bytes -/
def packS (v : Nat → Int) : List UInt8 := told v (plyL 2) ++ num (bitsTo v 6) ++ shotsTo v 6
theorem updI_self (v : Nat → Int) (o : Nat) : updI v o (v o) = v := by
  funext j
  unfold updI
  split <;> simp_all
theorem wr_step (r : Nat) (S : List UInt8) (v : Nat → Int) (hv : 0 ≤ v 1 ∧ v 1 ≤ 4294967295) (o : Nat) : (wrC r).step (S, v) o = (S ++ tellAt v o, v) := by
  unfold Codec.step tellAt
  split
  · rename_i h
    rw [if_pos h]
    show ((S ++ num (zz (v o))), updI v o (v o)) = _
    rw [updI_self]
  · rename_i h
    have ho : o = 1 := by
      unfold kindAt at h
      split at h
      · assumption
      · split at h <;> (try cases h)
        split at h <;> split at h <;> cases h
    subst ho
    rw [if_neg (by rw [h]; decide)]
    show ((S ++ num (v 1).toNat), updI v 1 (IntKind.u32.wrap (v 1))) = _
    rw [show IntKind.u32.wrap (v 1) = v 1 by rw [wrap_u32]; omega, updI_self]
  · rename_i h1 h2
    rw [if_neg h1]
    show ((S ++ num (v o).toNat), updI v o (v o)) = _
    rw [updI_self]
theorem wr_steps (r : Nat) (v : Nat → Int) (hv : 0 ≤ v 1 ∧ v 1 ≤ 4294967295) : ∀ (l : List Nat) (S : List UInt8), (wrC r).steps (S, v) l = (S ++ told v l, v)
  | [], S => by simp [Codec.steps, told]
  | o :: l, S => by
    have h := wr_steps r v hv l (S ++ tellAt v o)
    unfold Codec.steps at h ⊢
    rw [List.foldl_cons, wr_step r S v hv o, h]
    simp [told]
theorem bit_is (v : Nat → Int) (i m : Nat) : ∃ x, (if noSho v i then 0 else m) = x * m ∧ ((x = 0 ∧ noSho v i) ∨ (x = 1 ∧ ¬ noSho v i)) := by
  by_cases h : noSho v i
  · exact ⟨0, by simp [h], .inl ⟨rfl, h⟩⟩
  · exact ⟨1, by simp [h], .inr ⟨rfl, h⟩⟩
theorem bits_at (v : Nat → Int) (j : Nat) (h : j < 6) : bitsTo v 6 / 2 ^ j % 2 = 1 ↔ ¬ noSho v j := by
  obtain ⟨x0, e0, q0⟩ := bit_is v 0 1
  obtain ⟨x1, e1, q1⟩ := bit_is v 1 2
  obtain ⟨x2, e2, q2⟩ := bit_is v 2 4
  obtain ⟨x3, e3, q3⟩ := bit_is v 3 8
  obtain ⟨x4, e4, q4⟩ := bit_is v 4 16
  obtain ⟨x5, e5, q5⟩ := bit_is v 5 32
  have hs : bitsTo v 6 = (0 + x0 * 1 + x1 * 2 + x2 * 4 + x3 * 8 + x4 * 16 + x5 * 32) := by
    rw [← e0, ← e1, ← e2, ← e3, ← e4, ← e5]
    rfl
  rw [hs]
  clear hs
  have b0 : x0 ≤ 1 := by omega
  have b1 : x1 ≤ 1 := by omega
  have b2 : x2 ≤ 1 := by omega
  have b3 : x3 ≤ 1 := by omega
  have b4 : x4 ≤ 1 := by omega
  have b5 : x5 ≤ 1 := by omega
  match j, h with
  | 0, _ =>
    rw [show (0 + x0 * 1 + x1 * 2 + x2 * 4 + x3 * 8 + x4 * 16 + x5 * 32) / 2 ^ 0 % 2 = x0 by omega]
    exact q0.elim (fun h => ⟨fun e => by omega, fun e => absurd h.2 e⟩) fun h => ⟨fun _ => h.2, fun _ => h.1⟩
  | 1, _ =>
    rw [show (0 + x0 * 1 + x1 * 2 + x2 * 4 + x3 * 8 + x4 * 16 + x5 * 32) / 2 ^ 1 % 2 = x1 by omega]
    exact q1.elim (fun h => ⟨fun e => by omega, fun e => absurd h.2 e⟩) fun h => ⟨fun _ => h.2, fun _ => h.1⟩
  | 2, _ =>
    rw [show (0 + x0 * 1 + x1 * 2 + x2 * 4 + x3 * 8 + x4 * 16 + x5 * 32) / 2 ^ 2 % 2 = x2 by omega]
    exact q2.elim (fun h => ⟨fun e => by omega, fun e => absurd h.2 e⟩) fun h => ⟨fun _ => h.2, fun _ => h.1⟩
  | 3, _ =>
    rw [show (0 + x0 * 1 + x1 * 2 + x2 * 4 + x3 * 8 + x4 * 16 + x5 * 32) / 2 ^ 3 % 2 = x3 by omega]
    exact q3.elim (fun h => ⟨fun e => by omega, fun e => absurd h.2 e⟩) fun h => ⟨fun _ => h.2, fun _ => h.1⟩
  | 4, _ =>
    rw [show (0 + x0 * 1 + x1 * 2 + x2 * 4 + x3 * 8 + x4 * 16 + x5 * 32) / 2 ^ 4 % 2 = x4 by omega]
    exact q4.elim (fun h => ⟨fun e => by omega, fun e => absurd h.2 e⟩) fun h => ⟨fun _ => h.2, fun _ => h.1⟩
  | 5, _ =>
    rw [show (0 + x0 * 1 + x1 * 2 + x2 * 4 + x3 * 8 + x4 * 16 + x5 * 32) / 2 ^ 5 % 2 = x5 by omega]
    exact q5.elim (fun h => ⟨fun e => by omega, fun e => absurd h.2 e⟩) fun h => ⟨fun _ => h.2, fun _ => h.1⟩
theorem and_all : ∀ j : Fin 6, ∀ b : Fin 64, (bits .and .i64 ((b.val : Int) / 2 ^ j.val) 1 = 1) ↔ b.val / 2 ^ j.val % 2 = 1 := by decide +kernel
theorem and_at (v : Nat → Int) (j : Nat) (h : j < 6) : bits .and .i64 ((bitsTo v 6 : Nat) / 2 ^ j) 1 = 1 ↔ ¬ noSho v j := by
  rw [← bits_at v j h]
  exact and_all ⟨j, h⟩ ⟨bitsTo v 6, bitsTo_lt v 6⟩
theorem wr_loop (r : Nat) (v : Nat → Int) (hv : 0 ≤ v 1 ∧ v 1 ≤ 4294967295) (S : List UInt8) : ∀ j, j ≤ 6 → shoLoop (wrC r) (bitsTo v 6 : Nat) (S, v) j = (S ++ shotsTo v j, v)
  | 0, _ => by simp [shoLoop, shotsTo]
  | j + 1, h => by
    unfold shoLoop shotsTo
    rw [wr_loop r v hv S j (by omega)]
    by_cases hz : noSho v j
    · rw [if_neg (fun e => (and_at v j (by omega)).1 e hz), if_pos hz, List.append_nil]
    · rw [if_pos ((and_at v j (by omega)).2 hz), if_neg hz, wr_steps r v hv, List.append_assoc]
theorem wr_state (r : Nat) (v : Nat → Int) (hv : 0 ≤ v 1 ∧ v 1 ≤ 4294967295) : stateF (wrC r) ([], v) = (packS v, v) := by
  unfold stateF
  rw [wr_steps r v hv]
  show shoLoop (wrC r) (bitsTo v 6 : Nat) (([] ++ told v (plyL 2)) ++ num (Int.toNat (bitsTo v 6 : Nat)), v) 6 = _
  rw [wr_loop r v hv _ 6 (by omega), Int.toNat_natCast]
  rfl
end Go.Proofs.Ytfepefohaadecaa
