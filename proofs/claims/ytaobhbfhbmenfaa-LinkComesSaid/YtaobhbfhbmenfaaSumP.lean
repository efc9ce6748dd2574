/- Plain laws of the sum: parts, and one turned byte. No program in sight. -/
import Derived.Test.YtaobhbfhbmenfaaSumM
namespace Go.Proofs.Ytaobhbfhbmenfaa
theorem adl_apart : ∀ (l : List UInt8) (p q : Int × Int) (d e : Int), (p.1 - q.1 - d) % 65521 = 0 → (p.2 - q.2 - e) % 65521 = 0 →
    ((adl p l).1 - (adl q l).1 - d) % 65521 = 0 ∧ ((adl p l).2 - (adl q l).2 - (e + (l.length : Int) * d)) % 65521 = 0
  | [], p, q, d, e, h1, h2 => by simpa [adl] using ⟨h1, h2⟩
  | c :: l, p, q, d, e, h1, h2 => by
    rw [adl_cons, adl_cons]
    obtain ⟨a1, a2⟩ := adl_apart l (adlStep p c) (adlStep q c) d (e + d) (by simp only [adlStep]; omega) (by simp only [adlStep]; omega)
    refine ⟨a1, ?_⟩
    have e1 : e + ((c :: l).length : Int) * d = e + d + (l.length : Int) * d := by
      rw [List.length_cons, show ((l.length + 1 : Nat) : Int) = (l.length : Int) + 1 by omega, Int.add_mul]; omega
    rw [e1]
    exact a2
/-- one joined out of parts -/
theorem join_parts (l m : List UInt8) (x y : Int) (hx : x = more 1 l) (hy : y = more 1 m) :
    (x % 65536 < 65521 ∧ x / 65536 < 65521 ∧ y % 65536 < 65521 ∧ y / 65536 < 65521) ∧
    (x / 65536 + y / 65536 + (m.length : Int) % 65521 * (x % 65536 + 65520)) % 65521 * 65536 + (x % 65536 + y % 65536 + 65520) % 65521 = more 1 (l ++ m) := by
  subst hx hy
  have r1 := red_adl l _ (red_of 1)
  have r2 := red_adl m _ (red_of 1)
  have r3 := red_adl m _ r1
  obtain ⟨h1, h2⟩ := more_halves 1 l
  obtain ⟨h3, h4⟩ := more_halves 1 m
  obtain ⟨a1, a2⟩ := adl_apart m (adl (1 % 65536 % 65521, 1 / 65536 % 65521) l) (1 % 65536 % 65521, 1 / 65536 % 65521) ((adl (1 % 65536 % 65521, 1 / 65536 % 65521) l).1 - 1) ((adl (1 % 65536 % 65521, 1 / 65536 % 65521) l).2) (by simp) (by simp)
  rw [h1, h2, h3, h4, more, adl_append]
  unfold Red at r1 r2 r3
  generalize adl (1 % 65536 % 65521, 1 / 65536 % 65521) l = p at *
  generalize adl (1 % 65536 % 65521, 1 / 65536 % 65521) m = q at *
  generalize adl p m = r at *
  refine ⟨by omega, ?_⟩
  have e2 : ((m.length : Int) % 65521 * (p.1 + 65520)) % 65521 = ((m.length : Int) * (p.1 - 1)) % 65521 := by
    rw [Int.mul_emod, Int.emod_emod_of_dvd _ (by decide : (65521 : Int) ∣ 65521), show (p.1 + 65520) % 65521 = (p.1 - 1) % 65521 by omega, ← Int.mul_emod]
  generalize (m.length : Int) * (p.1 - 1) = u at *
  generalize (m.length : Int) % 65521 * (p.1 + 65520) = v at *
  omega
def sumb (l : List UInt8) : Int := (l.map fun c => (c.toNat : Int)).sum
theorem adl_lo : ∀ (l : List UInt8) (p : Int × Int), ((adl p l).1 - (p.1 + sumb l)) % 65521 = 0
  | [], p => by simp [adl, sumb]
  | c :: l, p => by
    have := adl_lo l (adlStep p c)
    rw [adl_cons]
    simp only [sumb, List.map_cons, List.sum_cons] at *
    simp only [adlStep] at *
    omega
theorem sumb_set : ∀ (l : List UInt8) (k : Nat) (c : UInt8) (h : k < l.length), sumb (l.set k c) = sumb l - (l[k].toNat : Int) + (c.toNat : Int)
  | c0 :: l, 0, c, h => by simp [sumb]; omega
  | c0 :: l, k + 1, c, h => by
    have := sumb_set l k c (by simpa using h)
    simp only [sumb, List.set_cons_succ, List.map_cons, List.sum_cons, List.getElem_cons_succ] at *
    omega
theorem tail4_inj (a b : Int) (ha : 0 ≤ a ∧ a < 4294967296) (hb : 0 ≤ b ∧ b < 4294967296) (h : tail4 a = tail4 b) : a = b := by
  unfold tail4 at h
  have key : ∀ x y : Nat, x < 256 → y < 256 → UInt8.ofNat x = UInt8.ofNat y → x = y := by
    intro x y hx hy e
    have := congrArg UInt8.toNat e
    simpa [Nat.mod_eq_of_lt hx, Nat.mod_eq_of_lt hy] using this
  simp only [List.cons.injEq, and_true] at h
  obtain ⟨h1, h2, h3, h4⟩ := h
  have k1 := key _ _ (by omega) (by omega) h1
  have k2 := key _ _ (by omega) (by omega) h2
  have k3 := key _ _ (by omega) (by omega) h3
  have k4 := key _ _ (by omega) (by omega) h4
  omega
theorem tail4_len (n : Int) : (tail4 n).length = 4 := rfl
/-- One turned byte is found. -/
theorem turned (l : List UInt8) (k : Nat) (c : UInt8) (hk : k < (l ++ tail4 (more 1 l)).length) (hc : c ≠ (l ++ tail4 (more 1 l))[k]) (u v : List UInt8) (huv : u ++ v = (l ++ tail4 (more 1 l)).set k c) (hv : v.length = 4) : tail4 (more 1 u) ≠ v := by
  intro h
  have hlen : u.length = l.length := by
    have := congrArg List.length huv
    simp [tail4_len] at this
    omega
  by_cases hkl : k < l.length
  · rw [List.set_append_left _ _ hkl] at huv
    obtain ⟨e1, e2⟩ := List.append_inj huv (by simpa using hlen)
    rw [e2] at h
    have e3 := tail4_inj _ _ (more_in _ _) (more_in _ _) h
    have e4 := (more_halves 1 u).1
    have e5 := (more_halves 1 l).1
    have r1 := red_adl u _ (red_of 1)
    have r2 := red_adl l _ (red_of 1)
    have a1 := adl_lo u (1 % 65536 % 65521, 1 / 65536 % 65521)
    have a2 := adl_lo l (1 % 65536 % 65521, 1 / 65536 % 65521)
    rw [e1, sumb_set l k c hkl] at a1
    rw [List.getElem_append_left hkl] at hc
    rw [e1] at e4 r1 e3
    have hne : (c.toNat : Int) ≠ (l[k].toNat : Int) := fun e => hc (UInt8.toNat_inj.1 (by omega))
    have b1 := c.toNat_lt
    have b2 := l[k].toNat_lt
    unfold Red at r1 r2
    omega
  · rw [List.set_append_right _ _ (by omega)] at huv
    obtain ⟨e1, e2⟩ := List.append_inj huv hlen
    subst e1
    rw [e2] at h
    have hk' : k - u.length < (tail4 (more 1 u)).length := by simp [tail4_len] at hk ⊢; omega
    have := congrArg (fun x => x[k - u.length]?) h
    simp [hk'] at this
    rw [List.getElem_append_right (by omega)] at hc
    exact hc this.symm
end Go.Proofs.Ytaobhbfhbmenfaa
