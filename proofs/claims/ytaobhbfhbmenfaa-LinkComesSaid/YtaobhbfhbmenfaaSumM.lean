/- Plain facts on the sum of bytes: no program in sight. -/
import Derived.RowKit
namespace Go.Proofs.Ytaobhbfhbmenfaa
/-- one byte more, reduced -/
def adlStep (p : Int × Int) (c : UInt8) : Int × Int := ((p.1 + (c.toNat : Int)) % 65521, (p.2 + (p.1 + (c.toNat : Int)) % 65521) % 65521)
/-- one byte more, not reduced -/
def rawStep (p : Int × Int) (c : UInt8) : Int × Int := (p.1 + (c.toNat : Int), p.2 + (p.1 + (c.toNat : Int)))
def adl (p : Int × Int) (l : List UInt8) : Int × Int := l.foldl adlStep p
def raw (p : Int × Int) (l : List UInt8) : Int × Int := l.foldl rawStep p
theorem adl_nil (p : Int × Int) : adl p [] = p := rfl
theorem adl_cons (p : Int × Int) (c : UInt8) (l : List UInt8) : adl p (c :: l) = adl (adlStep p c) l := rfl
theorem raw_cons (p : Int × Int) (c : UInt8) (l : List UInt8) : raw p (c :: l) = raw (rawStep p c) l := rfl
theorem adl_append (p : Int × Int) (l m : List UInt8) : adl p (l ++ m) = adl (adl p l) m := by simp [adl, List.foldl_append]
theorem adl_snoc (p : Int × Int) (l : List UInt8) (c : UInt8) : adl p (l ++ [c]) = adlStep (adl p l) c := by simp [adl, List.foldl_append]
theorem raw_snoc (p : Int × Int) (l : List UInt8) (c : UInt8) : raw p (l ++ [c]) = rawStep (raw p l) c := by simp [raw, List.foldl_append]
/-- may it be the halves of a sum? -/
def Red (p : Int × Int) : Prop := (0 ≤ p.1 ∧ p.1 < 65521) ∧ (0 ≤ p.2 ∧ p.2 < 65521)
theorem red_step (p : Int × Int) (c : UInt8) : Red (adlStep p c) := by unfold Red adlStep; simp only; omega
theorem red_adl : ∀ (l : List UInt8) (p : Int × Int), Red p → Red (adl p l)
  | [], _, h => h
  | c :: l, p, _ => red_adl l _ (red_step p c)
theorem raw_adl : ∀ (l : List UInt8) (p q : Int × Int), p.1 % 65521 = q.1 → p.2 % 65521 = q.2 → (raw p l).1 % 65521 = (adl q l).1 ∧ (raw p l).2 % 65521 = (adl q l).2
  | [], _, _, h1, h2 => ⟨h1, h2⟩
  | c :: l, p, q, h1, h2 => by
    rw [raw_cons, adl_cons]
    refine raw_adl l _ _ ?_ ?_
    · simp only [rawStep, adlStep]; omega
    · simp only [rawStep, adlStep]; omega
theorem raw_lo : ∀ (l : List UInt8) (p : Int × Int) (B : Int), p.1 ≤ B → 0 ≤ p.1 → 0 ≤ p.2 → 0 ≤ (raw p l).1 ∧ 0 ≤ (raw p l).2 ∧ (raw p l).1 ≤ B + 255 * (l.length : Int) ∧ 2 * (raw p l).2 ≤ 2 * p.2 + 2 * B * (l.length : Int) + 255 * (l.length : Int) * ((l.length : Int) + 1)
  | [], p, B, h1, h2, h3 => by simp [raw]; omega
  | c :: l, p, B, h1, h2, h3 => by
    have hc : (0 : Int) ≤ (c.toNat : Int) ∧ (c.toNat : Int) ≤ 255 := by have := c.toNat_lt; omega
    rw [raw_cons]
    have := raw_lo l (rawStep p c) (B + 255) (by simp only [rawStep]; omega) (by simp only [rawStep]; omega) (by simp only [rawStep]; omega)
    obtain ⟨a1, a2, a3, a4⟩ := this
    refine ⟨a1, a2, by simp only [List.length_cons]; omega, ?_⟩
    simp only [rawStep] at a4
    simp only [rawStep, List.length_cons]
    generalize hn : (l.length : Int) = n at *
    have e1 : ((l.length + 1 : Nat) : Int) = n + 1 := by omega
    rw [e1]
    have e2 : 2 * (B + 255) * n = 2 * B * n + 510 * n := by rw [show 2 * (B + 255) = 2 * B + 510 by omega, Int.add_mul]
    have e3 : 255 * (n + 1) * (n + 1 + 1) = 255 * n * (n + 1) + 510 * n + 510 := by
      have : 255 * (n + 1) = 255 * n + 255 := by omega
      rw [this, Int.add_mul, Int.mul_add (255 * n) (n + 1) 1]
      omega
    have e4 : 2 * B * (n + 1) = 2 * B * n + 2 * B := by rw [Int.mul_add]; omega
    rw [e3, e4]
    rw [e2] at a4
    omega
/-- as many bytes as can be added without going round -/
theorem raw_in (p : Int × Int) (l : List UInt8) (hp : Red p) (hl : l.length ≤ 5552) : (0 ≤ (raw p l).1 ∧ (raw p l).1 ≤ 1481280) ∧ (0 ≤ (raw p l).2 ∧ (raw p l).2 ≤ 4294690200) := by
  obtain ⟨⟨h1, h2⟩, h3, h4⟩ := hp
  obtain ⟨a1, a2, a3, a4⟩ := raw_lo l p 65520 (by omega) h1 h3
  have hm' : (l.length : Int) * ((l.length : Int) + 1) ≤ 5552 * 5553 := Int.mul_le_mul (by omega) (by omega) (by omega) (by omega)
  rw [Int.mul_assoc 255] at a4
  omega
def more (n : Int) (l : List UInt8) : Int := (adl (n % 65536 % 65521, n / 65536 % 65521) l).2 * 65536 + (adl (n % 65536 % 65521, n / 65536 % 65521) l).1
theorem red_of (n : Int) : Red (n % 65536 % 65521, n / 65536 % 65521) := by unfold Red; simp only; omega
theorem more_halves (n : Int) (l : List UInt8) : more n l % 65536 = (adl (n % 65536 % 65521, n / 65536 % 65521) l).1 ∧ more n l / 65536 = (adl (n % 65536 % 65521, n / 65536 % 65521) l).2 := by
  have := red_adl l _ (red_of n)
  unfold Red at this
  unfold more
  omega
theorem more_in (n : Int) (l : List UInt8) : 0 ≤ more n l ∧ more n l < 4294967296 := by
  have := red_adl l _ (red_of n)
  unfold Red at this
  unfold more
  omega
theorem more_append (n : Int) (l m : List UInt8) : more (more n l) m = more n (l ++ m) := by
  have h := red_adl l _ (red_of n)
  obtain ⟨h1, h2⟩ := more_halves n l
  unfold Red at h
  rw [more, h1, h2, more, adl_append]
  have e : ((adl (n % 65536 % 65521, n / 65536 % 65521) l).1 % 65521, (adl (n % 65536 % 65521, n / 65536 % 65521) l).2 % 65521) = adl (n % 65536 % 65521, n / 65536 % 65521) l := by
    apply Prod.ext <;> simp only <;> omega
  rw [e]
/-- the bytes of a sum -/
def tail4 (n : Int) : List UInt8 := [UInt8.ofNat (n / 16777216 % 256).toNat, UInt8.ofNat (n / 65536 % 256).toNat, UInt8.ofNat (n / 256 % 256).toNat, UInt8.ofNat (n % 256).toNat]
end Go.Proofs.Ytaobhbfhbmenfaa
