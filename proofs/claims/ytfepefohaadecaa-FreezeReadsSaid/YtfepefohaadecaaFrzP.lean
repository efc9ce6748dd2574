/- freeze: states with the same bytes are the same. Plain facts. -/
import Derived.Test.YtfepefohaadecaaPck
import Derived.Test.YtfepefohaadecaaStEq
import Derived.Test.YtfepefohaadecaaNums
namespace Go.Proofs.Ytfepefohaadecaa
theorem num_cancel {a b : Nat} {r s : List UInt8} (ha : a < two64) (hb : b < two64) (h : num a ++ r = num b ++ s) : a = b ∧ r = s := by
  have h1 := rd_behind a ha r
  have h2 := rd_behind b hb s
  rw [h, h2] at h1
  have e : a = b := ((Prod.mk.inj h1).1).symm
  subst e
  exact ⟨rfl, List.append_cancel_left h⟩
structure Good (v : Nat → Int) : Prop where
  wf : WfS v
  pos : ∀ j, j < 60 → kindAt j ≠ .i32 → 0 ≤ v j
theorem zz_inj {a b : Int} (h : zz a = zz b) : a = b := by rw [← unzz_zz a, ← unzz_zz b, h]
theorem tell_num {v : Nat → Int} (h : Good v) (o : Nat) (ho : o < 60) : ∃ n, tellAt v o = num n ∧ n < two64 ∧ (kindAt o = .i32 → n = zz (v o)) ∧ (kindAt o ≠ .i32 → (n : Int) = v o) := by
  have hf := h.wf o ho
  unfold tellAt
  by_cases e : kindAt o = .i32
  · rw [if_pos e]
    rw [e] at hf
    have hf : -2147483648 ≤ v o ∧ v o ≤ 2147483647 := hf
    exact ⟨_, rfl, zz_in _ (by omega), fun _ => rfl, fun x => absurd e x⟩
  · rw [if_neg e]
    have hp := h.pos o ho e
    have hle : v o ≤ 9223372036854775807 := by
      revert hf
      generalize kindAt o = k
      unfold fitsI
      cases k <;> simp <;> omega
    exact ⟨_, rfl, by unfold two64; omega, fun x => absurd x e, fun _ => by omega⟩
theorem tell_cancel {u v : Nat → Int} (hu : Good u) (hv : Good v) {o : Nat} (ho : o < 60) {r s : List UInt8} (h : tellAt u o ++ r = tellAt v o ++ s) : u o = v o ∧ r = s := by
  obtain ⟨n, e1, l1, z1, p1⟩ := tell_num hu o ho
  obtain ⟨m, e2, l2, z2, p2⟩ := tell_num hv o ho
  rw [e1, e2] at h
  obtain ⟨rfl, hr⟩ := num_cancel l1 l2 h
  refine ⟨?_, hr⟩
  by_cases e : kindAt o = .i32
  · exact zz_inj ((z1 e).symm.trans (z2 e))
  · exact (p1 e).symm.trans (p2 e)
theorem told_cancel {u v : Nat → Int} (hu : Good u) (hv : Good v) {r s : List UInt8} : ∀ (l : List Nat), (∀ o ∈ l, o < 60) → told u l ++ r = told v l ++ s → (∀ o ∈ l, u o = v o) ∧ r = s
  | [], _, h => ⟨fun o ho => (by cases ho), h⟩
  | o :: l, hl, h => by
    have h1 : tellAt u o ++ (told u l ++ r) = tellAt v o ++ (told v l ++ s) := by simpa [told] using h
    obtain ⟨e1, h2⟩ := tell_cancel hu hv (hl o (by simp)) h1
    obtain ⟨e2, h3⟩ := told_cancel hu hv l (fun x hx => hl x (by simp [hx])) h2
    refine ⟨fun x hx => ?_, h3⟩
    rcases List.mem_cons.1 hx with rfl | hx
    · exact e1
    · exact e2 x hx
theorem shot_in (j : Nat) (hj : j < 6) : ∀ o ∈ shotAt (24 + 6 * j), o < 60 := by
  intro o ho
  simp only [shotAt, List.mem_cons, List.not_mem_nil, or_false] at ho
  omega
theorem shots_cancel {u v : Nat → Int} (hu : Good u) (hv : Good v) (hn : ∀ j, j < 6 → (noSho u j ↔ noSho v j)) : ∀ (j : Nat) {r s : List UInt8}, j ≤ 6 → shotsTo u j ++ r = shotsTo v j ++ s → (∀ i, i < j → ∀ o ∈ shotAt (24 + 6 * i), u o = v o) ∧ r = s
  | 0, r, s, _, h => ⟨fun i hi => (by omega), h⟩
  | j + 1, r, s, hj, h => by
    have h1 : shotsTo u j ++ ((if noSho u j then [] else told u (shotAt (24 + 6 * j))) ++ r) = shotsTo v j ++ ((if noSho v j then [] else told v (shotAt (24 + 6 * j))) ++ s) := by
      simpa only [shotsTo, List.append_assoc] using h
    obtain ⟨e1, h2⟩ := shots_cancel hu hv hn j (by omega) h1
    by_cases hz : noSho u j
    · have hz' := (hn j (by omega)).1 hz
      rw [if_pos hz, if_pos hz'] at h2
      refine ⟨fun i hi o ho => ?_, h2⟩
      by_cases e : i = j
      · subst e
        unfold noSho at hz hz'
        simp only [shotAt, List.mem_cons, List.not_mem_nil, or_false] at ho
        have e1 : 24 + 6 * i + 1 = 25 + 6 * i := by omega
        have e2 : 24 + 6 * i + 2 = 26 + 6 * i := by omega
        have e3 : 24 + 6 * i + 3 = 27 + 6 * i := by omega
        have e4 : 24 + 6 * i + 4 = 28 + 6 * i := by omega
        have e5 : 24 + 6 * i + 5 = 29 + 6 * i := by omega
        rcases ho with rfl | rfl | rfl | rfl | rfl | rfl <;> simp only [e1, e2, e3, e4, e5, hz, hz']
      · exact e1 i (by omega) o ho
    · rw [if_neg hz, if_neg (fun e => hz ((hn j (by omega)).2 e))] at h2
      obtain ⟨e2, h3⟩ := told_cancel hu hv _ (shot_in j (by omega)) h2
      refine ⟨fun i hi o ho => ?_, h3⟩
      by_cases e : i = j
      · subst e
        exact e2 o ho
      · exact e1 i (by omega) o ho
theorem ply_in : ∀ o ∈ plyL 2, o < 60 := by decide
theorem ply_all : ∀ j : Fin 24, j.val ∈ plyL 2 := by decide
theorem packS_inj {u v : Nat → Int} (hu : Good u) (hv : Good v) (h : packS u = packS v) : sameN u v 0 60 := by
  unfold packS at h
  simp only [List.append_assoc] at h
  obtain ⟨e1, h1⟩ := told_cancel hu hv _ ply_in h
  have b1 := bitsTo_lt u 6
  have b2 := bitsTo_lt v 6
  obtain ⟨e2, h2⟩ := num_cancel (by unfold two64; omega) (by unfold two64; omega) h1
  have hn : ∀ j, j < 6 → (noSho u j ↔ noSho v j) := fun j hj => by
    have q1 := bits_at u j hj
    have q2 := bits_at v j hj
    rw [e2] at q1
    rw [q1] at q2
    exact ⟨fun x => Decidable.byContradiction fun y => q2.2 y x, fun x => Decidable.byContradiction fun y => q2.1 y x⟩
  have h3 : shotsTo u 6 ++ [] = shotsTo v 6 ++ [] := by rw [h2]
  obtain ⟨e3, _⟩ := shots_cancel hu hv hn 6 (by omega) h3
  intro k hk
  rw [Nat.zero_add]
  by_cases hlt : k < 24
  · exact e1 k (ply_all ⟨k, hlt⟩)
  · refine e3 ((k - 24) / 6) (by omega) k ?_
    simp only [shotAt, List.mem_cons, List.not_mem_nil, or_false]
    omega
end Go.Proofs.Ytfepefohaadecaa
