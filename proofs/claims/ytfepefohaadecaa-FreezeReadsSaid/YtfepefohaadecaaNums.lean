/- Plain facts: some numbers told one behind the other (laws 35, 13). -/
import Derived.Test.YtfepefohaadecaaPackP
namespace Go.Proofs.Ytfepefohaadecaa
/-- so many numbers of at most 32 bits are read, or not -/
def readNs : Nat → List UInt8 → Option (List Nat × List UInt8)
  | 0, l => some ([], l)
  | f + 1, l => if (rdNum l).2.2 = 0 ∧ (rdNum l).1 ≤ 4294967295 then (readNs f (l.drop (rdNum l).2.1)).map (fun q => ((rdNum l).1 :: q.1, q.2)) else none
def numsB : List Nat → List UInt8
  | [] => []
  | v :: vs => num v ++ numsB vs
theorem readNs_told : ∀ (f : Nat) (l : List UInt8) (vs : List Nat) (r : List UInt8), readNs f l = some (vs, r) → l = numsB vs ++ r ∧ vs.length = f ∧ ∀ v ∈ vs, v ≤ 4294967295
  | 0, l, vs, r, h => by
    unfold readNs at h
    cases h
    exact ⟨rfl, rfl, fun v hv => by cases hv⟩
  | f + 1, l, vs, r, h => by
    unfold readNs at h
    split at h
    · rename_i hc
      obtain ⟨h0, h1⟩ := hc
      cases hq : readNs f (l.drop (rdNum l).2.1) with
      | none => rw [hq] at h; cases h
      | some q =>
        rw [hq] at h
        obtain ⟨vs', r'⟩ := q
        cases h
        obtain ⟨e1, e2, e3⟩ := readNs_told f _ vs' _ hq
        obtain ⟨g1, _, _⟩ := rd_ok l (rdNum l).1 (rdNum l).2.1 (Prod.ext rfl (Prod.ext rfl h0))
        refine ⟨?_, by simp [e2], ?_⟩
        · unfold numsB
          rw [g1, List.append_assoc, ← e1, List.take_append_drop]
        · intro v hv
          rcases List.mem_cons.1 hv with rfl | hv
          · exact h1
          · exact e3 v hv
    · cases h
theorem readNs_num : ∀ (vs : List Nat) (r : List UInt8), (∀ v ∈ vs, v ≤ 4294967295) → readNs vs.length (numsB vs ++ r) = some (vs, r)
  | [], r, _ => rfl
  | v :: vs, r, h => by
    have hv := h v (by simp)
    have hb := rd_behind v (by unfold two64; omega) (numsB vs ++ r)
    have ih := readNs_num vs r (fun x hx => h x (by simp [hx]))
    unfold numsB
    rw [List.append_assoc]
    show readNs (vs.length + 1) _ = _
    unfold readNs
    rw [hb, if_pos ⟨rfl, hv⟩]
    simp only
    rw [List.drop_left, ih]
    rfl
/-- numbers that are told by the same bytes are the same -/
theorem numsB_inj {a b : List Nat} (hl : a.length = b.length) (ha : ∀ v ∈ a, v ≤ 4294967295) (hb : ∀ v ∈ b, v ≤ 4294967295) (h : numsB a = numsB b) : a = b := by
  have h1 := readNs_num a [] ha
  have h2 := readNs_num b [] hb
  rw [h, hl, h2] at h1
  cases h1
  rfl
end Go.Proofs.Ytfepefohaadecaa
