/- A row of integers that came in, as a list. -/
import Derived.Test.YtaobhbfhbmenfaaVals
namespace Go.Proofs.Ytaobhbfhbmenfaa
open Go.RowKit
theorem addr_none {w : World} {b o : Nat} {s : Option Nat} {v : Value} (h : w.cell? ⟨b, o, s⟩ = some v) : s = none := by
  cases s with
  | none => rfl
  | some x =>
    exfalso
    simp only [World.cell?] at h
    split at h
    · simp at h
    · cases h
theorem vals_of_row {k : IntKind} {w : World} {a : Option Addr} {len cap : Nat} {zs : List Int}
    (h : (a = none ∧ len = 0 ∧ cap = 0 ∧ zs = []) ∨ ∃ x, a = some x ∧ len ≤ cap ∧ cap ≤ maxLen ∧ zs.length = cap ∧ (∀ i, i < zs.length → w.cell? (x.add i) = some (.int k (zs.getD i 0))) ∧ ∀ n ∈ zs, (Lit.int k n).wf = true) :
    ∃ L : List Int, L.length = len ∧ Vals w 1 a len cap (L.map fun x => .int k x) ∧ ∀ n ∈ L, (Lit.int k n).wf = true := by
  rcases h with ⟨rfl, rfl, rfl, rfl⟩ | ⟨x, rfl, hl, hm, hz, hc, hw⟩
  · exact ⟨[], rfl, Vals.nil w 1, fun _ h => by cases h⟩
  · refine ⟨zs.take len, by simp; omega, ⟨by simp; omega, hl, hm, fun hn => ?_⟩, fun n hn => hw n (List.mem_of_mem_take hn)⟩
    obtain ⟨b, o, s⟩ := x
    have h0 := hc 0 (by omega)
    have hs : s = none := addr_none (by simpa [Addr.add] using h0)
    subst hs
    refine ⟨b, o, rfl, fun j u hu => ?_⟩
    rw [List.getElem?_map, List.getElem?_take] at hu
    split at hu
    · have hj : j < zs.length := by omega
      have h1 := hc j hj
      rw [addr_add] at h1
      rw [h1]
      simp [hj] at hu
      simp [hj, hu]
    · simp at hu
theorem wf_i64 {n : Int} (h : (Lit.int .i64 n).wf = true) : -9223372036854775808 ≤ n ∧ n ≤ 9223372036854775807 := by
  simp only [Lit.wf] at h
  simpa [IntKind.min, IntKind.max, IntKind.signed, IntKind.bits] using h
theorem wf_u8 {n : Int} (h : (Lit.int .u8 n).wf = true) : 0 ≤ n ∧ n ≤ 255 := by
  simp only [Lit.wf] at h
  simpa [IntKind.min, IntKind.max, IntKind.signed, IntKind.bits] using h
end Go.Proofs.Ytaobhbfhbmenfaa
