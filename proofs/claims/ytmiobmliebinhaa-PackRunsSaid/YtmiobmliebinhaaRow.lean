/- A row of bytes that came in, as a list of bytes. -/
import Derived.Test.YtmiobmliebinhaaRunLaws
namespace Go.Proofs.Ytmiobmliebinhaa
open Go.RowKit
theorem bytes_of_row {w : World} {a : Option Addr} {len cap : Nat} {zs : List Int}
    (h : (a = none ∧ len = 0 ∧ cap = 0 ∧ zs = []) ∨ ∃ x, a = some x ∧ len ≤ cap ∧ cap ≤ maxLen ∧ zs.length = cap ∧ (∀ i, i < zs.length → w.cell? (x.add i) = some (.int .u8 (zs.getD i 0))) ∧ ∀ n ∈ zs, (Lit.int .u8 n).wf = true) :
    ∃ L : List UInt8, L.length = len ∧ IsBytes w a cap L := by
  rcases h with ⟨rfl, rfl, rfl, rfl⟩ | ⟨x, rfl, hl, hm, hz, hc, hw⟩
  · exact ⟨[], rfl, Nat.le_refl _, Nat.zero_le _, .inl rfl⟩
  · refine ⟨(zs.take len).map fun n => UInt8.ofNat n.toNat, by simp; omega, by simp; omega, hm, ?_⟩
    by_cases h0 : len = 0
    · exact .inl (by simp [h0])
    · right
      obtain ⟨b, o, s⟩ := x
      have hs : s = none := by
        have h1 := hc 0 (by omega)
        cases s with
        | none => rfl
        | some v =>
          exfalso
          simp only [Addr.add, if_true, World.cell?] at h1
          split at h1
          · simp at h1
          · cases h1
      subst hs
      refine ⟨b, o, rfl, fun i hi => ?_⟩
      simp at hi
      have h1 := hc i (by omega)
      rw [addr_add] at h1
      rw [h1]
      have hi2 : i < zs.length := by omega
      have h2 := hw zs[i] (List.getElem_mem hi2)
      have h3 : 0 ≤ zs[i] ∧ zs[i] ≤ 255 := by
        simp only [Lit.wf] at h2
        simpa [IntKind.min, IntKind.max, IntKind.signed, IntKind.bits] using h2
      simp [byteV, hi2]
      omega
end Go.Proofs.Ytmiobmliebinhaa
