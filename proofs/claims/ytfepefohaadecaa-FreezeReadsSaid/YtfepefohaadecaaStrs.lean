/- Strings laid one behind the other. -/
import Derived.Test.YtfepefohaadecaaSigned
namespace Go.Proofs.Ytfepefohaadecaa
open Go.RowKit
theorem add_strings (w : World) (l m : List UInt8) (h : l.length + m.length ≤ 9223372036854775807) : (Op.stringOp .add ⟨l.toArray⟩ ⟨m.toArray⟩).run Try.prog w = .ok (.string ⟨(l ++ m).toArray⟩) w := by
  have e : (ByteArray.mk l.toArray) ++ (ByteArray.mk m.toArray) = ⟨(l ++ m).toArray⟩ := by apply ByteArray.ext; simp [ByteArray.data_append]
  have h2 := run_string_add_sum (P := Try.prog) w ⟨l.toArray⟩ ⟨m.toArray⟩ (by simpa [ByteArray.size] using h)
  rw [e] at h2
  exact h2
end Go.Proofs.Ytfepefohaadecaa
