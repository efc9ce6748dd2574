/- The proof, part 7. -/
import Derived.Test.YtalagblioepadaaGreatDoorRows
import Derived.Test.YtalagblioepadaaGreatDoorZa04
import Derived.Laws.IdiomStrings
import Derived.Laws.BytesArg
namespace Go.Proofs.YtalagblioepadaaGreatDoor
section
open Go.RowKit
theorem conv_bytes (w:World) (s:ByteArray):∃ cap w1,(convert 9 51 (.string s)).run Tryz.prog w=.ok (.slice (some ⟨w.heap.size,0,none⟩) s.size cap) w1∧s.size≤cap∧Below w.heap.size w w1∧w1.heap.size=w.heap.size+1∧
  (∀ i (h:i<s.size),w1.cell? ⟨w.heap.size,i,none⟩=some (.int .u8 (s.data.toList[i]'(by simpa using h)).toNat))∧∀ i,i<s.size→w1.frozen? ⟨w.heap.size,i,none⟩=false:=by
 refine ⟨_,_,run_bytes_of_string w 9 51 5 s Tryz.underlying9 Tryz.underlying51 Tryz.underlying5,grownCap_ge _ _ _ _,?_,?_,?_,?_⟩
 ·exact ((Below.refl _ _).drew).alloc (Nat.le_refl _) _
 ·show (w.heap.push _).size=_
  simp
 ·intro i h
  show (w.drew.alloc _).cell? ⟨w.drew.heap.size,i,none⟩=_
  rw[World.cell?_alloc_mark,bytesRow_at s _ i h]
  simp
 ·intro i h
  show (w.drew.alloc _).frozen? ⟨w.drew.heap.size,i,none⟩=_
  rw[World.frozen?_alloc_mark]
  have:=grownCap_ge w s.size 0 5
  have e2:s.data.size=s.size:=rfl
  simp[bytesRow,e2]
  omega
end
end Go.Proofs.YtalagblioepadaaGreatDoor
