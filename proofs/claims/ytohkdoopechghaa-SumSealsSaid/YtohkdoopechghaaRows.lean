/-
  No cell of these rows narrows 'for every input' (looked for: loops, veiled, ifaces, maps, wideKeys, modest, calm, conditions, laid).
  DERIVED. THE GIVEN ROWS OF THIS SEAT. 8 by the template 'for every input the law returns true; each argument reads behind the call as it read before'; 0 by the template 'total and deterministic' (their statements: YtohkdoopechghaaTotals.lean).
  GIVEN WITH THE SEED: the statements are not yours to turn. If you find one false, say at which input.
  Laid BY PROGRAM, IN A SANDBOX (cutbox-rows.mjs): the forced cells as the released guide's own fill.sh prints them over the translation 521411ed2d0a6104… (all of the seat's roots in one cut). By AI agents, Wed Nov 11 2026. No macro, syntax, notation, axiom, sorry.
-/
import Derived.Test.YtohkdoopechghaaChecked
import GoSem.Claim
import GoSem.ClaimJoined
import GoSem.ClaimMapViews
import Derived.JoinedTies
import Derived.KernelRfl
namespace Go.Proofs.Ytohkdoopechghaa
/- THE CELL 'sum', in the pinned program and in every row, IS THE sha256 OF THE DUMP (.gsa) THAT YtohkdoopechghaaProg.lean LOADS. Nothing in Lean hashes anything: it is a label: what it is worth is what the hold of that sum in a sandbox is worth. -/
noncomputable def Try.pinned : Pinned := { name := "ytohkdoopechghaa", sum := "521411ed2d0a61045400c3a2896fe1a26d527d8dd5dd46ea6cc1dfdfc8300d1b", checked := Try.checked }
namespace Rows
def none {H : Type} : Left H := { results := [], args := [] }

/-- 'promptbooklaw03.SerialNear': WHATEVER THE INPUT: true; the input reads as it did. -/
def serialNearSpec : ChangeSpec := { name := "serialNear", fn := fun _ => fun
  | [d1, d2] => { results := [.lit (.bool true)], args := [d1, d2] }
  | _ => none }
def serialNearRow : OpenClaim := { program := "ytohkdoopechghaa", sum := "521411ed2d0a61045400c3a2896fe1a26d527d8dd5dd46ea6cc1dfdfc8300d1b", func := "promptbook/promptbooklaw03.SerialNear", spec := "serialNear", apart := false }
def SerialNearSaid : Prop := serialNearRow.holds Try.pinned (OpenSpec.ofChange serialNearSpec)

/-- ITS FALSE NEIGHBOUR: 'it returns false'. Refute it at one input. -/
def serialNearWrong : ChangeSpec := { name := "serialNear", fn := fun _ => fun
  | [d1, d2] => { results := [.lit (.bool false)], args := [d1, d2] }
  | _ => none }
def SerialNearWrongFalsely : Prop := serialNearRow.holds Try.pinned (OpenSpec.ofChange serialNearWrong)

/-- 'promptbooklaw03.SerialBack': WHATEVER THE INPUT: true; the input reads as it did. -/
def serialBackSpec : ChangeSpec := { name := "serialBack", fn := fun _ => fun
  | [d1, d2] => { results := [.lit (.bool true)], args := [d1, d2] }
  | _ => none }
def serialBackRow : OpenClaim := { program := "ytohkdoopechghaa", sum := "521411ed2d0a61045400c3a2896fe1a26d527d8dd5dd46ea6cc1dfdfc8300d1b", func := "promptbook/promptbooklaw03.SerialBack", spec := "serialBack", apart := false }
def SerialBackSaid : Prop := serialBackRow.holds Try.pinned (OpenSpec.ofChange serialBackSpec)

/-- ITS FALSE NEIGHBOUR: 'it returns false'. Refute it at one input. -/
def serialBackWrong : ChangeSpec := { name := "serialBack", fn := fun _ => fun
  | [d1, d2] => { results := [.lit (.bool false)], args := [d1, d2] }
  | _ => none }
def SerialBackWrongFalsely : Prop := serialBackRow.holds Try.pinned (OpenSpec.ofChange serialBackWrong)

/-- 'promptbooklaw03.SerialSteps': WHATEVER THE INPUT: true; the input reads as it did. -/
def serialStepsSpec : ChangeSpec := { name := "serialSteps", fn := fun _ => fun
  | [d1, d2, d3] => { results := [.lit (.bool true)], args := [d1, d2, d3] }
  | _ => none }
def serialStepsRow : OpenClaim := { program := "ytohkdoopechghaa", sum := "521411ed2d0a61045400c3a2896fe1a26d527d8dd5dd46ea6cc1dfdfc8300d1b", func := "promptbook/promptbooklaw03.SerialSteps", spec := "serialSteps", apart := false }
def SerialStepsSaid : Prop := serialStepsRow.holds Try.pinned (OpenSpec.ofChange serialStepsSpec)

/-- ITS FALSE NEIGHBOUR: 'it returns false'. Refute it at one input. -/
def serialStepsWrong : ChangeSpec := { name := "serialSteps", fn := fun _ => fun
  | [d1, d2, d3] => { results := [.lit (.bool false)], args := [d1, d2, d3] }
  | _ => none }
def SerialStepsWrongFalsely : Prop := serialStepsRow.holds Try.pinned (OpenSpec.ofChange serialStepsWrong)

/-- 'promptbooklaw03.SerialOne': WHATEVER THE INPUT: true; the input reads as it did. -/
def serialOneSpec : ChangeSpec := { name := "serialOne", fn := fun _ => fun
  | [d1, d2] => { results := [.lit (.bool true)], args := [d1, d2] }
  | _ => none }
def serialOneRow : OpenClaim := { program := "ytohkdoopechghaa", sum := "521411ed2d0a61045400c3a2896fe1a26d527d8dd5dd46ea6cc1dfdfc8300d1b", func := "promptbook/promptbooklaw03.SerialOne", spec := "serialOne", apart := false }
def SerialOneSaid : Prop := serialOneRow.holds Try.pinned (OpenSpec.ofChange serialOneSpec)

/-- ITS FALSE NEIGHBOUR: 'it returns false'. Refute it at one input. -/
def serialOneWrong : ChangeSpec := { name := "serialOne", fn := fun _ => fun
  | [d1, d2] => { results := [.lit (.bool false)], args := [d1, d2] }
  | _ => none }
def SerialOneWrongFalsely : Prop := serialOneRow.holds Try.pinned (OpenSpec.ofChange serialOneWrong)

/-- 'promptbooklaw05.SumOf': WHATEVER THE INPUT: true; the input reads as it did. -/
def sumOfSpec : ChangeSpec := { name := "sumOf", fn := fun _ => fun
  | [d1, d2] => { results := [.lit (.bool true)], args := [d1, d2] }
  | _ => none }
def sumOfRow : OpenClaim := { program := "ytohkdoopechghaa", sum := "521411ed2d0a61045400c3a2896fe1a26d527d8dd5dd46ea6cc1dfdfc8300d1b", func := "promptbook/promptbooklaw05.SumOf", spec := "sumOf", apart := false }
def SumOfSaid : Prop := sumOfRow.holds Try.pinned (OpenSpec.ofChange sumOfSpec)

/-- ITS FALSE NEIGHBOUR: 'it returns false'. Refute it at one input. -/
def sumOfWrong : ChangeSpec := { name := "sumOf", fn := fun _ => fun
  | [d1, d2] => { results := [.lit (.bool false)], args := [d1, d2] }
  | _ => none }
def SumOfWrongFalsely : Prop := sumOfRow.holds Try.pinned (OpenSpec.ofChange sumOfWrong)

/-- 'promptbooklaw05.SumParts': WHATEVER THE INPUT: true; the input reads as it did. -/
def sumPartsSpec : ChangeSpec := { name := "sumParts", fn := fun _ => fun
  | [d1, d2, d3, d4, d5] => { results := [.lit (.bool true)], args := [d1, d2, d3, d4, d5] }
  | _ => none }
def sumPartsRow : OpenClaim := { program := "ytohkdoopechghaa", sum := "521411ed2d0a61045400c3a2896fe1a26d527d8dd5dd46ea6cc1dfdfc8300d1b", func := "promptbook/promptbooklaw05.SumParts", spec := "sumParts", apart := false }
def SumPartsSaid : Prop := sumPartsRow.holds Try.pinned (OpenSpec.ofChange sumPartsSpec)

/-- ITS FALSE NEIGHBOUR: 'it returns false'. Refute it at one input. -/
def sumPartsWrong : ChangeSpec := { name := "sumParts", fn := fun _ => fun
  | [d1, d2, d3, d4, d5] => { results := [.lit (.bool false)], args := [d1, d2, d3, d4, d5] }
  | _ => none }
def SumPartsWrongFalsely : Prop := sumPartsRow.holds Try.pinned (OpenSpec.ofChange sumPartsWrong)

/-- 'promptbooklaw05.SumSeals': WHATEVER THE INPUT: true; the input reads as it did. -/
def sumSealsSpec : ChangeSpec := { name := "sumSeals", fn := fun _ => fun
  | [d1, d2] => { results := [.lit (.bool true)], args := [d1, d2] }
  | _ => none }
def sumSealsRow : OpenClaim := { program := "ytohkdoopechghaa", sum := "521411ed2d0a61045400c3a2896fe1a26d527d8dd5dd46ea6cc1dfdfc8300d1b", func := "promptbook/promptbooklaw05.SumSeals", spec := "sumSeals", apart := false }
def SumSealsSaid : Prop := sumSealsRow.holds Try.pinned (OpenSpec.ofChange sumSealsSpec)

/-- ITS FALSE NEIGHBOUR: 'it returns false'. Refute it at one input. -/
def sumSealsWrong : ChangeSpec := { name := "sumSeals", fn := fun _ => fun
  | [d1, d2] => { results := [.lit (.bool false)], args := [d1, d2] }
  | _ => none }
def SumSealsWrongFalsely : Prop := sumSealsRow.holds Try.pinned (OpenSpec.ofChange sumSealsWrong)

/-- 'promptbooklaw05.SumTurned': WHATEVER THE INPUT: true; the input reads as it did. -/
def sumTurnedSpec : ChangeSpec := { name := "sumTurned", fn := fun _ => fun
  | [d1, d2, d3] => { results := [.lit (.bool true)], args := [d1, d2, d3] }
  | _ => none }
def sumTurnedRow : OpenClaim := { program := "ytohkdoopechghaa", sum := "521411ed2d0a61045400c3a2896fe1a26d527d8dd5dd46ea6cc1dfdfc8300d1b", func := "promptbook/promptbooklaw05.SumTurned", spec := "sumTurned", apart := false }
def SumTurnedSaid : Prop := sumTurnedRow.holds Try.pinned (OpenSpec.ofChange sumTurnedSpec)

/-- ITS FALSE NEIGHBOUR: 'it returns false'. Refute it at one input. -/
def sumTurnedWrong : ChangeSpec := { name := "sumTurned", fn := fun _ => fun
  | [d1, d2, d3] => { results := [.lit (.bool false)], args := [d1, d2, d3] }
  | _ => none }
def SumTurnedWrongFalsely : Prop := sumTurnedRow.holds Try.pinned (OpenSpec.ofChange sumTurnedWrong)

/- THE SECOND FORM. 'bulk': how many values and letters a reading holds, each counted each time it is reached (what is shared counts as often as it is met; a slice's spare places count too). A statement '..UptoSaid' is the law's where the arguments, and the package variables that the reading takes, are together of bulk at most 1048576: NARROWER than '..Said'. Prove '..Said' where nothing that the law and all that it calls make is longer than what came in: it says more and counts as full. Else prove '..UptoSaid'. A law counts once. -/
mutual
def uptoBulk {H : Type} : DataW H → Nat
  | .lit (.string bytes) => bytes.length + 1
  | .lit _ => 1
  | .nil => 1
  | .ptr d => uptoBulk d + 1
  | .slice elems spare => uptoBulkAll elems + uptoBulkAll spare + 1
  | .agg parts => uptoBulkAll parts + 1
  | .iface _ d => uptoBulk d + 1
  | .map entries => uptoBulkEntries entries + 1
  | .held _ => 1
def uptoBulkAll {H : Type} : List (DataW H) → Nat
  | [] => 0
  | d :: r => uptoBulk d + uptoBulkAll r
def uptoBulkEntries {H : Type} : List (Lit × DataW H) → Nat
  | [] => 0
  | x :: r => uptoBulkEntry x + uptoBulkEntries r
def uptoBulkEntry {H : Type} : Lit × DataW H → Nat
  | (.string bytes, d) => bytes.length + uptoBulk d + 1
  | (_, d) => uptoBulk d + 1
 end
def uptoSmall : (H : Type) → List (DataW H) → Bool := fun _ ds => decide (uptoBulkAll ds ≤ 1048576)
def OpenSpec.upto (s : _root_.Go.ChangeSpec) : _root_.Go.OpenSpec := { _root_.Go.OpenSpec.ofChange s with cond := some uptoSmall }

/-- 'promptbooklaw03.SerialNear', WHERE WHAT IT READS IS OF BULK AT MOST 1048576: true; the input reads as it did. -/
def serialNearUptoRow : OpenClaim := { program := "ytohkdoopechghaa", sum := "521411ed2d0a61045400c3a2896fe1a26d527d8dd5dd46ea6cc1dfdfc8300d1b", func := "promptbook/promptbooklaw03.SerialNear", spec := "serialNear", apart := false, narrowed := true }
def SerialNearUptoSaid : Prop := serialNearUptoRow.holds Try.pinned (OpenSpec.upto serialNearSpec)

/-- 'promptbooklaw03.SerialBack', WHERE WHAT IT READS IS OF BULK AT MOST 1048576: true; the input reads as it did. -/
def serialBackUptoRow : OpenClaim := { program := "ytohkdoopechghaa", sum := "521411ed2d0a61045400c3a2896fe1a26d527d8dd5dd46ea6cc1dfdfc8300d1b", func := "promptbook/promptbooklaw03.SerialBack", spec := "serialBack", apart := false, narrowed := true }
def SerialBackUptoSaid : Prop := serialBackUptoRow.holds Try.pinned (OpenSpec.upto serialBackSpec)

/-- 'promptbooklaw03.SerialSteps', WHERE WHAT IT READS IS OF BULK AT MOST 1048576: true; the input reads as it did. -/
def serialStepsUptoRow : OpenClaim := { program := "ytohkdoopechghaa", sum := "521411ed2d0a61045400c3a2896fe1a26d527d8dd5dd46ea6cc1dfdfc8300d1b", func := "promptbook/promptbooklaw03.SerialSteps", spec := "serialSteps", apart := false, narrowed := true }
def SerialStepsUptoSaid : Prop := serialStepsUptoRow.holds Try.pinned (OpenSpec.upto serialStepsSpec)

/-- 'promptbooklaw03.SerialOne', WHERE WHAT IT READS IS OF BULK AT MOST 1048576: true; the input reads as it did. -/
def serialOneUptoRow : OpenClaim := { program := "ytohkdoopechghaa", sum := "521411ed2d0a61045400c3a2896fe1a26d527d8dd5dd46ea6cc1dfdfc8300d1b", func := "promptbook/promptbooklaw03.SerialOne", spec := "serialOne", apart := false, narrowed := true }
def SerialOneUptoSaid : Prop := serialOneUptoRow.holds Try.pinned (OpenSpec.upto serialOneSpec)

/-- 'promptbooklaw05.SumOf', WHERE WHAT IT READS IS OF BULK AT MOST 1048576: true; the input reads as it did. -/
def sumOfUptoRow : OpenClaim := { program := "ytohkdoopechghaa", sum := "521411ed2d0a61045400c3a2896fe1a26d527d8dd5dd46ea6cc1dfdfc8300d1b", func := "promptbook/promptbooklaw05.SumOf", spec := "sumOf", apart := false, narrowed := true }
def SumOfUptoSaid : Prop := sumOfUptoRow.holds Try.pinned (OpenSpec.upto sumOfSpec)

/-- 'promptbooklaw05.SumParts', WHERE WHAT IT READS IS OF BULK AT MOST 1048576: true; the input reads as it did. -/
def sumPartsUptoRow : OpenClaim := { program := "ytohkdoopechghaa", sum := "521411ed2d0a61045400c3a2896fe1a26d527d8dd5dd46ea6cc1dfdfc8300d1b", func := "promptbook/promptbooklaw05.SumParts", spec := "sumParts", apart := false, narrowed := true }
def SumPartsUptoSaid : Prop := sumPartsUptoRow.holds Try.pinned (OpenSpec.upto sumPartsSpec)

/-- 'promptbooklaw05.SumSeals', WHERE WHAT IT READS IS OF BULK AT MOST 1048576: true; the input reads as it did. -/
def sumSealsUptoRow : OpenClaim := { program := "ytohkdoopechghaa", sum := "521411ed2d0a61045400c3a2896fe1a26d527d8dd5dd46ea6cc1dfdfc8300d1b", func := "promptbook/promptbooklaw05.SumSeals", spec := "sumSeals", apart := false, narrowed := true }
def SumSealsUptoSaid : Prop := sumSealsUptoRow.holds Try.pinned (OpenSpec.upto sumSealsSpec)

/-- 'promptbooklaw05.SumTurned', WHERE WHAT IT READS IS OF BULK AT MOST 1048576: true; the input reads as it did. -/
def sumTurnedUptoRow : OpenClaim := { program := "ytohkdoopechghaa", sum := "521411ed2d0a61045400c3a2896fe1a26d527d8dd5dd46ea6cc1dfdfc8300d1b", func := "promptbook/promptbooklaw05.SumTurned", spec := "sumTurned", apart := false, narrowed := true }
def SumTurnedUptoSaid : Prop := sumTurnedUptoRow.holds Try.pinned (OpenSpec.upto sumTurnedSpec)

end Rows
end Go.Proofs.Ytohkdoopechghaa
