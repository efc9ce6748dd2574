/-
  NARROWER THAN 'FOR EVERY INPUT', by the rows' own cells (each row's printed sentence says how): WholePlayed: laid · WholeStream: laid · WholeSpoilt: laid · WholeCommands: laid · WholeBounds: laid.
  DERIVED. THE GIVEN ROWS OF THIS SEAT. 5 by the template 'for every input the law returns true; each argument reads behind the call as it read before'; 0 by the template 'total and deterministic' (their statements: YtalagblioepadaaGreatDoorTotals.lean).
  GIVEN WITH THE SEED: the statements are not yours to turn. If you find one false, say at which input.
  Laid BY PROGRAM, IN A SANDBOX (cutbox-rows.mjs): the forced cells as the released guide's own fill.sh prints them over the translation f3a509aa80e901ab… (all of the seat's roots in one cut). By AI agents, Wed Nov 11 2026. No macro, syntax, notation, axiom, sorry.
-/
import Derived.Test.YtalagblioepadaaGreatDoorChecked
import GoSem.Claim
import GoSem.ClaimJoined
import GoSem.ClaimMapViews
import Derived.JoinedTies
import Derived.KernelRfl
namespace Go.Proofs.YtalagblioepadaaGreatDoor
/- THE CELL 'sum', in the pinned program and in every row, IS THE sha256 OF THE DUMP (.gsa) THAT YtalagblioepadaaGreatDoorProg.lean LOADS. Nothing in Lean hashes anything: it is a label: what it is worth is what the hold of that sum in a sandbox is worth. -/
noncomputable def Tryz.pinned : Pinned := { name := "ytalagblioepadaagreatdoor", sum := "f3a509aa80e901ab7773458ee29e1757c10ffd6c0a697eeb78e7bebef2f208e5", checked := Tryz.checked }
namespace Rows
def none {H : Type} : Left H := { results := [], args := [] }

/- WHAT THE LISTED PACKAGE-LEVEL VARIABLES READ AS WHEN THE CALL BEGINS. Each datum BY PROGRAM (the guide's laid-datum.mjs) off the statement by which the dump's own 'gosem.cut.vars' lays the variable. In a bare row this is a premise. The card (YtalagblioepadaaGreatDoorCards.lean) ties it to the program's text. -/
def laid_promptbook_feel_kinds {H : Type} : DataW H := .agg [.agg [.lit (.int .i64 0), .lit (.int .i64 0), .lit (.int .i64 0), .lit (.int .i64 0)], .agg [.lit (.int .i64 0), .lit (.int .i64 6000), .lit (.int .i64 3), .lit (.int .i64 0)], .agg [.lit (.int .i64 24000), .lit (.int .i64 12000), .lit (.int .i64 12), .lit (.int .i64 6)], .agg [.lit (.int .i64 8000), .lit (.int .i64 0), .lit (.int .i64 4), .lit (.int .i64 0)], .agg [.lit (.int .i64 16000), .lit (.int .i64 8000), .lit (.int .i64 8), .lit (.int .i64 4)], .agg [.lit (.int .i64 32768), .lit (.int .i64 32768), .lit (.int .i64 30), .lit (.int .i64 24)], .agg [.lit (.int .i64 0), .lit (.int .i64 4000), .lit (.int .i64 6), .lit (.int .i64 8)], .agg [.lit (.int .i64 0), .lit (.int .i64 0), .lit (.int .i64 0), .lit (.int .i64 0)], .agg [.lit (.int .i64 0), .lit (.int .i64 0), .lit (.int .i64 0), .lit (.int .i64 0)], .agg [.lit (.int .i64 0), .lit (.int .i64 0), .lit (.int .i64 0), .lit (.int .i64 0)]]

/-- 'promptbooktop.WholePlayed': WHATEVER THE INPUT: true; the input reads as it did. -/
def wholePlayedSpec : ChangeSpec := { name := "wholePlayed", fn := fun _ => fun
  | [d1, d2] => { results := [.lit (.bool true)], args := [d1, d2] }
  | _ => none }
def wholePlayedRow : OpenClaim := { program := "ytalagblioepadaagreatdoor", sum := "f3a509aa80e901ab7773458ee29e1757c10ffd6c0a697eeb78e7bebef2f208e5", func := "promptbook/promptbooktop.WholePlayed", spec := "wholePlayed", inPlace := ["slices.overlaps[promptbook/api.Event]"], unfollowed := true, recurses := true, named := ["promptbook/feel.kinds"], plainKeys := false, apart := false, laid := [("promptbook/feel.kinds", laid_promptbook_feel_kinds)] }
def WholePlayedSaid : Prop := wholePlayedRow.holds Tryz.pinned (OpenSpec.ofChange wholePlayedSpec)

/-- ITS FALSE NEIGHBOUR: 'it returns false'. Refute it at one input. -/
def wholePlayedWrong : ChangeSpec := { name := "wholePlayed", fn := fun _ => fun
  | [d1, d2] => { results := [.lit (.bool false)], args := [d1, d2] }
  | _ => none }
def WholePlayedWrongFalsely : Prop := wholePlayedRow.holds Tryz.pinned (OpenSpec.ofChange wholePlayedWrong)

/-- 'promptbooktop.WholeStream': WHATEVER THE INPUT: true; the input reads as it did. -/
def wholeStreamSpec : ChangeSpec := { name := "wholeStream", fn := fun _ => fun
  | [d1, d2] => { results := [.lit (.bool true)], args := [d1, d2] }
  | _ => none }
def wholeStreamRow : OpenClaim := { program := "ytalagblioepadaagreatdoor", sum := "f3a509aa80e901ab7773458ee29e1757c10ffd6c0a697eeb78e7bebef2f208e5", func := "promptbook/promptbooktop.WholeStream", spec := "wholeStream", inPlace := ["slices.overlaps[promptbook/api.Event]"], unfollowed := true, recurses := true, named := ["promptbook/feel.kinds"], plainKeys := false, apart := false, laid := [("promptbook/feel.kinds", laid_promptbook_feel_kinds)] }
def WholeStreamSaid : Prop := wholeStreamRow.holds Tryz.pinned (OpenSpec.ofChange wholeStreamSpec)

/-- ITS FALSE NEIGHBOUR: 'it returns false'. Refute it at one input. -/
def wholeStreamWrong : ChangeSpec := { name := "wholeStream", fn := fun _ => fun
  | [d1, d2] => { results := [.lit (.bool false)], args := [d1, d2] }
  | _ => none }
def WholeStreamWrongFalsely : Prop := wholeStreamRow.holds Tryz.pinned (OpenSpec.ofChange wholeStreamWrong)

/-- 'promptbooktop.WholeSpoilt': WHATEVER THE INPUT: true; the input reads as it did. -/
def wholeSpoiltSpec : ChangeSpec := { name := "wholeSpoilt", fn := fun _ => fun
  | [d1, d2] => { results := [.lit (.bool true)], args := [d1, d2] }
  | _ => none }
def wholeSpoiltRow : OpenClaim := { program := "ytalagblioepadaagreatdoor", sum := "f3a509aa80e901ab7773458ee29e1757c10ffd6c0a697eeb78e7bebef2f208e5", func := "promptbook/promptbooktop.WholeSpoilt", spec := "wholeSpoilt", inPlace := ["slices.overlaps[promptbook/api.Event]"], unfollowed := true, recurses := true, named := ["promptbook/feel.kinds"], plainKeys := false, apart := false, laid := [("promptbook/feel.kinds", laid_promptbook_feel_kinds)] }
def WholeSpoiltSaid : Prop := wholeSpoiltRow.holds Tryz.pinned (OpenSpec.ofChange wholeSpoiltSpec)

/-- ITS FALSE NEIGHBOUR: 'it returns false'. Refute it at one input. -/
def wholeSpoiltWrong : ChangeSpec := { name := "wholeSpoilt", fn := fun _ => fun
  | [d1, d2] => { results := [.lit (.bool false)], args := [d1, d2] }
  | _ => none }
def WholeSpoiltWrongFalsely : Prop := wholeSpoiltRow.holds Tryz.pinned (OpenSpec.ofChange wholeSpoiltWrong)

/-- 'promptbooktop.WholeCommands': WHATEVER THE INPUT: true; the input reads as it did. -/
def wholeCommandsSpec : ChangeSpec := { name := "wholeCommands", fn := fun _ => fun
  | [d1, d2] => { results := [.lit (.bool true)], args := [d1, d2] }
  | _ => none }
def wholeCommandsRow : OpenClaim := { program := "ytalagblioepadaagreatdoor", sum := "f3a509aa80e901ab7773458ee29e1757c10ffd6c0a697eeb78e7bebef2f208e5", func := "promptbook/promptbooktop.WholeCommands", spec := "wholeCommands", inPlace := ["slices.overlaps[promptbook/api.Event]"], unfollowed := true, recurses := true, named := ["promptbook/feel.kinds"], plainKeys := false, apart := false, laid := [("promptbook/feel.kinds", laid_promptbook_feel_kinds)] }
def WholeCommandsSaid : Prop := wholeCommandsRow.holds Tryz.pinned (OpenSpec.ofChange wholeCommandsSpec)

/-- ITS FALSE NEIGHBOUR: 'it returns false'. Refute it at one input. -/
def wholeCommandsWrong : ChangeSpec := { name := "wholeCommands", fn := fun _ => fun
  | [d1, d2] => { results := [.lit (.bool false)], args := [d1, d2] }
  | _ => none }
def WholeCommandsWrongFalsely : Prop := wholeCommandsRow.holds Tryz.pinned (OpenSpec.ofChange wholeCommandsWrong)

/-- 'promptbooktop.WholeBounds': WHATEVER THE INPUT: true; the input reads as it did. -/
def wholeBoundsSpec : ChangeSpec := { name := "wholeBounds", fn := fun _ => fun
  | [d1, d2] => { results := [.lit (.bool true)], args := [d1, d2] }
  | _ => none }
def wholeBoundsRow : OpenClaim := { program := "ytalagblioepadaagreatdoor", sum := "f3a509aa80e901ab7773458ee29e1757c10ffd6c0a697eeb78e7bebef2f208e5", func := "promptbook/promptbooktop.WholeBounds", spec := "wholeBounds", inPlace := ["slices.overlaps[promptbook/api.Event]"], unfollowed := true, recurses := true, named := ["promptbook/feel.kinds"], plainKeys := false, apart := false, laid := [("promptbook/feel.kinds", laid_promptbook_feel_kinds)] }
def WholeBoundsSaid : Prop := wholeBoundsRow.holds Tryz.pinned (OpenSpec.ofChange wholeBoundsSpec)

/-- ITS FALSE NEIGHBOUR: 'it returns false'. Refute it at one input. -/
def wholeBoundsWrong : ChangeSpec := { name := "wholeBounds", fn := fun _ => fun
  | [d1, d2] => { results := [.lit (.bool false)], args := [d1, d2] }
  | _ => none }
def WholeBoundsWrongFalsely : Prop := wholeBoundsRow.holds Tryz.pinned (OpenSpec.ofChange wholeBoundsWrong)

/- THE SECOND FORM. 'bulk': how many values and letters a reading holds, each counted each time it is reached (what is shared counts as often as it is met; a slice's spare places count too). A statement '..UptoSaid' is the law's where the arguments, and the package variables that the reading takes, are together of bulk at most 1048576: NARROWER than '..Said'. Prove '..Said' where nothing that the law and all that it calls make is longer than what came in: it says more and counts as full. Else prove '..UptoSaid'. A law counts once. -/
mutual
def uptoBulk {H : Type} : DataW H → Nat
  | .lit (.string bytes) => bytes.length + 1
  | .lit _ => 1
  | .nil => 1
  | .ptr d => uptoBulk d + 1
  | .slice elems spare => uptoBulkAll elems + uptoBulkAll spare + 1
  | .agg parts => uptoBulkAll parts + 1
  | .iface _ d => uptoBulk d + 1
  | .map entries => uptoBulkEntries entries + 1
  | .held _ => 1
def uptoBulkAll {H : Type} : List (DataW H) → Nat
  | [] => 0
  | d :: r => uptoBulk d + uptoBulkAll r
def uptoBulkEntries {H : Type} : List (Lit × DataW H) → Nat
  | [] => 0
  | x :: r => uptoBulkEntry x + uptoBulkEntries r
def uptoBulkEntry {H : Type} : Lit × DataW H → Nat
  | (.string bytes, d) => bytes.length + uptoBulk d + 1
  | (_, d) => uptoBulk d + 1
 end
def uptoSmall : (H : Type) → List (DataW H) → Bool := fun _ ds => decide (uptoBulkAll ds ≤ 1048576)
def OpenSpec.upto (s : _root_.Go.ChangeSpec) : _root_.Go.OpenSpec := { _root_.Go.OpenSpec.ofChange s with cond := some uptoSmall }

/-- 'promptbooktop.WholePlayed', WHERE WHAT IT READS IS OF BULK AT MOST 1048576: true; the input reads as it did. -/
def wholePlayedUptoRow : OpenClaim := { program := "ytalagblioepadaagreatdoor", sum := "f3a509aa80e901ab7773458ee29e1757c10ffd6c0a697eeb78e7bebef2f208e5", func := "promptbook/promptbooktop.WholePlayed", spec := "wholePlayed", inPlace := ["slices.overlaps[promptbook/api.Event]"], unfollowed := true, recurses := true, named := ["promptbook/feel.kinds"], plainKeys := false, apart := false, laid := [("promptbook/feel.kinds", laid_promptbook_feel_kinds)], narrowed := true }
def WholePlayedUptoSaid : Prop := wholePlayedUptoRow.holds Tryz.pinned (OpenSpec.upto wholePlayedSpec)

/-- 'promptbooktop.WholeStream', WHERE WHAT IT READS IS OF BULK AT MOST 1048576: true; the input reads as it did. -/
def wholeStreamUptoRow : OpenClaim := { program := "ytalagblioepadaagreatdoor", sum := "f3a509aa80e901ab7773458ee29e1757c10ffd6c0a697eeb78e7bebef2f208e5", func := "promptbook/promptbooktop.WholeStream", spec := "wholeStream", inPlace := ["slices.overlaps[promptbook/api.Event]"], unfollowed := true, recurses := true, named := ["promptbook/feel.kinds"], plainKeys := false, apart := false, laid := [("promptbook/feel.kinds", laid_promptbook_feel_kinds)], narrowed := true }
def WholeStreamUptoSaid : Prop := wholeStreamUptoRow.holds Tryz.pinned (OpenSpec.upto wholeStreamSpec)

/-- 'promptbooktop.WholeSpoilt', WHERE WHAT IT READS IS OF BULK AT MOST 1048576: true; the input reads as it did. -/
def wholeSpoiltUptoRow : OpenClaim := { program := "ytalagblioepadaagreatdoor", sum := "f3a509aa80e901ab7773458ee29e1757c10ffd6c0a697eeb78e7bebef2f208e5", func := "promptbook/promptbooktop.WholeSpoilt", spec := "wholeSpoilt", inPlace := ["slices.overlaps[promptbook/api.Event]"], unfollowed := true, recurses := true, named := ["promptbook/feel.kinds"], plainKeys := false, apart := false, laid := [("promptbook/feel.kinds", laid_promptbook_feel_kinds)], narrowed := true }
def WholeSpoiltUptoSaid : Prop := wholeSpoiltUptoRow.holds Tryz.pinned (OpenSpec.upto wholeSpoiltSpec)

/-- 'promptbooktop.WholeCommands', WHERE WHAT IT READS IS OF BULK AT MOST 1048576: true; the input reads as it did. -/
def wholeCommandsUptoRow : OpenClaim := { program := "ytalagblioepadaagreatdoor", sum := "f3a509aa80e901ab7773458ee29e1757c10ffd6c0a697eeb78e7bebef2f208e5", func := "promptbook/promptbooktop.WholeCommands", spec := "wholeCommands", inPlace := ["slices.overlaps[promptbook/api.Event]"], unfollowed := true, recurses := true, named := ["promptbook/feel.kinds"], plainKeys := false, apart := false, laid := [("promptbook/feel.kinds", laid_promptbook_feel_kinds)], narrowed := true }
def WholeCommandsUptoSaid : Prop := wholeCommandsUptoRow.holds Tryz.pinned (OpenSpec.upto wholeCommandsSpec)

/-- 'promptbooktop.WholeBounds', WHERE WHAT IT READS IS OF BULK AT MOST 1048576: true; the input reads as it did. -/
def wholeBoundsUptoRow : OpenClaim := { program := "ytalagblioepadaagreatdoor", sum := "f3a509aa80e901ab7773458ee29e1757c10ffd6c0a697eeb78e7bebef2f208e5", func := "promptbook/promptbooktop.WholeBounds", spec := "wholeBounds", inPlace := ["slices.overlaps[promptbook/api.Event]"], unfollowed := true, recurses := true, named := ["promptbook/feel.kinds"], plainKeys := false, apart := false, laid := [("promptbook/feel.kinds", laid_promptbook_feel_kinds)], narrowed := true }
def WholeBoundsUptoSaid : Prop := wholeBoundsUptoRow.holds Tryz.pinned (OpenSpec.upto wholeBoundsSpec)

end Rows
end Go.Proofs.YtalagblioepadaaGreatDoor
