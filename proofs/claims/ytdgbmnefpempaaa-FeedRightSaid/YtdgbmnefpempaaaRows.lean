/-
  No cell of these rows narrows 'for every input' (looked for: loops, veiled, ifaces, maps, wideKeys, modest, calm, conditions, laid).
  DERIVED. THE GIVEN ROWS OF THIS SEAT. 5 by the template 'for every input the law returns true; each argument reads behind the call as it read before'; 0 by the template 'total and deterministic' (their statements: YtdgbmnefpempaaaTotals.lean).
  GIVEN WITH THE SEED: the statements are not yours to turn. If you find one false, say at which input.
  Laid BY PROGRAM, IN A SANDBOX (cutbox-rows.mjs): the forced cells as the released guide's own fill.sh prints them over the translation 3a6b42283c278a24… (all of the seat's roots in one cut). By AI agents, Wed Nov 11 2026. No macro, syntax, notation, axiom, sorry.
-/
import Derived.Test.YtdgbmnefpempaaaChecked
import GoSem.Claim
import GoSem.ClaimJoined
import GoSem.ClaimMapViews
import Derived.JoinedTies
import Derived.KernelRfl
namespace Go.Proofs.Ytdgbmnefpempaaa
/- THE CELL 'sum', in the pinned program and in every row, IS THE sha256 OF THE DUMP (.gsa) THAT YtdgbmnefpempaaaProg.lean LOADS. Nothing in Lean hashes anything: it is a label: what it is worth is what the hold of that sum in a sandbox is worth. -/
noncomputable def Try.pinned : Pinned := { name := "ytdgbmnefpempaaa", sum := "3a6b42283c278a2488160fd379ebef1ae089725e286d8edff900db9752e5fa91", checked := Try.checked }
namespace Rows
def none {H : Type} : Left H := { results := [], args := [] }

/-- 'promptbooklaw08.CableKeeps': WHATEVER THE INPUT: true; the input reads as it did. -/
def cableKeepsSpec : ChangeSpec := { name := "cableKeeps", fn := fun _ => fun
  | [d1, d2] => { results := [.lit (.bool true)], args := [d1, d2] }
  | _ => none }
def cableKeepsRow : OpenClaim := { program := "ytdgbmnefpempaaa", sum := "3a6b42283c278a2488160fd379ebef1ae089725e286d8edff900db9752e5fa91", func := "promptbook/promptbooklaw08.CableKeeps", spec := "cableKeeps", apart := false }
def CableKeepsSaid : Prop := cableKeepsRow.holds Try.pinned (OpenSpec.ofChange cableKeepsSpec)

/-- ITS FALSE NEIGHBOUR: 'it returns false'. Refute it at one input. -/
def cableKeepsWrong : ChangeSpec := { name := "cableKeeps", fn := fun _ => fun
  | [d1, d2] => { results := [.lit (.bool false)], args := [d1, d2] }
  | _ => none }
def CableKeepsWrongFalsely : Prop := cableKeepsRow.holds Try.pinned (OpenSpec.ofChange cableKeepsWrong)

/-- 'promptbooklaw08.CablePlays': WHATEVER THE INPUT: true; the input reads as it did. -/
def cablePlaysSpec : ChangeSpec := { name := "cablePlays", fn := fun _ => fun
  | [d1, d2] => { results := [.lit (.bool true)], args := [d1, d2] }
  | _ => none }
def cablePlaysRow : OpenClaim := { program := "ytdgbmnefpempaaa", sum := "3a6b42283c278a2488160fd379ebef1ae089725e286d8edff900db9752e5fa91", func := "promptbook/promptbooklaw08.CablePlays", spec := "cablePlays", apart := false }
def CablePlaysSaid : Prop := cablePlaysRow.holds Try.pinned (OpenSpec.ofChange cablePlaysSpec)

/-- ITS FALSE NEIGHBOUR: 'it returns false'. Refute it at one input. -/
def cablePlaysWrong : ChangeSpec := { name := "cablePlays", fn := fun _ => fun
  | [d1, d2] => { results := [.lit (.bool false)], args := [d1, d2] }
  | _ => none }
def CablePlaysWrongFalsely : Prop := cablePlaysRow.holds Try.pinned (OpenSpec.ofChange cablePlaysWrong)

/-- 'promptbooklaw08.CableNil': WHATEVER THE INPUT: true; the input reads as it did. -/
def cableNilSpec : ChangeSpec := { name := "cableNil", fn := fun _ => fun
  | [d] => { results := [.lit (.bool true)], args := [d] }
  | _ => none }
def cableNilRow : OpenClaim := { program := "ytdgbmnefpempaaa", sum := "3a6b42283c278a2488160fd379ebef1ae089725e286d8edff900db9752e5fa91", func := "promptbook/promptbooklaw08.CableNil", spec := "cableNil", apart := false }
def CableNilSaid : Prop := cableNilRow.holds Try.pinned (OpenSpec.ofChange cableNilSpec)

/-- ITS FALSE NEIGHBOUR: 'it returns false'. Refute it at one input. -/
def cableNilWrong : ChangeSpec := { name := "cableNil", fn := fun _ => fun
  | [d] => { results := [.lit (.bool false)], args := [d] }
  | _ => none }
def CableNilWrongFalsely : Prop := cableNilRow.holds Try.pinned (OpenSpec.ofChange cableNilWrong)

/-- 'promptbooklaw14.FeedRight': WHATEVER THE INPUT: true; the input reads as it did. -/
def feedRightSpec : ChangeSpec := { name := "feedRight", fn := fun _ => fun
  | [d] => { results := [.lit (.bool true)], args := [d] }
  | _ => none }
def feedRightRow : OpenClaim := { program := "ytdgbmnefpempaaa", sum := "3a6b42283c278a2488160fd379ebef1ae089725e286d8edff900db9752e5fa91", func := "promptbook/promptbooklaw14.FeedRight", spec := "feedRight", unfollowed := true, recurses := true, apart := false }
def FeedRightSaid : Prop := feedRightRow.holds Try.pinned (OpenSpec.ofChange feedRightSpec)

/-- ITS FALSE NEIGHBOUR: 'it returns false'. Refute it at one input. -/
def feedRightWrong : ChangeSpec := { name := "feedRight", fn := fun _ => fun
  | [d] => { results := [.lit (.bool false)], args := [d] }
  | _ => none }
def FeedRightWrongFalsely : Prop := feedRightRow.holds Try.pinned (OpenSpec.ofChange feedRightWrong)

/-- 'promptbooklaw14.FeedNil': WHATEVER THE INPUT: true; the input reads as it did. -/
def feedNilSpec : ChangeSpec := { name := "feedNil", fn := fun _ => fun
  | [d1, d2] => { results := [.lit (.bool true)], args := [d1, d2] }
  | _ => none }
def feedNilRow : OpenClaim := { program := "ytdgbmnefpempaaa", sum := "3a6b42283c278a2488160fd379ebef1ae089725e286d8edff900db9752e5fa91", func := "promptbook/promptbooklaw14.FeedNil", spec := "feedNil", unfollowed := true, recurses := true, apart := false }
def FeedNilSaid : Prop := feedNilRow.holds Try.pinned (OpenSpec.ofChange feedNilSpec)

/-- ITS FALSE NEIGHBOUR: 'it returns false'. Refute it at one input. -/
def feedNilWrong : ChangeSpec := { name := "feedNil", fn := fun _ => fun
  | [d1, d2] => { results := [.lit (.bool false)], args := [d1, d2] }
  | _ => none }
def FeedNilWrongFalsely : Prop := feedNilRow.holds Try.pinned (OpenSpec.ofChange feedNilWrong)

/- THE SECOND FORM. 'bulk': how many values and letters a reading holds, each counted each time it is reached (what is shared counts as often as it is met; a slice's spare places count too). A statement '..UptoSaid' is the law's where the arguments, and the package variables that the reading takes, are together of bulk at most 1048576: NARROWER than '..Said'. Prove '..Said' where nothing that the law and all that it calls make is longer than what came in: it says more and counts as full. Else prove '..UptoSaid'. A law counts once. -/
mutual
def uptoBulk {H : Type} : DataW H → Nat
  | .lit (.string bytes) => bytes.length + 1
  | .lit _ => 1
  | .nil => 1
  | .ptr d => uptoBulk d + 1
  | .slice elems spare => uptoBulkAll elems + uptoBulkAll spare + 1
  | .agg parts => uptoBulkAll parts + 1
  | .iface _ d => uptoBulk d + 1
  | .map entries => uptoBulkEntries entries + 1
  | .held _ => 1
def uptoBulkAll {H : Type} : List (DataW H) → Nat
  | [] => 0
  | d :: r => uptoBulk d + uptoBulkAll r
def uptoBulkEntries {H : Type} : List (Lit × DataW H) → Nat
  | [] => 0
  | x :: r => uptoBulkEntry x + uptoBulkEntries r
def uptoBulkEntry {H : Type} : Lit × DataW H → Nat
  | (.string bytes, d) => bytes.length + uptoBulk d + 1
  | (_, d) => uptoBulk d + 1
 end
def uptoSmall : (H : Type) → List (DataW H) → Bool := fun _ ds => decide (uptoBulkAll ds ≤ 1048576)
def OpenSpec.upto (s : _root_.Go.ChangeSpec) : _root_.Go.OpenSpec := { _root_.Go.OpenSpec.ofChange s with cond := some uptoSmall }

/-- 'promptbooklaw08.CableKeeps', WHERE WHAT IT READS IS OF BULK AT MOST 1048576: true; the input reads as it did. -/
def cableKeepsUptoRow : OpenClaim := { program := "ytdgbmnefpempaaa", sum := "3a6b42283c278a2488160fd379ebef1ae089725e286d8edff900db9752e5fa91", func := "promptbook/promptbooklaw08.CableKeeps", spec := "cableKeeps", apart := false, narrowed := true }
def CableKeepsUptoSaid : Prop := cableKeepsUptoRow.holds Try.pinned (OpenSpec.upto cableKeepsSpec)

/-- 'promptbooklaw08.CablePlays', WHERE WHAT IT READS IS OF BULK AT MOST 1048576: true; the input reads as it did. -/
def cablePlaysUptoRow : OpenClaim := { program := "ytdgbmnefpempaaa", sum := "3a6b42283c278a2488160fd379ebef1ae089725e286d8edff900db9752e5fa91", func := "promptbook/promptbooklaw08.CablePlays", spec := "cablePlays", apart := false, narrowed := true }
def CablePlaysUptoSaid : Prop := cablePlaysUptoRow.holds Try.pinned (OpenSpec.upto cablePlaysSpec)

/-- 'promptbooklaw08.CableNil', WHERE WHAT IT READS IS OF BULK AT MOST 1048576: true; the input reads as it did. -/
def cableNilUptoRow : OpenClaim := { program := "ytdgbmnefpempaaa", sum := "3a6b42283c278a2488160fd379ebef1ae089725e286d8edff900db9752e5fa91", func := "promptbook/promptbooklaw08.CableNil", spec := "cableNil", apart := false, narrowed := true }
def CableNilUptoSaid : Prop := cableNilUptoRow.holds Try.pinned (OpenSpec.upto cableNilSpec)

/-- 'promptbooklaw14.FeedRight', WHERE WHAT IT READS IS OF BULK AT MOST 1048576: true; the input reads as it did. -/
def feedRightUptoRow : OpenClaim := { program := "ytdgbmnefpempaaa", sum := "3a6b42283c278a2488160fd379ebef1ae089725e286d8edff900db9752e5fa91", func := "promptbook/promptbooklaw14.FeedRight", spec := "feedRight", unfollowed := true, recurses := true, apart := false, narrowed := true }
def FeedRightUptoSaid : Prop := feedRightUptoRow.holds Try.pinned (OpenSpec.upto feedRightSpec)

/-- 'promptbooklaw14.FeedNil', WHERE WHAT IT READS IS OF BULK AT MOST 1048576: true; the input reads as it did. -/
def feedNilUptoRow : OpenClaim := { program := "ytdgbmnefpempaaa", sum := "3a6b42283c278a2488160fd379ebef1ae089725e286d8edff900db9752e5fa91", func := "promptbook/promptbooklaw14.FeedNil", spec := "feedNil", unfollowed := true, recurses := true, apart := false, narrowed := true }
def FeedNilUptoSaid : Prop := feedNilUptoRow.holds Try.pinned (OpenSpec.upto feedNilSpec)

end Rows
end Go.Proofs.Ytdgbmnefpempaaa
