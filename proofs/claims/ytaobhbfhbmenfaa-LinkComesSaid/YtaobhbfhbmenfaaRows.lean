/-
  No cell of these rows narrows 'for every input' (looked for: loops, veiled, ifaces, maps, wideKeys, modest, calm, conditions, laid).
  DERIVED. THE GIVEN ROWS OF THIS SEAT. 4 by the template 'for every input the law returns true; each argument reads behind the call as it read before'; 0 by the template 'total and deterministic' (their statements: YtaobhbfhbmenfaaTotals.lean).
  GIVEN WITH THE SEED: the statements are not yours to turn. If you find one false, say at which input.
  Laid BY PROGRAM, IN A SANDBOX (cutbox-rows.mjs): the forced cells as the released guide's own fill.sh prints them over the translation 6128b6507de470cc… (all of the seat's roots in one cut). By AI agents, Wed Nov 11 2026. No macro, syntax, notation, axiom, sorry.
-/
import Derived.Test.YtaobhbfhbmenfaaChecked
import GoSem.Claim
import GoSem.ClaimJoined
import GoSem.ClaimMapViews
import Derived.JoinedTies
import Derived.KernelRfl
namespace Go.Proofs.Ytaobhbfhbmenfaa
/- THE CELL 'sum', in the pinned program and in every row, IS THE sha256 OF THE DUMP (.gsa) THAT YtaobhbfhbmenfaaProg.lean LOADS. Nothing in Lean hashes anything: it is a label: what it is worth is what the hold of that sum in a sandbox is worth. -/
noncomputable def Try.pinned : Pinned := { name := "ytaobhbfhbmenfaa", sum := "6128b6507de470ccbbb89a84cf34469e8e6c50995f01f57e1d4070d0ce2646d7", checked := Try.checked }
namespace Rows
def none {H : Type} : Left H := { results := [], args := [] }

/-- 'promptbooklaw16.LinkOnce': WHATEVER THE INPUT: true; the input reads as it did. -/
def linkOnceSpec : ChangeSpec := { name := "linkOnce", fn := fun _ => fun
  | [d1, d2] => { results := [.lit (.bool true)], args := [d1, d2] }
  | _ => none }
def linkOnceRow : OpenClaim := { program := "ytaobhbfhbmenfaa", sum := "6128b6507de470ccbbb89a84cf34469e8e6c50995f01f57e1d4070d0ce2646d7", func := "promptbook/promptbooklaw16.LinkOnce", spec := "linkOnce", unfollowed := true, recurses := true, apart := false }
def LinkOnceSaid : Prop := linkOnceRow.holds Try.pinned (OpenSpec.ofChange linkOnceSpec)

/-- ITS FALSE NEIGHBOUR: 'it returns false'. Refute it at one input. -/
def linkOnceWrong : ChangeSpec := { name := "linkOnce", fn := fun _ => fun
  | [d1, d2] => { results := [.lit (.bool false)], args := [d1, d2] }
  | _ => none }
def LinkOnceWrongFalsely : Prop := linkOnceRow.holds Try.pinned (OpenSpec.ofChange linkOnceWrong)

/-- 'promptbooklaw16.LinkComes': WHATEVER THE INPUT: true; the input reads as it did. -/
def linkComesSpec : ChangeSpec := { name := "linkComes", fn := fun _ => fun
  | [d1, d2] => { results := [.lit (.bool true)], args := [d1, d2] }
  | _ => none }
def linkComesRow : OpenClaim := { program := "ytaobhbfhbmenfaa", sum := "6128b6507de470ccbbb89a84cf34469e8e6c50995f01f57e1d4070d0ce2646d7", func := "promptbook/promptbooklaw16.LinkComes", spec := "linkComes", unfollowed := true, recurses := true, apart := false }
def LinkComesSaid : Prop := linkComesRow.holds Try.pinned (OpenSpec.ofChange linkComesSpec)

/-- ITS FALSE NEIGHBOUR: 'it returns false'. Refute it at one input. -/
def linkComesWrong : ChangeSpec := { name := "linkComes", fn := fun _ => fun
  | [d1, d2] => { results := [.lit (.bool false)], args := [d1, d2] }
  | _ => none }
def LinkComesWrongFalsely : Prop := linkComesRow.holds Try.pinned (OpenSpec.ofChange linkComesWrong)

/-- 'promptbooklaw16.LinkWaits': WHATEVER THE INPUT: true; the input reads as it did. -/
def linkWaitsSpec : ChangeSpec := { name := "linkWaits", fn := fun _ => fun
  | [d1, d2] => { results := [.lit (.bool true)], args := [d1, d2] }
  | _ => none }
def linkWaitsRow : OpenClaim := { program := "ytaobhbfhbmenfaa", sum := "6128b6507de470ccbbb89a84cf34469e8e6c50995f01f57e1d4070d0ce2646d7", func := "promptbook/promptbooklaw16.LinkWaits", spec := "linkWaits", unfollowed := true, recurses := true, apart := false }
def LinkWaitsSaid : Prop := linkWaitsRow.holds Try.pinned (OpenSpec.ofChange linkWaitsSpec)

/-- ITS FALSE NEIGHBOUR: 'it returns false'. Refute it at one input. -/
def linkWaitsWrong : ChangeSpec := { name := "linkWaits", fn := fun _ => fun
  | [d1, d2] => { results := [.lit (.bool false)], args := [d1, d2] }
  | _ => none }
def LinkWaitsWrongFalsely : Prop := linkWaitsRow.holds Try.pinned (OpenSpec.ofChange linkWaitsWrong)

/-- 'promptbooklaw16.LinkNil': WHATEVER THE INPUT: true; the input reads as it did. -/
def linkNilSpec : ChangeSpec := { name := "linkNil", fn := fun _ => fun
  | [d] => { results := [.lit (.bool true)], args := [d] }
  | _ => none }
def linkNilRow : OpenClaim := { program := "ytaobhbfhbmenfaa", sum := "6128b6507de470ccbbb89a84cf34469e8e6c50995f01f57e1d4070d0ce2646d7", func := "promptbook/promptbooklaw16.LinkNil", spec := "linkNil", unfollowed := true, recurses := true, apart := false }
def LinkNilSaid : Prop := linkNilRow.holds Try.pinned (OpenSpec.ofChange linkNilSpec)

/-- ITS FALSE NEIGHBOUR: 'it returns false'. Refute it at one input. -/
def linkNilWrong : ChangeSpec := { name := "linkNil", fn := fun _ => fun
  | [d] => { results := [.lit (.bool false)], args := [d] }
  | _ => none }
def LinkNilWrongFalsely : Prop := linkNilRow.holds Try.pinned (OpenSpec.ofChange linkNilWrong)

/- THE SECOND FORM. 'bulk': how many values and letters a reading holds, each counted each time it is reached (what is shared counts as often as it is met; a slice's spare places count too). A statement '..UptoSaid' is the law's where the arguments, and the package variables that the reading takes, are together of bulk at most 1048576: NARROWER than '..Said'. Prove '..Said' where nothing that the law and all that it calls make is longer than what came in: it says more and counts as full. Else prove '..UptoSaid'. A law counts once. -/
mutual
def uptoBulk {H : Type} : DataW H → Nat
  | .lit (.string bytes) => bytes.length + 1
  | .lit _ => 1
  | .nil => 1
  | .ptr d => uptoBulk d + 1
  | .slice elems spare => uptoBulkAll elems + uptoBulkAll spare + 1
  | .agg parts => uptoBulkAll parts + 1
  | .iface _ d => uptoBulk d + 1
  | .map entries => uptoBulkEntries entries + 1
  | .held _ => 1
def uptoBulkAll {H : Type} : List (DataW H) → Nat
  | [] => 0
  | d :: r => uptoBulk d + uptoBulkAll r
def uptoBulkEntries {H : Type} : List (Lit × DataW H) → Nat
  | [] => 0
  | x :: r => uptoBulkEntry x + uptoBulkEntries r
def uptoBulkEntry {H : Type} : Lit × DataW H → Nat
  | (.string bytes, d) => bytes.length + uptoBulk d + 1
  | (_, d) => uptoBulk d + 1
 end
def uptoSmall : (H : Type) → List (DataW H) → Bool := fun _ ds => decide (uptoBulkAll ds ≤ 1048576)
def OpenSpec.upto (s : _root_.Go.ChangeSpec) : _root_.Go.OpenSpec := { _root_.Go.OpenSpec.ofChange s with cond := some uptoSmall }

/-- 'promptbooklaw16.LinkOnce', WHERE WHAT IT READS IS OF BULK AT MOST 1048576: true; the input reads as it did. -/
def linkOnceUptoRow : OpenClaim := { program := "ytaobhbfhbmenfaa", sum := "6128b6507de470ccbbb89a84cf34469e8e6c50995f01f57e1d4070d0ce2646d7", func := "promptbook/promptbooklaw16.LinkOnce", spec := "linkOnce", unfollowed := true, recurses := true, apart := false, narrowed := true }
def LinkOnceUptoSaid : Prop := linkOnceUptoRow.holds Try.pinned (OpenSpec.upto linkOnceSpec)

/-- 'promptbooklaw16.LinkComes', WHERE WHAT IT READS IS OF BULK AT MOST 1048576: true; the input reads as it did. -/
def linkComesUptoRow : OpenClaim := { program := "ytaobhbfhbmenfaa", sum := "6128b6507de470ccbbb89a84cf34469e8e6c50995f01f57e1d4070d0ce2646d7", func := "promptbook/promptbooklaw16.LinkComes", spec := "linkComes", unfollowed := true, recurses := true, apart := false, narrowed := true }
def LinkComesUptoSaid : Prop := linkComesUptoRow.holds Try.pinned (OpenSpec.upto linkComesSpec)

/-- 'promptbooklaw16.LinkWaits', WHERE WHAT IT READS IS OF BULK AT MOST 1048576: true; the input reads as it did. -/
def linkWaitsUptoRow : OpenClaim := { program := "ytaobhbfhbmenfaa", sum := "6128b6507de470ccbbb89a84cf34469e8e6c50995f01f57e1d4070d0ce2646d7", func := "promptbook/promptbooklaw16.LinkWaits", spec := "linkWaits", unfollowed := true, recurses := true, apart := false, narrowed := true }
def LinkWaitsUptoSaid : Prop := linkWaitsUptoRow.holds Try.pinned (OpenSpec.upto linkWaitsSpec)

/-- 'promptbooklaw16.LinkNil', WHERE WHAT IT READS IS OF BULK AT MOST 1048576: true; the input reads as it did. -/
def linkNilUptoRow : OpenClaim := { program := "ytaobhbfhbmenfaa", sum := "6128b6507de470ccbbb89a84cf34469e8e6c50995f01f57e1d4070d0ce2646d7", func := "promptbook/promptbooklaw16.LinkNil", spec := "linkNil", unfollowed := true, recurses := true, apart := false, narrowed := true }
def LinkNilUptoSaid : Prop := linkNilUptoRow.holds Try.pinned (OpenSpec.upto linkNilSpec)

end Rows
end Go.Proofs.Ytaobhbfhbmenfaa
