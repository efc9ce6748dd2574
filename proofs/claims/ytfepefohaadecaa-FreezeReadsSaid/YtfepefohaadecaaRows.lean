/-
  No cell of these rows narrows 'for every input' (looked for: loops, veiled, ifaces, maps, wideKeys, modest, calm, conditions, laid).
  DERIVED. THE GIVEN ROWS OF THIS SEAT. 7 by the template 'for every input the law returns true; each argument reads behind the call as it read before'; 0 by the template 'total and deterministic' (their statements: YtfepefohaadecaaTotals.lean).
  GIVEN WITH THE SEED: the statements are not yours to turn. If you find one false, say at which input.
  Laid BY PROGRAM, IN A SANDBOX (cutbox-rows.mjs): the forced cells as the released guide's own fill.sh prints them over the translation b44deff86730ff0c… (all of the seat's roots in one cut). By AI agents, Wed Nov 11 2026. No macro, syntax, notation, axiom, sorry.
-/
import Derived.Test.YtfepefohaadecaaChecked
import GoSem.Claim
import GoSem.ClaimJoined
import GoSem.ClaimMapViews
import Derived.JoinedTies
import Derived.KernelRfl
namespace Go.Proofs.Ytfepefohaadecaa
/- THE CELL 'sum', in the pinned program and in every row, IS THE sha256 OF THE DUMP (.gsa) THAT YtfepefohaadecaaProg.lean LOADS. Nothing in Lean hashes anything: it is a label: what it is worth is what the hold of that sum in a sandbox is worth. -/
noncomputable def Try.pinned : Pinned := { name := "ytfepefohaadecaa", sum := "b44deff86730ff0cdab165f334ebcf2f502bb3913982f66601d989ab9f140545", checked := Try.checked }
namespace Rows
def none {H : Type} : Left H := { results := [], args := [] }

/-- 'promptbooklaw13.FreezeDiffers': WHATEVER THE INPUT: true; the input reads as it did. -/
def freezeDiffersSpec : ChangeSpec := { name := "freezeDiffers", fn := fun _ => fun
  | [d1, d2] => { results := [.lit (.bool true)], args := [d1, d2] }
  | _ => none }
def freezeDiffersRow : OpenClaim := { program := "ytfepefohaadecaa", sum := "b44deff86730ff0cdab165f334ebcf2f502bb3913982f66601d989ab9f140545", func := "promptbook/promptbooklaw13.FreezeDiffers", spec := "freezeDiffers", unfollowed := true, recurses := true, plainKeys := false, apart := false }
def FreezeDiffersSaid : Prop := freezeDiffersRow.holds Try.pinned (OpenSpec.ofChange freezeDiffersSpec)

/-- ITS FALSE NEIGHBOUR: 'it returns false'. Refute it at one input. -/
def freezeDiffersWrong : ChangeSpec := { name := "freezeDiffers", fn := fun _ => fun
  | [d1, d2] => { results := [.lit (.bool false)], args := [d1, d2] }
  | _ => none }
def FreezeDiffersWrongFalsely : Prop := freezeDiffersRow.holds Try.pinned (OpenSpec.ofChange freezeDiffersWrong)

/-- 'promptbooklaw13.FreezeReads': WHATEVER THE INPUT: true; the input reads as it did. -/
def freezeReadsSpec : ChangeSpec := { name := "freezeReads", fn := fun _ => fun
  | [d] => { results := [.lit (.bool true)], args := [d] }
  | _ => none }
def freezeReadsRow : OpenClaim := { program := "ytfepefohaadecaa", sum := "b44deff86730ff0cdab165f334ebcf2f502bb3913982f66601d989ab9f140545", func := "promptbook/promptbooklaw13.FreezeReads", spec := "freezeReads", unfollowed := true, recurses := true, plainKeys := false, apart := false }
def FreezeReadsSaid : Prop := freezeReadsRow.holds Try.pinned (OpenSpec.ofChange freezeReadsSpec)

/-- ITS FALSE NEIGHBOUR: 'it returns false'. Refute it at one input. -/
def freezeReadsWrong : ChangeSpec := { name := "freezeReads", fn := fun _ => fun
  | [d] => { results := [.lit (.bool false)], args := [d] }
  | _ => none }
def FreezeReadsWrongFalsely : Prop := freezeReadsRow.holds Try.pinned (OpenSpec.ofChange freezeReadsWrong)

/-- 'promptbooklaw13.FreezePacks': WHATEVER THE INPUT: true; the input reads as it did. -/
def freezePacksSpec : ChangeSpec := { name := "freezePacks", fn := fun _ => fun
  | [d] => { results := [.lit (.bool true)], args := [d] }
  | _ => none }
def freezePacksRow : OpenClaim := { program := "ytfepefohaadecaa", sum := "b44deff86730ff0cdab165f334ebcf2f502bb3913982f66601d989ab9f140545", func := "promptbook/promptbooklaw13.FreezePacks", spec := "freezePacks", unfollowed := true, recurses := true, plainKeys := false, apart := false }
def FreezePacksSaid : Prop := freezePacksRow.holds Try.pinned (OpenSpec.ofChange freezePacksSpec)

/-- ITS FALSE NEIGHBOUR: 'it returns false'. Refute it at one input. -/
def freezePacksWrong : ChangeSpec := { name := "freezePacks", fn := fun _ => fun
  | [d] => { results := [.lit (.bool false)], args := [d] }
  | _ => none }
def FreezePacksWrongFalsely : Prop := freezePacksRow.holds Try.pinned (OpenSpec.ofChange freezePacksWrong)

/-- 'promptbooklaw35.LobbyLonger': WHATEVER THE INPUT: true; the input reads as it did. -/
def lobbyLongerSpec : ChangeSpec := { name := "lobbyLonger", fn := fun _ => fun
  | [d1, d2] => { results := [.lit (.bool true)], args := [d1, d2] }
  | _ => none }
def lobbyLongerRow : OpenClaim := { program := "ytfepefohaadecaa", sum := "b44deff86730ff0cdab165f334ebcf2f502bb3913982f66601d989ab9f140545", func := "promptbook/promptbooklaw35.LobbyLonger", spec := "lobbyLonger", unfollowed := true, recurses := true, plainKeys := false, apart := false }
def LobbyLongerSaid : Prop := lobbyLongerRow.holds Try.pinned (OpenSpec.ofChange lobbyLongerSpec)

/-- ITS FALSE NEIGHBOUR: 'it returns false'. Refute it at one input. -/
def lobbyLongerWrong : ChangeSpec := { name := "lobbyLonger", fn := fun _ => fun
  | [d1, d2] => { results := [.lit (.bool false)], args := [d1, d2] }
  | _ => none }
def LobbyLongerWrongFalsely : Prop := lobbyLongerRow.holds Try.pinned (OpenSpec.ofChange lobbyLongerWrong)

/-- 'promptbooklaw35.LobbyTrips': WHATEVER THE INPUT: true; the input reads as it did. -/
def lobbyTripsSpec : ChangeSpec := { name := "lobbyTrips", fn := fun _ => fun
  | [d1, d2] => { results := [.lit (.bool true)], args := [d1, d2] }
  | _ => none }
def lobbyTripsRow : OpenClaim := { program := "ytfepefohaadecaa", sum := "b44deff86730ff0cdab165f334ebcf2f502bb3913982f66601d989ab9f140545", func := "promptbook/promptbooklaw35.LobbyTrips", spec := "lobbyTrips", unfollowed := true, recurses := true, plainKeys := false, apart := false }
def LobbyTripsSaid : Prop := lobbyTripsRow.holds Try.pinned (OpenSpec.ofChange lobbyTripsSpec)

/-- ITS FALSE NEIGHBOUR: 'it returns false'. Refute it at one input. -/
def lobbyTripsWrong : ChangeSpec := { name := "lobbyTrips", fn := fun _ => fun
  | [d1, d2] => { results := [.lit (.bool false)], args := [d1, d2] }
  | _ => none }
def LobbyTripsWrongFalsely : Prop := lobbyTripsRow.holds Try.pinned (OpenSpec.ofChange lobbyTripsWrong)

/-- 'promptbooklaw35.LobbyPacks': WHATEVER THE INPUT: true; the input reads as it did. -/
def lobbyPacksSpec : ChangeSpec := { name := "lobbyPacks", fn := fun _ => fun
  | [d1, d2] => { results := [.lit (.bool true)], args := [d1, d2] }
  | _ => none }
def lobbyPacksRow : OpenClaim := { program := "ytfepefohaadecaa", sum := "b44deff86730ff0cdab165f334ebcf2f502bb3913982f66601d989ab9f140545", func := "promptbook/promptbooklaw35.LobbyPacks", spec := "lobbyPacks", unfollowed := true, recurses := true, plainKeys := false, apart := false }
def LobbyPacksSaid : Prop := lobbyPacksRow.holds Try.pinned (OpenSpec.ofChange lobbyPacksSpec)

/-- ITS FALSE NEIGHBOUR: 'it returns false'. Refute it at one input. -/
def lobbyPacksWrong : ChangeSpec := { name := "lobbyPacks", fn := fun _ => fun
  | [d1, d2] => { results := [.lit (.bool false)], args := [d1, d2] }
  | _ => none }
def LobbyPacksWrongFalsely : Prop := lobbyPacksRow.holds Try.pinned (OpenSpec.ofChange lobbyPacksWrong)

/-- 'promptbooklaw35.LobbyAgrees': WHATEVER THE INPUT: true; the input reads as it did. -/
def lobbyAgreesSpec : ChangeSpec := { name := "lobbyAgrees", fn := fun _ => fun
  | [d1, d2, d3] => { results := [.lit (.bool true)], args := [d1, d2, d3] }
  | _ => none }
def lobbyAgreesRow : OpenClaim := { program := "ytfepefohaadecaa", sum := "b44deff86730ff0cdab165f334ebcf2f502bb3913982f66601d989ab9f140545", func := "promptbook/promptbooklaw35.LobbyAgrees", spec := "lobbyAgrees", unfollowed := true, recurses := true, plainKeys := false, apart := false }
def LobbyAgreesSaid : Prop := lobbyAgreesRow.holds Try.pinned (OpenSpec.ofChange lobbyAgreesSpec)

/-- ITS FALSE NEIGHBOUR: 'it returns false'. Refute it at one input. -/
def lobbyAgreesWrong : ChangeSpec := { name := "lobbyAgrees", fn := fun _ => fun
  | [d1, d2, d3] => { results := [.lit (.bool false)], args := [d1, d2, d3] }
  | _ => none }
def LobbyAgreesWrongFalsely : Prop := lobbyAgreesRow.holds Try.pinned (OpenSpec.ofChange lobbyAgreesWrong)

/- THE SECOND FORM. 'bulk': how many values and letters a reading holds, each counted each time it is reached (what is shared counts as often as it is met; a slice's spare places count too). A statement '..UptoSaid' is the law's where the arguments, and the package variables that the reading takes, are together of bulk at most 1048576: NARROWER than '..Said'. Prove '..Said' where nothing that the law and all that it calls make is longer than what came in: it says more and counts as full. Else prove '..UptoSaid'. A law counts once. -/
mutual
def uptoBulk {H : Type} : DataW H → Nat
  | .lit (.string bytes) => bytes.length + 1
  | .lit _ => 1
  | .nil => 1
  | .ptr d => uptoBulk d + 1
  | .slice elems spare => uptoBulkAll elems + uptoBulkAll spare + 1
  | .agg parts => uptoBulkAll parts + 1
  | .iface _ d => uptoBulk d + 1
  | .map entries => uptoBulkEntries entries + 1
  | .held _ => 1
def uptoBulkAll {H : Type} : List (DataW H) → Nat
  | [] => 0
  | d :: r => uptoBulk d + uptoBulkAll r
def uptoBulkEntries {H : Type} : List (Lit × DataW H) → Nat
  | [] => 0
  | x :: r => uptoBulkEntry x + uptoBulkEntries r
def uptoBulkEntry {H : Type} : Lit × DataW H → Nat
  | (.string bytes, d) => bytes.length + uptoBulk d + 1
  | (_, d) => uptoBulk d + 1
 end
def uptoSmall : (H : Type) → List (DataW H) → Bool := fun _ ds => decide (uptoBulkAll ds ≤ 1048576)
def OpenSpec.upto (s : _root_.Go.ChangeSpec) : _root_.Go.OpenSpec := { _root_.Go.OpenSpec.ofChange s with cond := some uptoSmall }

/-- 'promptbooklaw13.FreezeDiffers', WHERE WHAT IT READS IS OF BULK AT MOST 1048576: true; the input reads as it did. -/
def freezeDiffersUptoRow : OpenClaim := { program := "ytfepefohaadecaa", sum := "b44deff86730ff0cdab165f334ebcf2f502bb3913982f66601d989ab9f140545", func := "promptbook/promptbooklaw13.FreezeDiffers", spec := "freezeDiffers", unfollowed := true, recurses := true, plainKeys := false, apart := false, narrowed := true }
def FreezeDiffersUptoSaid : Prop := freezeDiffersUptoRow.holds Try.pinned (OpenSpec.upto freezeDiffersSpec)

/-- 'promptbooklaw13.FreezeReads', WHERE WHAT IT READS IS OF BULK AT MOST 1048576: true; the input reads as it did. -/
def freezeReadsUptoRow : OpenClaim := { program := "ytfepefohaadecaa", sum := "b44deff86730ff0cdab165f334ebcf2f502bb3913982f66601d989ab9f140545", func := "promptbook/promptbooklaw13.FreezeReads", spec := "freezeReads", unfollowed := true, recurses := true, plainKeys := false, apart := false, narrowed := true }
def FreezeReadsUptoSaid : Prop := freezeReadsUptoRow.holds Try.pinned (OpenSpec.upto freezeReadsSpec)

/-- 'promptbooklaw13.FreezePacks', WHERE WHAT IT READS IS OF BULK AT MOST 1048576: true; the input reads as it did. -/
def freezePacksUptoRow : OpenClaim := { program := "ytfepefohaadecaa", sum := "b44deff86730ff0cdab165f334ebcf2f502bb3913982f66601d989ab9f140545", func := "promptbook/promptbooklaw13.FreezePacks", spec := "freezePacks", unfollowed := true, recurses := true, plainKeys := false, apart := false, narrowed := true }
def FreezePacksUptoSaid : Prop := freezePacksUptoRow.holds Try.pinned (OpenSpec.upto freezePacksSpec)

/-- 'promptbooklaw35.LobbyLonger', WHERE WHAT IT READS IS OF BULK AT MOST 1048576: true; the input reads as it did. -/
def lobbyLongerUptoRow : OpenClaim := { program := "ytfepefohaadecaa", sum := "b44deff86730ff0cdab165f334ebcf2f502bb3913982f66601d989ab9f140545", func := "promptbook/promptbooklaw35.LobbyLonger", spec := "lobbyLonger", unfollowed := true, recurses := true, plainKeys := false, apart := false, narrowed := true }
def LobbyLongerUptoSaid : Prop := lobbyLongerUptoRow.holds Try.pinned (OpenSpec.upto lobbyLongerSpec)

/-- 'promptbooklaw35.LobbyTrips', WHERE WHAT IT READS IS OF BULK AT MOST 1048576: true; the input reads as it did. -/
def lobbyTripsUptoRow : OpenClaim := { program := "ytfepefohaadecaa", sum := "b44deff86730ff0cdab165f334ebcf2f502bb3913982f66601d989ab9f140545", func := "promptbook/promptbooklaw35.LobbyTrips", spec := "lobbyTrips", unfollowed := true, recurses := true, plainKeys := false, apart := false, narrowed := true }
def LobbyTripsUptoSaid : Prop := lobbyTripsUptoRow.holds Try.pinned (OpenSpec.upto lobbyTripsSpec)

/-- 'promptbooklaw35.LobbyPacks', WHERE WHAT IT READS IS OF BULK AT MOST 1048576: true; the input reads as it did. -/
def lobbyPacksUptoRow : OpenClaim := { program := "ytfepefohaadecaa", sum := "b44deff86730ff0cdab165f334ebcf2f502bb3913982f66601d989ab9f140545", func := "promptbook/promptbooklaw35.LobbyPacks", spec := "lobbyPacks", unfollowed := true, recurses := true, plainKeys := false, apart := false, narrowed := true }
def LobbyPacksUptoSaid : Prop := lobbyPacksUptoRow.holds Try.pinned (OpenSpec.upto lobbyPacksSpec)

/-- 'promptbooklaw35.LobbyAgrees', WHERE WHAT IT READS IS OF BULK AT MOST 1048576: true; the input reads as it did. -/
def lobbyAgreesUptoRow : OpenClaim := { program := "ytfepefohaadecaa", sum := "b44deff86730ff0cdab165f334ebcf2f502bb3913982f66601d989ab9f140545", func := "promptbook/promptbooklaw35.LobbyAgrees", spec := "lobbyAgrees", unfollowed := true, recurses := true, plainKeys := false, apart := false, narrowed := true }
def LobbyAgreesUptoSaid : Prop := lobbyAgreesUptoRow.holds Try.pinned (OpenSpec.upto lobbyAgreesSpec)

end Rows
end Go.Proofs.Ytfepefohaadecaa
