/- The given statement of LobbyAgrees: for every input the call returns true, and each argument reads afterwards as before. No further condition. (The frame: after the kit's proof-skeleton program.) -/
import Derived.Test.YtfepefohaadecaaRows
import Derived.Test.YtfepefohaadecaaAgreeL
import Derived.Test.YtfepefohaadecaaOpen
import Derived.WalkKit
import Derived.ProofKit
import Derived.OpenShut
import Derived.ShutString
import Derived.ChangeOld
import Derived.Below
namespace Go.Proofs.Ytfepefohaadecaa.lobbyAgrees
open Go.ChangeShapes Go.WideShapes Go.ChangeAt Go.RowKit
open Go.ChangeMaps (open_string shut_string)
set_option linter.unusedVariables false
theorem own : ownKnob Try.prog.godebug = none := by kernel_rfl
theorem laidOut : laidOutB Try.prog = true := by kernel_rfl
theorem walk (c0 : List Value) (c1 : List Value) (a2 : Option Addr) (len2 cap2 : Nat) (z2 : List Int) (w : World) (l0 : LeavesAre w [.int .i64, .int .u32, .int .i64, .int .i64, .int .i64, .int .i64] c0) (l1 : LeavesAre w [.int .i64, .int .u32, .int .i64, .int .i64, .int .i64, .int .i64] c1) (w2 : len2 = z2.length ∧ Vals w 1 a2 len2 cap2 (z2.map fun x => .int .i64 x) ∧ ∀ n ∈ z2, (Lit.int .i64 n).wf = true) :
    Calls Try.prog 9 #[.agg c0.toArray, .agg c1.toArray, .slice a2 len2 cap2] w fun e w' => e = .returned (.bool true) ∧ Below w.heap.size w w' := by
  obtain ⟨o0, rfl, h0⟩ := off_of l0
  obtain ⟨o1, rfl, h1⟩ := off_of l1
  obtain ⟨rfl, hv, hwf⟩ := w2
  exact law_LobbyAgrees o0 o1 h0 h1 hv
set_option maxRecDepth 100000 in
theorem lifted (os : Os) (started : os.Started) (H : Type) (enc : TypeId × Value → H) :
    ReturnsInHanded {} Try.checked os 9 .any (Rows.lobbyAgreesSpec.pre6 enc Try.prog Try.f9 Rows.lobbyAgreesRow.domain false) (Rows.lobbyAgreesSpec.post enc Try.prog Try.f9 false true false false) := by
  refine returnsInHanded_of_change (C := Try.checked) own started (by kernel_rfl) Try.func9
    (ChangeSpec.witness6 (enc := enc) (C := Try.checked) false ⟨#[], #[.agg #[.int .i64 0, .int .u32 0, .int .i64 0, .int .i64 0, .int .i64 0, .int .i64 0], .agg #[.int .i64 0, .int .u32 0, .int .i64 0, .int .i64 0, .int .i64 0, .int .i64 0], .slice none 0 0], []⟩ 8 (by kernel_rfl) (by kernel_rfl) (by kernel_rfl) (by kernel_rfl)) ?_
  intro W base args ds gs before hval0 hW hcnd _
  have hval : ∀ (j : Nat) t v, Try.f9.params[j]? = some t → args[j]? = some v → Value.okWide Try.prog W .any base t v := hval0
  have hW' := hW
  obtain ⟨p, q, hA0, hV, rfl, hfz, hnd⟩ := hW
  have hA : DataW.TrodAll enc Try.prog W 0 (fun _ => true) true Try.f9.params.toList args.toList ds p := hA0
  rw [Try.params9] at hA hval
  obtain ⟨v0, vs0, d0, ds0, p0, q0, hargs, rfl, rfl, h0, r0⟩ := trodAll_cons hA
  obtain ⟨v1, vs1, d1, ds1, p1, q1, rfl, rfl, rfl, h1, r1⟩ := trodAll_cons r0
  obtain ⟨v2, vs2, d2, ds2, p2, q2, rfl, rfl, rfl, h2, r2⟩ := trodAll_cons r1
  obtain ⟨rfl, rfl, rfl⟩ := trodAll_nil r2
  obtain rfl : args = #[v0, v1, v2] := by cases args; simp_all
  obtain ⟨rfl, rfl⟩ := trodVars_none hV
  obtain ⟨c0, rfl, hsz0⟩ := okWide_struct Try.underlying63 (hval 0 63 v0 rfl rfl)
  have k0 := h0
  have lt0 : ∀ x ∈ p0, x.block < W.heap.size := by obtain ⟨m, hm⟩ := k0; exact DataW.trod_lt m _ _ _ hm
  have l0 : LeavesAre W [.int .i64, .int .u32, .int .i64, .int .i64, .int .i64, .int .i64] c0.toList := by
    obtain ⟨fuel, hf⟩ := h0
    exact leaves_of_trod 8 63 _ _ _ _ (by kernel_rfl) (by simpa [Value.cells] using hf)
  obtain ⟨c0⟩ := c0
  obtain ⟨c1, rfl, hsz1⟩ := okWide_struct Try.underlying63 (hval 1 63 v1 rfl rfl)
  have k1 := h1
  have lt1 : ∀ x ∈ p1, x.block < W.heap.size := by obtain ⟨m, hm⟩ := k1; exact DataW.trod_lt m _ _ _ hm
  have l1 : LeavesAre W [.int .i64, .int .u32, .int .i64, .int .i64, .int .i64, .int .i64] c1.toList := by
    obtain ⟨fuel, hf⟩ := h1
    exact leaves_of_trod 8 63 _ _ _ _ (by kernel_rfl) (by simpa [Value.cells] using hf)
  obtain ⟨c1⟩ := c1
  obtain ⟨a2, len2, cap2, rfl⟩ := okWide_slice Try.underlying52 (hval 2 52 v2 rfl rfl)
  have k2 := h2
  have lt2 : ∀ x ∈ p2, x.block < W.heap.size := by obtain ⟨m, hm⟩ := k2; exact DataW.trod_lt m _ _ _ hm
  obtain ⟨z2, w2⟩ : ∃ zs : List Int, len2 = zs.length ∧ Vals W 1 a2 len2 cap2 (zs.map fun x => .int .i64 x) ∧ ∀ n ∈ zs, (Lit.int .i64 n).wf = true := by
    obtain ⟨fuel, hf⟩ := h2
    obtain ⟨v, hcs, a, L, cap, hv, hV, hw⟩ := ints_of_trod Try.underlying52 Try.underlying3 (by kernel_rfl) hf
    simp only [Value.cells, List.cons.injEq, and_true] at hcs
    subst hcs
    simp only [Value.slice.injEq] at hv
    obtain ⟨rfl, rfl, rfl⟩ := hv
    exact ⟨L, rfl, hV, hw⟩
  clear hA0 hval0
  refine (walk c0 c1 a2 len2 cap2 z2 W l0 l1 w2).mono fun e W' ⟨he, bel⟩ => ?_
  subst he
  exact ⟨_, rfl, _, _, _, [], _, [], hW', trodAll_mk1 (shut_bool Try.underlying4 _), (trodAll_cons_mk (Below.trod laidOut (by kernel_rfl) (of_decide_eq_true (by kernel_rfl)) k0 bel lt0) (trodAll_cons_mk (Below.trod laidOut (by kernel_rfl) (of_decide_eq_true (by kernel_rfl)) k1 bel lt1) (trodAll_cons_mk (Below.trod laidOut (by kernel_rfl) (of_decide_eq_true (by kernel_rfl)) k2 bel lt2) trodAll_mk0))), rfl, bel.frame _, fun h => by cases h⟩
theorem over : Rows.lobbyAgreesRow.holds Try.pinned (OpenSpec.ofChange Rows.lobbyAgreesSpec) :=
  OpenClaim.holds_of_wide 9 Try.f9 rfl rfl rfl rfl rfl rfl rfl ⟨rfl, rfl, rfl, rfl, rfl⟩ rfl rfl rfl rfl rfl (by kernel_rfl) Try.func9 (by kernel_rfl)
    (of_decide_eq_true (by kernel_rfl)) (by unfold Func.isWrapper; first | (rw [if_pos (by decide +kernel)]; kernel_rfl) | (rw [if_neg (by decide +kernel)]; exact ⟨rfl, rfl⟩))
    (fun os started H enc _ => lifted os started H enc)
/-- The given statement. -/
theorem proved : Rows.LobbyAgreesSaid := over
end Go.Proofs.Ytfepefohaadecaa.lobbyAgrees
