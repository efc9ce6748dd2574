/- The given statement of LinkNil: for every input the call returns true, and each argument reads afterwards as before. No further condition. (The frame: after the kit's proof-skeleton program.) -/
import Derived.Test.YtaobhbfhbmenfaaRows
import Derived.Test.YtaobhbfhbmenfaaLinkB
import Derived.WalkKit
import Derived.ProofKit
import Derived.OpenShut
import Derived.ShutString
import Derived.ChangeOld
import Derived.Below
namespace Go.Proofs.Ytaobhbfhbmenfaa.linkNil
open Go.ChangeShapes Go.WideShapes Go.ChangeAt Go.RowKit
open Go.ChangeMaps (open_string shut_string)
set_option linter.unusedVariables false
theorem own : ownKnob Try.prog.godebug = none := by kernel_rfl
theorem laidOut : laidOutB Try.prog = true := by kernel_rfl
theorem walk (c0 : List Value) (w : World) (l0 : LeavesAre w [.int .i64, .int .i64, .int .u8, .str, .int .i64, .int .u32, .int .u16, .int .u16, .ints .u8, .int .u32, .int .i64] c0) :
    Calls Try.prog 6 #[.agg c0.toArray] w fun e w' => e = .returned (.bool true) ∧ Below w.heap.size w w' := by
  obtain ⟨k, b, i, s, m, a, c, e0⟩ := act11_of l0
  rw [e0]
  exact law_LinkNil k b i s m a c w
set_option maxRecDepth 100000 in
theorem lifted (os : Os) (started : os.Started) (H : Type) (enc : TypeId × Value → H) :
    ReturnsInHanded {} Try.checked os 6 .any (Rows.linkNilSpec.pre6 enc Try.prog Try.f6 Rows.linkNilRow.domain false) (Rows.linkNilSpec.post enc Try.prog Try.f6 false true false false) := by
  refine returnsInHanded_of_change (C := Try.checked) own started (by kernel_rfl) Try.func6
    (ChangeSpec.witness6 (enc := enc) (C := Try.checked) false ⟨#[], #[.agg #[.int .i64 0, .int .i64 0, .int .u8 0, .string ByteArray.empty, .int .i64 0, .int .u32 0, .int .u16 0, .int .u16 0, .slice none 0 0, .int .u32 0, .int .i64 0]], []⟩ 8 (by kernel_rfl) (by kernel_rfl) (by kernel_rfl) (by kernel_rfl)) ?_
  intro W base args ds gs before hval0 hW hcnd _
  have hval : ∀ (j : Nat) t v, Try.f6.params[j]? = some t → args[j]? = some v → Value.okWide Try.prog W .any base t v := hval0
  have hW' := hW
  obtain ⟨p, q, hA0, hV, rfl, hfz, hnd⟩ := hW
  have hA : DataW.TrodAll enc Try.prog W 0 (fun _ => true) true Try.f6.params.toList args.toList ds p := hA0
  rw [Try.params6] at hA hval
  obtain ⟨v0, vs0, d0, ds0, p0, q0, hargs, rfl, rfl, h0, r0⟩ := trodAll_cons hA
  obtain ⟨rfl, rfl, rfl⟩ := trodAll_nil r0
  obtain rfl : args = #[v0] := by cases args; simp_all
  obtain ⟨rfl, rfl⟩ := trodVars_none hV
  obtain ⟨c0, rfl, hsz0⟩ := okWide_struct Try.underlying58 (hval 0 58 v0 rfl rfl)
  have k0 := h0
  have lt0 : ∀ x ∈ p0, x.block < W.heap.size := by obtain ⟨m, hm⟩ := k0; exact DataW.trod_lt m _ _ _ hm
  have l0 : LeavesAre W [.int .i64, .int .i64, .int .u8, .str, .int .i64, .int .u32, .int .u16, .int .u16, .ints .u8, .int .u32, .int .i64] c0.toList := by
    obtain ⟨fuel, hf⟩ := h0
    exact leaves_of_trod 8 58 _ _ _ _ (by kernel_rfl) (by simpa [Value.cells] using hf)
  obtain ⟨c0⟩ := c0
  clear hA0 hval0
  refine (walk c0 W l0).mono fun e W' ⟨he, bel⟩ => ?_
  subst he
  exact ⟨_, rfl, _, _, _, [], _, [], hW', trodAll_mk1 (shut_bool Try.underlying4 _), (trodAll_cons_mk (Below.trod laidOut (by kernel_rfl) (of_decide_eq_true (by kernel_rfl)) k0 bel lt0) trodAll_mk0), rfl, bel.frame _, fun h => by cases h⟩
theorem over : Rows.linkNilRow.holds Try.pinned (OpenSpec.ofChange Rows.linkNilSpec) :=
  OpenClaim.holds_of_wide 6 Try.f6 rfl rfl rfl rfl rfl rfl rfl ⟨rfl, rfl, rfl, rfl, rfl⟩ rfl rfl rfl rfl rfl (by kernel_rfl) Try.func6 (by kernel_rfl)
    (of_decide_eq_true (by kernel_rfl)) (by unfold Func.isWrapper; first | (rw [if_pos (by decide +kernel)]; kernel_rfl) | (rw [if_neg (by decide +kernel)]; exact ⟨rfl, rfl⟩))
    (fun os started H enc _ => lifted os started H enc)
/-- The given statement. -/
theorem proved : Rows.LinkNilSaid := over
end Go.Proofs.Ytaobhbfhbmenfaa.linkNil
