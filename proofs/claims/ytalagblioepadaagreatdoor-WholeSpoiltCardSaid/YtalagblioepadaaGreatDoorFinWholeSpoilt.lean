/- The given statement of WholeSpoilt: for every input the call returns true, and each argument reads afterwards as before. No further condition. (The frame: after the kit's proof-skeleton program.) -/
import Derived.Test.YtalagblioepadaaGreatDoorRows
import Derived.Test.YtalagblioepadaaGreatDoorTie
import Derived.Test.YtalagblioepadaaGreatDoorCards
import Derived.Test.YtalagblioepadaaGreatDoorZa50
import Derived.Test.YtalagblioepadaaGreatDoorZa21
import Derived.WalkKit
import Derived.ProofKit
import Derived.OpenShut
import Derived.ShutString
import Derived.ChangeOld
import Derived.Below
import Derived.LaidMore
import Derived.Stop.Joined
import Derived.SevenTiedAt
namespace Go.Proofs.YtalagblioepadaaGreatDoor.wholeSpoilt
open Go.ChangeShapes Go.WideShapes Go.ChangeAt Go.RowKit
open Go.ChangeMaps (open_string shut_string)
set_option linter.unusedVariables false
theorem own : ownKnob Tryz.prog.godebug = none := by kernel_rfl
theorem laidOut : laidOutB Tryz.prog = true := by kernel_rfl
theorem walk (c0 : List Value) (a1 : Option Addr) (len1 cap1 : Nat) (x1 : List Value) (w : World) (l0 : LeavesAre w [.int .u32, .int .i64, .int .i64, .int .i64, .int .u32, .int .i64, .int .i64, .int .i64] c0) (w1 : Vals w 6 a1 len1 cap1 x1) (l1 : ∀ i, i < len1 → LeavesAre w [.int .i64, .int .i64, .int .i64, .int .i64, .int .u8, .int .u8] ((x1.drop (i * 6)).take 6)) :
    Calls Tryz.prog 5 #[.agg c0.toArray, .slice a1 len1 cap1] w fun e w' => e = .returned (.bool true) ∧ Below w.heap.size w w' := by
  obtain ⟨seed, d, n, me0, non0, pat, ent, voi, e0⟩ := setup_of l0
  rw [e0]
  obtain ⟨M, rfl, rfl, hM⟩ := mvs_of len1 x1 w1.1 l1
  exact law_WholeSpoilt seed d n me0 non0 pat ent voi a1 cap1 M w w1 hM
/-- the heap that the door leaves meets the condition -/
theorem door_met (os : Os) (args : Array Value) : laidMetH Tryz.prog Rows.wholeSpoiltRow.laid ((World.doorLaid Tryz.prog 20 os).forCall (fun _ _ => 0) ⟨#[], args, []⟩).memory :=
  laidMetH_of_parts3 (fuel := 8) (laidMet_of_run' 8 (by kernel_rfl) (by kernel_rfl)) (by kernel_rfl) (by kernel_rfl)
set_option maxRecDepth 100000 in
theorem lifted (os : Os) (started : os.Started) (H : Type) (enc : TypeId × Value → H) :
    ReturnsInHanded {} Tryz.checked os 5 .any (fun w args => (Rows.wholeSpoiltSpec.pre enc Tryz.prog Tryz.f5 [] false w args ∧ laidMetH Tryz.prog Rows.wholeSpoiltRow.laid w) ∧ sizedMet enc Tryz.prog Tryz.f5 (OpenSpec.ofChange Rows.wholeSpoiltSpec) false w args) (Rows.wholeSpoiltSpec.post enc Tryz.prog Tryz.f5 false true false false) := by
  refine returnsInHanded_of_change_and (C := Tryz.checked) (X := fun w _ => laidMetH Tryz.prog Rows.wholeSpoiltRow.laid w) (fun _ _ _ hh h => h.of_heap hh) own started (by kernel_rfl) Tryz.func5
    (ChangeSpec.witness_shaped (enc := enc) (C := Tryz.checked) (os := os) (X := fun w _ => laidMetH Tryz.prog Rows.wholeSpoiltRow.laid w) false (World.doorLaid Tryz.prog 20 os) #[.agg #[.int .u32 0, .int .i64 0, .int .i64 0, .int .i64 0, .int .u32 0, .int .i64 0, .int .i64 0, .int .i64 0], .slice none 0 0] 8 rfl (World.shaped_of_RefB (by kernel_rfl) (by kernel_rfl)) (by kernel_rfl) (by kernel_rfl) (by kernel_rfl) (door_met os _)) ?_
  intro W base args ds gs before hval0 hW _ _ hL _
  have hval : ∀ (j : Nat) t v, Tryz.f5.params[j]? = some t → args[j]? = some v → Value.okWide Tryz.prog W .any base t v := hval0
  have hW' := hW
  obtain ⟨p, q, hA0, hV, rfl, hfz, hnd⟩ := hW
  have hA : DataW.TrodAll enc Tryz.prog W 0 (fun _ => true) true Tryz.f5.params.toList args.toList ds p := hA0
  rw [Tryz.params5] at hA hval
  obtain ⟨v0, vs0, d0, ds0, p0, q0, hargs, rfl, rfl, h0, r0⟩ := trodAll_cons hA
  obtain ⟨v1, vs1, d1, ds1, p1, q1, rfl, rfl, rfl, h1, r1⟩ := trodAll_cons r0
  obtain ⟨rfl, rfl, rfl⟩ := trodAll_nil r1
  obtain rfl : args = #[v0, v1] := by cases args; simp_all
  obtain ⟨rfl, rfl⟩ := trodVars_none hV
  obtain ⟨c0, rfl, hsz0⟩ := okWide_struct Tryz.underlying26 (hval 0 26 v0 rfl rfl)
  have k0 := h0
  have lt0 : ∀ x ∈ p0, x.block < W.heap.size := by obtain ⟨m, hm⟩ := k0; exact DataW.trod_lt m _ _ _ hm
  have l0 : LeavesAre W [.int .u32, .int .i64, .int .i64, .int .i64, .int .u32, .int .i64, .int .i64, .int .i64] c0.toList := by
    obtain ⟨fuel, hf⟩ := h0
    exact leaves_of_trod 8 26 _ _ _ _ (by kernel_rfl) (by simpa [Value.cells] using hf)
  obtain ⟨c0⟩ := c0
  obtain ⟨a1, len1, cap1, rfl⟩ := okWide_slice Tryz.underlying27 (hval 1 27 v1 rfl rfl)
  have k1 := h1
  have lt1 : ∀ x ∈ p1, x.block < W.heap.size := by obtain ⟨m, hm⟩ := k1; exact DataW.trod_lt m _ _ _ hm
  obtain ⟨x1, w1, l1⟩ : ∃ xs, Vals W 6 a1 len1 cap1 xs ∧ ∀ i, i < len1 → LeavesAre W [.int .i64, .int .i64, .int .i64, .int .i64, .int .u8, .int .u8] ((xs.drop (i * 6)).take 6) := by
    obtain ⟨fuel, hf⟩ := h1
    exact rows_of_slice (f := 8) (ls := [.int .i64, .int .i64, .int .i64, .int .i64, .int .u8, .int .u8]) Tryz.underlying27 (by kernel_rfl) (by kernel_rfl) (by decide) (by simpa [Value.cells] using hf)
  clear hA0 hval0
  refine (walk c0 a1 len1 cap1 x1 W l0 w1 l1).mono fun e W' ⟨he, bel⟩ => ?_
  subst he
  exact ⟨_, rfl, _, _, _, [], _, [], hW', trodAll_mk1 (shut_bool Tryz.underlying4 _), (trodAll_cons_mk (Below.trod laidOut (by kernel_rfl) (of_decide_eq_true (by kernel_rfl)) k0 bel lt0) (trodAll_cons_mk (Below.trod laidOut (by kernel_rfl) (of_decide_eq_true (by kernel_rfl)) k1 bel lt1) trodAll_mk0)), rfl, bel.frame _, fun h => by cases h⟩
theorem and_mk {a b : Bool} (h : a = true) (k : b = true) : (a && b) = true := by rw [h, k]; rfl
set_option maxHeartbeats 4000000 in
theorem facts : joinedFacts Tryz.pinned.checked.prog 5 Tryz.f5 Rows.wholeSpoiltSpec Rows.wholeSpoiltRow = true := by
  unfold joinedFacts
  iterate 31 (with_reducible refine and_mk ?_ ?_)
  all_goals (as_aux_lemma => kernel_rfl)
theorem over : Rows.wholeSpoiltRow.holds Tryz.pinned (OpenSpec.ofChange Rows.wholeSpoiltSpec) :=
  OpenClaim.holds_of_wide 5 Tryz.f5 rfl rfl rfl rfl rfl rfl rfl ⟨rfl, rfl, rfl, rfl, rfl⟩ rfl rfl rfl rfl rfl (by as_aux_lemma => kernel_rfl) Tryz.func5 facts
    (of_decide_eq_true (by as_aux_lemma => kernel_rfl)) (by unfold Func.isWrapper; first | (rw [if_pos (by decide +kernel)]; kernel_rfl) | (rw [if_neg (by decide +kernel)]; exact ⟨rfl, rfl⟩))
    (fun os started H enc _ => lifted os started H enc)
/-- The given statement: the tied card. -/
theorem proved : Rows.WholeSpoiltCardSaid :=
  Claim7.holds_tied_plain_at .later [] [.data] true (true, "1e09d14b5e59fc77419f16ea5aee8aec69ba4c3aea8ff81753b3079a6f011c9e") false
    over (fun _ h => by cases h) (by as_aux_lemma => kernel_rfl) (fun _ h => by cases h) wholeSpoilt_row_tie rfl ⟨rfl, rfl⟩ (by as_aux_lemma => kernel_rfl) rfl
    (fun f fn hf hfn => by
      obtain rfl : f = 5 := Option.some.inj ((show Tryz.prog.funcNamed "promptbook/promptbooktop.WholeSpoilt" = some 5 by as_aux_lemma => kernel_rfl).symm.trans hf) |>.symm
      obtain rfl : fn = Tryz.f5 := (Option.some.inj (Tryz.func5.symm.trans hfn)).symm
      exact ⟨by as_aux_lemma => kernel_rfl, fun j t ht => by
        rw [Tryz.params5] at ht
        have hm : t ∈ [26, 27] := by simpa using Array.mem_of_getElem? ht
        have hall : ([26, 27].all fun u => !Tryz.prog.wantsStandIn u) = true := by as_aux_lemma => kernel_rfl
        exact (show Tryz.prog.wantsStandIn t = false by simpa using List.all_eq_true.1 hall t hm)⟩)
    (by as_aux_lemma => kernel_rfl)
end Go.Proofs.YtalagblioepadaaGreatDoor.wholeSpoilt
