/- game: whether a player may be, whether a shot may be. -/
import Derived.Test.YtfepefohaadecaaShr
namespace Go.Proofs.Ytfepefohaadecaa
open Go.RowKit
set_option maxRecDepth 10000
variable {w : World}
theorem after_cell {w : World} {p : Addr} {v : Value} (h : w.cell? p = some v) (x : After w) : x.to.cell? p = some v :=
  (World.cell?_of_block (x.below.block p.block (World.block_lt_of_cell? w p h))).trans h
def inR (n a b : Int) : Bool := decide (a ≤ n) && decide (n ≤ b)
/-- may a player be: its numbers from the facing on, its place -/
def plyOk (f hp co wi dn sc x y : Int) : Bool := inR f 0 65535 && (inR hp 0 3 && (inR co 0 8 && (inR wi 0 20 && (inR dn 0 30 && (inR sc 0 2 && (inB (-3932160) (-3932160) 3932160 3932160 x y && (decide (hp > 0) == decide (dn = 0))))))))
set_option maxHeartbeats 4000000 in
theorem gm_player (x y u v f hp co wi dn sc : Int) (w : World) : Calls Try.prog 68 #[.agg #[.int .i32 x, .int .i32 y, .int .i32 u, .int .i32 v, .int .i64 f, .int .i64 hp, .int .i64 co, .int .i64 wi, .int .i64 dn, .int .i64 sc]] w fun e w' => e = .returned (.bool (plyOk f hp co wi dn sc x y)) ∧ Below w.heap.size w w' := by
  have h1 := fun W => gm_within f 0 65535 W
  have h2 := fun W => gm_within hp 0 3 W
  have h3 := fun W => gm_within co 0 8 W
  have h4 := fun W => gm_within wi 0 20 W
  have h5 := fun W => gm_within dn 0 30 W
  have h6 := fun W => gm_within sc 0 2 W
  have h7 := fun W => sh_Inside (-3932160) (-3932160) 3932160 3932160 x y W
  unfold plyOk inR
  generalize (decide (0 ≤ f) && decide (f ≤ 65535)) = c1 at *
  generalize (decide (0 ≤ hp) && decide (hp ≤ 3)) = c2 at *
  generalize (decide (0 ≤ co) && decide (co ≤ 8)) = c3 at *
  generalize (decide (0 ≤ wi) && decide (wi ≤ 20)) = c4 at *
  generalize (decide (0 ≤ dn) && decide (dn ≤ 30)) = c5 at *
  generalize (decide (0 ≤ sc) && decide (sc ≤ 2)) = c6 at *
  generalize inB (-3932160) (-3932160) 3932160 3932160 x y = c7 at *
  have y0 := after_cell (blk_cell (blk_new w (.cells #[.int .i32 x, .int .i32 y, .int .i32 u, .int .i32 v, .int .i64 f, .int .i64 hp, .int .i64 co, .int .i64 wi, .int .i64 dn, .int .i64 sc] 27)) (k := 0) rfl)
  have y1 := after_cell (blk_cell (blk_new w (.cells #[.int .i32 x, .int .i32 y, .int .i32 u, .int .i32 v, .int .i64 f, .int .i64 hp, .int .i64 co, .int .i64 wi, .int .i64 dn, .int .i64 sc] 27)) (k := 1) rfl)
  have y2 := after_cell (blk_cell (blk_new w (.cells #[.int .i32 x, .int .i32 y, .int .i32 u, .int .i32 v, .int .i64 f, .int .i64 hp, .int .i64 co, .int .i64 wi, .int .i64 dn, .int .i64 sc] 27)) (k := 2) rfl)
  have y3 := after_cell (blk_cell (blk_new w (.cells #[.int .i32 x, .int .i32 y, .int .i32 u, .int .i32 v, .int .i64 f, .int .i64 hp, .int .i64 co, .int .i64 wi, .int .i64 dn, .int .i64 sc] 27)) (k := 3) rfl)
  have y4 := after_cell (blk_cell (blk_new w (.cells #[.int .i32 x, .int .i32 y, .int .i32 u, .int .i32 v, .int .i64 f, .int .i64 hp, .int .i64 co, .int .i64 wi, .int .i64 dn, .int .i64 sc] 27)) (k := 4) rfl)
  have y5 := after_cell (blk_cell (blk_new w (.cells #[.int .i32 x, .int .i32 y, .int .i32 u, .int .i32 v, .int .i64 f, .int .i64 hp, .int .i64 co, .int .i64 wi, .int .i64 dn, .int .i64 sc] 27)) (k := 5) rfl)
  have y6 := after_cell (blk_cell (blk_new w (.cells #[.int .i32 x, .int .i32 y, .int .i32 u, .int .i32 v, .int .i64 f, .int .i64 hp, .int .i64 co, .int .i64 wi, .int .i64 dn, .int .i64 sc] 27)) (k := 6) rfl)
  have y7 := after_cell (blk_cell (blk_new w (.cells #[.int .i32 x, .int .i32 y, .int .i32 u, .int .i32 v, .int .i64 f, .int .i64 hp, .int .i64 co, .int .i64 wi, .int .i64 dn, .int .i64 sc] 27)) (k := 7) rfl)
  have y8 := after_cell (blk_cell (blk_new w (.cells #[.int .i32 x, .int .i32 y, .int .i32 u, .int .i32 v, .int .i64 f, .int .i64 hp, .int .i64 co, .int .i64 wi, .int .i64 dn, .int .i64 sc] 27)) (k := 8) rfl)
  have y9 := after_cell (blk_cell (blk_new w (.cells #[.int .i32 x, .int .i32 y, .int .i32 u, .int .i32 v, .int .i64 f, .int .i64 hp, .int .i64 co, .int .i64 wi, .int .i64 dn, .int .i64 sc] 27)) (k := 9) rfl)
  cases c1
  · go_enter Try.func68, Try.ntmps68
    go_wp2_with fail
    refine wp_region_after (by kernel_rfl) (by kernel_rfl) ?_
    repeat (go_big_quiet_step (first | (go_at_call 69; first | (with_reducible exact Calls.after_same (h1 _)) | (with_reducible exact Calls.after_same (h2 _)) | (with_reducible exact Calls.after_same (h3 _)) | (with_reducible exact Calls.after_same (h4 _)) | (with_reducible exact Calls.after_same (h5 _)) | (with_reducible exact Calls.after_same (h6 _))) | (go_at_call 95; exact Calls.after_of (gm_yard _)) | (go_at_call 93; exact Calls.after_of (h7 _))))
    refine wpQuiet_nil ?_
    intro _ hw2
    obtain ⟨x2, hw3⟩ := hw2
    subst hw3
    go_wp2_with fail
    go_ret
    exact ⟨by first | rfl | simp_all, (((Below.refl _ w).alloc (Nat.le_refl _) _).trans (x2.below.mono (by simp)))⟩
  · skip
    cases c2
    · go_enter Try.func68, Try.ntmps68
      go_wp2_with fail
      refine wp_region_after (by kernel_rfl) (by kernel_rfl) ?_
      repeat (go_big_quiet_step (first | (go_at_call 69; first | (with_reducible exact Calls.after_same (h1 _)) | (with_reducible exact Calls.after_same (h2 _)) | (with_reducible exact Calls.after_same (h3 _)) | (with_reducible exact Calls.after_same (h4 _)) | (with_reducible exact Calls.after_same (h5 _)) | (with_reducible exact Calls.after_same (h6 _))) | (go_at_call 95; exact Calls.after_of (gm_yard _)) | (go_at_call 93; exact Calls.after_of (h7 _))))
      refine wpQuiet_nil ?_
      intro _ hw2
      obtain ⟨x2, hw3⟩ := hw2
      subst hw3
      go_wp2_with fail
      go_ret
      exact ⟨by first | rfl | simp_all, (((Below.refl _ w).alloc (Nat.le_refl _) _).trans (x2.below.mono (by simp)))⟩
    · skip
      cases c3
      · go_enter Try.func68, Try.ntmps68
        go_wp2_with fail
        refine wp_region_after (by kernel_rfl) (by kernel_rfl) ?_
        repeat (go_big_quiet_step (first | (go_at_call 69; first | (with_reducible exact Calls.after_same (h1 _)) | (with_reducible exact Calls.after_same (h2 _)) | (with_reducible exact Calls.after_same (h3 _)) | (with_reducible exact Calls.after_same (h4 _)) | (with_reducible exact Calls.after_same (h5 _)) | (with_reducible exact Calls.after_same (h6 _))) | (go_at_call 95; exact Calls.after_of (gm_yard _)) | (go_at_call 93; exact Calls.after_of (h7 _))))
        refine wpQuiet_nil ?_
        intro _ hw2
        obtain ⟨x2, hw3⟩ := hw2
        subst hw3
        go_wp2_with fail
        go_ret
        exact ⟨by first | rfl | simp_all, (((Below.refl _ w).alloc (Nat.le_refl _) _).trans (x2.below.mono (by simp)))⟩
      · skip
        cases c4
        · go_enter Try.func68, Try.ntmps68
          go_wp2_with fail
          refine wp_region_after (by kernel_rfl) (by kernel_rfl) ?_
          repeat (go_big_quiet_step (first | (go_at_call 69; first | (with_reducible exact Calls.after_same (h1 _)) | (with_reducible exact Calls.after_same (h2 _)) | (with_reducible exact Calls.after_same (h3 _)) | (with_reducible exact Calls.after_same (h4 _)) | (with_reducible exact Calls.after_same (h5 _)) | (with_reducible exact Calls.after_same (h6 _))) | (go_at_call 95; exact Calls.after_of (gm_yard _)) | (go_at_call 93; exact Calls.after_of (h7 _))))
          refine wpQuiet_nil ?_
          intro _ hw2
          obtain ⟨x2, hw3⟩ := hw2
          subst hw3
          go_wp2_with fail
          go_ret
          exact ⟨by first | rfl | simp_all, (((Below.refl _ w).alloc (Nat.le_refl _) _).trans (x2.below.mono (by simp)))⟩
        · skip
          cases c5
          · go_enter Try.func68, Try.ntmps68
            go_wp2_with fail
            refine wp_region_after (by kernel_rfl) (by kernel_rfl) ?_
            repeat (go_big_quiet_step (first | (go_at_call 69; first | (with_reducible exact Calls.after_same (h1 _)) | (with_reducible exact Calls.after_same (h2 _)) | (with_reducible exact Calls.after_same (h3 _)) | (with_reducible exact Calls.after_same (h4 _)) | (with_reducible exact Calls.after_same (h5 _)) | (with_reducible exact Calls.after_same (h6 _))) | (go_at_call 95; exact Calls.after_of (gm_yard _)) | (go_at_call 93; exact Calls.after_of (h7 _))))
            refine wpQuiet_nil ?_
            intro _ hw2
            obtain ⟨x2, hw3⟩ := hw2
            subst hw3
            go_wp2_with fail
            go_ret
            exact ⟨by first | rfl | simp_all, (((Below.refl _ w).alloc (Nat.le_refl _) _).trans (x2.below.mono (by simp)))⟩
          · skip
            cases c6
            · go_enter Try.func68, Try.ntmps68
              go_wp2_with fail
              refine wp_region_after (by kernel_rfl) (by kernel_rfl) ?_
              repeat (go_big_quiet_step (first | (go_at_call 69; first | (with_reducible exact Calls.after_same (h1 _)) | (with_reducible exact Calls.after_same (h2 _)) | (with_reducible exact Calls.after_same (h3 _)) | (with_reducible exact Calls.after_same (h4 _)) | (with_reducible exact Calls.after_same (h5 _)) | (with_reducible exact Calls.after_same (h6 _))) | (go_at_call 95; exact Calls.after_of (gm_yard _)) | (go_at_call 93; exact Calls.after_of (h7 _))))
              refine wpQuiet_nil ?_
              intro _ hw2
              obtain ⟨x2, hw3⟩ := hw2
              subst hw3
              go_wp2_with fail
              go_ret
              exact ⟨by first | rfl | simp_all, (((Below.refl _ w).alloc (Nat.le_refl _) _).trans (x2.below.mono (by simp)))⟩
            · skip
              cases c7
              · go_enter Try.func68, Try.ntmps68
                go_wp2_with fail
                refine wp_region_after (by kernel_rfl) (by kernel_rfl) ?_
                repeat (go_big_quiet_step (first | (go_at_call 69; first | (with_reducible exact Calls.after_same (h1 _)) | (with_reducible exact Calls.after_same (h2 _)) | (with_reducible exact Calls.after_same (h3 _)) | (with_reducible exact Calls.after_same (h4 _)) | (with_reducible exact Calls.after_same (h5 _)) | (with_reducible exact Calls.after_same (h6 _))) | (go_at_call 95; exact Calls.after_of (gm_yard _)) | (go_at_call 93; exact Calls.after_of (h7 _))))
                refine wpQuiet_nil ?_
                intro _ hw2
                obtain ⟨x2, hw3⟩ := hw2
                subst hw3
                go_wp2_with fail
                go_ret
                exact ⟨by first | rfl | simp_all, (((Below.refl _ w).alloc (Nat.le_refl _) _).trans (x2.below.mono (by simp)))⟩
              · skip
                by_cases e1 : hp > 0 <;> by_cases e2 : dn = 0
                all_goals
                  try subst e2
                  go_enter Try.func68, Try.ntmps68
                  go_wp2_with fail
                  refine wp_region_after (by kernel_rfl) (by kernel_rfl) ?_
                  repeat (go_big_quiet_step (first | (go_at_call 69; first | (with_reducible exact Calls.after_same (h1 _)) | (with_reducible exact Calls.after_same (h2 _)) | (with_reducible exact Calls.after_same (h3 _)) | (with_reducible exact Calls.after_same (h4 _)) | (with_reducible exact Calls.after_same (h5 _)) | (with_reducible exact Calls.after_same (h6 _))) | (go_at_call 95; exact Calls.after_of (gm_yard _)) | (go_at_call 93; exact Calls.after_of (h7 _))))
                  refine wpQuiet_nil ?_
                  intro _ hw2
                  obtain ⟨x2, hw3⟩ := hw2
                  subst hw3
                  go_wp2_with fail
                  go_ret
                  exact ⟨by first | rfl | simp_all, (((Below.refl _ w).alloc (Nat.le_refl _) _).trans (x2.below.mono (by simp)))⟩
def isNo (x y u v ow li : Int) : Bool := decide (x = 0 ∧ y = 0 ∧ u = 0 ∧ v = 0 ∧ ow = 0 ∧ li = 0)
theorem sho_eql (a b c d e f : Int) (w : World) : (binOp .eql 30 (.agg #[.int .i32 a, .int .i32 b, .int .i32 c, .int .i32 d, .int .i64 e, .int .i64 f]) (.agg #[.int .i32 0, .int .i32 0, .int .i32 0, .int .i32 0, .int .i64 0, .int .i64 0])).run Try.prog w = .ok (.bool (isNo a b c d e f)) w := by
  have u3 := Try.underlying3
  have a3 := Try.isAgg3
  have z3 := Try.sizeOf3
  have u4 := Try.underlying23
  have a4 := Try.isAgg23
  have z4 := Try.sizeOf23
  have a5 := Try.isAgg25
  have z5 := Try.sizeOf25
  have hS : Try.prog.underlying 30 = some (.struct (Try.prog.fieldsOf 30)) := by kernel_rfl
  have hp : Try.prog.stoodInHeld 30 = false := by kernel_rfl
  have hv := vec_eq0
  rw [run_eql_struct, show (10000 : Nat) = 9999 + 1 from rfl, run_equalIn_agg w 9999 30 _ _ hS hp]
  simp only [Program.fieldsOf, Try.underlying30]
  unfold isNo
  clear hS hp
  go_simp
  by_cases h1 : a = 0 <;> by_cases h2 : b = 0 <;> by_cases h3 : c = 0 <;> by_cases h4 : d = 0 <;> by_cases h5 : e = 0 <;> by_cases h6 : f = 0 <;> simp [h1, h2, h3, h4, h5, h6]
/-- may a shot be -/
def shoOk (x y u v ow li : Int) : Bool := isNo x y u v ow li || (inR ow 1 2 && (inR li 1 40 && inB (-4194304) (-4194304) 4194304 4194304 x y))
theorem gm_shot (x y u v ow li : Int) (w : World) : Calls Try.prog 67 #[.agg #[.int .i32 x, .int .i32 y, .int .i32 u, .int .i32 v, .int .i64 ow, .int .i64 li]] w fun e w' => e = .returned (.bool (shoOk x y u v ow li)) ∧ Below w.heap.size w w' := by
  have h1 := fun W => gm_within ow 1 2 W
  have h2 := fun W => gm_within li 1 40 W
  have h7 := fun W => sh_Inside (-4194304) (-4194304) 4194304 4194304 x y W
  have hq := fun W => sho_eql x y u v ow li W
  unfold shoOk inR
  generalize (decide (1 ≤ ow) && decide (ow ≤ 2)) = c1 at *
  generalize (decide (1 ≤ li) && decide (li ≤ 40)) = c2 at *
  generalize inB (-4194304) (-4194304) 4194304 4194304 x y = c7 at *
  generalize isNo x y u v ow li = c0 at *
  have y0 := after_cell (blk_cell (blk_new w (.cells #[.int .i32 x, .int .i32 y, .int .i32 u, .int .i32 v, .int .i64 ow, .int .i64 li] 30)) (k := 0) rfl)
  have y1 := after_cell (blk_cell (blk_new w (.cells #[.int .i32 x, .int .i32 y, .int .i32 u, .int .i32 v, .int .i64 ow, .int .i64 li] 30)) (k := 1) rfl)
  have y2 := after_cell (blk_cell (blk_new w (.cells #[.int .i32 x, .int .i32 y, .int .i32 u, .int .i32 v, .int .i64 ow, .int .i64 li] 30)) (k := 2) rfl)
  have y3 := after_cell (blk_cell (blk_new w (.cells #[.int .i32 x, .int .i32 y, .int .i32 u, .int .i32 v, .int .i64 ow, .int .i64 li] 30)) (k := 3) rfl)
  have y4 := after_cell (blk_cell (blk_new w (.cells #[.int .i32 x, .int .i32 y, .int .i32 u, .int .i32 v, .int .i64 ow, .int .i64 li] 30)) (k := 4) rfl)
  have y5 := after_cell (blk_cell (blk_new w (.cells #[.int .i32 x, .int .i32 y, .int .i32 u, .int .i32 v, .int .i64 ow, .int .i64 li] 30)) (k := 5) rfl)
  cases c0
  · cases c1
    · go_enter Try.func67, Try.ntmps67
      go_wp2_with fail
      refine wp_region_after (by kernel_rfl) (by kernel_rfl) ?_
      repeat (go_big_quiet_step (first | (go_at_call 69; first | (with_reducible exact Calls.after_same (h1 _)) | (with_reducible exact Calls.after_same (h2 _))) | (go_at_call 94; exact Calls.after_of (gm_arena _)) | (go_at_call 93; exact Calls.after_of (h7 _))))
      refine wpQuiet_nil ?_
      intro _ hw2
      obtain ⟨x2, hw3⟩ := hw2
      subst hw3
      go_wp2_with fail
      go_ret
      exact ⟨by first | rfl | simp_all, (((Below.refl _ w).alloc (Nat.le_refl _) _).trans (x2.below.mono (by simp)))⟩
    · cases c2
      · go_enter Try.func67, Try.ntmps67
        go_wp2_with fail
        refine wp_region_after (by kernel_rfl) (by kernel_rfl) ?_
        repeat (go_big_quiet_step (first | (go_at_call 69; first | (with_reducible exact Calls.after_same (h1 _)) | (with_reducible exact Calls.after_same (h2 _))) | (go_at_call 94; exact Calls.after_of (gm_arena _)) | (go_at_call 93; exact Calls.after_of (h7 _))))
        refine wpQuiet_nil ?_
        intro _ hw2
        obtain ⟨x2, hw3⟩ := hw2
        subst hw3
        go_wp2_with fail
        go_ret
        exact ⟨by first | rfl | simp_all, (((Below.refl _ w).alloc (Nat.le_refl _) _).trans (x2.below.mono (by simp)))⟩
      · cases c7
        · go_enter Try.func67, Try.ntmps67
          go_wp2_with fail
          refine wp_region_after (by kernel_rfl) (by kernel_rfl) ?_
          repeat (go_big_quiet_step (first | (go_at_call 69; first | (with_reducible exact Calls.after_same (h1 _)) | (with_reducible exact Calls.after_same (h2 _))) | (go_at_call 94; exact Calls.after_of (gm_arena _)) | (go_at_call 93; exact Calls.after_of (h7 _))))
          refine wpQuiet_nil ?_
          intro _ hw2
          obtain ⟨x2, hw3⟩ := hw2
          subst hw3
          go_wp2_with fail
          go_ret
          exact ⟨by first | rfl | simp_all, (((Below.refl _ w).alloc (Nat.le_refl _) _).trans (x2.below.mono (by simp)))⟩
        · go_enter Try.func67, Try.ntmps67
          go_wp2_with fail
          refine wp_region_after (by kernel_rfl) (by kernel_rfl) ?_
          repeat (go_big_quiet_step (first | (go_at_call 69; first | (with_reducible exact Calls.after_same (h1 _)) | (with_reducible exact Calls.after_same (h2 _))) | (go_at_call 94; exact Calls.after_of (gm_arena _)) | (go_at_call 93; exact Calls.after_of (h7 _))))
          refine wpQuiet_nil ?_
          intro _ hw2
          obtain ⟨x2, hw3⟩ := hw2
          subst hw3
          go_wp2_with fail
          go_ret
          exact ⟨by first | rfl | simp_all, (((Below.refl _ w).alloc (Nat.le_refl _) _).trans (x2.below.mono (by simp)))⟩
  · go_enter Try.func67, Try.ntmps67
    go_wp2_with fail
    refine wp_region_after (by kernel_rfl) (by kernel_rfl) ?_
    repeat (go_big_quiet_step (first | (go_at_call 69; first | (with_reducible exact Calls.after_same (h1 _)) | (with_reducible exact Calls.after_same (h2 _))) | (go_at_call 94; exact Calls.after_of (gm_arena _)) | (go_at_call 93; exact Calls.after_of (h7 _))))
    refine wpQuiet_nil ?_
    intro _ hw2
    obtain ⟨x2, hw3⟩ := hw2
    subst hw3
    go_wp2_with fail
    go_ret
    exact ⟨by first | rfl | simp_all, (((Below.refl _ w).alloc (Nat.le_refl _) _).trans (x2.below.mono (by simp)))⟩
end Go.Proofs.Ytfepefohaadecaa
