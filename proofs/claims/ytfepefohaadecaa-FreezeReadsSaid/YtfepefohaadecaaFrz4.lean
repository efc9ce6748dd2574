/- freeze: a codec at a whole state. -/
import Derived.Test.YtfepefohaadecaaFrz3
import Derived.Test.YtfepefohaadecaaShoEq
namespace Go.Proofs.Ytfepefohaadecaa
open Go.RowKit
set_option maxRecDepth 10000
variable {σ : Type} {c : Codec σ} {B : Nat} {p : σ × (Nat → Int)} {k : Nat}
theorem keeps_past {S T : Nat → Prop} {a b d : World} (h : Keeps S a b) (h2 : Keeps T b d) (hs : ∀ k, k < a.heap.size → T k → S k) : Keeps S a d :=
  ⟨h2.os.trans h.os, h2.tape.trans h.tape, h2.output.trans h.output, Nat.le_trans h.size h2.size, fun i hi hn => (h2.block i (Nat.lt_of_lt_of_le hi h.size) (fun t => hn (hs i hi t))).trans (h.block i hi hn)⟩
theorem step_dice (c : Codec σ) (p : σ × (Nat → Int)) : c.step p 1 = ((c.nF p.1 (p.2 1)).1, updI p.2 1 (IntKind.u32.wrap (c.nF p.1 (p.2 1)).2)) := rfl
theorem fr_dice (hc : c.Right) {w w' : World} {n : Int} {k' : Nat} (hn : p.2 1 = n) (h : Fr c w B p k') (h1 : c.St (c.nF p.1 n).1 k w') (h2 : w'.heap[B]? = w.heap[B]?) :
    Fr c (w'.setCell ⟨B, 1, none⟩ (.int .u32 (IntKind.u32.wrap (c.nF p.1 n).2))) B (c.step p 1) k := by
  subst hn
  rw [step_dice]
  have h3 := h2.trans h.blk
  refine ⟨hc.keeps (S := fun b => b = B) h1 (Keeps.setCell (S := fun b => b = B) (Keeps.refl _ _) (p := ⟨B, 1, none⟩) rfl _) (fun e => h.ne e.symm), ?_, h.ne, fun j hj => ?_⟩
  · rw [blk_set h3]
    exact congrArg some (congrArg (fun a => Obj.cells a _ (0, 0)) (mkC_set p.2 1 _))
  · simp only [updI]
    by_cases e : j = 1
    · subst e
      rw [if_pos rfl]
      have hf := h.fit 1 (by omega)
      refine ⟨?_, fun _ => hc.okW _ _ hf.1 (hf.2 (by decide))⟩
      show 0 ≤ IntKind.u32.wrap _ ∧ _
      rw [wrap_u32]
      omega
    · rw [if_neg e]
      exact h.fit j hj
def headL : List Nat := [0, 1, 2, 3]
def plyL (j : Nat) : List Nat := headL ++ (List.range j).flatMap fun i => plyTo (4 + 10 * i) 6
theorem steps_plyL (c : Codec σ) (p : σ × (Nat → Int)) (j : Nat) : c.steps p (plyL (j + 1)) = c.steps (c.steps p (plyL j)) (plyTo (4 + 10 * j) 6) := by
  unfold plyL Codec.steps
  rw [List.range_succ, List.flatMap_append, ← List.append_assoc, List.foldl_append]
  simp
structure Two (c : Codec σ) (w wr : World) (B k : Nat) (p : σ × (Nat → Int)) (j : Nat) : Prop where
  fr : Fr c wr B (c.steps p (plyL j)) (k + 37 + 10 * (2 - j))
  keeps : Keeps (ofFr c B) w wr
/-- which shots are not none -/
def bitsTo (v : Nat → Int) : Nat → Nat
  | 0 => 0
  | j + 1 => bitsTo v j + if noSho v j then 0 else 2 ^ j
theorem bitsTo_lt (v : Nat → Int) : ∀ j, bitsTo v j < 2 ^ j
  | 0 => by simp [bitsTo]
  | j + 1 => by
    have h := bitsTo_lt v j
    have h2 : 2 ^ (j + 1) = 2 * 2 ^ j := by rw [Nat.pow_succ, Nat.mul_comm]
    unfold bitsTo
    split <;> omega
theorem or_all : ∀ j : Fin 6, ∀ b : Fin 64, b.val < 2 ^ j.val → bits .or .i64 (b.val : Int) (wrap64 (2 ^ j.val)) = ((b.val + 2 ^ j.val : Nat) : Int) := by decide +kernel
theorem or_bit (v : Nat → Int) (j : Nat) (h : j < 6) (hz : ¬ noSho v j) : bits .or .i64 (bitsTo v j : Nat) (wrap64 (2 ^ j)) = (bitsTo v (j + 1) : Nat) := by
  have h1 := bitsTo_lt v j
  have h2 : 2 ^ j ≤ 2 ^ 6 := Nat.pow_le_pow_right (by decide) (by omega)
  have h3 := or_all ⟨j, h⟩ ⟨bitsTo v j, by omega⟩ h1
  rw [show bitsTo v (j + 1) = bitsTo v j + 2 ^ j by simp [bitsTo, hz]]
  exact h3
structure Bit (c : Codec σ) (w wr : World) (B N k : Nat) (p : σ × (Nat → Int)) (j : Nat) : Prop where
  fr : Fr c wr B p (k + 37)
  bit : wr.heap[N]? = some (.cells #[.int .i64 (bitsTo p.2 j : Nat)] 3 (0, 0))
  ne1 : N ≠ c.r
  ne2 : N ≠ B
  new : w.heap.size ≤ N
  keeps : Keeps (ofFr c B) w wr
def shoLoop (c : Codec σ) (y : Int) (p : σ × (Nat → Int)) : Nat → σ × (Nat → Int)
  | 0 => p
  | j + 1 => if bits .and .i64 (y / 2 ^ j) 1 = 1 then c.steps (shoLoop c y p j) (shotAt (24 + 6 * j)) else shoLoop c y p j
structure Shs (c : Codec σ) (w wr : World) (B N k : Nat) (y : Int) (p : σ × (Nat → Int)) (j : Nat) : Prop where
  fr : Fr c wr B (shoLoop c y p j) (k + 6 * (6 - j))
  bit : wr.heap[N]? = some (.cells #[.int .i64 y] 3 (0, 0))
  ne1 : N ≠ c.r
  ne2 : N ≠ B
  keeps : Keeps (ofFr c B) w wr
/-- what going through a state does -/
def stateF (c : Codec σ) (p : σ × (Nat → Int)) : σ × (Nat → Int) :=
  shoLoop c (c.nF (c.steps p (plyL 2)).1 (bitsTo (c.steps p (plyL 2)).2 6 : Nat)).2 ((c.nF (c.steps p (plyL 2)).1 (bitsTo (c.steps p (plyL 2)).2 6 : Nat)).1, (c.steps p (plyL 2)).2) 6
theorem shot_kinds (j : Nat) (h : j < 6) : kindAt (24 + 6 * j) = .i32 ∧ kindAt (24 + 6 * j + 1) = .i32 ∧ kindAt (24 + 6 * j + 2) = .i32 ∧ kindAt (24 + 6 * j + 3) = .i32 ∧ kindAt (24 + 6 * j + 4) = .i64 ∧ kindAt (24 + 6 * j + 5) = .i64 := by
  match j, h with
  | 0, _ => decide
  | 1, _ => decide
  | 2, _ => decide
  | 3, _ => decide
  | 4, _ => decide
  | 5, _ => decide
set_option maxHeartbeats 2000000 in
theorem fr_state (hc : c.Right) (w : World) (h : Fr c w B p (k + 61)) :
    Calls Try.prog 40 #[c.val, .pointer (some ⟨B, 0, none⟩)] w fun e w' => e = .returned (.tuple #[]) ∧ Fr c w' B (stateF c p) k ∧ Keeps (ofFr c B) w w' := by
  have hN := hc.aN
  have hM := hc.mN
  have hE := hc.eN
  have y0 : w.cell? ⟨B, 1, none⟩ = some (.int .u32 (p.2 1)) := blk_cell h.blk (mkC_get p.2 (o := 1) (by omega))
  have hf := h.fit 1 (by omega)
  have hf1 : 0 ≤ p.2 1 ∧ p.2 1 ≤ 4294967295 := hf.1
  have e0 : IntKind.i64.wrap (p.2 1) = p.2 1 := IntWalk.i64_in _ (by omega)
  have hk0 : Keeps (fun _ => False) w (w.alloc (.cells #[.int .i64 (p.2 1)] 3)) := (Keeps.refl _ w).alloc _
  have hD0 := blk_new w (.cells #[.int .i64 (p.2 1)] 3)
  have hF0 := h.keeps hc hk0 id id
  have hok : c.okN (p.2 1) := hf.2 (by decide)
  have hlB := blk_lt h.blk
  have hlr := hc.there h.st
  clear hf h
  generalize hn : p.2 1 = n at *
  go_enter Try.func40, Try.ntmps40
  go_wp2_with fail
  generalize w.alloc (.cells #[.int .i64 n] 3) = w0 at *
  generalize hDe : w.heap.size = D at *
  have hF0d := hF0.drew hc
  refine stages_start (by kernel_rfl) 8 rfl ?_
  refine stagek (fun _ => True) [0, 1, 2, 3] [4, 5, 6, 7] 0 rfl #[true, true, true, true, true, true, true, true] (by kernel_rfl) (by kernel_rfl) (fun _ _ _ d _ h => by cases d <;> exact h) ?_
  simp only [opsAt, List.map_cons, List.map_nil, List.getElem?_toArray, List.getElem?_cons_zero, List.getElem?_cons_succ, Option.getD_some]
  repeat (go_big_quiet_step (fail))
  refine wpQuiet_nil ?_
  refine links_cons (by first | rfl | simp [go_sem]) (fun K hK => ?_)
  go_simp
  refine hK _ _ (keptS (Keeps.refl _ _)) ?_
  clear hK K
  try refine links_nil ?_
  refine links_cons (by first | rfl | simp [go_sem]) (fun K hK => ?_)
  go_simp
  refine hK _ _ (keptS (Keeps.refl _ _)) ?_
  clear hK K
  try refine links_nil ?_
  refine links_cons (by first | rfl | simp [go_sem]) (fun K hK => ?_)
  go_simp
  refine hK _ _ (keptS (Keeps.refl _ _)) ?_
  clear hK K
  try refine links_nil ?_
  refine links_cons (by first | rfl | simp [go_sem]) (fun K hK => ?_)
  go_simp
  refine (fr_num hc 0 (by omega) rfl _ hF0d).mono ?_
  rintro e w1 ⟨rfl, hF1, hk1⟩
  refine hK _ _ (keptS (hk1.mono fun _ _ _ => trivial)) ?_
  clear hK K
  try refine links_nil ?_
  refine stages_end (by kernel_rfl) ?_
  have hD1 := hk1.heap (k := D) hD0 (fun h => h.elim (fun h => by omega) (fun h => by omega))
  have hn1 : (c.step p 0).2 1 = n := hn
  generalize hq1 : c.step p 0 = p1 at *
  go_wp2_with fail
  refine (hc.num _ hF1.st hD1 (by omega) rfl (by unfold fitsI; omega) hok).mono ?_
  rintro e w2 ⟨rfl, hS2, hD2, hk2⟩
  have hB2 : w2.heap[B]? = w1.heap[B]? := hk2.block B (blk_lt hF1.blk) (fun h => h.elim hF1.ne (fun h => by omega))
  have hF2 := fr_dice hc hn1 hF1 hS2 hB2
  have yD := blk_cell hD2 (k := 0) rfl
  have yB := blk_cell (hB2.trans hF1.blk) (mkC_get p1.2 (o := 1) (by omega))
  have yF := blk_free (hB2.trans hF1.blk) 1
  have hk3 : Keeps (fun b => b = B) w2 (w2.setCell ⟨B, 1, none⟩ (.int .u32 (IntKind.u32.wrap (c.nF p1.1 n).2))) := Keeps.setCell (S := fun b => b = B) (Keeps.refl _ _) (p := ⟨B, 1, none⟩) rfl _
  have hK3 := keeps_past (keeps_past (keeps_past (S := ofFr c B) (hk0.mono fun _ _ x => x.elim) ((Keeps.refl _ w0).drew.trans hk1) (fun _ _ x => x)) hk2 (fun j hj hx => hx.elim Or.inl (fun e => by omega))) hk3 (fun j hj hx => Or.inr hx)
  go_wp2_with fail
  clear hk3
  rw [wrap_u32] at hK3 hF2
  generalize w2.setCell ⟨B, 1, none⟩ (.int .u32 ((c.nF p1.1 n).2 % 4294967296)) = w3 at *
  generalize hq2 : c.step p1 1 = p2 at *
  have hF2d := hF2.drew hc
  clear yD yB yF hB2 hk2 hk1 hk0 hD2 hS2 hD1 hD0 hF1 hF0 hF0d y0 e0 hn1 hok hf1 hn
  refine stages_start (by kernel_rfl) 8 rfl ?_
  refine stagek (fun _ => True) [0, 1, 2, 3] [4, 5, 6, 7] 0 rfl #[true, true, true, true, true, true, true, true] (by kernel_rfl) (by kernel_rfl) (fun _ _ _ d _ h => by cases d <;> exact h) ?_
  simp only [opsAt, List.map_cons, List.map_nil, List.getElem?_toArray, List.getElem?_cons_zero, List.getElem?_cons_succ, Option.getD_some]
  repeat (go_big_quiet_step (fail))
  refine wpQuiet_nil ?_
  refine links_cons (by first | rfl | simp [go_sem]) (fun K hK => ?_)
  go_simp
  refine hK _ _ (keptS (Keeps.refl _ _)) ?_
  clear hK K
  try refine links_nil ?_
  refine links_cons (by first | rfl | simp [go_sem]) (fun K hK => ?_)
  go_simp
  refine hK _ _ (keptS (Keeps.refl _ _)) ?_
  clear hK K
  try refine links_nil ?_
  refine links_cons (by first | rfl | simp [go_sem]) (fun K hK => ?_)
  go_simp
  refine hK _ _ (keptS (Keeps.refl _ _)) ?_
  clear hK K
  try refine links_nil ?_
  refine links_cons (by first | rfl | simp [go_sem]) (fun K hK => ?_)
  go_simp
  refine (fr_num hc 2 (by omega) rfl _ hF2d).mono ?_
  rintro e w4 ⟨rfl, hF4, hk4⟩
  refine hK _ _ (keptS (hk4.mono fun _ _ _ => trivial)) ?_
  clear hK K
  try refine links_nil ?_
  refine stages_end (by kernel_rfl) ?_
  have hF4d := hF4.drew hc
  go_wp2_with fail
  refine stages_start (by kernel_rfl) 8 rfl ?_
  refine stagek (fun _ => True) [0, 1, 2, 3] [4, 5, 6, 7] 0 rfl #[true, true, true, true, true, true, true, true] (by kernel_rfl) (by kernel_rfl) (fun _ _ _ d _ h => by cases d <;> exact h) ?_
  simp only [opsAt, List.map_cons, List.map_nil, List.getElem?_toArray, List.getElem?_cons_zero, List.getElem?_cons_succ, Option.getD_some]
  repeat (go_big_quiet_step (fail))
  refine wpQuiet_nil ?_
  refine links_cons (by first | rfl | simp [go_sem]) (fun K hK => ?_)
  go_simp
  refine hK _ _ (keptS (Keeps.refl _ _)) ?_
  clear hK K
  try refine links_nil ?_
  refine links_cons (by first | rfl | simp [go_sem]) (fun K hK => ?_)
  go_simp
  refine hK _ _ (keptS (Keeps.refl _ _)) ?_
  clear hK K
  try refine links_nil ?_
  refine links_cons (by first | rfl | simp [go_sem]) (fun K hK => ?_)
  go_simp
  refine hK _ _ (keptS (Keeps.refl _ _)) ?_
  clear hK K
  try refine links_nil ?_
  refine links_cons (by first | rfl | simp [go_sem]) (fun K hK => ?_)
  go_simp
  refine (fr_num hc 3 (by omega) rfl _ hF4d).mono ?_
  rintro e w5 ⟨rfl, hF5, hk5⟩
  refine hK _ _ (keptS (hk5.mono fun _ _ _ => trivial)) ?_
  clear hK K
  try refine links_nil ?_
  refine stages_end (by kernel_rfl) ?_
  have hK5 := (hK3.drew.trans hk4).drew.trans hk5
  clear hk4 hk5 hK3 hF4d hF4 hF2d hF2
  have hq : c.step (c.step p2 2) 3 = c.steps p headL := by subst hq2; subst hq1; rfl
  rw [hq] at hF5
  clear hq hq1 hq2
  have H5 := hid (show Two c w w5 B k p 0 from ⟨hF5, hK5⟩)
  clear hF5 hK5
  generalize (c.nF p1.1 n).2 % 4294967296 = z1 at *
  generalize (c.nF p1.1 n).2 = z2 at *
  go_wp2_with fail
  go_loopw [5, 46] (fun _ i wr => ∃ j : Nat, j ≤ 2 ∧ i = .int .i64 j ∧ Hid (Two c w wr B k p j)) (fun _ i _ => 2 - (intOf i).toNat)
  case atStart => exact ⟨0, by omega, rfl, H5⟩
  case round =>
    obtain ⟨j, hj, rfl, hC⟩ := hrel
    obtain ⟨wo, rfl⟩ : ∃ wo : World, wo = wr := ⟨_, rfl⟩
    clear H5
    by_cases hlt : (j : Int) < 2
    · have hP : Calls Try.prog 70 #[c.val, .pointer (some ⟨B, 4 + 10 * j, none⟩)] wo fun e w' => e = .returned (.tuple #[]) ∧ Fr c w' B (c.steps (c.steps p (plyL j)) (plyTo (4 + 10 * j) 6)) (k + 37 + 10 * (2 - (j + 1))) ∧ Keeps (ofFr c B) wo w' := by
        have hF := hC.out.fr
        rw [show k + 37 + 10 * (2 - j) = (k + 37 + 10 * (2 - (j + 1))) + 10 by omega] at hF
        obtain rfl | rfl : j = 0 ∨ j = 1 := by omega
        · exact fr_player hc 4 (by omega) rfl rfl rfl rfl (by decide) _ hF
        · exact fr_player hc 14 (by omega) rfl rfl rfl rfl (by decide) _ hF
      rw [← steps_plyL] at hP
      rw [show 4 + 10 * j = 4 + j * 10 by omega] at hP
      go_wp2_with fail
      refine hP.mono ?_
      rintro e w6 ⟨rfl, hF6, hk6⟩
      go_wp2_with fail
      go_roundw
      case rel => exact ⟨j + 1, by omega, by go_num, ⟨hF6, hC.out.keeps.trans hk6⟩⟩
      case measure => simp [intOf]; omega
    · obtain rfl : j = 2 := by omega
      have hF := hC.out.fr
      have hK := hC.out.keeps
      clear hC
      have hB1 := blk_lt hF.blk
      have hB2 := hc.there hF.st
      have hka : Keeps (fun _ => False) wo (wo.alloc (.cells #[.int .i64 0] 3)) := (Keeps.refl _ wo).alloc _
      have hFa := hF.keeps hc hka id id
      generalize hp7 : c.steps p (plyL 2) = p7 at *
      have H7 := hid (show Bit c w (wo.alloc (.cells #[.int .i64 0] 3)) B wo.heap.size k p7 0 from ⟨hFa, blk_new wo _, by omega, by omega, hK.size, hK.trans (hka.mono fun _ _ x => x.elim)⟩)
      have hload := run_load_shos p7.2 B _ _ hFa.blk
      clear hF hK hka hFa
      go_wp2_with (refine wpList_run_load hload rfl rfl rfl ?_)
      generalize wo.alloc (.cells #[.int .i64 0] 3) = w7 at *
      generalize hN7 : wo.heap.size = N at *
      go_loopw [7, 8, 61] (fun _ _ i wr => ∃ j : Nat, j ≤ 6 ∧ i = .int .i64 j ∧ Hid (Bit c w wr B N k p7 j)) (fun _ _ i _ => 6 - (intOf i).toNat)
      case atStart => exact ⟨0, by omega, rfl, H7⟩
      case round =>
        obtain ⟨j, hj, rfl, hC⟩ := hrel
        obtain ⟨w8, rfl⟩ : ∃ w8 : World, w8 = wr := ⟨_, rfl⟩
        clear H7 hload
        by_cases hlt : (j : Int) < 6
        · have hI := run_index_sho p7.2 j (by omega)
          have hb := hC.out.bit
          unfold shoC at hI
          by_cases hz : noSho p7.2 j
          · have hq := sho_none p7.2 j hz
            go_wp2_with fail
            go_roundw
            case rel =>
              obtain ⟨h1, h2, h3, h4, h6, h5⟩ := hC.out
              exact ⟨j + 1, by omega, by go_num, ⟨h1.keeps hc ((Keeps.refl (fun _ => False) w8).alloc _) id id, by rw [show bitsTo p7.2 (j + 1) = bitsTo p7.2 j by simp [bitsTo, hz]]; exact blk_alloc h2 _, h3, h4, h6, h5.alloc _⟩⟩
            case measure => simp [intOf]; omega
          · have hq := sho_some p7.2 j hz
            go_wp2_with fail
            generalize hw9 : w8.alloc _ = w9
            have hb9 : w9.heap[N]? = some (.cells #[.int .i64 (bitsTo p7.2 j : Nat)] 3 (0, 0)) := hw9 ▸ blk_alloc hb _
            have hk9 : Keeps (fun _ => False) w8 w9 := hw9 ▸ (Keeps.refl _ w8).alloc _
            have y0 := blk_cell hb9 (k := 0) rfl
            have y1 := blk_free hb9 0
            clear hI hq hw9
            refine wp_region_taild 4 (by kernel_rfl) (by kernel_rfl) ?_
            simp only [List.take_succ_cons, List.take_zero, List.drop_succ_cons, List.drop_zero]
            repeat (go_big_quiet_step ((fail)))
            refine wpQuiet_nil ?_
            intro _ hw'
            obtain ⟨nq, hw''⟩ := hw'
            subst hw''
            rw [or_bit p7.2 j (by omega) hz]
            generalize wrap64 (2 ^ j) = x5
            go_wp2_with fail
            go_roundw
            case rel =>
              obtain ⟨h1, h2, h3, h4, h6, h5⟩ := hC.out
              have hk10 : Keeps (fun b => b = N) w8 ((w9.drewN nq).setCell ⟨N, 0, none⟩ (.int .i64 (bitsTo p7.2 (j + 1) : Nat))) := Keeps.setCell (S := fun b => b = N) ((hk9.drewN nq).mono fun _ _ x => x.elim) (p := ⟨N, 0, none⟩) rfl _
              exact ⟨j + 1, by omega, by go_num, ⟨h1.keeps hc hk10 (fun e => h3 e.symm) (fun e => h4 e.symm), by have := blk_set (w := w9.drewN nq) hb9 0 (.int .i64 (bitsTo p7.2 (j + 1) : Nat)); simpa using this, h3, h4, h6, keeps_past h5 hk10 (fun x hx e => by omega)⟩⟩
            case measure => simp [intOf]; omega
        · obtain rfl : j = 6 := by omega
          have hC2 := hC.out
          clear hC
          obtain ⟨h1, h2, h3, h4, h6, h5⟩ := hC2
          have hb6 := bitsTo_lt p7.2 6
          have hnum := hc.num (n := (bitsTo p7.2 6 : Nat)) (o := 0) _ h1.st h2 h3 rfl (by unfold fitsI; omega) (hc.okB _ (by omega))
          generalize hb7 : (bitsTo p7.2 6 : Int) = b6 at *
          go_wp2_with fail
          refine hnum.mono ?_
          rintro e w9 ⟨rfl, g1, g2, g3⟩
          have hk9 : Keeps (ofFr c B) w w9 := keeps_past h5 g3 (fun x hx e => e.elim Or.inl (fun e => by omega))
          have hF9 : Fr c w9 B ((c.nF p7.1 b6).1, p7.2) (k + 36) := ⟨g1, (g3.block B (blk_lt h1.blk) (fun e => e.elim h1.ne (fun e => h4 e.symm))).trans h1.blk, h1.ne, h1.fit⟩
          have H9 := hid (show Shs c w w9 B N k (c.nF p7.1 b6).2 ((c.nF p7.1 b6).1, p7.2) 0 from ⟨hF9, g2, h3, h4, hk9⟩)
          clear h1 h2 h3 h4 h5 h6 hb6 hnum g1 g2 g3 hk9 hF9
          generalize hy : (c.nF p7.1 b6).2 = y at *
          generalize hp8 : ((c.nF p7.1 b6).1, p7.2) = p8 at *
          go_wp2_with fail
          go_loopw [9, 75] (fun _ i wr => ∃ j : Nat, j ≤ 6 ∧ i = .int .i64 j ∧ Hid (Shs c w wr B N k y p8 j)) (fun _ i _ => 6 - (intOf i).toNat)
          case atStart => exact ⟨0, by omega, rfl, H9⟩
          case round =>
            obtain ⟨j, hj, rfl, hC⟩ := hrel
            obtain ⟨wo, rfl⟩ : ∃ wo : World, wo = wr := ⟨_, rfl⟩
            clear H9
            by_cases hlt : (j : Int) < 6
            · have y0 := blk_cell hC.out.bit (k := 0) rfl
              by_cases hz : bits .and .i64 (y / 2 ^ j) 1 = 1
              · have hz2 : (bits .and .i64 (y / 2 ^ j) 1 == 1) = true := by rw [beq_iff_eq]; exact hz
                have hF := hC.out.fr
                rw [show k + 6 * (6 - j) = (k + 6 * (6 - (j + 1))) + 6 by omega] at hF
                obtain ⟨k0, k1, k2, k3, k4, k5⟩ := shot_kinds j (by omega)
                have hS := fr_shot hc (24 + 6 * j) (by omega) k0 k1 k2 k3 k4 k5 _ hF
                rw [show c.steps (shoLoop c y p8 j) (shotAt (24 + 6 * j)) = shoLoop c y p8 (j + 1) by simp [shoLoop, hz], show 24 + 6 * j = 24 + j * 6 by omega] at hS
                clear hF k0 k1 k2 k3 k4 k5 hz
                go_wp2_with fail
                refine hS.mono ?_
                rintro e w10 ⟨rfl, hF10, hk10⟩
                go_wp2_with fail
                go_roundw
                case rel =>
                  obtain ⟨h1, h2, h3, h4, h5⟩ := hC.out
                  exact ⟨j + 1, by omega, by go_num, ⟨hF10, hk10.heap h2 (fun e => e.elim h3 h4), h3, h4, h5.trans hk10⟩⟩
                case measure => simp [intOf]; omega
              · have hz2 : (bits .and .i64 (y / 2 ^ j) 1 == 1) = false := by rw [beq_eq_false_iff_ne]; exact hz
                have hq : shoLoop c y p8 (j + 1) = shoLoop c y p8 j := by simp [shoLoop, hz]
                clear hz
                go_wp2_with fail
                go_roundw
                case rel =>
                  obtain ⟨h1, h2, h3, h4, h5⟩ := hC.out
                  have h6 : Fr c wo B (shoLoop c y p8 j) ((k + 6 * (6 - (j + 1))) + 6) := by rw [show (k + 6 * (6 - (j + 1))) + 6 = k + 6 * (6 - j) by omega]; exact h1
                  exact ⟨j + 1, by omega, by go_num, ⟨by rw [hq]; exact ⟨hc.less h6.st, h6.blk, h6.ne, h6.fit⟩, h2, h3, h4, h5⟩⟩
                case measure => simp [intOf]; omega
            · obtain rfl : j = 6 := by omega
              obtain ⟨h1, h2, h3, h4, h5⟩ := hC.out
              clear hC
              go_wp2
              refine bodyPost_end (v := .tuple #[]) (by first | rfl | simp [results, go_sem]) rfl ?_
              subst hp8; subst hy; subst hb7; subst hp7
              exact ⟨rfl, h1, h5⟩
end Go.Proofs.Ytfepefohaadecaa
