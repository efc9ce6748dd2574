/- freeze.Differ. -/
import Derived.Test.YtfepefohaadecaaStEq
import Derived.Test.YtfepefohaadecaaVals
import Derived.Test.YtfepefohaadecaaTail
namespace Go.Proofs.Ytfepefohaadecaa
open Go.RowKit
set_option maxRecDepth 10000
variable {w : World}
/-- the parts' names -/
def nmB : Nat → ByteArray
  | 0 => ⟨#[102, 114, 97, 109, 101]⟩
  | 1 => ⟨#[100, 105, 99, 101]⟩
  | 2 => ⟨#[114, 111, 117, 110, 100]⟩
  | 3 => ⟨#[108, 101, 102, 116]⟩
  | 4 => ⟨#[111, 110, 101]⟩
  | 5 => ⟨#[116, 119, 111]⟩
  | _ => ⟨#[115, 104, 111, 116, 115]⟩
/-- which parts are the same -/
def flg (a b : Nat → Int) : Nat → Bool
  | 0 => a 0 == b 0
  | 1 => a 1 == b 1
  | 2 => a 2 == b 2
  | 3 => a 3 == b 3
  | 4 => decide (sameN a b 4 10)
  | 5 => decide (sameN a b 14 10)
  | _ => decide (sameN a b 24 36)
/-- the parts that differ, of the first j ones -/
def difN (f : Nat → Bool) : Nat → List Nat
  | 0 => []
  | j + 1 => difN f j ++ if f j then [] else [j]
theorem difN_len (f : Nat → Bool) : ∀ j, (difN f j).length ≤ j
  | 0 => by simp [difN]
  | j + 1 => by
    have := difN_len f j
    unfold difN
    split <;> simp <;> omega
def nmsV (L : List Nat) : List Value := L.map fun k => .string (nmB k)
theorem nmsV_len (L : List Nat) : (nmsV L).length = L.length := by simp [nmsV]
def flC (f : Nat → Bool) : Array Value := #[.string (nmB 0), .bool (f 0), .string (nmB 1), .bool (f 1), .string (nmB 2), .bool (f 2), .string (nmB 3), .bool (f 3), .string (nmB 4), .bool (f 4), .string (nmB 5), .bool (f 5), .string (nmB 6), .bool (f 6)]
theorem flC_get (f : Nat → Bool) (k : Nat) (h : k < 7) : (flC f)[k * 2]? = some (.string (nmB k)) ∧ (flC f)[k * 2 + 1]? = some (.bool (f k)) := by
  match k, h with
  | 0, _ => exact ⟨rfl, rfl⟩
  | 1, _ => exact ⟨rfl, rfl⟩
  | 2, _ => exact ⟨rfl, rfl⟩
  | 3, _ => exact ⟨rfl, rfl⟩
  | 4, _ => exact ⟨rfl, rfl⟩
  | 5, _ => exact ⟨rfl, rfl⟩
  | 6, _ => exact ⟨rfl, rfl⟩
theorem info_strT : ((Try.prog.info? 9).map fun i => (i.zero, i.size, i.bytes)) = some (some (.string ByteArray.empty), 1, 16) := by kernel_rfl
theorem own_ne {w : World} {base D n : Nat} {e e' : TypeId} {v : Value} {xs : List Value} {cs : Array Value} (h : w.ownsRow base e 1 v n xs) (hD : w.heap[D]? = some (.cells cs e' (0, 0))) (hne : e ≠ e') (hb : some D = v.ownBlock) : False := by
  rcases h.2 with ⟨rfl, _⟩ | ⟨g, cap, cur, rfl, _, hh, _⟩
  · simp [Value.ownBlock] at hb
  · simp [Value.ownBlock] at hb
    subst hb
    rw [hD] at hh
    simp at hh
    exact hne hh.2.symm
theorem cls_load {S : Nat → Prop} {w0 : World} {T : TypeId} {B k : Nat} {v : Value} {o : Obj} {P : Program} (hB : w0.heap[B]? = some o) (hs : ¬ S B) (h : ∀ W : World, W.heap[B]? = some o → (Instr.loadAt T (.pointer (some ⟨B, k, none⟩))).run P W = .ok v W) :
    ∀ w', (∃ x : KeptS S w0, w' = x.to) → (Instr.loadAt T (.pointer (some ⟨B, k, none⟩))).run P w' = .ok v w' := by
  rintro w' ⟨x, rfl⟩
  exact h _ (x.keeps.heap hB hs)
set_option maxHeartbeats 4000000 in
theorem fz_Differ (a b : Nat → Int) (ha : WfL a) (hb : WfL b) (w : World) : Calls Try.prog 11 #[.agg (mkC a), .agg (mkC b)] w fun e w' =>
    (∃ A cap, e = .returned (.slice A (difN (flg a b) 7).length cap) ∧ Vals w' 1 A (difN (flg a b) 7).length cap (nmsV (difN (flg a b) 7))) ∧ Below w.heap.size w w' := by
  have hB := blk_alloc (blk_new w (.cells (mkC a) 33)) (.cells (mkC b) 33)
  have hC := blk_new (w.alloc (.cells (mkC a) 33)) (.cells (mkC b) 33)
  have hk := (((Keeps.refl (fun _ => False) w).alloc (.cells (mkC a) 33)).alloc (.cells (mkC b) 33))
  have e4 := eql_ply4 a b ha hb
  have e5 := eql_ply14 a b ha hb
  have e6 := eql_shos a b ha hb
  simp only [World.size_alloc] at hC
  go_enter Try.func11, Try.ntmps11
  go_wp2_with fail
  generalize (w.alloc (.cells (mkC a) 33)).alloc (.cells (mkC b) 33) = w0 at *
  generalize hBe : w.heap.size = B at *
  have a0 := keptS_cell (S := fun _ => False) (w := w0.drew) (blk_cell hB (mkC_get a (o := 0) (by omega))) id
  have a1 := keptS_cell (S := fun _ => False) (w := w0.drew) (blk_cell hB (mkC_get a (o := 1) (by omega))) id
  have a2 := keptS_cell (S := fun _ => False) (w := w0.drew) (blk_cell hB (mkC_get a (o := 2) (by omega))) id
  have a3 := keptS_cell (S := fun _ => False) (w := w0.drew) (blk_cell hB (mkC_get a (o := 3) (by omega))) id
  have b0 := keptS_cell (S := fun _ => False) (w := w0.drew) (blk_cell hC (mkC_get b (o := 0) (by omega))) id
  have b1 := keptS_cell (S := fun _ => False) (w := w0.drew) (blk_cell hC (mkC_get b (o := 1) (by omega))) id
  have b2 := keptS_cell (S := fun _ => False) (w := w0.drew) (blk_cell hC (mkC_get b (o := 2) (by omega))) id
  have b3 := keptS_cell (S := fun _ => False) (w := w0.drew) (blk_cell hC (mkC_get b (o := 3) (by omega))) id
  have l4 := cls_load (S := fun _ => False) (w0 := w0.drew) hB id (fun W h => run_load_ply a 4 (.inl rfl) B W _ h)
  have l5 := cls_load (S := fun _ => False) (w0 := w0.drew) hB id (fun W h => run_load_ply a 14 (.inr rfl) B W _ h)
  have l6 := cls_load (S := fun _ => False) (w0 := w0.drew) hB id (fun W h => run_load_shos a B W _ h)
  have m4 := cls_load (S := fun _ => False) (w0 := w0.drew) hC id (fun W h => run_load_ply b 4 (.inl rfl) (B + 1) W _ h)
  have m5 := cls_load (S := fun _ => False) (w0 := w0.drew) hC id (fun W h => run_load_ply b 14 (.inr rfl) (B + 1) W _ h)
  have m6 := cls_load (S := fun _ => False) (w0 := w0.drew) hC id (fun W h => run_load_shos b (B + 1) W _ h)
  refine stages_start (by kernel_rfl) 49 rfl ?_
  refine stagek (fun _ => False) [0, 1, 2, 3, 4, 5, 6, 7, 8, 9, 10, 11, 12, 13, 14, 15, 16, 17, 18, 19, 20, 21, 22, 23, 24, 25, 26, 27, 28, 29, 30, 31, 32, 33, 34, 35, 36, 37, 38, 39, 40, 41, 42, 43, 44, 45, 48] [46, 47] 0 rfl #[true, true, true, true, true, true, true, true, true, true, true, true, true, true, true, true, true, true, true, true, true, true, true, true, true, true, true, true, true, true, true, true, true, true, true, true, true, true, true, true, true, true, true, true, true, true, true, true, true] (by kernel_rfl) (by kernel_rfl) (fun _ _ _ d _ h => by cases d <;> exact h) ?_
  simp only [opsAt, List.map_cons, List.map_nil, List.getElem?_toArray, List.getElem?_cons_zero, List.getElem?_cons_succ, Option.getD_some]
  repeat (first | (first | (refine wpQuiet_run_load l4 rfl rfl rfl ?_; simp only [Act.put, List.setIfInBounds_toArray, List.set_cons_succ, List.set_cons_zero]) | (refine wpQuiet_run_load l5 rfl rfl rfl ?_; simp only [Act.put, List.setIfInBounds_toArray, List.set_cons_succ, List.set_cons_zero]) | (refine wpQuiet_run_load l6 rfl rfl rfl ?_; simp only [Act.put, List.setIfInBounds_toArray, List.set_cons_succ, List.set_cons_zero]) | (refine wpQuiet_run_load m4 rfl rfl rfl ?_; simp only [Act.put, List.setIfInBounds_toArray, List.set_cons_succ, List.set_cons_zero]) | (refine wpQuiet_run_load m5 rfl rfl rfl ?_; simp only [Act.put, List.setIfInBounds_toArray, List.set_cons_succ, List.set_cons_zero]) | (refine wpQuiet_run_load m6 rfl rfl rfl ?_; simp only [Act.put, List.setIfInBounds_toArray, List.set_cons_succ, List.set_cons_zero])) | go_big_quiet_step (fail))
  refine wpQuiet_nil ?_
  have hkd : Keeps (fun _ => False) w0 (w0.alloc (.cells #[.string ⟨#[102, 114, 97, 109, 101]⟩, .bool (a 0 == b 0), .string ⟨#[100, 105, 99, 101]⟩, .bool (a 1 == b 1), .string ⟨#[114, 111, 117, 110, 100]⟩, .bool (a 2 == b 2), .string ⟨#[108, 101, 102, 116]⟩, .bool (a 3 == b 3), .string ⟨#[111, 110, 101]⟩, .bool (decide (sameN a b 4 10)), .string ⟨#[116, 119, 111]⟩, .bool (decide (sameN a b 14 10)), .string ⟨#[115, 104, 111, 116, 115]⟩, .bool (decide (sameN a b 24 36))] 80)).drew := ((Keeps.refl _ w0).alloc _).drew
  refine links_cons (by first | rfl | simp [go_sem]) (fun K hK => ?_)
  go_simp
  refine hK _ _ (keptS (keeps_drew hkd)) ?_
  clear hK K
  try refine links_nil ?_
  refine links_cons (by first | rfl | simp [go_sem]) (fun K hK => ?_)
  go_simp
  refine hK _ _ (keptS (keeps_drew hkd)) ?_
  clear hK K
  try refine links_nil ?_
  refine stages_end (by kernel_rfl) ?_
  clear e4 e5 e6 a0 a1 a2 a3 b0 b1 b2 b3 l4 l5 l6 m4 m5 m6
  have hD : (w0.alloc (.cells #[.string ⟨#[102, 114, 97, 109, 101]⟩, .bool (a 0 == b 0), .string ⟨#[100, 105, 99, 101]⟩, .bool (a 1 == b 1), .string ⟨#[114, 111, 117, 110, 100]⟩, .bool (a 2 == b 2), .string ⟨#[108, 101, 102, 116]⟩, .bool (a 3 == b 3), .string ⟨#[111, 110, 101]⟩, .bool (decide (sameN a b 4 10)), .string ⟨#[116, 119, 111]⟩, .bool (decide (sameN a b 14 10)), .string ⟨#[115, 104, 111, 116, 115]⟩, .bool (decide (sameN a b 24 36))] 80)).drew.heap[w0.heap.size]? = some (.cells (flC (flg a b)) 80 (0, 0)) := blk_new w0 _
  have hkw := hk.trans hkd
  generalize (w0.alloc (.cells #[.string ⟨#[102, 114, 97, 109, 101]⟩, .bool (a 0 == b 0), .string ⟨#[100, 105, 99, 101]⟩, .bool (a 1 == b 1), .string ⟨#[114, 111, 117, 110, 100]⟩, .bool (a 2 == b 2), .string ⟨#[108, 101, 102, 116]⟩, .bool (a 3 == b 3), .string ⟨#[111, 110, 101]⟩, .bool (decide (sameN a b 4 10)), .string ⟨#[116, 119, 111]⟩, .bool (decide (sameN a b 14 10)), .string ⟨#[115, 104, 111, 116, 115]⟩, .bool (decide (sameN a b 24 36))] 80)).drew = w1 at *
  generalize w0.heap.size = D at *
  generalize (a 0 == b 0) = f0 at *
  generalize (a 1 == b 1) = f1 at *
  generalize (a 2 == b 2) = f2 at *
  generalize (a 3 == b 3) = f3 at *
  generalize decide (sameN a b 4 10) = f4 at *
  generalize decide (sameN a b 14 10) = f5 at *
  generalize decide (sameN a b 24 36) = f6 at *
  generalize hf : flg a b = f at *
  clear hkd hB hC hk ha hb
  obtain ⟨i0, hi, hz0, hz1, hz2⟩ : ∃ i, Try.prog.info? 9 = some i ∧ i.zero = some (.string ByteArray.empty) ∧ i.size = 1 ∧ i.bytes = 16 := by
    have h := info_strT
    cases hh : Try.prog.info? 9 with
    | none => rw [hh] at h; cases h
    | some i => rw [hh] at h; simp only [Option.map_some, Option.some.injEq, Prod.mk.injEq] at h; exact ⟨i, rfl, h.1, h.2.1, h.2.2⟩
  have Hi := hid hi
  have Hf := hid hf
  have HS := hid hkw
  have HD := hid hD
  clear hi hf hkw hD
  go_wp2_with fail
  go_loopw [5, 56] (fun v i wr => ∃ k : Nat, k ≤ 7 ∧ i = .int .i64 k ∧ wr.ownsRow w.heap.size 9 1 v (difN f k).length (nmsV (difN f k)) ∧ Keeps (fun _ => False) w wr ∧ wr.heap[D]? = some (.cells (flC f) 80 (0, 0))) (fun _ i _ => 7 - (intOf i).toNat)
  case atStart => exact ⟨0, Nat.zero_le _, rfl, own_nil _ _ _ _, HS.out, HD.out⟩
  case round =>
    obtain ⟨k, hk, rfl, hown, hkr, hDr⟩ := hrel
    by_cases hlt : k < 7
    · obtain ⟨c0, c1⟩ := flC_get f k hlt
      have y0 := blk_cell hDr c0
      have y1 := blk_cell hDr c1
      have hs : difN f (k + 1) = difN f k ++ if f k then [] else [k] := rfl
      have hle := difN_len f k
      clear c0 c1
      cases hc : f k
      · rw [hc] at y1 hs
        have hnv : nmsV (difN f (k + 1)) = nmsV (difN f k) ++ [.string (nmB k)] := by rw [hs]; simp [nmsV]
        have hnl : (difN f (k + 1)).length = (difN f k).length + 1 := by rw [hs]; simp
        clear hs
        generalize nmB k = nm at *
        generalize difN f k = N at *
        have Hn := hid hnv
        have Hl := hid hnl
        clear hnv hnl hc
        have hv1 := vals_one (wr.alloc (.cells #[.string nm, .bool false] 80)) (.string nm) 9
        rw [World.size_alloc] at hv1
        go_wp2_with (at_builtin; refine wpList_append_vals _ rfl (.tmp 63) (.tmp 66) _ rfl w.heap.size 9 i0 _ 1 16 Try.underlying35 Hi.out hz0 hz1 hz2 rfl (by omega) _ N.length (nmsV N) rfl (own_keeps hown (((Keeps.refl (fun _ => False) _).alloc _).alloc _) (fun _ _ => id)) (some ⟨_, 0, none⟩) 1 1 [.string nm] rfl hv1 (by simp [Value.oneCell']) (by simp only [maxLen]; omega) (by omega) (by have := hkr.size; simp; omega) ?_)
        intro v1 w1 hown1 hg1 _
        have hk1 : Keeps (fun _ => False) w w1 := ((hkr.alloc _).alloc _).grown hg1 (fun k hk => .inr ((hown.lt k hk).1))
        have hD1 : w1.heap[D]? = some (.cells (flC f) 80 (0, 0)) := ((Keeps.refl (fun b => some b = u5.ownBlock) _).grown hg1 (fun k hk => .inl hk.symm)).heap (blk_alloc (blk_alloc hDr _) _) (fun h => own_ne hown hDr (by decide) h)
        go_wp2_with fail
        go_roundw
        case rel => exact ⟨k + 1, by omega, by go_num, by rw [Hn.out, Hl.out, hBe]; exact hown1, hk1, hD1⟩
        case measure => simp [intOf]; omega
      · rw [hc] at y1 hs
        have hs : difN f (k + 1) = difN f k := by simpa using hs
        have Hs := hid hs
        clear hs hc
        go_wp2_with fail
        go_roundw
        case rel => exact ⟨k + 1, by omega, by go_num, by rw [Hs.out]; exact own_keeps hown ((Keeps.refl (fun _ => False) _).alloc _) (fun _ _ => id), hkr.alloc _, blk_alloc hDr _⟩
        case measure => simp [intOf]; omega
    · obtain rfl : k = 7 := by omega
      obtain ⟨A, cp, rfl, hvM, hbM⟩ := vals_of_own hown
      go_wp2_with fail
      go_ret
      have e := Hf.out
      subst e
      exact ⟨⟨A, cp, rfl, hvM⟩, hkr.below (Nat.le_refl _) (fun k h1 h2 => h2)⟩
end Go.Proofs.Ytfepefohaadecaa
