/- freeze: a codec at a player. -/
import Derived.Test.YtfepefohaadecaaFrz2
namespace Go.Proofs.Ytfepefohaadecaa
open Go.RowKit
set_option maxRecDepth 10000
variable {σ : Type} {c : Codec σ} {B : Nat} {p : σ × (Nat → Int)} {k : Nat}
def ptrs (B o : Nat) : Array Value := #[.pointer (some ⟨B, o + 4, none⟩), .pointer (some ⟨B, o + 5, none⟩), .pointer (some ⟨B, o + 6, none⟩), .pointer (some ⟨B, o + 7, none⟩), .pointer (some ⟨B, o + 8, none⟩), .pointer (some ⟨B, o + 9, none⟩)]
theorem ptrs_get (B o j : Nat) (h : j < 6) : (ptrs B o)[j]? = some (.pointer (some ⟨B, o + 4 + j, none⟩)) := by
  match j, h with
  | 0, _ => rfl
  | 1, _ => rfl
  | 2, _ => rfl
  | 3, _ => rfl
  | 4, _ => rfl
  | 5, _ => rfl
def plyTo (o j : Nat) : List Nat := [o, o + 1, o + 2, o + 3] ++ (List.range j).map fun i => o + 4 + i
theorem steps_ply (c : Codec σ) (p : σ × (Nat → Int)) (o j : Nat) : c.steps p (plyTo o (j + 1)) = c.step (c.steps p (plyTo o j)) (o + 4 + j) := by
  unfold plyTo Codec.steps
  rw [List.range_succ, List.map_append, ← List.append_assoc, List.foldl_append]
  rfl
structure PlySt (c : Codec σ) (w wr : World) (B N o k j : Nat) (p : σ × (Nat → Int)) : Prop where
  fr : Fr c wr B (c.steps p (plyTo o j)) (k + (6 - j))
  ptr : wr.heap[N]? = some (.cells (ptrs B o) 107 (0, 0))
  new : N ≠ c.r ∧ N ≠ B
  keeps : Keeps (ofFr c B) w wr
theorem PlySt.cell {w wr : World} {N o j : Nat} (h : PlySt c w wr B N o k j p) (i : Nat) (hi : i < 6) : wr.cell? ⟨N, i, none⟩ = some (.pointer (some ⟨B, o + 4 + i, none⟩)) := blk_cell h.ptr (ptrs_get B o i hi)
theorem fr_player (hc : c.Right) (o : Nat) (ho : o + 9 < 60) (h0 : kindAt o = .i32) (h1 : kindAt (o + 1) = .i32) (h2 : kindAt (o + 2) = .i32) (h3 : kindAt (o + 3) = .i32) (h4 : ∀ j, j < 6 → kindAt (o + 4 + j) = .i64) (w : World) (h : Fr c w B p (k + 10)) :
    Calls Try.prog 70 #[c.val, .pointer (some ⟨B, o, none⟩)] w fun e w' => e = .returned (.tuple #[]) ∧ Fr c w' B (c.steps p (plyTo o 6)) k ∧ Keeps (ofFr c B) w w' := by
  have hM := hc.mN
  have hE := hc.eN
  have hG := fun j (hj : j < 6) w p k => fr_num (B := B) (p := p) (k := k) hc (o + 4 + j) (by omega) (h4 j hj) w
  have hV := fun w p k => fr_vec (B := B) (p := p) (k := k) hc o (by omega) h0 h1 w
  have hW := fun w p k => fr_vec (B := B) (p := p) (k := k) hc (o + 2) (by omega) h2 h3 w
  go_enter Try.func70, Try.ntmps70
  go_wp2_with fail
  refine (hV _ _ _ h).mono ?_
  rintro e w1 ⟨rfl, hF1, hk1⟩
  go_wp2_with fail
  refine (hW _ _ _ hF1).mono ?_
  rintro e w2 ⟨rfl, hF2, hk2⟩
  go_wp2_with fail
  refine stages_start (by kernel_rfl) 21 rfl ?_
  refine stagek (fun _ => False) [0, 1, 2, 3, 4, 5, 6, 7, 8, 9, 10, 11, 12, 13, 14, 15, 16, 17, 20] [18, 19] 0 rfl #[true, true, true, true, true, true, true, true, true, true, true, true, true, true, true, true, true, true, true, true, true] (by kernel_rfl) (by kernel_rfl) (fun _ _ _ d _ h => by cases d <;> exact h) ?_
  simp only [opsAt, List.map_cons, List.map_nil, List.getElem?_toArray, List.getElem?_cons_zero, List.getElem?_cons_succ, Option.getD_some]
  repeat (go_big_quiet_step (fail))
  refine wpQuiet_nil ?_
  refine links_cons (by first | rfl | simp [go_sem]) (fun K hK => ?_)
  go_simp
  have hka : Keeps (fun _ => False) w2.drew (w2.alloc (.cells (ptrs B o) 107)).drew := ⟨rfl, rfl, rfl, by simp, fun k hk _ => Below.heap_alloc _ _ _ hk⟩
  refine hK _ _ (keptS (hka)) ?_
  clear hK K
  try refine links_nil ?_
  refine links_cons (by first | rfl | simp [go_sem]) (fun K hK => ?_)
  go_simp
  refine hK _ _ (keptS (hka)) ?_
  clear hK K
  try refine links_nil ?_
  refine stages_end (by kernel_rfl) ?_
  have hkb : Keeps (fun _ => False) w2 (w2.alloc (.cells (ptrs B o) 107)).drew := ((Keeps.refl _ w2).alloc _).drew
  have hP : (w2.alloc (.cells (ptrs B o) 107)).drew.heap[w2.heap.size]? = some (.cells (ptrs B o) 107 (0, 0)) := blk_new w2 _
  have hF3 := hF2.keeps hc hkb id id
  have hlt1 := hc.there hF2.st
  have hlt2 := blk_lt hF2.blk
  have hst : PlySt c w (w2.alloc (.cells (ptrs B o) 107)).drew B w2.heap.size o k 0 p := ⟨hF3, hP, ⟨by omega, by omega⟩, (hk1.trans hk2).trans (hkb.mono fun _ _ x => x.elim)⟩
  have Hst := hid hst
  clear hst hF3 hP hkb hka hF1 hF2 hk1 hk2 h hV hW hlt1 hlt2 h0 h1 h2 h3 h4
  change Exit.then _ _ _ _ (w2.alloc (.cells (ptrs B o) 107)).drew
  generalize (w2.alloc (.cells (ptrs B o) 107)).drew = w3 at *
  generalize w2.heap.size = N at *
  have HG := hid hG
  clear hG
  go_wp2_with fail
  go_loopw [5, 36] (fun _ i wr => ∃ j : Nat, j ≤ 6 ∧ i = .int .i64 j ∧ Hid (PlySt c w wr B N o k j p)) (fun _ i _ => 6 - (intOf i).toNat)
  case atStart => exact ⟨0, by omega, rfl, Hst⟩
  case round =>
    obtain ⟨j, hj, rfl, hC⟩ := hrel
    obtain ⟨wo, rfl⟩ : ∃ wo : World, wo = wr := ⟨_, rfl⟩
    clear Hst
    by_cases hlt : (j : Int) < 6
    · have y0 := hC.out.cell j (by omega)
      have hF := hC.out.fr
      rw [show k + (6 - j) = (k + (6 - (j + 1))) + 1 by omega] at hF
      go_wp2_with fail
      refine (HG.out j (by omega) _ _ _ hF).mono ?_
      rintro e w4 ⟨rfl, hF4, hk4⟩
      rw [← steps_ply] at hF4
      go_wp2_with fail
      go_roundw
      case rel =>
        obtain ⟨h1, h2, ⟨h3, h4⟩, h5⟩ := hC.out
        exact ⟨j + 1, by omega, by go_num, ⟨hF4, hk4.heap h2 (fun h => h.elim h3 h4), ⟨h3, h4⟩, h5.trans hk4⟩⟩
      case measure => simp [intOf]; omega
    · obtain rfl : j = 6 := by omega
      obtain ⟨h1, h2, h3, h5⟩ := hC.out
      go_wp2
      refine bodyPost_end (v := .tuple #[]) (by first | rfl | simp [results, go_sem]) rfl ?_
      exact ⟨rfl, h1, h5⟩
end Go.Proofs.Ytfepefohaadecaa
