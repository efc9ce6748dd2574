/- slices.Sorted over slices.Values, at []int. -/
import Derived.Test.YtfepefohaadecaaSeqI
import Derived.Test.YtfepefohaadecaaLobM
import Derived.Shelf.Sort.Plain
import Derived.Lib.SliceRun
import Derived.Lib.OwnBridge
import Derived.Sort.OwnSortedInts
namespace Go.Proofs.Ytfepefohaadecaa
open Go.RowKit
open Go.Shelf
attribute [local go_sem] Oper.semAt_some
def sort_ren : Go.Shelf.Ren := ⟨fun | 125 => 114 | 128 => 132 | 129 => 133 | 189 => 99 | 215 => 143 | 216 => 129 | 257 => 113 | 294 => 123 | 295 => 124 | 296 => 125 | 297 => 126 | 298 => 127 | 299 => 128 | 300 => 130 | 301 => 131 | 328 => 138 | 329 => 139 | 330 => 140 | 331 => 141 | 332 => 142 | 343 => 145 | n => n, fun | 0 => 0 | 3 => 3 | 4 => 4 | 5 => 5 | 9 => 9 | 28 => 52 | 46 => 162 | 51 => 22 | 53 => 93 | 131 => 237 | 182 => 231 | 183 => 232 | 218 => 250 | 222 => 107 | 228 => 256 | 229 => 257 | n => n, fun | n => n⟩
theorem sort_lay : Lays.n189 Try.prog sort_ren := {
  mixed := by kernel_rfl
  f125 := Try.func114.trans (congrArg some (by kernel_rfl))
  f128 := Try.func132.trans (congrArg some (by kernel_rfl))
  f129 := Try.func133.trans (congrArg some (by kernel_rfl))
  f189 := Try.func99.trans (congrArg some (by kernel_rfl))
  f215 := Try.func143.trans (congrArg some (by kernel_rfl))
  f216 := Try.func129.trans (congrArg some (by kernel_rfl))
  f257 := Try.func113.trans (congrArg some (by kernel_rfl))
  f294 := Try.func123.trans (congrArg some (by kernel_rfl))
  f295 := Try.func124.trans (congrArg some (by kernel_rfl))
  f296 := Try.func125.trans (congrArg some (by kernel_rfl))
  f297 := Try.func126.trans (congrArg some (by kernel_rfl))
  f298 := Try.func127.trans (congrArg some (by kernel_rfl))
  f299 := Try.func128.trans (congrArg some (by kernel_rfl))
  f300 := Try.func130.trans (congrArg some (by kernel_rfl))
  f301 := Try.func131.trans (congrArg some (by kernel_rfl))
  f328 := Try.func138.trans (congrArg some (by kernel_rfl))
  f329 := Try.func139.trans (congrArg some (by kernel_rfl))
  f330 := Try.func140.trans (congrArg some (by kernel_rfl))
  f331 := Try.func141.trans (congrArg some (by kernel_rfl))
  f332 := Try.func142.trans (congrArg some (by kernel_rfl))
  f343 := Try.func145.trans (congrArg some (by kernel_rfl))
  t0 := Try.underlying0
  a0 := Try.isAgg0
  z0 := Try.sizeOf0
  v0 := Try.zeroValue0
  t3 := Try.underlying3
  a3 := Try.isAgg3
  z3 := Try.sizeOf3
  v3 := Try.zeroValue3
  t4 := Try.underlying4
  a4 := Try.isAgg4
  z4 := Try.sizeOf4
  v4 := Try.zeroValue4
  t5 := Try.underlying5
  a5 := Try.isAgg5
  z5 := Try.sizeOf5
  v5 := Try.zeroValue5
  t9 := Try.underlying9
  a9 := Try.isAgg9
  z9 := Try.sizeOf9
  v9 := Try.zeroValue9
  t28 := Try.underlying52
  a28 := Try.isAgg52
  z28 := Try.sizeOf52
  v28 := Try.zeroValue52
  t46 := Try.underlying162
  a46 := Try.isAgg162
  z46 := Try.sizeOf162
  v46 := Try.zeroValue162
  t51 := Try.underlying22
  a51 := Try.isAgg22
  z51 := Try.sizeOf22
  v51 := Try.zeroValue22
  t53 := Try.underlying93
  a53 := Try.isAgg93
  z53 := Try.sizeOf93
  v53 := Try.zeroValue93
  t131 := Try.underlying237
  a131 := Try.isAgg237
  z131 := Try.sizeOf237
  v131 := Try.zeroValue237
  t182 := Try.underlying231
  a182 := Try.isAgg231
  z182 := Try.sizeOf231
  v182 := Try.zeroValue231
  t183 := Try.underlying232
  a183 := Try.isAgg232
  z183 := Try.sizeOf232
  v183 := Try.zeroValue232
  t218 := Try.underlying250
  a218 := Try.isAgg250
  z218 := Try.sizeOf250
  v218 := Try.zeroValue250
  t222 := Try.underlying107
  a222 := Try.isAgg107
  z222 := Try.sizeOf107
  v222 := Try.zeroValue107
  t228 := Try.underlying256
  a228 := Try.isAgg256
  z228 := Try.sizeOf256
  v228 := Try.zeroValue256
  t229 := Try.underlying257
  a229 := Try.isAgg257
  z229 := Try.sizeOf257
  v229 := Try.zeroValue257 }

def sortL (L : List Int) : List Int := L.mergeSort fun x y => decide (x ≤ y)
theorem sortL_perm (L : List Int) : (sortL L).Perm L := List.mergeSort_perm _ _
theorem sortL_sorted (L : List Int) : (sortL L).Pairwise (· ≤ ·) := by
  have h := List.pairwise_mergeSort (le := fun x y : Int => decide (x ≤ y)) (fun a b c h1 h2 => by simp only [decide_eq_true_eq] at *; omega) (fun a b => by simp only [Bool.or_eq_true, decide_eq_true_eq]; omega) L
  exact h.imp fun h => by simpa using h
theorem sortL_len (L : List Int) : (sortL L).length = L.length := (sortL_perm L).length_eq
theorem intsL_get (L : List Int) (k : Nat) (h : k < L.length) : (intsL L)[k]? = some (.int .i64 L[k]) := by simp [intsL, h]
variable {w : World}
theorem values1 (Bn : Nat) (a : Option Addr) (cap : Nat) (L : List Int) (hc : w.cell? ⟨Bn, 0, none⟩ = some (.slice a L.length cap)) (hL : Vals w 1 a L.length cap (intsL L))
    (Wr : Nat → Prop) (hW : 0 < L.length → ∀ x, a = some x → x.block < w.heap.size ∧ ¬ Wr x.block) :
    YieldsAll Try.prog 100 #[.pointer (some ⟨Bn, 0, none⟩)] (fun x : Int => #[.int .i64 x]) L Wr (fun _ => False) w := by
  intro l J W hl hk hsz hJ hY h0
  subst hl
  have b1 := hL.2.1
  have b2 := hL.2.2.1
  unfold maxLen at b2
  have hcW := hk.cell hc id
  refine callsIn_wide.2 ?_
  go_enter Try.func100, Try.ntmps100
  go_wp2_with fail
  go_loopw [7] (fun v wr => ∃ k : Nat, k ≤ L.length ∧ v = .int .i64 k ∧ Vals wr 1 a L.length cap (intsL L) ∧ J (L.take k) wr ∧ w.heap.size + 2 ≤ wr.heap.size)
    (fun v _ => L.length - (intOf v).toNat)
  case atStart => exact ⟨0, Nat.zero_le _, rfl, hL.keeps hk (fun _ _ _ => id), by simpa using h0, by omega⟩
  case round =>
    obtain ⟨k, hkl, rfl, hv, hJk, hsz2⟩ := hrel
    by_cases hlt : k < L.length
    · have hz1 : L = L.take k ++ L[k] :: L.drop (k + 1) := by rw [← List.drop_eq_getElem_cons hlt, List.take_append_drop]
      have hz2 : L.take (k + 1) = L.take k ++ [L[k]] := List.take_succ_eq_append_getElem hlt
      obtain ⟨b, o, rfl, hcc⟩ := hv.at' (by omega)
      have hck : wr.cell? ⟨b, o + k, none⟩ = some (.int .i64 L[k]) := hcc k _ (intsL_get L k hlt)
      have Hz1 := hid hz1
      have Hz2 := hid hz2
      clear hz1 hz2 hcc
      generalize hLk : L[k] = x at *
      clear hLk
      go_upto_region 3 with fail
      refine (wpIn_wide (n := 0)).1 ?_
      obtain ⟨fn, tmps, assign, body, hy, hRd⟩ := hY (L.take k) x (L.drop (k + 1)) wr Hz1.out hJk
      gi_wp2
      refine ⟨rfl, hRd.mono ?_⟩
      rintro e W2 ⟨rfl, hJ2, hK2⟩
      clear hy hRd
      have hv2 := hv.keeps hK2 (fun hn y hy h => h.elim (hW hn y hy).2 (fun h => by have := (hW hn y hy).1; omega))
      have hs2 := hK2.size
      gi_wp2
      go_wp2
      go_roundw
      case rel => exact ⟨k + 1, by omega, by go_num, hv2, by rw [Hz2.out]; exact hJ2, Nat.le_trans hsz2 hs2⟩
      case measure => simp [intOf]; omega
    · have he : L.take k = L := List.take_of_length_le (by omega)
      rw [he] at hJk
      clear he
      go_wp2_with fail
      go_end0
      exact ⟨⟨_, rfl⟩, hJk⟩
theorem slices_Sorted (Bn : Nat) (a : Option Addr) (cap : Nat) (L : List Int) (hc : w.cell? ⟨Bn, 0, none⟩ = some (.slice a L.length cap)) (hL : Vals w 1 a L.length cap (intsL L)) (h0 : 0 < L.length) (hmax : L.length ≤ 4096) :
    Calls Try.prog 79 #[.func (.func 100) #[] #[.pointer (some ⟨Bn, 0, none⟩)]] w fun e w' =>
      ∃ v, e = .returned v ∧ w'.ownsRow (w.heap.size + 3) 3 1 v L.length (intsL (sortL L)) ∧ Below w.heap.size w w' := by
  have hit := values1 (w := w.alloc (.cells #[.slice none 0 0] 52)) Bn a cap L (cell_past hc _) (hL.keeps ((Keeps.refl (fun _ => False) w).alloc _) (fun _ _ _ => id)) (fun k => k = w.heap.size ∨ w.heap.size + 2 < k)
    (fun hn x hx => by have := hL.lt (by omega) hn hx; simp; omega)
  have hC := hid (seq_Collect (w := w) (fun x : Int => x) 100 #[.pointer (some ⟨Bn, 0, none⟩)] (enters_of Try.func100 (by kernel_rfl) rfl) L hmax hit)
  clear hit hc hL
  go_enter Try.func79, Try.ntmps79
  go_wp2_with fail
  refine hC.out.mono ?_
  rintro e w1 ⟨v, rfl, hown, hb⟩
  rw [List.map_id'] at hown
  have hv : v ≠ .slice none 0 0 := by
    rintro rfl
    rcases hown.2 with ⟨_, h⟩ | ⟨g, cap, cur, h, _⟩
    · have := hown.1; rw [h] at this; simp at this; omega
    · cases h
  obtain ⟨g, cp, rfl, hbg, hgw, hnc, hcm, hzl, hH⟩ := Lib.holds_of_ownsRow (zs := L) hown hv
  rcases hown.2 with ⟨h, _⟩ | ⟨g', cap', cur, h, _, hh, q1, q2, q3, q4⟩
  · cases h
  cases h
  have hS := Any.slices_Sort_int sort_lay g 0 cp L w1 hH hgw (by omega)
  change Calls Try.prog 99 _ _ _ at hS
  have HS := hid hS
  have Hh := hid hh
  clear hS hH hown hv hC hh q4
  go_wp2_with fail
  refine HS.out.mono ?_
  rintro e w3 ⟨rfl, n, os, hw3⟩
  have ho := ownsRow_sortedI (n := n) (os := os) (ss := L) (ts := sortL L) (sortL_len L) hbg Hh.out q1 q2 q3
  have hg := grownBy_sortedI (w := w1) (g := g) (n := n) (os := os) (sortL L).toArray
  have hk := ((Keeps.refl (fun k => w.heap.size ≤ k) w1).grown hg (fun k hk => .inl (by cases hk; omega)))
  have hbl := hb.trans (hk.below hb.size (fun k h1 h2 => by omega))
  have e3 : Sort.grow (Sort.putRow (Value.int .i64) (Sort.ahead w1 n) g 0 (sortL L).toArray) os = w3 := hw3.symm
  rw [e3] at ho hbl
  clear hg hk e3 hw3
  go_wp2_with fail
  go_ret
  exact ⟨_, rfl, ho, hbl⟩
end Go.Proofs.Ytfepefohaadecaa
