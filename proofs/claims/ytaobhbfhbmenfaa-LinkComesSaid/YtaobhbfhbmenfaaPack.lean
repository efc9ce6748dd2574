/- What pack.Number returns. -/
import Derived.Test.YtaobhbfhbmenfaaRows
import Derived.Test.YtaobhbfhbmenfaaKeeps
import Derived.Test.YtaobhbfhbmenfaaBytes
import Derived.Test.YtaobhbfhbmenfaaPackM
import Derived.Maps.AppendAt
import Derived.RangeFuncBox
import Derived.Laws.BitsAllLaws
namespace Go.Proofs.Ytaobhbfhbmenfaa
open Go.RowKit
theorem info_u8 : (Try.prog.info? 5).map (fun i => (i.zero, i.size, i.bytes)) = some (some (.int .u8 0), 1, 1) := by kernel_rfl
def byteV (c : UInt8) : Value := .int .u8 c.toNat
/-- bytes of the call's own, read as a string -/
theorem conv_own {w : World} {base n : Nat} {v : Value} (l : List UInt8) (h : w.ownsRow base 5 1 v n (l.map byteV)) :
    (convert 35 9 v).run Try.prog w = .ok (.string ⟨l.toArray⟩) w := by
  obtain ⟨hl, hv⟩ := id h
  simp at hl
  rcases hv with ⟨rfl, rfl⟩ | ⟨g, cap, cur, rfl, _⟩
  · obtain rfl : l = [] := List.length_eq_zero_iff.1 hl
    rw [run_convert_bytes_nil w 35 5 Try.underlying35 Try.underlying5 0 0 9 Try.underlying9]
    rfl
  · subst hl
    refine run_convert_bytes_back w 35 9 5 ⟨g, 0, none⟩ cap l Try.underlying35 Try.underlying5 Try.underlying9 fun j hj => ?_
    rw [addr_add, Nat.zero_add, h.cellAt j (by simpa using hj)]
    simp [hj, byteV]
theorem own_snoc {w : World} {base : Nat} {v : Value} {acc : List UInt8} {x : Int} (c : UInt8) (h : w.ownsRow base 5 1 v (acc.length + 1) (acc.map byteV ++ [.int .u8 x])) (hx : x = c.toNat) :
    w.ownsRow base 5 1 v (acc ++ [c]).length ((acc ++ [c]).map byteV) := by
  simpa [byteV, hx] using h
set_option maxRecDepth 100000 in
theorem pack_Number (N : Nat) (hN : N < two64) (w : World) :
    Calls Try.prog 75 #[.int .u64 N] w fun e w' => e = .returned (.string ⟨(num N).toArray⟩) ∧ Below w.heap.size w w' := by
  obtain ⟨i0, hi, hz0, hz1, hz2⟩ := info_parts info_u8
  have hlen := num_len10 N hN
  go_enter Try.func75, Try.ntmps75
  go_wp2
  go_loopw [0, 3] (fun n v wr => ∃ (m : Nat) (acc : List UInt8), n = .int .u64 m ∧ m ≤ N ∧ num N = acc ++ num m ∧ wr.ownsRow w.heap.size 5 1 v acc.length (acc.map byteV) ∧ Below w.heap.size w wr)
    (fun n _ _ => (intOf n).toNat)
  case atStart => exact ⟨N, [], rfl, Nat.le_refl _, rfl, World.ownsRow_nil _ _ _ _, Below.refl _ _⟩
  case round =>
    obtain ⟨m, acc, rfl, hm, hacc, hown, hb⟩ := hrel
    have hal : acc.length ≤ 10 := by have := congrArg List.length hacc; simp at this; omega
    have Hacc := hid hacc
    clear hacc
    by_cases hlt : m < 128
    · go_wp2_with (at_builtin; refine wpList_append_own _ rfl (.tmp 15) (.tmp 18) 35 rfl w.heap.size 5 i0 (.int .u8 0) 1 1 Try.underlying35 hi hz0 hz1 hz2 rfl (by decide) _ _ _ rfl (hown.alloc _) ⟨wr.heap.size, 0, none⟩ 1 1 [.int .u8 (m : Int)] rfl rfl (cell_one_new _ _ _) (by simp [Value.oneCell']) (by unfold maxLen; omega) (by omega) (by have := hb.size; simp; omega) ?_)
      intro v' w1 hown' hgrow _
      have hb1 : Below w.heap.size w w1 := (hb.alloc hb.size _).grown hgrow (by simpa using Nat.le_succ_of_le hb.size) (fun k e => ((hown.alloc (.cells #[.int .u8 (m : Int)] 5)).lt k e).1)
      have hcv := conv_own _ (own_snoc (UInt8.ofNat m) hown' (by simp; omega))
      have hfin : num N = acc ++ [UInt8.ofNat m] := by rw [Hacc.out, num_small m hlt]
      have Hfin := hid hfin
      clear hfin hown' hgrow hown
      go_wp2
      go_ret
      exact ⟨by rw [Hfin.out]; rfl, hb1⟩
    · have hor : bits .or .u8 ((m : Int) % 128) 128 = (m : Int) % 128 + 128 := by
        have h1 := u8_or (((m : Int) % 128)) 128 (by omega) (by omega) (by decide) (by decide)
        have h2 := nat_join 7 128 ((m : Int) % 128).toNat (by decide) (by omega)
        rw [h1, Nat.or_comm]
        simp only [Int.reduceToNat] at *
        omega
      go_wp2_with (at_builtin; refine wpList_append_own _ rfl (.tmp 8) (.tmp 13) 35 rfl w.heap.size 5 i0 (.int .u8 0) 1 1 Try.underlying35 hi hz0 hz1 hz2 rfl (by decide) _ _ _ rfl (hown.alloc _) ⟨wr.heap.size, 0, none⟩ 1 1 [.int .u8 ((m : Int) % 128 + 128)] rfl rfl (cell_one_new _ _ _) (by simp [Value.oneCell']) (by unfold maxLen; omega) (by omega) (by have := hb.size; simp; omega) ?_)
      intro v' w1 hown' hgrow _
      have hb1 : Below w.heap.size w w1 := (hb.alloc hb.size _).grown hgrow (by simpa using Nat.le_succ_of_le hb.size) (fun k e => ((hown.alloc (.cells #[.int .u8 ((m : Int) % 128 + 128)] 5)).lt k e).1)
      have hwr : IntKind.u64.wrap ((m : Int) / 128) = (m : Int) / 128 := IntWalk.u64_in _ (by unfold two64 at hN; omega)
      have hnx : num N = (acc ++ [UInt8.ofNat (m % 128 + 128)]) ++ num (m / 128) := by rw [Hacc.out, num_big m hlt]; simp
      have hown2 := own_snoc (UInt8.ofNat (m % 128 + 128)) hown' (by simp; omega)
      have Hnx := hid hnx
      clear hnx hown' hgrow hown
      go_wp2
      go_roundw
      case rel => exact ⟨m / 128, _, by go_num, Nat.le_trans (Nat.div_le_self _ _) hm, Hnx.out, hown2, hb1⟩
      case measure =>
        have hd : m / 128 < m := Nat.div_lt_self (by omega) (by decide)
        simp [intOf]
        omega
end Go.Proofs.Ytaobhbfhbmenfaa
