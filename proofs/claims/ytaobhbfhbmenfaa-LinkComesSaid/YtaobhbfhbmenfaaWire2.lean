/- A datagram's bytes, by the program. -/
import Derived.Test.YtaobhbfhbmenfaaWire1
import Derived.Test.YtaobhbfhbmenfaaMsg4
import Derived.Test.YtaobhbfhbmenfaaRun
import Derived.Test.YtaobhbfhbmenfaaSigned
import Derived.Lib.AppendStr
namespace Go.Proofs.Ytaobhbfhbmenfaa
open Go.RowKit
set_option maxRecDepth 10000
def bodyM (m : Msg) : List UInt8 :=
  if m.kind = 1 ∨ m.kind = 2 then tail4 m.nonce else if m.kind = 3 then be2 m.serial ++ be2 m.ack ++ runBytes m.ins else if m.kind = 4 then be2 m.serial ++ tail4 m.sum
  else if m.kind = 5 then be2 m.ack else if m.kind = 6 then be2 m.serial ++ num (zz m.lead) else []
def rawM (m : Msg) : List UInt8 := [80, UInt8.ofNat m.kind.toNat] ++ bodyM m
def packM (m : Msg) : List UInt8 := sealed (rawM m)
theorem be2_len (n : Int) : (be2 n).length = 2 := rfl
theorem runBytes_le (L : List UInt8) (hf : fits L = true) : (runBytes L).length ≤ 138 := by
  have hl : L.length ≤ 64 := by
    unfold fits at hf
    simp only [Bool.and_eq_true, decide_eq_true_eq] at hf
    exact hf.2
  have := pre_len L hl (runs L) [] (by simp)
  exact this
theorem zz_small (n : Int) (h : -1000 ≤ n ∧ n ≤ 1000) : (num (zz n)).length ≤ 2 := num_len 1 _ (by unfold zz; split <;> omega)
theorem raw_len (m : Msg) (h : RightP m) : (rawM m).length ≤ 144 := by
  have h1 := runBytes_le m.ins h.2.1
  have h2 := zz_small m.lead h.2.2.1
  unfold rawM bodyM
  simp only [List.length_append, List.length_cons, List.length_nil]
  split
  · simp [tail4_length]
  split
  · simp only [List.length_append, be2_len]; omega
  split
  · simp [be2_len, tail4_length]
  split
  · simp [be2_len]
  split
  · simp only [List.length_append, be2_len]; omega
  · simp
variable {w : World} {a : Option Addr} {c : Nat}
theorem wire_Pack_no (m : Msg) (h : IsBytes w a c m.ins) (hr : ¬ RightP m) :
    Calls Try.prog 33 #[(.agg #[.int .i64 m.kind, .int .u32 m.nonce, .int .u16 m.serial, .int .u16 m.ack, .slice a m.ins.length c, .int .u32 m.sum, .int .i64 m.lead])] w fun e w' => e = .returned (.tuple #[.string ⟨#[]⟩, .int .i64 1]) ∧ Below w.heap.size w w' := by
  have hk : Keeps (fun _ => False) w (w.alloc (.cells #[.int .i64 m.kind, .int .u32 m.nonce, .int .u16 m.serial, .int .u16 m.ack, .slice a m.ins.length c, .int .u32 m.sum, .int .i64 m.lead] 49)) := (Keeps.refl _ w).alloc _
  have hR := wire_RightM m (h.keeps hk (fun _ _ _ => id))
  rw [decide_eq_false hr] at hR
  have HR := hid hR
  clear hR hr h hk
  go_enter Try.func33, Try.ntmps33
  go_wp2_with fail
  refine HR.out.mono ?_
  rintro e w' ⟨rfl, hb⟩
  go_wp2_with fail
  go_ret2
  exact ⟨rfl, ((Below.refl _ w).alloc (Nat.le_refl _) _).trans (hb.mono (by simp))⟩
/-- a slice of two bytes just made is a row of the call's own -/
theorem own_two {w : World} {base : Nat} (hB : base ≤ w.heap.size) (x y : Int) : (w.alloc (.cells #[.int .u8 x, .int .u8 y] 5)).ownsRow base 5 1 (.slice (some ⟨w.heap.size, 0, none⟩) 2 2) 2 [.int .u8 x, .int .u8 y] :=
  ⟨rfl, .inr ⟨w.heap.size, 2, #[.int .u8 x, .int .u8 y], rfl, hB, blk_new w _, Nat.le_refl _, by simp [maxLen], by simp, by simp⟩⟩
end Go.Proofs.Ytaobhbfhbmenfaa
