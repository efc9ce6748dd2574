/- A datagram's bytes, by the program, or that it has none; the chapter's example. -/
import Derived.Test.YtaobhbfhbmenfaaWire3
namespace Go.Proofs.Ytaobhbfhbmenfaa
open Go.RowKit
set_option maxRecDepth 10000
variable {w : World} {a : Option Addr} {c : Nat}
def packS (m : Msg) : List UInt8 := if RightP m then packM m else []
def packE (m : Msg) : Int := if RightP m then 0 else 1
theorem wire_Pack (m : Msg) (h : IsBytes w a c m.ins) (hw : m.wf) :
    Calls Try.prog 33 #[(.agg #[.int .i64 m.kind, .int .u32 m.nonce, .int .u16 m.serial, .int .u16 m.ack, .slice a m.ins.length c, .int .u32 m.sum, .int .i64 m.lead])] w fun e w' => e = .returned (.tuple #[.string ⟨(packS m).toArray⟩, .int .i64 (packE m)]) ∧ Below w.heap.size w w' := by
  unfold packS packE
  by_cases hr : RightP m
  · rw [if_pos hr, if_pos hr]
    obtain ⟨_, hn, hs, hak, hu, _⟩ := hw
    have hk := hr.1
    obtain ⟨k, n, s, ak, i, u, l⟩ := m
    simp only at *
    obtain rfl | rfl | rfl | rfl | rfl | rfl | rfl : k = 1 ∨ k = 2 ∨ k = 3 ∨ k = 4 ∨ k = 5 ∨ k = 6 ∨ k = 7 := by omega
    · exact pack_k1 n s ak u l i h hr hn
    · exact pack_k2 n s ak u l i h hr hn
    · exact pack_k3 n s ak u l i h hr hs hak
    · exact pack_k4 n s ak u l i h hr hs hu
    · exact pack_k5 n s ak u l i h hr hak
    · exact pack_k6 n s ak u l i h hr hs
    · exact pack_k7 n s ak u l i h hr
  · rw [if_neg hr, if_neg hr]
    exact wire_Pack_no m h hr
end Go.Proofs.Ytaobhbfhbmenfaa
