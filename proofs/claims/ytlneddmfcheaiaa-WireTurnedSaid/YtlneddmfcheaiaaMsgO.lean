/- A datagram that came in as an argument. -/
import Derived.Test.YtlneddmfcheaiaaOpen
import Derived.Test.YtlneddmfcheaiaaMsg
namespace Go.Proofs.Ytlneddmfcheaiaa
open Go.RowKit
theorem bytes_of_vals {w : World} {a : Option Addr} {cap n : Nat} {L : List Int} (hn : n = L.length) (h : Vals w 1 a n cap (L.map fun x => .int .u8 x)) (hw : ∀ n ∈ L, (Lit.int .u8 n).wf = true) :
    ∃ B : List UInt8, B.length = n ∧ IsBytes w a cap B := by
  subst hn
  refine ⟨L.map fun n => UInt8.ofNat n.toNat, by simp, by simpa using h.2.1, h.2.2.1, ?_⟩
  by_cases h0 : L.length = 0
  · exact .inl (by simpa using h0)
  · obtain ⟨b, o, rfl, hc⟩ := h.at' (by omega)
    refine .inr ⟨b, o, rfl, fun i hi => ?_⟩
    simp at hi
    have h1 := hc i (.int .u8 L[i]) (by simp [hi])
    rw [h1]
    have h3 := wf_u8 (hw L[i] (List.getElem_mem hi))
    simp [byteV]
    omega
theorem wf_u32 {n : Int} (h : (Lit.int .u32 n).wf = true) : 0 ≤ n ∧ n < 4294967296 := by
  simp only [Lit.wf] at h
  have : 0 ≤ n ∧ n ≤ 4294967295 := by simpa [IntKind.min, IntKind.max, IntKind.signed, IntKind.bits] using h
  omega
theorem wf_u16 {n : Int} (h : (Lit.int .u16 n).wf = true) : 0 ≤ n ∧ n < 65536 := by
  simp only [Lit.wf] at h
  have : 0 ≤ n ∧ n ≤ 65535 := by simpa [IntKind.min, IntKind.max, IntKind.signed, IntKind.bits] using h
  omega
theorem msg_of {w : World} {cs : List Value} (h : LeavesAre w [.int .i64, .int .u32, .int .u16, .int .u16, .ints .u8, .int .u32, .int .i64] cs) :
    ∃ (m : Msg) (a : Option Addr) (c : Nat), cs = [.int .i64 m.kind, .int .u32 m.nonce, .int .u16 m.serial, .int .u16 m.ack, .slice a m.ins.length c, .int .u32 m.sum, .int .i64 m.lead] ∧ IsBytes w a c m.ins ∧ m.wf := by
  obtain ⟨hl, hc⟩ := h
  obtain ⟨v0, v1, v2, v3, v4, v5, v6, rfl⟩ : ∃ v0 v1 v2 v3 v4 v5 v6, cs = [v0, v1, v2, v3, v4, v5, v6] := by
    match cs, hl with
    | [v0, v1, v2, v3, v4, v5, v6], _ => exact ⟨v0, v1, v2, v3, v4, v5, v6, rfl⟩
  obtain ⟨k, rfl, wk⟩ := hc 0 _ _ rfl rfl
  obtain ⟨n, rfl, wn⟩ := hc 1 _ _ rfl rfl
  obtain ⟨s, rfl, ws⟩ := hc 2 _ _ rfl rfl
  obtain ⟨ak, rfl, wak⟩ := hc 3 _ _ rfl rfl
  obtain ⟨a, L, cap, rfl, hv, hw⟩ := hc 4 _ _ rfl rfl
  obtain ⟨u, rfl, wu⟩ := hc 5 _ _ rfl rfl
  obtain ⟨l, rfl, wl⟩ := hc 6 _ _ rfl rfl
  obtain ⟨B, hB, hb⟩ := bytes_of_vals rfl hv hw
  exact ⟨⟨k, n, s, ak, B, u, l⟩, a, cap, by rw [← hB], hb, ⟨wf_i64 wk, wf_u32 wn, wf_u16 ws, wf_u16 wak, wf_u32 wu, wf_i64 wl⟩⟩
end Go.Proofs.Ytlneddmfcheaiaa
