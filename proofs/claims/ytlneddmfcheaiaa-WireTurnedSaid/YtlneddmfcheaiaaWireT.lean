/- The law on a turned byte of a datagram. -/
import Derived.Test.YtlneddmfcheaiaaWire10
import Derived.Test.YtlneddmfcheaiaaSumP
import Derived.Test.YtlneddmfcheaiaaBytes
import Derived.Laws.BitsAllLaws
namespace Go.Proofs.Ytlneddmfcheaiaa
open Go.RowKit
set_option maxRecDepth 10000
theorem xor_ne (x by' : Nat) (hx : x < 256) (hb : by' < 256) (h0 : by' ≠ 0) : ∃ c : UInt8, bits .xor .u8 (x : Int) (by' : Int) = (c.toNat : Int) ∧ c ≠ UInt8.ofNat x := by
  have hlt : x ^^^ by' < 256 := Nat.xor_lt_two_pow (n := 8) hx hb
  refine ⟨UInt8.ofNat (x ^^^ by'), ?_, ?_⟩
  · rw [u8_xor_nat x by' hx hb]
    simp [Nat.mod_eq_of_lt hx, Nat.mod_eq_of_lt hb]
  · intro h
    have := congrArg UInt8.toNat h
    simp [Nat.mod_eq_of_lt hb, Nat.mod_eq_of_lt hx] at this
    have h2 : x ^^^ (x ^^^ by') = x ^^^ x := congrArg (fun z => x ^^^ z) this
    rw [← Nat.xor_assoc, Nat.xor_self, Nat.zero_xor] at h2
    exact h0 h2
/-- the bytes behind one store, and what opening says of them -/
theorem opened_turned (l : List UInt8) (k : Nat) (c : UInt8) (hk : k < (sealed l).length) (hc : c ≠ (sealed l)[k]) : opened ((sealed l).set k c) = ([], 15) := by
  have hlen : ((sealed l).set k c).length = l.length + 4 := by simp [sealed, tail4_length]
  unfold opened
  rw [if_neg (by omega), if_neg]
  intro h
  have hn : ((sealed l).set k c).length - 4 = l.length := by omega
  rw [hn] at h
  refine turned l k c hk hc (((sealed l).set k c).take l.length) (((sealed l).set k c).drop l.length) (List.take_append_drop _ _) (by simp [sealed, tail4_length]) ?_
  have := congrArg (List.drop l.length) h
  rw [← this, sealed]
  exact (List.drop_left' (by simp)).symm
/-- a byte stored into a row of bytes, and the row read as a string -/
theorem conv_back (w : World) (b cap : Nat) (l : List UInt8) (k : Nat) (c : UInt8) (hk : k < l.length)
    (hcell : ∀ i (h : i < l.length), w.cell? ⟨b, i, none⟩ = some (.int .u8 l[i].toNat)) :
    (convert 24 9 (.slice (some ⟨b, 0, none⟩) l.length cap)).run Try.prog (w.setCell ⟨b, k, none⟩ (.int .u8 c.toNat)) = .ok (.string ⟨(l.set k c).toArray⟩) (w.setCell ⟨b, k, none⟩ (.int .u8 c.toNat)) := by
  have h := run_convert_bytes_back (P := Try.prog) (w.setCell ⟨b, k, none⟩ (.int .u8 c.toNat)) 24 9 5 ⟨b, 0, none⟩ cap (l.set k c) Try.underlying24 Try.underlying5 Try.underlying9 (by
    intro j hj
    have hj' : j < l.length := by simpa using hj
    have ea : (⟨b, 0, none⟩ : Addr).add j = ⟨b, j, none⟩ := by rw [addr_add, Nat.zero_add]
    rw [ea]
    by_cases e : k = j
    · subst e
      rw [World.cell?_setCell_same _ _ _ (hcell k hk)]
      simp
    · rw [World.cell?_setCell_other _ _ _ _ (by simp), hcell j hj']
      simp [List.getElem_set_ne e])
  simpa using h

variable {w : World} {m : Msg} {a : Option Addr} {c : Nat}
set_option maxHeartbeats 2000000 in
theorem law_WireTurned (at' b : Int) (hb : 0 ≤ b ∧ b ≤ 255) (hA : IsBytes w a c m.ins) (wf : m.wf) :
    Calls Try.prog 6 #[(.agg #[.int .i64 m.kind, .int .u32 m.nonce, .int .u16 m.serial, .int .u16 m.ack, .slice a m.ins.length c, .int .u32 m.sum, .int .i64 m.lead]), .int .i64 at', .int .u8 b] w fun e w' => e = .returned (.bool true) ∧ Below w.heap.size w w' := by
  have hpk := fun W (hb : IsBytes W a c m.ins) => wire_Pack (w := W) m hb wf
  have p0o : (w.alloc (.cells #[.int .i64 m.kind, .int .u32 m.nonce, .int .u16 m.serial, .int .u16 m.ack, .slice a m.ins.length c, .int .u32 m.sum, .int .i64 m.lead] 26)).cell? ⟨w.heap.size, 0, none⟩ = some (.int .i64 m.kind) := blk_cell' w _ _ rfl
  have p1o : (w.alloc (.cells #[.int .i64 m.kind, .int .u32 m.nonce, .int .u16 m.serial, .int .u16 m.ack, .slice a m.ins.length c, .int .u32 m.sum, .int .i64 m.lead] 26)).cell? ⟨w.heap.size, 1, none⟩ = some (.int .u32 m.nonce) := blk_cell' w _ _ rfl
  have p2o : (w.alloc (.cells #[.int .i64 m.kind, .int .u32 m.nonce, .int .u16 m.serial, .int .u16 m.ack, .slice a m.ins.length c, .int .u32 m.sum, .int .i64 m.lead] 26)).cell? ⟨w.heap.size, 2, none⟩ = some (.int .u16 m.serial) := blk_cell' w _ _ rfl
  have p3o : (w.alloc (.cells #[.int .i64 m.kind, .int .u32 m.nonce, .int .u16 m.serial, .int .u16 m.ack, .slice a m.ins.length c, .int .u32 m.sum, .int .i64 m.lead] 26)).cell? ⟨w.heap.size, 3, none⟩ = some (.int .u16 m.ack) := blk_cell' w _ _ rfl
  have p4o : (w.alloc (.cells #[.int .i64 m.kind, .int .u32 m.nonce, .int .u16 m.serial, .int .u16 m.ack, .slice a m.ins.length c, .int .u32 m.sum, .int .i64 m.lead] 26)).cell? ⟨w.heap.size, 4, none⟩ = some (.slice a m.ins.length c) := blk_cell' w _ _ rfl
  have p5o : (w.alloc (.cells #[.int .i64 m.kind, .int .u32 m.nonce, .int .u16 m.serial, .int .u16 m.ack, .slice a m.ins.length c, .int .u32 m.sum, .int .i64 m.lead] 26)).cell? ⟨w.heap.size, 5, none⟩ = some (.int .u32 m.sum) := blk_cell' w _ _ rfl
  have p6o : (w.alloc (.cells #[.int .i64 m.kind, .int .u32 m.nonce, .int .u16 m.serial, .int .u16 m.ack, .slice a m.ins.length c, .int .u32 m.sum, .int .i64 m.lead] 26)).cell? ⟨w.heap.size, 6, none⟩ = some (.int .i64 m.lead) := blk_cell' w _ _ rfl
  by_cases hr : RightP m
  rotate_left
  · have es : packS m = [] := by simp [packS, hr]
    have ee : packE m = 1 := by simp [packE, hr]
    rw [es, ee] at hpk
    have HP := hid hpk
    clear hr hpk es ee
    go_enter Try.func6, Try.ntmps6
    go_wp2_with fail
    refine (awake07 _).mono ?_
    rintro e w1 ⟨rfl, hb1⟩
    have hX : Below (w.heap.size + 1) (w.alloc (.cells #[.int .i64 m.kind, .int .u32 m.nonce, .int .u16 m.serial, .int .u16 m.ack, .slice a m.ins.length c, .int .u32 m.sum, .int .i64 m.lead] 26)) w1 := hb1.mono (by simp)
    have hW : Below w.heap.size w w1 := ((Below.refl _ w).alloc (Nat.le_refl _) _).trans (hb1.mono (by simp))
    clear hb1
    have p0 := (hX.cell (p := ⟨w.heap.size, 0, none⟩) (by simp)).trans p0o
    have p1 := (hX.cell (p := ⟨w.heap.size, 1, none⟩) (by simp)).trans p1o
    have p2 := (hX.cell (p := ⟨w.heap.size, 2, none⟩) (by simp)).trans p2o
    have p3 := (hX.cell (p := ⟨w.heap.size, 3, none⟩) (by simp)).trans p3o
    have p4 := (hX.cell (p := ⟨w.heap.size, 4, none⟩) (by simp)).trans p4o
    have p5 := (hX.cell (p := ⟨w.heap.size, 5, none⟩) (by simp)).trans p5o
    have p6 := (hX.cell (p := ⟨w.heap.size, 6, none⟩) (by simp)).trans p6o
    have hA1 := hA.keeps (Keeps.of_below (S := fun _ => False) hW (fun k h1 h2 => by omega)) (fun _ _ _ => id)
    go_wp2_with fail
    refine (HP.out _ hA1).mono ?_
    rintro e w2 ⟨rfl, hb2⟩
    have hW2 := hW.trans (hb2.mono hW.size)
    clear hX hW hA1 hb2 p0 p1 p2 p3 p4 p5 p6
    go_wp2_with fail
    go_ret
    exact ⟨rfl, hW2⟩
  have es : packS m = packM m := by simp [packS, hr]
  have ee : packE m = 0 := by simp [packE, hr]
  rw [es, ee] at hpk
  have HP := hid hpk
  by_cases h1 : b = 0
  · subst h1
    clear hr hpk es ee
    go_enter Try.func6, Try.ntmps6
    go_wp2_with fail
    refine (awake07 _).mono ?_
    rintro e w1 ⟨rfl, hb1⟩
    have hX : Below (w.heap.size + 1) (w.alloc (.cells #[.int .i64 m.kind, .int .u32 m.nonce, .int .u16 m.serial, .int .u16 m.ack, .slice a m.ins.length c, .int .u32 m.sum, .int .i64 m.lead] 26)) w1 := hb1.mono (by simp)
    have hW : Below w.heap.size w w1 := ((Below.refl _ w).alloc (Nat.le_refl _) _).trans (hb1.mono (by simp))
    clear hb1
    have p0 := (hX.cell (p := ⟨w.heap.size, 0, none⟩) (by simp)).trans p0o
    have p1 := (hX.cell (p := ⟨w.heap.size, 1, none⟩) (by simp)).trans p1o
    have p2 := (hX.cell (p := ⟨w.heap.size, 2, none⟩) (by simp)).trans p2o
    have p3 := (hX.cell (p := ⟨w.heap.size, 3, none⟩) (by simp)).trans p3o
    have p4 := (hX.cell (p := ⟨w.heap.size, 4, none⟩) (by simp)).trans p4o
    have p5 := (hX.cell (p := ⟨w.heap.size, 5, none⟩) (by simp)).trans p5o
    have p6 := (hX.cell (p := ⟨w.heap.size, 6, none⟩) (by simp)).trans p6o
    have hA1 := hA.keeps (Keeps.of_below (S := fun _ => False) hW (fun k h1 h2 => by omega)) (fun _ _ _ => id)
    go_wp2_with fail
    refine (HP.out _ hA1).mono ?_
    rintro e w2 ⟨rfl, hb2⟩
    have hW2 := hW.trans (hb2.mono hW.size)
    clear hX hW hA1 hb2 p0 p1 p2 p3 p4 p5 p6
    go_wp2_with fail
    go_ret
    exact ⟨rfl, hW2⟩
  · have hl : (packM m).length ≤ 148 := by have := raw_len m hr; unfold packM sealed; simp [tail4_length]; omega
    have hl0 : 0 < (packM m).length := by unfold packM sealed; simp [tail4_length]
    obtain ⟨k, hk, he⟩ := pick_index at' (packM m).length hl0 (by omega)
    obtain ⟨b, rfl⟩ := Int.eq_ofNat_of_zero_le hb.1
    obtain ⟨cc, hx, hne⟩ := xor_ne ((packM m)[k].toNat) b ((packM m)[k].toNat_lt) (by omega) (by omega)
    have hne' : cc ≠ (packM m)[k] := by simpa using hne
    have ho : opened ((packM m).set k cc) = ([], 15) := opened_turned (rawM m) k cc hk hne'
    have hu : unpM ((packM m).set k cc) = (Msg.zero, 15) := by unfold unpM; rw [ho, if_neg (by decide)]
    have hb0 : ((b : Int) == 0) = false := by simpa using h1
    clear hne hne' es ee hr hpk ho
    have Hu := hid hu
    clear hu
    generalize packM m = l at *
    have hl' : l.length ≤ 100000 := by omega
    clear hl
    go_enter Try.func6, Try.ntmps6
    go_wp2_with fail
    refine (awake07 _).mono ?_
    rintro e w1 ⟨rfl, hb1⟩
    have hX : Below (w.heap.size + 1) (w.alloc (.cells #[.int .i64 m.kind, .int .u32 m.nonce, .int .u16 m.serial, .int .u16 m.ack, .slice a m.ins.length c, .int .u32 m.sum, .int .i64 m.lead] 26)) w1 := hb1.mono (by simp)
    have hW : Below w.heap.size w w1 := ((Below.refl _ w).alloc (Nat.le_refl _) _).trans (hb1.mono (by simp))
    clear hb1
    have p0 := (hX.cell (p := ⟨w.heap.size, 0, none⟩) (by simp)).trans p0o
    have p1 := (hX.cell (p := ⟨w.heap.size, 1, none⟩) (by simp)).trans p1o
    have p2 := (hX.cell (p := ⟨w.heap.size, 2, none⟩) (by simp)).trans p2o
    have p3 := (hX.cell (p := ⟨w.heap.size, 3, none⟩) (by simp)).trans p3o
    have p4 := (hX.cell (p := ⟨w.heap.size, 4, none⟩) (by simp)).trans p4o
    have p5 := (hX.cell (p := ⟨w.heap.size, 5, none⟩) (by simp)).trans p5o
    have p6 := (hX.cell (p := ⟨w.heap.size, 6, none⟩) (by simp)).trans p6o
    have hA1 := hA.keeps (Keeps.of_below (S := fun _ => False) hW (fun k h1 h2 => by omega)) (fun _ _ _ => id)
    go_wp2_with fail
    refine (HP.out _ hA1).mono ?_
    rintro e w2 ⟨rfl, hb2⟩
    have hW2 := hW.trans (hb2.mono hW.size)
    clear hX hW hA1 hb2 p0 p1 p2 p3 p4 p5 p6
    obtain ⟨cap, w3, hcv, hcap, hb3, hsz, hcell, hfr⟩ := conv_bytes w2 ⟨l.toArray⟩
    have hcap' : l.length ≤ cap := hcap
    have hc := hcell k hk
    have hf := hfr k hk
    have hback := conv_back w3 w2.heap.size cap l k cc hk hcell
    have hW3 : Below w.heap.size w (w3.setCell ⟨w2.heap.size, k, none⟩ (.int .u8 cc.toNat)) := (bnext hW2 hb3).setCell hW2.size _
    clear hcell hfr hcap hb3 hW2 hsz
    go_wp2_with fail
    have hsz3 : (ByteArray.mk (l.set k cc).toArray).size ≤ 100000 := by simp [ByteArray.size]; omega
    have hU := wire_Unpack (w := w3.setCell ⟨w2.heap.size, k, none⟩ (.int .u8 cc.toNat)) _ hsz3
    rw [show (ByteArray.mk (l.set k cc).toArray).data.toList = l.set k cc by simp, Hu.out] at hU
    have HU := hid hU
    clear hU hsz3
    refine HU.out.mono ?_
    rintro e w4 ⟨a4, c4, rfl, hb4, hb⟩
    have hW4 := hW3.trans (hb.mono hW3.size)
    have hSm := ref_SameM (w := w4.alloc (.cells #[.int .i64 0, .int .u32 0, .int .u16 0, .int .u16 0, .slice a4 0 c4, .int .u32 0, .int .i64 0] 26)) (a := Msg.zero) (b := Msg.zero) (hb4.keeps ((Keeps.refl (fun _ => False) w4).alloc _) (fun _ _ _ => id)) (IsBytes.none _)
    rw [(sameM_iff _ _).2 rfl] at hSm
    have HSm := hid hSm
    have hW5 := hW4.alloc hW4.size (.cells #[.int .i64 0, .int .u32 0, .int .u16 0, .int .u16 0, .slice a4 0 c4, .int .u32 0, .int .i64 0] 26)
    clear hSm hb hb4 hW3 hW4 hc hf hback hcv
    simp only [Msg.zero, List.length_nil]
    go_wp2_with fail
    refine HSm.out.mono ?_
    rintro e w6 ⟨rfl, hb6⟩
    have hW6 := hW5.trans (hb6.mono hW5.size)
    clear hb6 hW5
    go_wp2_with fail
    go_ret
    exact ⟨rfl, hW6⟩
end Go.Proofs.Ytlneddmfcheaiaa
