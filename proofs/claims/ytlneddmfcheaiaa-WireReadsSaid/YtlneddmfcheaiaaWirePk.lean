/- The law on packing datagrams. -/
import Derived.Test.YtlneddmfcheaiaaWire10
import Derived.Test.YtlneddmfcheaiaaWireQ
import Derived.Test.YtlneddmfcheaiaaWire6
import Derived.Test.YtlneddmfcheaiaaMsg3
namespace Go.Proofs.Ytlneddmfcheaiaa
open Go.RowKit
set_option maxRecDepth 10000
variable {w : World} {m : Msg} {a : Option Addr} {c : Nat}
theorem opened_sealed (l : List UInt8) : opened (sealed l) = (l, 0) := by
  unfold opened sealed
  rw [if_neg (by simp [tail4_length])]
  have e : (l ++ tail4 (more 1 l)).length - 4 = l.length := by simp [tail4_length]
  rw [e, List.take_left]
  simp
theorem unpM_pack (m : Msg) (hr : RightP m) (wf : m.wf) : unpM (packM m) = (m, 0) := by
  unfold unpM packM
  rw [opened_sealed, if_pos rfl]
  exact unpT_raw m hr wf
theorem ref_Pack (m : Msg) (h : IsBytes w a c m.ins) (hw : m.wf) (hr : RightP m) :
    Calls Try.prog 18 #[(.agg #[.int .i64 m.kind, .int .u32 m.nonce, .int .u16 m.serial, .int .u16 m.ack, .slice a m.ins.length c, .int .u32 m.sum, .int .i64 m.lead])] w fun e w' => e = .returned (.string ⟨(packM m).toArray⟩) ∧ Below w.heap.size w w' := by
  obtain ⟨_, hn, hs, hak, hu, _⟩ := hw
  have hk := hr.1
  obtain ⟨k, n, s, ak, i, u, l⟩ := m
  simp only at *
  obtain rfl | rfl | rfl | rfl | rfl | rfl | rfl : k = 1 ∨ k = 2 ∨ k = 3 ∨ k = 4 ∨ k = 5 ∨ k = 6 ∨ k = 7 := by omega
  · exact refpack_k1 n s ak u l i hr hn
  · exact refpack_k2 n s ak u l i hr hn
  · exact refpack_k3 n s ak u l i h hr hs hak
  · exact refpack_k4 n s ak u l i hr hs hu
  · exact refpack_k5 n s ak u l i hr hak
  · exact refpack_k6 n s ak u l i hr hs
  · exact refpack_k7 n s ak u l i hr
set_option maxHeartbeats 4000000 in
theorem law_WirePacks (hA : IsBytes w a c m.ins) (wf : m.wf) :
    Calls Try.prog 4 #[(.agg #[.int .i64 m.kind, .int .u32 m.nonce, .int .u16 m.serial, .int .u16 m.ack, .slice a m.ins.length c, .int .u32 m.sum, .int .i64 m.lead])] w fun e w' => e = .returned (.bool true) ∧ Below w.heap.size w w' := by
  have p0o : (w.alloc (.cells #[.int .i64 m.kind, .int .u32 m.nonce, .int .u16 m.serial, .int .u16 m.ack, .slice a m.ins.length c, .int .u32 m.sum, .int .i64 m.lead] 26)).cell? ⟨w.heap.size, 0, none⟩ = some (.int .i64 m.kind) := blk_cell' w _ _ rfl
  have p1o : (w.alloc (.cells #[.int .i64 m.kind, .int .u32 m.nonce, .int .u16 m.serial, .int .u16 m.ack, .slice a m.ins.length c, .int .u32 m.sum, .int .i64 m.lead] 26)).cell? ⟨w.heap.size, 1, none⟩ = some (.int .u32 m.nonce) := blk_cell' w _ _ rfl
  have p2o : (w.alloc (.cells #[.int .i64 m.kind, .int .u32 m.nonce, .int .u16 m.serial, .int .u16 m.ack, .slice a m.ins.length c, .int .u32 m.sum, .int .i64 m.lead] 26)).cell? ⟨w.heap.size, 2, none⟩ = some (.int .u16 m.serial) := blk_cell' w _ _ rfl
  have p3o : (w.alloc (.cells #[.int .i64 m.kind, .int .u32 m.nonce, .int .u16 m.serial, .int .u16 m.ack, .slice a m.ins.length c, .int .u32 m.sum, .int .i64 m.lead] 26)).cell? ⟨w.heap.size, 3, none⟩ = some (.int .u16 m.ack) := blk_cell' w _ _ rfl
  have p4o : (w.alloc (.cells #[.int .i64 m.kind, .int .u32 m.nonce, .int .u16 m.serial, .int .u16 m.ack, .slice a m.ins.length c, .int .u32 m.sum, .int .i64 m.lead] 26)).cell? ⟨w.heap.size, 4, none⟩ = some (.slice a m.ins.length c) := blk_cell' w _ _ rfl
  have p5o : (w.alloc (.cells #[.int .i64 m.kind, .int .u32 m.nonce, .int .u16 m.serial, .int .u16 m.ack, .slice a m.ins.length c, .int .u32 m.sum, .int .i64 m.lead] 26)).cell? ⟨w.heap.size, 5, none⟩ = some (.int .u32 m.sum) := blk_cell' w _ _ rfl
  have p6o : (w.alloc (.cells #[.int .i64 m.kind, .int .u32 m.nonce, .int .u16 m.serial, .int .u16 m.ack, .slice a m.ins.length c, .int .u32 m.sum, .int .i64 m.lead] 26)).cell? ⟨w.heap.size, 6, none⟩ = some (.int .i64 m.lead) := blk_cell' w _ _ rfl
  by_cases hl1 : 200 < m.ins.length
  · go_enter Try.func4, Try.ntmps4
    go_wp2_with fail
    refine (awake07 _).mono ?_
    rintro e w1 ⟨rfl, hb⟩
    have hX : Below (w.heap.size + 1) (w.alloc (.cells #[.int .i64 m.kind, .int .u32 m.nonce, .int .u16 m.serial, .int .u16 m.ack, .slice a m.ins.length c, .int .u32 m.sum, .int .i64 m.lead] 26)) w1 := hb.mono (by simp)
    have hW : Below w.heap.size w w1 := ((Below.refl _ w).alloc (Nat.le_refl _) _).trans (hb.mono (by simp))
    clear hb
    have p0 := (hX.cell (p := ⟨w.heap.size, 0, none⟩) (by simp)).trans p0o
    have p1 := (hX.cell (p := ⟨w.heap.size, 1, none⟩) (by simp)).trans p1o
    have p2 := (hX.cell (p := ⟨w.heap.size, 2, none⟩) (by simp)).trans p2o
    have p3 := (hX.cell (p := ⟨w.heap.size, 3, none⟩) (by simp)).trans p3o
    have p4 := (hX.cell (p := ⟨w.heap.size, 4, none⟩) (by simp)).trans p4o
    have p5 := (hX.cell (p := ⟨w.heap.size, 5, none⟩) (by simp)).trans p5o
    have p6 := (hX.cell (p := ⟨w.heap.size, 6, none⟩) (by simp)).trans p6o
    go_wp2_with fail
    go_ret
    exact ⟨rfl, hW⟩
  have hl2 : m.ins.length ≤ 200 := by omega
  clear hl1
  by_cases hr : RightP m
  rotate_left
  · have es : packS m = [] := by simp [packS, hr]
    have ee : packE m = 1 := by simp [packE, hr]
    have er : decide (RightP m) = false := decide_eq_false hr
    clear hr
    go_enter Try.func4, Try.ntmps4
    go_wp2_with fail
    refine (awake07 _).mono ?_
    rintro e w1 ⟨rfl, hb⟩
    have hX : Below (w.heap.size + 1) (w.alloc (.cells #[.int .i64 m.kind, .int .u32 m.nonce, .int .u16 m.serial, .int .u16 m.ack, .slice a m.ins.length c, .int .u32 m.sum, .int .i64 m.lead] 26)) w1 := hb.mono (by simp)
    have hW : Below w.heap.size w w1 := ((Below.refl _ w).alloc (Nat.le_refl _) _).trans (hb.mono (by simp))
    clear hb
    have p0 := (hX.cell (p := ⟨w.heap.size, 0, none⟩) (by simp)).trans p0o
    have p1 := (hX.cell (p := ⟨w.heap.size, 1, none⟩) (by simp)).trans p1o
    have p2 := (hX.cell (p := ⟨w.heap.size, 2, none⟩) (by simp)).trans p2o
    have p3 := (hX.cell (p := ⟨w.heap.size, 3, none⟩) (by simp)).trans p3o
    have p4 := (hX.cell (p := ⟨w.heap.size, 4, none⟩) (by simp)).trans p4o
    have p5 := (hX.cell (p := ⟨w.heap.size, 5, none⟩) (by simp)).trans p5o
    have p6 := (hX.cell (p := ⟨w.heap.size, 6, none⟩) (by simp)).trans p6o
    have hA1 := hA.keeps (Keeps.of_below (S := fun _ => False) hW (fun k h1 h2 => by omega)) (fun _ _ _ => id)
    go_wp2_with fail
    refine (wire_Pack m hA1 wf).mono ?_
    rintro e w2 ⟨rfl, hb⟩
    clear hA1
    have hW2 := hW.trans (hb.mono hW.size)
    have hX2 := hX.trans (hb.mono (by have := hX.size; simpa using this))
    clear hW hX hb
    have hW := hW2
    have hX := hX2
    clear hW2 hX2
    clear p0 p1 p2 p3 p4 p5 p6
    have p0 := (hX.cell (p := ⟨w.heap.size, 0, none⟩) (by simp)).trans p0o
    have p1 := (hX.cell (p := ⟨w.heap.size, 1, none⟩) (by simp)).trans p1o
    have p2 := (hX.cell (p := ⟨w.heap.size, 2, none⟩) (by simp)).trans p2o
    have p3 := (hX.cell (p := ⟨w.heap.size, 3, none⟩) (by simp)).trans p3o
    have p4 := (hX.cell (p := ⟨w.heap.size, 4, none⟩) (by simp)).trans p4o
    have p5 := (hX.cell (p := ⟨w.heap.size, 5, none⟩) (by simp)).trans p5o
    have p6 := (hX.cell (p := ⟨w.heap.size, 6, none⟩) (by simp)).trans p6o
    rw [es, ee]
    go_wp2_with fail
    have hA2 := fun x : After w2 => (hA.keeps (Keeps.of_below (S := fun _ => False) hW (fun k h1 h2 => by omega)) (fun _ _ _ => id)).after x
    have Hr1 := hid (fun x : After w2 => wire_RightM (w := x.to) (m := m) (hA2 x))
    have Hr2 := hid (fun x : After w2 => ref_RightM (w := x.to) m (hA2 x))
    have y0 : ∀ x : After w2, x.to.cell? ⟨w.heap.size, 0, none⟩ = some (.int .i64 m.kind) := fun x => (x.below.cell (p := ⟨w.heap.size, 0, none⟩) (by have := hX.size; simp at this ⊢; omega)).trans p0
    have y1 : ∀ x : After w2, x.to.cell? ⟨w.heap.size, 1, none⟩ = some (.int .u32 m.nonce) := fun x => (x.below.cell (p := ⟨w.heap.size, 1, none⟩) (by have := hX.size; simp at this ⊢; omega)).trans p1
    have y2 : ∀ x : After w2, x.to.cell? ⟨w.heap.size, 2, none⟩ = some (.int .u16 m.serial) := fun x => (x.below.cell (p := ⟨w.heap.size, 2, none⟩) (by have := hX.size; simp at this ⊢; omega)).trans p2
    have y3 : ∀ x : After w2, x.to.cell? ⟨w.heap.size, 3, none⟩ = some (.int .u16 m.ack) := fun x => (x.below.cell (p := ⟨w.heap.size, 3, none⟩) (by have := hX.size; simp at this ⊢; omega)).trans p3
    have y4 : ∀ x : After w2, x.to.cell? ⟨w.heap.size, 4, none⟩ = some (.slice a m.ins.length c) := fun x => (x.below.cell (p := ⟨w.heap.size, 4, none⟩) (by have := hX.size; simp at this ⊢; omega)).trans p4
    have y5 : ∀ x : After w2, x.to.cell? ⟨w.heap.size, 5, none⟩ = some (.int .u32 m.sum) := fun x => (x.below.cell (p := ⟨w.heap.size, 5, none⟩) (by have := hX.size; simp at this ⊢; omega)).trans p5
    have y6 : ∀ x : After w2, x.to.cell? ⟨w.heap.size, 6, none⟩ = some (.int .i64 m.lead) := fun x => (x.below.cell (p := ⟨w.heap.size, 6, none⟩) (by have := hX.size; simp at this ⊢; omega)).trans p6
    clear hA2
    refine wp_region_after (by kernel_rfl) (by kernel_rfl) ?_
    repeat (go_big_quiet_step (first | (go_at_call 15; exact Calls.after_of (Hr1.out _)) | (go_at_call 16; exact Calls.after_of (Hr2.out _))))
    refine wpQuiet_nil ?_
    intro _ hw2
    obtain ⟨x, hw3⟩ := hw2
    subst hw3
    have hb := x.below
    clear y0 y1 y2 y3 y4 y5 y6 Hr1 Hr2
    have hW2 := hW.trans (hb.mono hW.size)
    have hX2 := hX.trans (hb.mono (by have := hX.size; simpa using this))
    clear hW hX hb
    have hW := hW2
    have hX := hX2
    clear hW2 hX2
    clear p0 p1 p2 p3 p4 p5 p6
    have p0 := (hX.cell (p := ⟨w.heap.size, 0, none⟩) (by simp)).trans p0o
    have p1 := (hX.cell (p := ⟨w.heap.size, 1, none⟩) (by simp)).trans p1o
    have p2 := (hX.cell (p := ⟨w.heap.size, 2, none⟩) (by simp)).trans p2o
    have p3 := (hX.cell (p := ⟨w.heap.size, 3, none⟩) (by simp)).trans p3o
    have p4 := (hX.cell (p := ⟨w.heap.size, 4, none⟩) (by simp)).trans p4o
    have p5 := (hX.cell (p := ⟨w.heap.size, 5, none⟩) (by simp)).trans p5o
    have p6 := (hX.cell (p := ⟨w.heap.size, 6, none⟩) (by simp)).trans p6o
    generalize x.to = w3 at *
    have hA1 := hA.keeps (Keeps.of_below (S := fun _ => False) hW (fun k h1 h2 => by omega)) (fun _ _ _ => id)
    go_wp2_with fail
    refine (ref_RightM m hA1).mono ?_
    rintro e w4 ⟨rfl, hb⟩
    clear hA1
    have hW2 := hW.trans (hb.mono hW.size)
    have hX2 := hX.trans (hb.mono (by have := hX.size; simpa using this))
    clear hW hX hb
    have hW := hW2
    have hX := hX2
    clear hW2 hX2
    clear p0 p1 p2 p3 p4 p5 p6
    have p0 := (hX.cell (p := ⟨w.heap.size, 0, none⟩) (by simp)).trans p0o
    have p1 := (hX.cell (p := ⟨w.heap.size, 1, none⟩) (by simp)).trans p1o
    have p2 := (hX.cell (p := ⟨w.heap.size, 2, none⟩) (by simp)).trans p2o
    have p3 := (hX.cell (p := ⟨w.heap.size, 3, none⟩) (by simp)).trans p3o
    have p4 := (hX.cell (p := ⟨w.heap.size, 4, none⟩) (by simp)).trans p4o
    have p5 := (hX.cell (p := ⟨w.heap.size, 5, none⟩) (by simp)).trans p5o
    have p6 := (hX.cell (p := ⟨w.heap.size, 6, none⟩) (by simp)).trans p6o
    rw [er]
    go_wp2_with fail
    go_ret
    exact ⟨rfl, hW⟩
  · have es : packS m = packM m := by simp [packS, hr]
    have ee : packE m = 0 := by simp [packE, hr]
    have er : decide (RightP m) = true := decide_eq_true hr
    have hlen := pack_len m hr
    have hsz : (⟨(packM m).toArray⟩ : ByteArray).size = (packM m).length := wsz _
    have hun := unpM_pack m hr wf
    have Hr := hid hr
    have Hun := hid hun
    have hU := fun W => wire_Unpack (w := W) ⟨(packM m).toArray⟩ (by rw [hsz]; omega)
    rw [show (⟨(packM m).toArray⟩ : ByteArray).data.toList = packM m by simp, hun] at hU
    have HU := hid hU
    have hP := fun W (hb : IsBytes W a c m.ins) => ref_Pack (w := W) m hb wf hr
    obtain ⟨P, hPP⟩ : ∃ P, packM m = P := ⟨_, rfl⟩
    rw [hPP] at es hlen hsz HU hP
    have HP := hid hP
    have Hsz := hid hsz
    have hs1 : ((P.length : Nat) : Int) ≤ 139 := by omega
    have hs2 : ((⟨P.toArray⟩ : ByteArray).size : Int) ≤ 139 := by rw [hsz]; omega
    have hq : (P == P) = true := by simp
    have hsm : sameM m m = true := (sameM_iff m m).2 rfl
    clear hr hun hU hP hPP hlen hsz
    go_enter Try.func4, Try.ntmps4
    go_wp2_with fail
    refine (awake07 _).mono ?_
    rintro e w1 ⟨rfl, hb⟩
    have hX : Below (w.heap.size + 1) (w.alloc (.cells #[.int .i64 m.kind, .int .u32 m.nonce, .int .u16 m.serial, .int .u16 m.ack, .slice a m.ins.length c, .int .u32 m.sum, .int .i64 m.lead] 26)) w1 := hb.mono (by simp)
    have hW : Below w.heap.size w w1 := ((Below.refl _ w).alloc (Nat.le_refl _) _).trans (hb.mono (by simp))
    clear hb
    have p0 := (hX.cell (p := ⟨w.heap.size, 0, none⟩) (by simp)).trans p0o
    have p1 := (hX.cell (p := ⟨w.heap.size, 1, none⟩) (by simp)).trans p1o
    have p2 := (hX.cell (p := ⟨w.heap.size, 2, none⟩) (by simp)).trans p2o
    have p3 := (hX.cell (p := ⟨w.heap.size, 3, none⟩) (by simp)).trans p3o
    have p4 := (hX.cell (p := ⟨w.heap.size, 4, none⟩) (by simp)).trans p4o
    have p5 := (hX.cell (p := ⟨w.heap.size, 5, none⟩) (by simp)).trans p5o
    have p6 := (hX.cell (p := ⟨w.heap.size, 6, none⟩) (by simp)).trans p6o
    have hA1 := hA.keeps (Keeps.of_below (S := fun _ => False) hW (fun k h1 h2 => by omega)) (fun _ _ _ => id)
    go_wp2_with fail
    refine (wire_Pack m hA1 wf).mono ?_
    rintro e w2 ⟨rfl, hb⟩
    clear hA1
    have hW2 := hW.trans (hb.mono hW.size)
    have hX2 := hX.trans (hb.mono (by have := hX.size; simpa using this))
    clear hW hX hb
    have hW := hW2
    have hX := hX2
    clear hW2 hX2
    clear p0 p1 p2 p3 p4 p5 p6
    have p0 := (hX.cell (p := ⟨w.heap.size, 0, none⟩) (by simp)).trans p0o
    have p1 := (hX.cell (p := ⟨w.heap.size, 1, none⟩) (by simp)).trans p1o
    have p2 := (hX.cell (p := ⟨w.heap.size, 2, none⟩) (by simp)).trans p2o
    have p3 := (hX.cell (p := ⟨w.heap.size, 3, none⟩) (by simp)).trans p3o
    have p4 := (hX.cell (p := ⟨w.heap.size, 4, none⟩) (by simp)).trans p4o
    have p5 := (hX.cell (p := ⟨w.heap.size, 5, none⟩) (by simp)).trans p5o
    have p6 := (hX.cell (p := ⟨w.heap.size, 6, none⟩) (by simp)).trans p6o
    rw [es, ee]
    go_wp2_with fail
    have hA2 := fun x : After w2 => (hA.keeps (Keeps.of_below (S := fun _ => False) hW (fun k h1 h2 => by omega)) (fun _ _ _ => id)).after x
    have Hr1 := hid (fun x : After w2 => wire_RightM (w := x.to) (m := m) (hA2 x))
    have Hr2 := hid (fun x : After w2 => ref_RightM (w := x.to) m (hA2 x))
    have y0 : ∀ x : After w2, x.to.cell? ⟨w.heap.size, 0, none⟩ = some (.int .i64 m.kind) := fun x => (x.below.cell (p := ⟨w.heap.size, 0, none⟩) (by have := hX.size; simp at this ⊢; omega)).trans p0
    have y1 : ∀ x : After w2, x.to.cell? ⟨w.heap.size, 1, none⟩ = some (.int .u32 m.nonce) := fun x => (x.below.cell (p := ⟨w.heap.size, 1, none⟩) (by have := hX.size; simp at this ⊢; omega)).trans p1
    have y2 : ∀ x : After w2, x.to.cell? ⟨w.heap.size, 2, none⟩ = some (.int .u16 m.serial) := fun x => (x.below.cell (p := ⟨w.heap.size, 2, none⟩) (by have := hX.size; simp at this ⊢; omega)).trans p2
    have y3 : ∀ x : After w2, x.to.cell? ⟨w.heap.size, 3, none⟩ = some (.int .u16 m.ack) := fun x => (x.below.cell (p := ⟨w.heap.size, 3, none⟩) (by have := hX.size; simp at this ⊢; omega)).trans p3
    have y4 : ∀ x : After w2, x.to.cell? ⟨w.heap.size, 4, none⟩ = some (.slice a m.ins.length c) := fun x => (x.below.cell (p := ⟨w.heap.size, 4, none⟩) (by have := hX.size; simp at this ⊢; omega)).trans p4
    have y5 : ∀ x : After w2, x.to.cell? ⟨w.heap.size, 5, none⟩ = some (.int .u32 m.sum) := fun x => (x.below.cell (p := ⟨w.heap.size, 5, none⟩) (by have := hX.size; simp at this ⊢; omega)).trans p5
    have y6 : ∀ x : After w2, x.to.cell? ⟨w.heap.size, 6, none⟩ = some (.int .i64 m.lead) := fun x => (x.below.cell (p := ⟨w.heap.size, 6, none⟩) (by have := hX.size; simp at this ⊢; omega)).trans p6
    clear hA2
    refine wp_region_after (by kernel_rfl) (by kernel_rfl) ?_
    repeat (go_big_quiet_step (first | (go_at_call 15; exact Calls.after_of (Hr1.out _)) | (go_at_call 16; exact Calls.after_of (Hr2.out _))))
    refine wpQuiet_nil ?_
    intro _ hw2
    obtain ⟨x, hw3⟩ := hw2
    subst hw3
    have hb := x.below
    clear y0 y1 y2 y3 y4 y5 y6 Hr1 Hr2
    have hW2 := hW.trans (hb.mono hW.size)
    have hX2 := hX.trans (hb.mono (by have := hX.size; simpa using this))
    clear hW hX hb
    have hW := hW2
    have hX := hX2
    clear hW2 hX2
    clear p0 p1 p2 p3 p4 p5 p6
    have p0 := (hX.cell (p := ⟨w.heap.size, 0, none⟩) (by simp)).trans p0o
    have p1 := (hX.cell (p := ⟨w.heap.size, 1, none⟩) (by simp)).trans p1o
    have p2 := (hX.cell (p := ⟨w.heap.size, 2, none⟩) (by simp)).trans p2o
    have p3 := (hX.cell (p := ⟨w.heap.size, 3, none⟩) (by simp)).trans p3o
    have p4 := (hX.cell (p := ⟨w.heap.size, 4, none⟩) (by simp)).trans p4o
    have p5 := (hX.cell (p := ⟨w.heap.size, 5, none⟩) (by simp)).trans p5o
    have p6 := (hX.cell (p := ⟨w.heap.size, 6, none⟩) (by simp)).trans p6o
    generalize x.to = w3 at *
    have hA1 := hA.keeps (Keeps.of_below (S := fun _ => False) hW (fun k h1 h2 => by omega)) (fun _ _ _ => id)
    go_wp2_with fail
    refine (ref_RightM m hA1).mono ?_
    rintro e w4 ⟨rfl, hb⟩
    clear hA1
    have hW2 := hW.trans (hb.mono hW.size)
    have hX2 := hX.trans (hb.mono (by have := hX.size; simpa using this))
    clear hW hX hb
    have hW := hW2
    have hX := hX2
    clear hW2 hX2
    clear p0 p1 p2 p3 p4 p5 p6
    have p0 := (hX.cell (p := ⟨w.heap.size, 0, none⟩) (by simp)).trans p0o
    have p1 := (hX.cell (p := ⟨w.heap.size, 1, none⟩) (by simp)).trans p1o
    have p2 := (hX.cell (p := ⟨w.heap.size, 2, none⟩) (by simp)).trans p2o
    have p3 := (hX.cell (p := ⟨w.heap.size, 3, none⟩) (by simp)).trans p3o
    have p4 := (hX.cell (p := ⟨w.heap.size, 4, none⟩) (by simp)).trans p4o
    have p5 := (hX.cell (p := ⟨w.heap.size, 5, none⟩) (by simp)).trans p5o
    have p6 := (hX.cell (p := ⟨w.heap.size, 6, none⟩) (by simp)).trans p6o
    rw [er]
    go_wp2_with fail
    refine (HU.out _).mono ?_
    rintro e w5 ⟨a5, c5, rfl, hb5, hb⟩
    have hW2 := hW.trans (hb.mono hW.size)
    have hX2 := hX.trans (hb.mono (by have := hX.size; simpa using this))
    clear hW hX hb
    have hW := hW2
    have hX := hX2
    clear hW2 hX2
    clear p0 p1 p2 p3 p4 p5 p6
    have p0 := (hX.cell (p := ⟨w.heap.size, 0, none⟩) (by simp)).trans p0o
    have p1 := (hX.cell (p := ⟨w.heap.size, 1, none⟩) (by simp)).trans p1o
    have p2 := (hX.cell (p := ⟨w.heap.size, 2, none⟩) (by simp)).trans p2o
    have p3 := (hX.cell (p := ⟨w.heap.size, 3, none⟩) (by simp)).trans p3o
    have p4 := (hX.cell (p := ⟨w.heap.size, 4, none⟩) (by simp)).trans p4o
    have p5 := (hX.cell (p := ⟨w.heap.size, 5, none⟩) (by simp)).trans p5o
    have p6 := (hX.cell (p := ⟨w.heap.size, 6, none⟩) (by simp)).trans p6o
    have hA5 := hA.keeps (Keeps.of_below (S := fun _ => False) hW (fun k h1 h2 => by omega)) (fun _ _ _ => id)
    have hkx : Keeps (fun _ => False) w5 (w5.alloc (.cells #[.int .i64 m.kind, .int .u32 m.nonce, .int .u16 m.serial, .int .u16 m.ack, .slice a5 m.ins.length c5, .int .u32 m.sum, .int .i64 m.lead] 26)) := (Keeps.refl _ w5).alloc _
    have hb : Below w5.heap.size w5 (w5.alloc (.cells #[.int .i64 m.kind, .int .u32 m.nonce, .int .u16 m.serial, .int .u16 m.ack, .slice a5 m.ins.length c5, .int .u32 m.sum, .int .i64 m.lead] 26)) := (Below.refl _ w5).alloc (Nat.le_refl _) _
    have z0o : (w5.alloc (.cells #[.int .i64 m.kind, .int .u32 m.nonce, .int .u16 m.serial, .int .u16 m.ack, .slice a5 m.ins.length c5, .int .u32 m.sum, .int .i64 m.lead] 26)).cell? ⟨w5.heap.size, 0, none⟩ = some (.int .i64 m.kind) := blk_cell' w5 _ _ rfl
    have z1o : (w5.alloc (.cells #[.int .i64 m.kind, .int .u32 m.nonce, .int .u16 m.serial, .int .u16 m.ack, .slice a5 m.ins.length c5, .int .u32 m.sum, .int .i64 m.lead] 26)).cell? ⟨w5.heap.size, 1, none⟩ = some (.int .u32 m.nonce) := blk_cell' w5 _ _ rfl
    have z2o : (w5.alloc (.cells #[.int .i64 m.kind, .int .u32 m.nonce, .int .u16 m.serial, .int .u16 m.ack, .slice a5 m.ins.length c5, .int .u32 m.sum, .int .i64 m.lead] 26)).cell? ⟨w5.heap.size, 2, none⟩ = some (.int .u16 m.serial) := blk_cell' w5 _ _ rfl
    have z3o : (w5.alloc (.cells #[.int .i64 m.kind, .int .u32 m.nonce, .int .u16 m.serial, .int .u16 m.ack, .slice a5 m.ins.length c5, .int .u32 m.sum, .int .i64 m.lead] 26)).cell? ⟨w5.heap.size, 3, none⟩ = some (.int .u16 m.ack) := blk_cell' w5 _ _ rfl
    have z4o : (w5.alloc (.cells #[.int .i64 m.kind, .int .u32 m.nonce, .int .u16 m.serial, .int .u16 m.ack, .slice a5 m.ins.length c5, .int .u32 m.sum, .int .i64 m.lead] 26)).cell? ⟨w5.heap.size, 4, none⟩ = some (.slice a5 m.ins.length c5) := blk_cell' w5 _ _ rfl
    have z5o : (w5.alloc (.cells #[.int .i64 m.kind, .int .u32 m.nonce, .int .u16 m.serial, .int .u16 m.ack, .slice a5 m.ins.length c5, .int .u32 m.sum, .int .i64 m.lead] 26)).cell? ⟨w5.heap.size, 5, none⟩ = some (.int .u32 m.sum) := blk_cell' w5 _ _ rfl
    have z6o : (w5.alloc (.cells #[.int .i64 m.kind, .int .u32 m.nonce, .int .u16 m.serial, .int .u16 m.ack, .slice a5 m.ins.length c5, .int .u32 m.sum, .int .i64 m.lead] 26)).cell? ⟨w5.heap.size, 6, none⟩ = some (.int .i64 m.lead) := blk_cell' w5 _ _ rfl
    have hA6 := hA5.keeps hkx (fun _ _ _ => id)
    have hb6 := hb5.keeps hkx (fun _ _ _ => id)
    clear hA5 hb5 hkx
    have hW2 := hW.trans (hb.mono hW.size)
    have hX2 := hX.trans (hb.mono (by have := hX.size; simpa using this))
    clear hW hX hb
    have hW := hW2
    have hX := hX2
    clear hW2 hX2
    clear p0 p1 p2 p3 p4 p5 p6
    have p0 := (hX.cell (p := ⟨w.heap.size, 0, none⟩) (by simp)).trans p0o
    have p1 := (hX.cell (p := ⟨w.heap.size, 1, none⟩) (by simp)).trans p1o
    have p2 := (hX.cell (p := ⟨w.heap.size, 2, none⟩) (by simp)).trans p2o
    have p3 := (hX.cell (p := ⟨w.heap.size, 3, none⟩) (by simp)).trans p3o
    have p4 := (hX.cell (p := ⟨w.heap.size, 4, none⟩) (by simp)).trans p4o
    have p5 := (hX.cell (p := ⟨w.heap.size, 5, none⟩) (by simp)).trans p5o
    have p6 := (hX.cell (p := ⟨w.heap.size, 6, none⟩) (by simp)).trans p6o
    simp only
    go_wp2_with fail
    refine (HP.out _ hA6).mono ?_
    rintro e w7 ⟨rfl, hb⟩
    have hk7 : Keeps (fun _ => False) _ w7 := Keeps.of_below hb (fun k h1 h2 => by omega)
    have hA7 := hA6.keeps hk7 (fun _ _ _ => id)
    have hb7 := hb6.keeps hk7 (fun _ _ _ => id)
    have z0 := hk7.cell z0o id
    have z1 := hk7.cell z1o id
    have z2 := hk7.cell z2o id
    have z3 := hk7.cell z3o id
    have z4 := hk7.cell z4o id
    have z5 := hk7.cell z5o id
    have z6 := hk7.cell z6o id
    clear hk7 hA6 hb6 z0o z1o z2o z3o z4o z5o z6o
    have hW2 := hW.trans (hb.mono hW.size)
    have hX2 := hX.trans (hb.mono (by have := hX.size; simpa using this))
    clear hW hX hb
    have hW := hW2
    have hX := hX2
    clear hW2 hX2
    clear p0 p1 p2 p3 p4 p5 p6
    have p0 := (hX.cell (p := ⟨w.heap.size, 0, none⟩) (by simp)).trans p0o
    have p1 := (hX.cell (p := ⟨w.heap.size, 1, none⟩) (by simp)).trans p1o
    have p2 := (hX.cell (p := ⟨w.heap.size, 2, none⟩) (by simp)).trans p2o
    have p3 := (hX.cell (p := ⟨w.heap.size, 3, none⟩) (by simp)).trans p3o
    have p4 := (hX.cell (p := ⟨w.heap.size, 4, none⟩) (by simp)).trans p4o
    have p5 := (hX.cell (p := ⟨w.heap.size, 5, none⟩) (by simp)).trans p5o
    have p6 := (hX.cell (p := ⟨w.heap.size, 6, none⟩) (by simp)).trans p6o
    go_wp2_with fail
    refine (ref_SameM (a := m) (b := m) hb7 hA7).mono ?_
    rintro e w8 ⟨rfl, hb⟩
    rw [hsm]
    have hW2 := hW.trans (hb.mono hW.size)
    clear hW hX hb
    go_wp2_with fail
    go_ret
    exact ⟨rfl, hW2⟩
end Go.Proofs.Ytlneddmfcheaiaa
