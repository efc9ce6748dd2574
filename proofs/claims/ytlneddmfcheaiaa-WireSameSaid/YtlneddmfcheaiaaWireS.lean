/- The law on telling datagrams alike. -/
import Derived.Test.YtlneddmfcheaiaaWire4
import Derived.Test.YtlneddmfcheaiaaWireP
namespace Go.Proofs.Ytlneddmfcheaiaa
open Go.RowKit
set_option maxRecDepth 10000
variable {w : World} {a b : Msg} {aa ab : Option Addr} {ca cb : Nat}
set_option maxHeartbeats 4000000 in
theorem law_WireSame (hA : IsBytes w aa ca a.ins) (hB : IsBytes w ab cb b.ins) (wa : a.wf) (wb : b.wf) :
    Calls Try.prog 3 #[(.agg #[.int .i64 a.kind, .int .u32 a.nonce, .int .u16 a.serial, .int .u16 a.ack, .slice aa a.ins.length ca, .int .u32 a.sum, .int .i64 a.lead]), (.agg #[.int .i64 b.kind, .int .u32 b.nonce, .int .u16 b.serial, .int .u16 b.ack, .slice ab b.ins.length cb, .int .u32 b.sum, .int .i64 b.lead])] w fun e w' => e = .returned (.bool true) ∧ Below w.heap.size w w' := by
  have p0o : ((w.alloc (.cells #[.int .i64 a.kind, .int .u32 a.nonce, .int .u16 a.serial, .int .u16 a.ack, .slice aa a.ins.length ca, .int .u32 a.sum, .int .i64 a.lead] 26)).alloc (.cells #[.int .i64 b.kind, .int .u32 b.nonce, .int .u16 b.serial, .int .u16 b.ack, .slice ab b.ins.length cb, .int .u32 b.sum, .int .i64 b.lead] 26)).cell? ⟨w.heap.size, 0, none⟩ = some (.int .i64 a.kind) := cell_past (blk_cell' w _ _ rfl) _
  have p1o : ((w.alloc (.cells #[.int .i64 a.kind, .int .u32 a.nonce, .int .u16 a.serial, .int .u16 a.ack, .slice aa a.ins.length ca, .int .u32 a.sum, .int .i64 a.lead] 26)).alloc (.cells #[.int .i64 b.kind, .int .u32 b.nonce, .int .u16 b.serial, .int .u16 b.ack, .slice ab b.ins.length cb, .int .u32 b.sum, .int .i64 b.lead] 26)).cell? ⟨w.heap.size, 1, none⟩ = some (.int .u32 a.nonce) := cell_past (blk_cell' w _ _ rfl) _
  have p2o : ((w.alloc (.cells #[.int .i64 a.kind, .int .u32 a.nonce, .int .u16 a.serial, .int .u16 a.ack, .slice aa a.ins.length ca, .int .u32 a.sum, .int .i64 a.lead] 26)).alloc (.cells #[.int .i64 b.kind, .int .u32 b.nonce, .int .u16 b.serial, .int .u16 b.ack, .slice ab b.ins.length cb, .int .u32 b.sum, .int .i64 b.lead] 26)).cell? ⟨w.heap.size, 2, none⟩ = some (.int .u16 a.serial) := cell_past (blk_cell' w _ _ rfl) _
  have p3o : ((w.alloc (.cells #[.int .i64 a.kind, .int .u32 a.nonce, .int .u16 a.serial, .int .u16 a.ack, .slice aa a.ins.length ca, .int .u32 a.sum, .int .i64 a.lead] 26)).alloc (.cells #[.int .i64 b.kind, .int .u32 b.nonce, .int .u16 b.serial, .int .u16 b.ack, .slice ab b.ins.length cb, .int .u32 b.sum, .int .i64 b.lead] 26)).cell? ⟨w.heap.size, 3, none⟩ = some (.int .u16 a.ack) := cell_past (blk_cell' w _ _ rfl) _
  have p4o : ((w.alloc (.cells #[.int .i64 a.kind, .int .u32 a.nonce, .int .u16 a.serial, .int .u16 a.ack, .slice aa a.ins.length ca, .int .u32 a.sum, .int .i64 a.lead] 26)).alloc (.cells #[.int .i64 b.kind, .int .u32 b.nonce, .int .u16 b.serial, .int .u16 b.ack, .slice ab b.ins.length cb, .int .u32 b.sum, .int .i64 b.lead] 26)).cell? ⟨w.heap.size, 4, none⟩ = some (.slice aa a.ins.length ca) := cell_past (blk_cell' w _ _ rfl) _
  have p5o : ((w.alloc (.cells #[.int .i64 a.kind, .int .u32 a.nonce, .int .u16 a.serial, .int .u16 a.ack, .slice aa a.ins.length ca, .int .u32 a.sum, .int .i64 a.lead] 26)).alloc (.cells #[.int .i64 b.kind, .int .u32 b.nonce, .int .u16 b.serial, .int .u16 b.ack, .slice ab b.ins.length cb, .int .u32 b.sum, .int .i64 b.lead] 26)).cell? ⟨w.heap.size, 5, none⟩ = some (.int .u32 a.sum) := cell_past (blk_cell' w _ _ rfl) _
  have p6o : ((w.alloc (.cells #[.int .i64 a.kind, .int .u32 a.nonce, .int .u16 a.serial, .int .u16 a.ack, .slice aa a.ins.length ca, .int .u32 a.sum, .int .i64 a.lead] 26)).alloc (.cells #[.int .i64 b.kind, .int .u32 b.nonce, .int .u16 b.serial, .int .u16 b.ack, .slice ab b.ins.length cb, .int .u32 b.sum, .int .i64 b.lead] 26)).cell? ⟨w.heap.size, 6, none⟩ = some (.int .i64 a.lead) := cell_past (blk_cell' w _ _ rfl) _
  have q0o : ((w.alloc (.cells #[.int .i64 a.kind, .int .u32 a.nonce, .int .u16 a.serial, .int .u16 a.ack, .slice aa a.ins.length ca, .int .u32 a.sum, .int .i64 a.lead] 26)).alloc (.cells #[.int .i64 b.kind, .int .u32 b.nonce, .int .u16 b.serial, .int .u16 b.ack, .slice ab b.ins.length cb, .int .u32 b.sum, .int .i64 b.lead] 26)).cell? ⟨w.heap.size + 1, 0, none⟩ = some (.int .i64 b.kind) := by have := blk_cell' (w.alloc (.cells #[.int .i64 a.kind, .int .u32 a.nonce, .int .u16 a.serial, .int .u16 a.ack, .slice aa a.ins.length ca, .int .u32 a.sum, .int .i64 a.lead] 26)) #[.int .i64 b.kind, .int .u32 b.nonce, .int .u16 b.serial, .int .u16 b.ack, .slice ab b.ins.length cb, .int .u32 b.sum, .int .i64 b.lead] 26 (k := 0) rfl; rwa [World.size_alloc] at this
  have q1o : ((w.alloc (.cells #[.int .i64 a.kind, .int .u32 a.nonce, .int .u16 a.serial, .int .u16 a.ack, .slice aa a.ins.length ca, .int .u32 a.sum, .int .i64 a.lead] 26)).alloc (.cells #[.int .i64 b.kind, .int .u32 b.nonce, .int .u16 b.serial, .int .u16 b.ack, .slice ab b.ins.length cb, .int .u32 b.sum, .int .i64 b.lead] 26)).cell? ⟨w.heap.size + 1, 1, none⟩ = some (.int .u32 b.nonce) := by have := blk_cell' (w.alloc (.cells #[.int .i64 a.kind, .int .u32 a.nonce, .int .u16 a.serial, .int .u16 a.ack, .slice aa a.ins.length ca, .int .u32 a.sum, .int .i64 a.lead] 26)) #[.int .i64 b.kind, .int .u32 b.nonce, .int .u16 b.serial, .int .u16 b.ack, .slice ab b.ins.length cb, .int .u32 b.sum, .int .i64 b.lead] 26 (k := 1) rfl; rwa [World.size_alloc] at this
  have q2o : ((w.alloc (.cells #[.int .i64 a.kind, .int .u32 a.nonce, .int .u16 a.serial, .int .u16 a.ack, .slice aa a.ins.length ca, .int .u32 a.sum, .int .i64 a.lead] 26)).alloc (.cells #[.int .i64 b.kind, .int .u32 b.nonce, .int .u16 b.serial, .int .u16 b.ack, .slice ab b.ins.length cb, .int .u32 b.sum, .int .i64 b.lead] 26)).cell? ⟨w.heap.size + 1, 2, none⟩ = some (.int .u16 b.serial) := by have := blk_cell' (w.alloc (.cells #[.int .i64 a.kind, .int .u32 a.nonce, .int .u16 a.serial, .int .u16 a.ack, .slice aa a.ins.length ca, .int .u32 a.sum, .int .i64 a.lead] 26)) #[.int .i64 b.kind, .int .u32 b.nonce, .int .u16 b.serial, .int .u16 b.ack, .slice ab b.ins.length cb, .int .u32 b.sum, .int .i64 b.lead] 26 (k := 2) rfl; rwa [World.size_alloc] at this
  have q3o : ((w.alloc (.cells #[.int .i64 a.kind, .int .u32 a.nonce, .int .u16 a.serial, .int .u16 a.ack, .slice aa a.ins.length ca, .int .u32 a.sum, .int .i64 a.lead] 26)).alloc (.cells #[.int .i64 b.kind, .int .u32 b.nonce, .int .u16 b.serial, .int .u16 b.ack, .slice ab b.ins.length cb, .int .u32 b.sum, .int .i64 b.lead] 26)).cell? ⟨w.heap.size + 1, 3, none⟩ = some (.int .u16 b.ack) := by have := blk_cell' (w.alloc (.cells #[.int .i64 a.kind, .int .u32 a.nonce, .int .u16 a.serial, .int .u16 a.ack, .slice aa a.ins.length ca, .int .u32 a.sum, .int .i64 a.lead] 26)) #[.int .i64 b.kind, .int .u32 b.nonce, .int .u16 b.serial, .int .u16 b.ack, .slice ab b.ins.length cb, .int .u32 b.sum, .int .i64 b.lead] 26 (k := 3) rfl; rwa [World.size_alloc] at this
  have q4o : ((w.alloc (.cells #[.int .i64 a.kind, .int .u32 a.nonce, .int .u16 a.serial, .int .u16 a.ack, .slice aa a.ins.length ca, .int .u32 a.sum, .int .i64 a.lead] 26)).alloc (.cells #[.int .i64 b.kind, .int .u32 b.nonce, .int .u16 b.serial, .int .u16 b.ack, .slice ab b.ins.length cb, .int .u32 b.sum, .int .i64 b.lead] 26)).cell? ⟨w.heap.size + 1, 4, none⟩ = some (.slice ab b.ins.length cb) := by have := blk_cell' (w.alloc (.cells #[.int .i64 a.kind, .int .u32 a.nonce, .int .u16 a.serial, .int .u16 a.ack, .slice aa a.ins.length ca, .int .u32 a.sum, .int .i64 a.lead] 26)) #[.int .i64 b.kind, .int .u32 b.nonce, .int .u16 b.serial, .int .u16 b.ack, .slice ab b.ins.length cb, .int .u32 b.sum, .int .i64 b.lead] 26 (k := 4) rfl; rwa [World.size_alloc] at this
  have q5o : ((w.alloc (.cells #[.int .i64 a.kind, .int .u32 a.nonce, .int .u16 a.serial, .int .u16 a.ack, .slice aa a.ins.length ca, .int .u32 a.sum, .int .i64 a.lead] 26)).alloc (.cells #[.int .i64 b.kind, .int .u32 b.nonce, .int .u16 b.serial, .int .u16 b.ack, .slice ab b.ins.length cb, .int .u32 b.sum, .int .i64 b.lead] 26)).cell? ⟨w.heap.size + 1, 5, none⟩ = some (.int .u32 b.sum) := by have := blk_cell' (w.alloc (.cells #[.int .i64 a.kind, .int .u32 a.nonce, .int .u16 a.serial, .int .u16 a.ack, .slice aa a.ins.length ca, .int .u32 a.sum, .int .i64 a.lead] 26)) #[.int .i64 b.kind, .int .u32 b.nonce, .int .u16 b.serial, .int .u16 b.ack, .slice ab b.ins.length cb, .int .u32 b.sum, .int .i64 b.lead] 26 (k := 5) rfl; rwa [World.size_alloc] at this
  have q6o : ((w.alloc (.cells #[.int .i64 a.kind, .int .u32 a.nonce, .int .u16 a.serial, .int .u16 a.ack, .slice aa a.ins.length ca, .int .u32 a.sum, .int .i64 a.lead] 26)).alloc (.cells #[.int .i64 b.kind, .int .u32 b.nonce, .int .u16 b.serial, .int .u16 b.ack, .slice ab b.ins.length cb, .int .u32 b.sum, .int .i64 b.lead] 26)).cell? ⟨w.heap.size + 1, 6, none⟩ = some (.int .i64 b.lead) := by have := blk_cell' (w.alloc (.cells #[.int .i64 a.kind, .int .u32 a.nonce, .int .u16 a.serial, .int .u16 a.ack, .slice aa a.ins.length ca, .int .u32 a.sum, .int .i64 a.lead] 26)) #[.int .i64 b.kind, .int .u32 b.nonce, .int .u16 b.serial, .int .u16 b.ack, .slice ab b.ins.length cb, .int .u32 b.sum, .int .i64 b.lead] 26 (k := 6) rfl; rwa [World.size_alloc] at this
  by_cases hl : 200 < a.ins.length ∨ 200 < b.ins.length
  · by_cases hl1 : 200 < a.ins.length
    · clear hl
      go_enter Try.func3, Try.ntmps3
      go_wp2_with fail
      refine (awake07 _).mono ?_
      rintro e w1 ⟨rfl, hb⟩
      have hX : Below (w.heap.size + 2) ((w.alloc (.cells #[.int .i64 a.kind, .int .u32 a.nonce, .int .u16 a.serial, .int .u16 a.ack, .slice aa a.ins.length ca, .int .u32 a.sum, .int .i64 a.lead] 26)).alloc (.cells #[.int .i64 b.kind, .int .u32 b.nonce, .int .u16 b.serial, .int .u16 b.ack, .slice ab b.ins.length cb, .int .u32 b.sum, .int .i64 b.lead] 26)) w1 := hb.mono (by simp)
      have hW : Below w.heap.size w w1 := (((Below.refl _ w).alloc (Nat.le_refl _) _).alloc (by simp) _).trans (hb.mono (by simp; omega))
      clear hb
      have p0 := (hX.cell (p := ⟨w.heap.size, 0, none⟩) (by simp)).trans p0o
      have p1 := (hX.cell (p := ⟨w.heap.size, 1, none⟩) (by simp)).trans p1o
      have p2 := (hX.cell (p := ⟨w.heap.size, 2, none⟩) (by simp)).trans p2o
      have p3 := (hX.cell (p := ⟨w.heap.size, 3, none⟩) (by simp)).trans p3o
      have p4 := (hX.cell (p := ⟨w.heap.size, 4, none⟩) (by simp)).trans p4o
      have p5 := (hX.cell (p := ⟨w.heap.size, 5, none⟩) (by simp)).trans p5o
      have p6 := (hX.cell (p := ⟨w.heap.size, 6, none⟩) (by simp)).trans p6o
      have q0 := (hX.cell (p := ⟨w.heap.size + 1, 0, none⟩) (by simp)).trans q0o
      have q1 := (hX.cell (p := ⟨w.heap.size + 1, 1, none⟩) (by simp)).trans q1o
      have q2 := (hX.cell (p := ⟨w.heap.size + 1, 2, none⟩) (by simp)).trans q2o
      have q3 := (hX.cell (p := ⟨w.heap.size + 1, 3, none⟩) (by simp)).trans q3o
      have q4 := (hX.cell (p := ⟨w.heap.size + 1, 4, none⟩) (by simp)).trans q4o
      have q5 := (hX.cell (p := ⟨w.heap.size + 1, 5, none⟩) (by simp)).trans q5o
      have q6 := (hX.cell (p := ⟨w.heap.size + 1, 6, none⟩) (by simp)).trans q6o
      go_wp2_with fail
      go_ret
      exact ⟨rfl, hW⟩
    · have hl2 : 200 < b.ins.length := by omega
      have hl3 : a.ins.length ≤ 200 := by omega
      clear hl hl1
      go_enter Try.func3, Try.ntmps3
      go_wp2_with fail
      refine (awake07 _).mono ?_
      rintro e w1 ⟨rfl, hb⟩
      have hX : Below (w.heap.size + 2) ((w.alloc (.cells #[.int .i64 a.kind, .int .u32 a.nonce, .int .u16 a.serial, .int .u16 a.ack, .slice aa a.ins.length ca, .int .u32 a.sum, .int .i64 a.lead] 26)).alloc (.cells #[.int .i64 b.kind, .int .u32 b.nonce, .int .u16 b.serial, .int .u16 b.ack, .slice ab b.ins.length cb, .int .u32 b.sum, .int .i64 b.lead] 26)) w1 := hb.mono (by simp)
      have hW : Below w.heap.size w w1 := (((Below.refl _ w).alloc (Nat.le_refl _) _).alloc (by simp) _).trans (hb.mono (by simp; omega))
      clear hb
      have p0 := (hX.cell (p := ⟨w.heap.size, 0, none⟩) (by simp)).trans p0o
      have p1 := (hX.cell (p := ⟨w.heap.size, 1, none⟩) (by simp)).trans p1o
      have p2 := (hX.cell (p := ⟨w.heap.size, 2, none⟩) (by simp)).trans p2o
      have p3 := (hX.cell (p := ⟨w.heap.size, 3, none⟩) (by simp)).trans p3o
      have p4 := (hX.cell (p := ⟨w.heap.size, 4, none⟩) (by simp)).trans p4o
      have p5 := (hX.cell (p := ⟨w.heap.size, 5, none⟩) (by simp)).trans p5o
      have p6 := (hX.cell (p := ⟨w.heap.size, 6, none⟩) (by simp)).trans p6o
      have q0 := (hX.cell (p := ⟨w.heap.size + 1, 0, none⟩) (by simp)).trans q0o
      have q1 := (hX.cell (p := ⟨w.heap.size + 1, 1, none⟩) (by simp)).trans q1o
      have q2 := (hX.cell (p := ⟨w.heap.size + 1, 2, none⟩) (by simp)).trans q2o
      have q3 := (hX.cell (p := ⟨w.heap.size + 1, 3, none⟩) (by simp)).trans q3o
      have q4 := (hX.cell (p := ⟨w.heap.size + 1, 4, none⟩) (by simp)).trans q4o
      have q5 := (hX.cell (p := ⟨w.heap.size + 1, 5, none⟩) (by simp)).trans q5o
      have q6 := (hX.cell (p := ⟨w.heap.size + 1, 6, none⟩) (by simp)).trans q6o
      go_wp2_with fail
      go_ret
      exact ⟨rfl, hW⟩
  have hl1 : a.ins.length ≤ 200 := by omega
  have hl2 : b.ins.length ≤ 200 := by omega
  clear hl
  by_cases ra : RightP a
  rotate_left
  · have ea : packE a = 1 := by simp [packE, ra]
    clear ra
    go_enter Try.func3, Try.ntmps3
    go_wp2_with fail
    refine (awake07 _).mono ?_
    rintro e w1 ⟨rfl, hb⟩
    have hX : Below (w.heap.size + 2) ((w.alloc (.cells #[.int .i64 a.kind, .int .u32 a.nonce, .int .u16 a.serial, .int .u16 a.ack, .slice aa a.ins.length ca, .int .u32 a.sum, .int .i64 a.lead] 26)).alloc (.cells #[.int .i64 b.kind, .int .u32 b.nonce, .int .u16 b.serial, .int .u16 b.ack, .slice ab b.ins.length cb, .int .u32 b.sum, .int .i64 b.lead] 26)) w1 := hb.mono (by simp)
    have hW : Below w.heap.size w w1 := (((Below.refl _ w).alloc (Nat.le_refl _) _).alloc (by simp) _).trans (hb.mono (by simp; omega))
    clear hb
    have p0 := (hX.cell (p := ⟨w.heap.size, 0, none⟩) (by simp)).trans p0o
    have p1 := (hX.cell (p := ⟨w.heap.size, 1, none⟩) (by simp)).trans p1o
    have p2 := (hX.cell (p := ⟨w.heap.size, 2, none⟩) (by simp)).trans p2o
    have p3 := (hX.cell (p := ⟨w.heap.size, 3, none⟩) (by simp)).trans p3o
    have p4 := (hX.cell (p := ⟨w.heap.size, 4, none⟩) (by simp)).trans p4o
    have p5 := (hX.cell (p := ⟨w.heap.size, 5, none⟩) (by simp)).trans p5o
    have p6 := (hX.cell (p := ⟨w.heap.size, 6, none⟩) (by simp)).trans p6o
    have q0 := (hX.cell (p := ⟨w.heap.size + 1, 0, none⟩) (by simp)).trans q0o
    have q1 := (hX.cell (p := ⟨w.heap.size + 1, 1, none⟩) (by simp)).trans q1o
    have q2 := (hX.cell (p := ⟨w.heap.size + 1, 2, none⟩) (by simp)).trans q2o
    have q3 := (hX.cell (p := ⟨w.heap.size + 1, 3, none⟩) (by simp)).trans q3o
    have q4 := (hX.cell (p := ⟨w.heap.size + 1, 4, none⟩) (by simp)).trans q4o
    have q5 := (hX.cell (p := ⟨w.heap.size + 1, 5, none⟩) (by simp)).trans q5o
    have q6 := (hX.cell (p := ⟨w.heap.size + 1, 6, none⟩) (by simp)).trans q6o
    have hA1 := hA.keeps (Keeps.of_below (S := fun _ => False) hW (fun k h1 h2 => by omega)) (fun _ _ _ => id)
    have hB1 := hB.keeps (Keeps.of_below (S := fun _ => False) hW (fun k h1 h2 => by omega)) (fun _ _ _ => id)
    go_wp2_with fail
    refine (ref_SameM hA1 hB1).mono ?_
    rintro e w2 ⟨rfl, hb⟩
    have hW2 := hW.trans (hb.mono hW.size)
    have hX2 := hX.trans (hb.mono (by have := hX.size; simpa using this))
    clear hW hX hb hA1 hB1
    have hW := hW2
    have hX := hX2
    clear hW2 hX2
    clear p0 p1 p2 p3 p4 p5 p6 q0 q1 q2 q3 q4 q5 q6
    have p0 := (hX.cell (p := ⟨w.heap.size, 0, none⟩) (by simp)).trans p0o
    have p1 := (hX.cell (p := ⟨w.heap.size, 1, none⟩) (by simp)).trans p1o
    have p2 := (hX.cell (p := ⟨w.heap.size, 2, none⟩) (by simp)).trans p2o
    have p3 := (hX.cell (p := ⟨w.heap.size, 3, none⟩) (by simp)).trans p3o
    have p4 := (hX.cell (p := ⟨w.heap.size, 4, none⟩) (by simp)).trans p4o
    have p5 := (hX.cell (p := ⟨w.heap.size, 5, none⟩) (by simp)).trans p5o
    have p6 := (hX.cell (p := ⟨w.heap.size, 6, none⟩) (by simp)).trans p6o
    have q0 := (hX.cell (p := ⟨w.heap.size + 1, 0, none⟩) (by simp)).trans q0o
    have q1 := (hX.cell (p := ⟨w.heap.size + 1, 1, none⟩) (by simp)).trans q1o
    have q2 := (hX.cell (p := ⟨w.heap.size + 1, 2, none⟩) (by simp)).trans q2o
    have q3 := (hX.cell (p := ⟨w.heap.size + 1, 3, none⟩) (by simp)).trans q3o
    have q4 := (hX.cell (p := ⟨w.heap.size + 1, 4, none⟩) (by simp)).trans q4o
    have q5 := (hX.cell (p := ⟨w.heap.size + 1, 5, none⟩) (by simp)).trans q5o
    have q6 := (hX.cell (p := ⟨w.heap.size + 1, 6, none⟩) (by simp)).trans q6o
    have hA1 := hA.keeps (Keeps.of_below (S := fun _ => False) hW (fun k h1 h2 => by omega)) (fun _ _ _ => id)
    have hB1 := hB.keeps (Keeps.of_below (S := fun _ => False) hW (fun k h1 h2 => by omega)) (fun _ _ _ => id)
    go_wp2_with fail
    refine (wire_Pack a hA1 wa).mono ?_
    rintro e w3 ⟨rfl, hb⟩
    have hW2 := hW.trans (hb.mono hW.size)
    have hX2 := hX.trans (hb.mono (by have := hX.size; simpa using this))
    clear hW hX hb hA1 hB1
    have hW := hW2
    have hX := hX2
    clear hW2 hX2
    clear p0 p1 p2 p3 p4 p5 p6 q0 q1 q2 q3 q4 q5 q6
    have p0 := (hX.cell (p := ⟨w.heap.size, 0, none⟩) (by simp)).trans p0o
    have p1 := (hX.cell (p := ⟨w.heap.size, 1, none⟩) (by simp)).trans p1o
    have p2 := (hX.cell (p := ⟨w.heap.size, 2, none⟩) (by simp)).trans p2o
    have p3 := (hX.cell (p := ⟨w.heap.size, 3, none⟩) (by simp)).trans p3o
    have p4 := (hX.cell (p := ⟨w.heap.size, 4, none⟩) (by simp)).trans p4o
    have p5 := (hX.cell (p := ⟨w.heap.size, 5, none⟩) (by simp)).trans p5o
    have p6 := (hX.cell (p := ⟨w.heap.size, 6, none⟩) (by simp)).trans p6o
    have q0 := (hX.cell (p := ⟨w.heap.size + 1, 0, none⟩) (by simp)).trans q0o
    have q1 := (hX.cell (p := ⟨w.heap.size + 1, 1, none⟩) (by simp)).trans q1o
    have q2 := (hX.cell (p := ⟨w.heap.size + 1, 2, none⟩) (by simp)).trans q2o
    have q3 := (hX.cell (p := ⟨w.heap.size + 1, 3, none⟩) (by simp)).trans q3o
    have q4 := (hX.cell (p := ⟨w.heap.size + 1, 4, none⟩) (by simp)).trans q4o
    have q5 := (hX.cell (p := ⟨w.heap.size + 1, 5, none⟩) (by simp)).trans q5o
    have q6 := (hX.cell (p := ⟨w.heap.size + 1, 6, none⟩) (by simp)).trans q6o
    have hA1 := hA.keeps (Keeps.of_below (S := fun _ => False) hW (fun k h1 h2 => by omega)) (fun _ _ _ => id)
    have hB1 := hB.keeps (Keeps.of_below (S := fun _ => False) hW (fun k h1 h2 => by omega)) (fun _ _ _ => id)
    go_wp2_with fail
    refine (wire_Pack b hB1 wb).mono ?_
    rintro e w4 ⟨rfl, hb⟩
    have hW2 := hW.trans (hb.mono hW.size)
    have hX2 := hX.trans (hb.mono (by have := hX.size; simpa using this))
    clear hW hX hb hA1 hB1
    have hW := hW2
    have hX := hX2
    clear hW2 hX2
    clear p0 p1 p2 p3 p4 p5 p6 q0 q1 q2 q3 q4 q5 q6
    have p0 := (hX.cell (p := ⟨w.heap.size, 0, none⟩) (by simp)).trans p0o
    have p1 := (hX.cell (p := ⟨w.heap.size, 1, none⟩) (by simp)).trans p1o
    have p2 := (hX.cell (p := ⟨w.heap.size, 2, none⟩) (by simp)).trans p2o
    have p3 := (hX.cell (p := ⟨w.heap.size, 3, none⟩) (by simp)).trans p3o
    have p4 := (hX.cell (p := ⟨w.heap.size, 4, none⟩) (by simp)).trans p4o
    have p5 := (hX.cell (p := ⟨w.heap.size, 5, none⟩) (by simp)).trans p5o
    have p6 := (hX.cell (p := ⟨w.heap.size, 6, none⟩) (by simp)).trans p6o
    have q0 := (hX.cell (p := ⟨w.heap.size + 1, 0, none⟩) (by simp)).trans q0o
    have q1 := (hX.cell (p := ⟨w.heap.size + 1, 1, none⟩) (by simp)).trans q1o
    have q2 := (hX.cell (p := ⟨w.heap.size + 1, 2, none⟩) (by simp)).trans q2o
    have q3 := (hX.cell (p := ⟨w.heap.size + 1, 3, none⟩) (by simp)).trans q3o
    have q4 := (hX.cell (p := ⟨w.heap.size + 1, 4, none⟩) (by simp)).trans q4o
    have q5 := (hX.cell (p := ⟨w.heap.size + 1, 5, none⟩) (by simp)).trans q5o
    have q6 := (hX.cell (p := ⟨w.heap.size + 1, 6, none⟩) (by simp)).trans q6o
    have hA1 := hA.keeps (Keeps.of_below (S := fun _ => False) hW (fun k h1 h2 => by omega)) (fun _ _ _ => id)
    have hB1 := hB.keeps (Keeps.of_below (S := fun _ => False) hW (fun k h1 h2 => by omega)) (fun _ _ _ => id)
    go_wp2_with fail
    refine (wire_Same hA1 hB1).mono ?_
    rintro e w5 ⟨rfl, hb⟩
    have hW2 := hW.trans (hb.mono hW.size)
    have hX2 := hX.trans (hb.mono (by have := hX.size; simpa using this))
    clear hW hX hb hA1 hB1
    have hW := hW2
    have hX := hX2
    clear hW2 hX2
    clear p0 p1 p2 p3 p4 p5 p6 q0 q1 q2 q3 q4 q5 q6
    have p0 := (hX.cell (p := ⟨w.heap.size, 0, none⟩) (by simp)).trans p0o
    have p1 := (hX.cell (p := ⟨w.heap.size, 1, none⟩) (by simp)).trans p1o
    have p2 := (hX.cell (p := ⟨w.heap.size, 2, none⟩) (by simp)).trans p2o
    have p3 := (hX.cell (p := ⟨w.heap.size, 3, none⟩) (by simp)).trans p3o
    have p4 := (hX.cell (p := ⟨w.heap.size, 4, none⟩) (by simp)).trans p4o
    have p5 := (hX.cell (p := ⟨w.heap.size, 5, none⟩) (by simp)).trans p5o
    have p6 := (hX.cell (p := ⟨w.heap.size, 6, none⟩) (by simp)).trans p6o
    have q0 := (hX.cell (p := ⟨w.heap.size + 1, 0, none⟩) (by simp)).trans q0o
    have q1 := (hX.cell (p := ⟨w.heap.size + 1, 1, none⟩) (by simp)).trans q1o
    have q2 := (hX.cell (p := ⟨w.heap.size + 1, 2, none⟩) (by simp)).trans q2o
    have q3 := (hX.cell (p := ⟨w.heap.size + 1, 3, none⟩) (by simp)).trans q3o
    have q4 := (hX.cell (p := ⟨w.heap.size + 1, 4, none⟩) (by simp)).trans q4o
    have q5 := (hX.cell (p := ⟨w.heap.size + 1, 5, none⟩) (by simp)).trans q5o
    have q6 := (hX.cell (p := ⟨w.heap.size + 1, 6, none⟩) (by simp)).trans q6o
    clear p0 p1 p2 p3 p4 p5 p6 q0 q1 q2 q3 q4 q5 q6
    go_wp2_with fail
    go_ret
    exact ⟨rfl, hW⟩
  by_cases rb : RightP b
  rotate_left
  · have ea : packE a = 0 := by simp [packE, ra]
    have eb : packE b = 1 := by simp [packE, rb]
    clear ra rb
    go_enter Try.func3, Try.ntmps3
    go_wp2_with fail
    refine (awake07 _).mono ?_
    rintro e w1 ⟨rfl, hb⟩
    have hX : Below (w.heap.size + 2) ((w.alloc (.cells #[.int .i64 a.kind, .int .u32 a.nonce, .int .u16 a.serial, .int .u16 a.ack, .slice aa a.ins.length ca, .int .u32 a.sum, .int .i64 a.lead] 26)).alloc (.cells #[.int .i64 b.kind, .int .u32 b.nonce, .int .u16 b.serial, .int .u16 b.ack, .slice ab b.ins.length cb, .int .u32 b.sum, .int .i64 b.lead] 26)) w1 := hb.mono (by simp)
    have hW : Below w.heap.size w w1 := (((Below.refl _ w).alloc (Nat.le_refl _) _).alloc (by simp) _).trans (hb.mono (by simp; omega))
    clear hb
    have p0 := (hX.cell (p := ⟨w.heap.size, 0, none⟩) (by simp)).trans p0o
    have p1 := (hX.cell (p := ⟨w.heap.size, 1, none⟩) (by simp)).trans p1o
    have p2 := (hX.cell (p := ⟨w.heap.size, 2, none⟩) (by simp)).trans p2o
    have p3 := (hX.cell (p := ⟨w.heap.size, 3, none⟩) (by simp)).trans p3o
    have p4 := (hX.cell (p := ⟨w.heap.size, 4, none⟩) (by simp)).trans p4o
    have p5 := (hX.cell (p := ⟨w.heap.size, 5, none⟩) (by simp)).trans p5o
    have p6 := (hX.cell (p := ⟨w.heap.size, 6, none⟩) (by simp)).trans p6o
    have q0 := (hX.cell (p := ⟨w.heap.size + 1, 0, none⟩) (by simp)).trans q0o
    have q1 := (hX.cell (p := ⟨w.heap.size + 1, 1, none⟩) (by simp)).trans q1o
    have q2 := (hX.cell (p := ⟨w.heap.size + 1, 2, none⟩) (by simp)).trans q2o
    have q3 := (hX.cell (p := ⟨w.heap.size + 1, 3, none⟩) (by simp)).trans q3o
    have q4 := (hX.cell (p := ⟨w.heap.size + 1, 4, none⟩) (by simp)).trans q4o
    have q5 := (hX.cell (p := ⟨w.heap.size + 1, 5, none⟩) (by simp)).trans q5o
    have q6 := (hX.cell (p := ⟨w.heap.size + 1, 6, none⟩) (by simp)).trans q6o
    have hA1 := hA.keeps (Keeps.of_below (S := fun _ => False) hW (fun k h1 h2 => by omega)) (fun _ _ _ => id)
    have hB1 := hB.keeps (Keeps.of_below (S := fun _ => False) hW (fun k h1 h2 => by omega)) (fun _ _ _ => id)
    go_wp2_with fail
    refine (ref_SameM hA1 hB1).mono ?_
    rintro e w2 ⟨rfl, hb⟩
    have hW2 := hW.trans (hb.mono hW.size)
    have hX2 := hX.trans (hb.mono (by have := hX.size; simpa using this))
    clear hW hX hb hA1 hB1
    have hW := hW2
    have hX := hX2
    clear hW2 hX2
    clear p0 p1 p2 p3 p4 p5 p6 q0 q1 q2 q3 q4 q5 q6
    have p0 := (hX.cell (p := ⟨w.heap.size, 0, none⟩) (by simp)).trans p0o
    have p1 := (hX.cell (p := ⟨w.heap.size, 1, none⟩) (by simp)).trans p1o
    have p2 := (hX.cell (p := ⟨w.heap.size, 2, none⟩) (by simp)).trans p2o
    have p3 := (hX.cell (p := ⟨w.heap.size, 3, none⟩) (by simp)).trans p3o
    have p4 := (hX.cell (p := ⟨w.heap.size, 4, none⟩) (by simp)).trans p4o
    have p5 := (hX.cell (p := ⟨w.heap.size, 5, none⟩) (by simp)).trans p5o
    have p6 := (hX.cell (p := ⟨w.heap.size, 6, none⟩) (by simp)).trans p6o
    have q0 := (hX.cell (p := ⟨w.heap.size + 1, 0, none⟩) (by simp)).trans q0o
    have q1 := (hX.cell (p := ⟨w.heap.size + 1, 1, none⟩) (by simp)).trans q1o
    have q2 := (hX.cell (p := ⟨w.heap.size + 1, 2, none⟩) (by simp)).trans q2o
    have q3 := (hX.cell (p := ⟨w.heap.size + 1, 3, none⟩) (by simp)).trans q3o
    have q4 := (hX.cell (p := ⟨w.heap.size + 1, 4, none⟩) (by simp)).trans q4o
    have q5 := (hX.cell (p := ⟨w.heap.size + 1, 5, none⟩) (by simp)).trans q5o
    have q6 := (hX.cell (p := ⟨w.heap.size + 1, 6, none⟩) (by simp)).trans q6o
    have hA1 := hA.keeps (Keeps.of_below (S := fun _ => False) hW (fun k h1 h2 => by omega)) (fun _ _ _ => id)
    have hB1 := hB.keeps (Keeps.of_below (S := fun _ => False) hW (fun k h1 h2 => by omega)) (fun _ _ _ => id)
    go_wp2_with fail
    refine (wire_Pack a hA1 wa).mono ?_
    rintro e w3 ⟨rfl, hb⟩
    have hW2 := hW.trans (hb.mono hW.size)
    have hX2 := hX.trans (hb.mono (by have := hX.size; simpa using this))
    clear hW hX hb hA1 hB1
    have hW := hW2
    have hX := hX2
    clear hW2 hX2
    clear p0 p1 p2 p3 p4 p5 p6 q0 q1 q2 q3 q4 q5 q6
    have p0 := (hX.cell (p := ⟨w.heap.size, 0, none⟩) (by simp)).trans p0o
    have p1 := (hX.cell (p := ⟨w.heap.size, 1, none⟩) (by simp)).trans p1o
    have p2 := (hX.cell (p := ⟨w.heap.size, 2, none⟩) (by simp)).trans p2o
    have p3 := (hX.cell (p := ⟨w.heap.size, 3, none⟩) (by simp)).trans p3o
    have p4 := (hX.cell (p := ⟨w.heap.size, 4, none⟩) (by simp)).trans p4o
    have p5 := (hX.cell (p := ⟨w.heap.size, 5, none⟩) (by simp)).trans p5o
    have p6 := (hX.cell (p := ⟨w.heap.size, 6, none⟩) (by simp)).trans p6o
    have q0 := (hX.cell (p := ⟨w.heap.size + 1, 0, none⟩) (by simp)).trans q0o
    have q1 := (hX.cell (p := ⟨w.heap.size + 1, 1, none⟩) (by simp)).trans q1o
    have q2 := (hX.cell (p := ⟨w.heap.size + 1, 2, none⟩) (by simp)).trans q2o
    have q3 := (hX.cell (p := ⟨w.heap.size + 1, 3, none⟩) (by simp)).trans q3o
    have q4 := (hX.cell (p := ⟨w.heap.size + 1, 4, none⟩) (by simp)).trans q4o
    have q5 := (hX.cell (p := ⟨w.heap.size + 1, 5, none⟩) (by simp)).trans q5o
    have q6 := (hX.cell (p := ⟨w.heap.size + 1, 6, none⟩) (by simp)).trans q6o
    have hA1 := hA.keeps (Keeps.of_below (S := fun _ => False) hW (fun k h1 h2 => by omega)) (fun _ _ _ => id)
    have hB1 := hB.keeps (Keeps.of_below (S := fun _ => False) hW (fun k h1 h2 => by omega)) (fun _ _ _ => id)
    go_wp2_with fail
    refine (wire_Pack b hB1 wb).mono ?_
    rintro e w4 ⟨rfl, hb⟩
    have hW2 := hW.trans (hb.mono hW.size)
    have hX2 := hX.trans (hb.mono (by have := hX.size; simpa using this))
    clear hW hX hb hA1 hB1
    have hW := hW2
    have hX := hX2
    clear hW2 hX2
    clear p0 p1 p2 p3 p4 p5 p6 q0 q1 q2 q3 q4 q5 q6
    have p0 := (hX.cell (p := ⟨w.heap.size, 0, none⟩) (by simp)).trans p0o
    have p1 := (hX.cell (p := ⟨w.heap.size, 1, none⟩) (by simp)).trans p1o
    have p2 := (hX.cell (p := ⟨w.heap.size, 2, none⟩) (by simp)).trans p2o
    have p3 := (hX.cell (p := ⟨w.heap.size, 3, none⟩) (by simp)).trans p3o
    have p4 := (hX.cell (p := ⟨w.heap.size, 4, none⟩) (by simp)).trans p4o
    have p5 := (hX.cell (p := ⟨w.heap.size, 5, none⟩) (by simp)).trans p5o
    have p6 := (hX.cell (p := ⟨w.heap.size, 6, none⟩) (by simp)).trans p6o
    have q0 := (hX.cell (p := ⟨w.heap.size + 1, 0, none⟩) (by simp)).trans q0o
    have q1 := (hX.cell (p := ⟨w.heap.size + 1, 1, none⟩) (by simp)).trans q1o
    have q2 := (hX.cell (p := ⟨w.heap.size + 1, 2, none⟩) (by simp)).trans q2o
    have q3 := (hX.cell (p := ⟨w.heap.size + 1, 3, none⟩) (by simp)).trans q3o
    have q4 := (hX.cell (p := ⟨w.heap.size + 1, 4, none⟩) (by simp)).trans q4o
    have q5 := (hX.cell (p := ⟨w.heap.size + 1, 5, none⟩) (by simp)).trans q5o
    have q6 := (hX.cell (p := ⟨w.heap.size + 1, 6, none⟩) (by simp)).trans q6o
    have hA1 := hA.keeps (Keeps.of_below (S := fun _ => False) hW (fun k h1 h2 => by omega)) (fun _ _ _ => id)
    have hB1 := hB.keeps (Keeps.of_below (S := fun _ => False) hW (fun k h1 h2 => by omega)) (fun _ _ _ => id)
    go_wp2_with fail
    refine (wire_Same hA1 hB1).mono ?_
    rintro e w5 ⟨rfl, hb⟩
    have hW2 := hW.trans (hb.mono hW.size)
    have hX2 := hX.trans (hb.mono (by have := hX.size; simpa using this))
    clear hW hX hb hA1 hB1
    have hW := hW2
    have hX := hX2
    clear hW2 hX2
    clear p0 p1 p2 p3 p4 p5 p6 q0 q1 q2 q3 q4 q5 q6
    have p0 := (hX.cell (p := ⟨w.heap.size, 0, none⟩) (by simp)).trans p0o
    have p1 := (hX.cell (p := ⟨w.heap.size, 1, none⟩) (by simp)).trans p1o
    have p2 := (hX.cell (p := ⟨w.heap.size, 2, none⟩) (by simp)).trans p2o
    have p3 := (hX.cell (p := ⟨w.heap.size, 3, none⟩) (by simp)).trans p3o
    have p4 := (hX.cell (p := ⟨w.heap.size, 4, none⟩) (by simp)).trans p4o
    have p5 := (hX.cell (p := ⟨w.heap.size, 5, none⟩) (by simp)).trans p5o
    have p6 := (hX.cell (p := ⟨w.heap.size, 6, none⟩) (by simp)).trans p6o
    have q0 := (hX.cell (p := ⟨w.heap.size + 1, 0, none⟩) (by simp)).trans q0o
    have q1 := (hX.cell (p := ⟨w.heap.size + 1, 1, none⟩) (by simp)).trans q1o
    have q2 := (hX.cell (p := ⟨w.heap.size + 1, 2, none⟩) (by simp)).trans q2o
    have q3 := (hX.cell (p := ⟨w.heap.size + 1, 3, none⟩) (by simp)).trans q3o
    have q4 := (hX.cell (p := ⟨w.heap.size + 1, 4, none⟩) (by simp)).trans q4o
    have q5 := (hX.cell (p := ⟨w.heap.size + 1, 5, none⟩) (by simp)).trans q5o
    have q6 := (hX.cell (p := ⟨w.heap.size + 1, 6, none⟩) (by simp)).trans q6o
    clear p0 p1 p2 p3 p4 p5 p6 q0 q1 q2 q3 q4 q5 q6
    go_wp2_with fail
    go_ret
    exact ⟨rfl, hW⟩
  · have ea : packE a = 0 := by simp [packE, ra]
    have eb : packE b = 0 := by simp [packE, rb]
    have es : (packS a == packS b) = sameM a b := by unfold packS; rw [if_pos ra, if_pos rb, pack_same ra rb wa wb]
    clear ra rb
    go_enter Try.func3, Try.ntmps3
    go_wp2_with fail
    refine (awake07 _).mono ?_
    rintro e w1 ⟨rfl, hb⟩
    have hX : Below (w.heap.size + 2) ((w.alloc (.cells #[.int .i64 a.kind, .int .u32 a.nonce, .int .u16 a.serial, .int .u16 a.ack, .slice aa a.ins.length ca, .int .u32 a.sum, .int .i64 a.lead] 26)).alloc (.cells #[.int .i64 b.kind, .int .u32 b.nonce, .int .u16 b.serial, .int .u16 b.ack, .slice ab b.ins.length cb, .int .u32 b.sum, .int .i64 b.lead] 26)) w1 := hb.mono (by simp)
    have hW : Below w.heap.size w w1 := (((Below.refl _ w).alloc (Nat.le_refl _) _).alloc (by simp) _).trans (hb.mono (by simp; omega))
    clear hb
    have p0 := (hX.cell (p := ⟨w.heap.size, 0, none⟩) (by simp)).trans p0o
    have p1 := (hX.cell (p := ⟨w.heap.size, 1, none⟩) (by simp)).trans p1o
    have p2 := (hX.cell (p := ⟨w.heap.size, 2, none⟩) (by simp)).trans p2o
    have p3 := (hX.cell (p := ⟨w.heap.size, 3, none⟩) (by simp)).trans p3o
    have p4 := (hX.cell (p := ⟨w.heap.size, 4, none⟩) (by simp)).trans p4o
    have p5 := (hX.cell (p := ⟨w.heap.size, 5, none⟩) (by simp)).trans p5o
    have p6 := (hX.cell (p := ⟨w.heap.size, 6, none⟩) (by simp)).trans p6o
    have q0 := (hX.cell (p := ⟨w.heap.size + 1, 0, none⟩) (by simp)).trans q0o
    have q1 := (hX.cell (p := ⟨w.heap.size + 1, 1, none⟩) (by simp)).trans q1o
    have q2 := (hX.cell (p := ⟨w.heap.size + 1, 2, none⟩) (by simp)).trans q2o
    have q3 := (hX.cell (p := ⟨w.heap.size + 1, 3, none⟩) (by simp)).trans q3o
    have q4 := (hX.cell (p := ⟨w.heap.size + 1, 4, none⟩) (by simp)).trans q4o
    have q5 := (hX.cell (p := ⟨w.heap.size + 1, 5, none⟩) (by simp)).trans q5o
    have q6 := (hX.cell (p := ⟨w.heap.size + 1, 6, none⟩) (by simp)).trans q6o
    have hA1 := hA.keeps (Keeps.of_below (S := fun _ => False) hW (fun k h1 h2 => by omega)) (fun _ _ _ => id)
    have hB1 := hB.keeps (Keeps.of_below (S := fun _ => False) hW (fun k h1 h2 => by omega)) (fun _ _ _ => id)
    go_wp2_with fail
    refine (ref_SameM hA1 hB1).mono ?_
    rintro e w2 ⟨rfl, hb⟩
    have hW2 := hW.trans (hb.mono hW.size)
    have hX2 := hX.trans (hb.mono (by have := hX.size; simpa using this))
    clear hW hX hb hA1 hB1
    have hW := hW2
    have hX := hX2
    clear hW2 hX2
    clear p0 p1 p2 p3 p4 p5 p6 q0 q1 q2 q3 q4 q5 q6
    have p0 := (hX.cell (p := ⟨w.heap.size, 0, none⟩) (by simp)).trans p0o
    have p1 := (hX.cell (p := ⟨w.heap.size, 1, none⟩) (by simp)).trans p1o
    have p2 := (hX.cell (p := ⟨w.heap.size, 2, none⟩) (by simp)).trans p2o
    have p3 := (hX.cell (p := ⟨w.heap.size, 3, none⟩) (by simp)).trans p3o
    have p4 := (hX.cell (p := ⟨w.heap.size, 4, none⟩) (by simp)).trans p4o
    have p5 := (hX.cell (p := ⟨w.heap.size, 5, none⟩) (by simp)).trans p5o
    have p6 := (hX.cell (p := ⟨w.heap.size, 6, none⟩) (by simp)).trans p6o
    have q0 := (hX.cell (p := ⟨w.heap.size + 1, 0, none⟩) (by simp)).trans q0o
    have q1 := (hX.cell (p := ⟨w.heap.size + 1, 1, none⟩) (by simp)).trans q1o
    have q2 := (hX.cell (p := ⟨w.heap.size + 1, 2, none⟩) (by simp)).trans q2o
    have q3 := (hX.cell (p := ⟨w.heap.size + 1, 3, none⟩) (by simp)).trans q3o
    have q4 := (hX.cell (p := ⟨w.heap.size + 1, 4, none⟩) (by simp)).trans q4o
    have q5 := (hX.cell (p := ⟨w.heap.size + 1, 5, none⟩) (by simp)).trans q5o
    have q6 := (hX.cell (p := ⟨w.heap.size + 1, 6, none⟩) (by simp)).trans q6o
    have hA1 := hA.keeps (Keeps.of_below (S := fun _ => False) hW (fun k h1 h2 => by omega)) (fun _ _ _ => id)
    have hB1 := hB.keeps (Keeps.of_below (S := fun _ => False) hW (fun k h1 h2 => by omega)) (fun _ _ _ => id)
    go_wp2_with fail
    refine (wire_Pack a hA1 wa).mono ?_
    rintro e w3 ⟨rfl, hb⟩
    have hW2 := hW.trans (hb.mono hW.size)
    have hX2 := hX.trans (hb.mono (by have := hX.size; simpa using this))
    clear hW hX hb hA1 hB1
    have hW := hW2
    have hX := hX2
    clear hW2 hX2
    clear p0 p1 p2 p3 p4 p5 p6 q0 q1 q2 q3 q4 q5 q6
    have p0 := (hX.cell (p := ⟨w.heap.size, 0, none⟩) (by simp)).trans p0o
    have p1 := (hX.cell (p := ⟨w.heap.size, 1, none⟩) (by simp)).trans p1o
    have p2 := (hX.cell (p := ⟨w.heap.size, 2, none⟩) (by simp)).trans p2o
    have p3 := (hX.cell (p := ⟨w.heap.size, 3, none⟩) (by simp)).trans p3o
    have p4 := (hX.cell (p := ⟨w.heap.size, 4, none⟩) (by simp)).trans p4o
    have p5 := (hX.cell (p := ⟨w.heap.size, 5, none⟩) (by simp)).trans p5o
    have p6 := (hX.cell (p := ⟨w.heap.size, 6, none⟩) (by simp)).trans p6o
    have q0 := (hX.cell (p := ⟨w.heap.size + 1, 0, none⟩) (by simp)).trans q0o
    have q1 := (hX.cell (p := ⟨w.heap.size + 1, 1, none⟩) (by simp)).trans q1o
    have q2 := (hX.cell (p := ⟨w.heap.size + 1, 2, none⟩) (by simp)).trans q2o
    have q3 := (hX.cell (p := ⟨w.heap.size + 1, 3, none⟩) (by simp)).trans q3o
    have q4 := (hX.cell (p := ⟨w.heap.size + 1, 4, none⟩) (by simp)).trans q4o
    have q5 := (hX.cell (p := ⟨w.heap.size + 1, 5, none⟩) (by simp)).trans q5o
    have q6 := (hX.cell (p := ⟨w.heap.size + 1, 6, none⟩) (by simp)).trans q6o
    have hA1 := hA.keeps (Keeps.of_below (S := fun _ => False) hW (fun k h1 h2 => by omega)) (fun _ _ _ => id)
    have hB1 := hB.keeps (Keeps.of_below (S := fun _ => False) hW (fun k h1 h2 => by omega)) (fun _ _ _ => id)
    go_wp2_with fail
    refine (wire_Pack b hB1 wb).mono ?_
    rintro e w4 ⟨rfl, hb⟩
    have hW2 := hW.trans (hb.mono hW.size)
    have hX2 := hX.trans (hb.mono (by have := hX.size; simpa using this))
    clear hW hX hb hA1 hB1
    have hW := hW2
    have hX := hX2
    clear hW2 hX2
    clear p0 p1 p2 p3 p4 p5 p6 q0 q1 q2 q3 q4 q5 q6
    have p0 := (hX.cell (p := ⟨w.heap.size, 0, none⟩) (by simp)).trans p0o
    have p1 := (hX.cell (p := ⟨w.heap.size, 1, none⟩) (by simp)).trans p1o
    have p2 := (hX.cell (p := ⟨w.heap.size, 2, none⟩) (by simp)).trans p2o
    have p3 := (hX.cell (p := ⟨w.heap.size, 3, none⟩) (by simp)).trans p3o
    have p4 := (hX.cell (p := ⟨w.heap.size, 4, none⟩) (by simp)).trans p4o
    have p5 := (hX.cell (p := ⟨w.heap.size, 5, none⟩) (by simp)).trans p5o
    have p6 := (hX.cell (p := ⟨w.heap.size, 6, none⟩) (by simp)).trans p6o
    have q0 := (hX.cell (p := ⟨w.heap.size + 1, 0, none⟩) (by simp)).trans q0o
    have q1 := (hX.cell (p := ⟨w.heap.size + 1, 1, none⟩) (by simp)).trans q1o
    have q2 := (hX.cell (p := ⟨w.heap.size + 1, 2, none⟩) (by simp)).trans q2o
    have q3 := (hX.cell (p := ⟨w.heap.size + 1, 3, none⟩) (by simp)).trans q3o
    have q4 := (hX.cell (p := ⟨w.heap.size + 1, 4, none⟩) (by simp)).trans q4o
    have q5 := (hX.cell (p := ⟨w.heap.size + 1, 5, none⟩) (by simp)).trans q5o
    have q6 := (hX.cell (p := ⟨w.heap.size + 1, 6, none⟩) (by simp)).trans q6o
    have hA1 := hA.keeps (Keeps.of_below (S := fun _ => False) hW (fun k h1 h2 => by omega)) (fun _ _ _ => id)
    have hB1 := hB.keeps (Keeps.of_below (S := fun _ => False) hW (fun k h1 h2 => by omega)) (fun _ _ _ => id)
    go_wp2_with fail
    refine (wire_Same hA1 hB1).mono ?_
    rintro e w5 ⟨rfl, hb⟩
    have hW2 := hW.trans (hb.mono hW.size)
    have hX2 := hX.trans (hb.mono (by have := hX.size; simpa using this))
    clear hW hX hb hA1 hB1
    have hW := hW2
    have hX := hX2
    clear hW2 hX2
    clear p0 p1 p2 p3 p4 p5 p6 q0 q1 q2 q3 q4 q5 q6
    have p0 := (hX.cell (p := ⟨w.heap.size, 0, none⟩) (by simp)).trans p0o
    have p1 := (hX.cell (p := ⟨w.heap.size, 1, none⟩) (by simp)).trans p1o
    have p2 := (hX.cell (p := ⟨w.heap.size, 2, none⟩) (by simp)).trans p2o
    have p3 := (hX.cell (p := ⟨w.heap.size, 3, none⟩) (by simp)).trans p3o
    have p4 := (hX.cell (p := ⟨w.heap.size, 4, none⟩) (by simp)).trans p4o
    have p5 := (hX.cell (p := ⟨w.heap.size, 5, none⟩) (by simp)).trans p5o
    have p6 := (hX.cell (p := ⟨w.heap.size, 6, none⟩) (by simp)).trans p6o
    have q0 := (hX.cell (p := ⟨w.heap.size + 1, 0, none⟩) (by simp)).trans q0o
    have q1 := (hX.cell (p := ⟨w.heap.size + 1, 1, none⟩) (by simp)).trans q1o
    have q2 := (hX.cell (p := ⟨w.heap.size + 1, 2, none⟩) (by simp)).trans q2o
    have q3 := (hX.cell (p := ⟨w.heap.size + 1, 3, none⟩) (by simp)).trans q3o
    have q4 := (hX.cell (p := ⟨w.heap.size + 1, 4, none⟩) (by simp)).trans q4o
    have q5 := (hX.cell (p := ⟨w.heap.size + 1, 5, none⟩) (by simp)).trans q5o
    have q6 := (hX.cell (p := ⟨w.heap.size + 1, 6, none⟩) (by simp)).trans q6o
    clear p0 p1 p2 p3 p4 p5 p6 q0 q1 q2 q3 q4 q5 q6
    go_wp2_with fail
    go_ret
    exact ⟨rfl, hW⟩
end Go.Proofs.Ytlneddmfcheaiaa
