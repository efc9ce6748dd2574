/- One call on a cable and on the reference's: spoiling and cutting; all kinds. -/
import Derived.Test.YtdgbmnefpempaaaDoes
namespace Go.Proofs.Ytdgbmnefpempaaa
open Go.RowKit
section
variable {w w' w'' : World} {B m most : Nat} {s s' : CS}
set_option maxRecDepth 100000 in
theorem does_5 (to i : Int) (t : ByteArray) (x : Int) (b : Nat) (hC : IsCable w B most s) (hM : IsRefC w m most s) (hlt : B + 4 < m) (hmost : most ≤ 64) (hok : s.ok) (hb : b < 256) :
    Calls Try.prog 17 #[.pointer (some ⟨B, 0, none⟩), .pointer (some ⟨m, 0, none⟩), .agg #[.int .i64 5, .int .i64 to, .int .i64 i, .string t, .int .i64 x, .int .u8 b]] w fun e w' => e = .returned (.bool true) ∧ Both w w' B m most (takeC s to i) := by
  have lm := hM.lt
  have hnc : ¬ ofCable B w.heap.size := fun h => by have := h.2; omega
  have hnm : ¬ w.heap.size = m := by omega
  have hbox := Both.alloc hC hM (.cells #[.int .i64 5, .int .i64 to, .int .i64 i, .string t, .int .i64 x, .int .u8 b] 31)
  have hxb := blk_new w (.cells #[.int .i64 5, .int .i64 to, .int .i64 i, .string t, .int .i64 x, .int .u8 b] 31)
  have HB := hid hbox
  clear hbox
  have hR := hid (fun W (h : IsRefC W m most s) => refC_Take h to i (Nat.le_trans (hC.ring to).le.1 (by omega)))
  cases hcp : copyC s to i with
  | none =>
    have hS := hid (fun W (h : IsCable W B most s) => cable_Spoil_no h to i x b hcp)
    rw [hcp, takeC_none hcp, show strV none = .string ByteArray.empty from rfl] at hR
    rw [takeC_none hcp]
    clear hcp
    simp only [Option.isSome_none] at hR
    go_enter Try.func17, Try.ntmps17
    go_wp2_with fail
    refine (hS.out _ HB.out.c).mono ?_
    rintro e w2 ⟨rfl, hc2, hk2⟩
    have hx2 := hk2.heap hxb hnc
    have y1 : w2.cell? ⟨w.heap.size, 1, none⟩ = some (.int .i64 to) := blk_cell hx2 rfl
    have y2 : w2.cell? ⟨w.heap.size, 2, none⟩ = some (.int .i64 i) := blk_cell hx2 rfl
    have y3 : w2.cell? ⟨w.heap.size, 3, none⟩ = some (.string t) := blk_cell hx2 rfl
    have y4 : w2.cell? ⟨w.heap.size, 4, none⟩ = some (.int .i64 x) := blk_cell hx2 rfl
    have y5 : w2.cell? ⟨w.heap.size, 5, none⟩ = some (.int .u8 b) := blk_cell hx2 rfl
    obtain ⟨hr2, hkk2⟩ := HB.out.ofC hlt hk2
    clear hxb
    go_wp2_with fail
    refine (hR.out _ hr2).mono ?_
    rintro e w3 ⟨rfl, hr3, hk3⟩
    go_wp2_with fail
    go_ret
    exact ⟨by simp, Both.ofR hc2 hlt hk3, hr3, hkk2.trans (hk3.mono fun _ _ h => .inr h)⟩
  | some v =>
    have hv := hok.copy hcp
    have hS := hid (fun W (h : IsCable W B most s) => cable_Spoil h to i x b hb v hcp hv.1 hv.2)
    have hT := hid (fun W => ref_Spoilt v hv.1 hv.2 x b hb W)
    rw [hcp, show strV (some v) = .string v from rfl] at hR
    clear hcp hv
    simp only [Option.isSome_some] at hR
    generalize takeC s to i = s1 at *
    generalize turnT v x b = v2 at *
    go_enter Try.func17, Try.ntmps17
    go_wp2_with fail
    refine (hS.out _ HB.out.c).mono ?_
    rintro e w2 ⟨rfl, hc2, hk2⟩
    have hx2 := hk2.heap hxb hnc
    have y1 : w2.cell? ⟨w.heap.size, 1, none⟩ = some (.int .i64 to) := blk_cell hx2 rfl
    have y2 : w2.cell? ⟨w.heap.size, 2, none⟩ = some (.int .i64 i) := blk_cell hx2 rfl
    have y3 : w2.cell? ⟨w.heap.size, 3, none⟩ = some (.string t) := blk_cell hx2 rfl
    have y4 : w2.cell? ⟨w.heap.size, 4, none⟩ = some (.int .i64 x) := blk_cell hx2 rfl
    have y5 : w2.cell? ⟨w.heap.size, 5, none⟩ = some (.int .u8 b) := blk_cell hx2 rfl
    obtain ⟨hr2, hkk2⟩ := HB.out.ofC hlt hk2
    clear hxb
    go_wp2_with fail
    refine (hR.out _ hr2).mono ?_
    rintro e w3 ⟨rfl, hr3, hk3⟩
    have z4 := hk3.cell y4 hnm
    have z5 := hk3.cell y5 hnm
    go_wp2_with fail
    refine (hT.out w3).mono ?_
    rintro e w4 ⟨rfl, hk4⟩
    go_wp2_with fail
    go_ret
    exact ⟨by simp, (Both.ofR hc2 hlt hk3).keeps hk4 (fun _ _ => id), hr3.keeps hk4 (fun _ _ _ => id), (hkk2.trans (hk3.mono fun _ _ h => .inr h)).trans (keeps_any hk4)⟩
set_option maxRecDepth 100000 in
theorem does_6 (to i : Int) (t : ByteArray) (x : Int) (b : Nat) (hC : IsCable w B most s) (hM : IsRefC w m most s) (hlt : B + 4 < m) (hmost : most ≤ 64) (hlo : 0 ≤ s.lost ∧ s.lost ≤ 900000) :
    Calls Try.prog 17 #[.pointer (some ⟨B, 0, none⟩), .pointer (some ⟨m, 0, none⟩), .agg #[.int .i64 6, .int .i64 to, .int .i64 i, .string t, .int .i64 x, .int .u8 b]] w fun e w' => e = .returned (.bool true) ∧ Both w w' B m most ⟨[], [], s.lost + s.total⟩ := by
  have lm := hM.lt
  have hnc : ¬ ofCable B w.heap.size := fun h => by have := h.2; omega
  have hnm : ¬ w.heap.size = m := by omega
  have hbox := Both.alloc hC hM (.cells #[.int .i64 6, .int .i64 to, .int .i64 i, .string t, .int .i64 x, .int .u8 b] 31)
  have hxb := blk_new w (.cells #[.int .i64 6, .int .i64 to, .int .i64 i, .string t, .int .i64 x, .int .u8 b] 31)
  have HB := hid hbox
  have hS := hid (fun W (h : IsCable W B most s) => cable_Cut h hlo hmost)
  have e1 : (s.total : Int) = (s.a.length : Int) + (s.b.length : Int) := by simp [CS.total]
  rw [e1] at hS
  rw [e1]
  have la := hC.ra.le.1
  have lb := hC.rb.le.1
  obtain ⟨p, q, cp, cq, h1, h2, h3, h4, h5⟩ := hbox.r
  clear hbox
  go_enter Try.func17, Try.ntmps17
  go_wp2_with fail
  generalize w.alloc (.cells #[.int .i64 6, .int .i64 to, .int .i64 i, .string t, .int .i64 x, .int .u8 b] 31) = W0 at *
  have c1 : W0.cell? ⟨m, 1, none⟩ = some (.slice p s.a.length cp) := blk_cell h1 rfl
  have c2 : W0.cell? ⟨m, 2, none⟩ = some (.slice q s.b.length cq) := blk_cell h1 rfl
  go_quiet (fail)
  have hB2 := HB.out
  clear c1 c2
  have hc3 : IsCable (W0.drewN nq) B most s := hB2.c.keeps ((Keeps.refl (fun _ => False) _).drewN nq) (fun _ _ => id)
  have hk3 : Keeps (ofBoth B m) w (W0.drewN nq) := hB2.k.drewN nq
  have h1' : (W0.drewN nq).heap[m]? = some (.cells #[.int .i64 most, .slice p s.a.length cp, .slice q s.b.length cq, .int .i64 s.lost] 42 (0, 0)) := h1
  have fm := blk_free h1'
  have f1 := fm 1
  have f2 := fm 2
  have f3 := fm 3
  have d1 : (W0.drewN nq).cell? ⟨m, 1, none⟩ = some (.slice p s.a.length cp) := blk_cell h1' rfl
  have d2 : (W0.drewN nq).cell? ⟨m, 2, none⟩ = some (.slice q s.b.length cq) := blk_cell h1' rfl
  have d3 : (W0.drewN nq).cell? ⟨m, 3, none⟩ = some (.int .i64 s.lost) := blk_cell h1' rfl
  clear h1 hxb hB2 HB h2 h3 h4 h5 fm e1
  generalize W0.drewN nq = W1 at *
  have H1 := blk_set (blk_set (blk_set h1' 1 (.slice none 0 0)) 2 (.slice none 0 0)) 3 (.int .i64 (s.lost + ((s.a.length : Int) + (s.b.length : Int))))
  have HK := (((Keeps.refl (fun b => b = m) W1).setCell (p := ⟨m, 1, none⟩) rfl (.slice none 0 0)).setCell (p := ⟨m, 2, none⟩) rfl (.slice none 0 0)).setCell (p := ⟨m, 3, none⟩) rfl (.int .i64 (s.lost + ((s.a.length : Int) + (s.b.length : Int))))
  have hc4 := Both.ofR hc3 hlt HK
  have hk4 := hk3.trans (HK.mono (T := ofBoth B m) fun _ _ h => .inr h)
  have hr4 : IsRefC (((W1.setCell ⟨m, 1, none⟩ (.slice none 0 0)).setCell ⟨m, 2, none⟩ (.slice none 0 0)).setCell ⟨m, 3, none⟩ (.int .i64 (s.lost + ((s.a.length : Int) + (s.b.length : Int))))) m most ⟨[], [], s.lost + ((s.a.length : Int) + (s.b.length : Int))⟩ :=
    ⟨none, none, 0, 0, H1, Vals.nil _ _, Vals.nil _ _, (fun _ h => by cases h), (fun _ h => by cases h)⟩
  clear H1 HK h1'
  go_wp2_with fail
  refine (hS.out _ hc4).mono ?_
  rintro e w2 ⟨rfl, hc5, hk5⟩
  obtain ⟨q1, q2⟩ := behind_c hr4 hk4 hlt hk5
  go_wp2_with fail
  go_ret
  exact ⟨rfl, hc5, q1, q2⟩
theorem law_does (c : Act6) (hw : c.wf) (hC : IsCable w B most s) (hM : IsRefC w m most s) (hlt : B + 4 < m) (hmost : most ≤ 64) (hlo : 0 ≤ s.lost ∧ s.lost ≤ 900000) (hok : s.ok) :
    Calls Try.prog 17 #[.pointer (some ⟨B, 0, none⟩), .pointer (some ⟨m, 0, none⟩), .agg #[.int .i64 c.kind, .int .i64 c.to, .int .i64 c.i, .string c.s, .int .i64 c.at', .int .u8 c.b]] w fun e w' => e = .returned (.bool true) ∧ Both w w' B m most (stepC s most c.kind c.to c.i c.s) := by
  unfold stepC
  split
  · rename_i h; rw [h]; exact does_1 c.to c.i c.s c.at' c.b hC hM hlt hmost hlo hw.s
  split
  · rename_i h; rw [h]; exact does_2 c.to c.i c.s c.at' c.b hC hM hlt hmost
  split
  · rename_i h; rw [h]; exact does_4 c.to c.i c.s c.at' c.b hC hM hlt hmost hlo
  split
  · rename_i h; rw [h]; exact does_5 c.to c.i c.s c.at' c.b hC hM hlt hmost hok hw.b
  split
  · rename_i h; rw [h]; exact does_6 c.to c.i c.s c.at' c.b hC hM hlt hmost hlo
  by_cases h : c.kind = 3
  · rw [h]; exact does_3 c.to c.i c.s c.at' c.b hC hM hlt
  · exact does_Other c.kind c.to c.i c.s c.at' c.b hC hM (by assumption) (by assumption) h (by assumption) (by assumption) (by assumption)
theorem CS.ok.get (h : s.ok) (to : Int) : ∀ v ∈ s.get to, okText v := by
  unfold CS.get
  split
  · exact h.a
  · exact h.b
theorem CS.ok.put (h : s.ok) (to : Int) {L : List ByteArray} (hL : ∀ v ∈ L, okText v) : (s.put to L).ok := by
  unfold CS.put
  split
  · exact ⟨hL, h.b⟩
  · exact ⟨h.a, hL⟩
theorem take_ok (h : s.ok) (to i : Int) : (takeC s to i).ok := by
  unfold takeC
  split
  · exact h.put to fun v hv => h.get to v (List.mem_of_mem_eraseIdx hv)
  · exact h
theorem send_ok (h : s.ok) (to : Int) (t : ByteArray) : (sendC s most to t).ok := by
  unfold sendC
  split
  · rename_i hh
    split
    · exact h.put to fun v hv => by
        rcases List.mem_append.1 hv with hv | hv
        · exact h.get to v hv
        · rw [List.mem_singleton.1 hv]; exact hh.2
    · exact ⟨h.a, h.b⟩
  · exact h
theorem drop_ok (h : s.ok) (to i : Int) : (dropC s to i).ok := by
  unfold dropC
  split
  · exact ⟨(take_ok h to i).a, (take_ok h to i).b⟩
  · exact h
theorem step_ok (h : s.ok) (k to i : Int) (t : ByteArray) : (stepC s most k to i t).ok := by
  unfold stepC
  split; · exact send_ok h to t
  split; · exact take_ok h to i
  split; · exact drop_ok h to i
  split; · exact take_ok h to i
  split; · exact ⟨(fun _ h => by cases h), (fun _ h => by cases h)⟩
  exact h
theorem put_lost (s : CS) (to : Int) (L : List ByteArray) : (s.put to L).lost = s.lost := by unfold CS.put; split <;> rfl
theorem step_lost (k to i : Int) (t : ByteArray) : s.lost ≤ (stepC s most k to i t).lost ∧ (stepC s most k to i t).lost ≤ s.lost + 1 + s.total := by
  unfold stepC
  split
  · unfold sendC
    split
    · split
      · rw [put_lost]; omega
      · show s.lost ≤ s.lost + 1 ∧ s.lost + 1 ≤ s.lost + 1 + s.total; omega
    · omega
  split; · rw [takeC_lost]; omega
  split
  · unfold dropC
    split
    · show s.lost ≤ s.lost + 1 ∧ s.lost + 1 ≤ s.lost + 1 + s.total; omega
    · omega
  split; · rw [takeC_lost]; omega
  split; · show s.lost ≤ s.lost + s.total ∧ s.lost + s.total ≤ s.lost + 1 + s.total; omega
  omega
end
end Go.Proofs.Ytdgbmnefpempaaa
