/- One call on a cable and on the reference's. -/
import Derived.Test.YtdgbmnefpempaaaCable6
import Derived.Test.YtdgbmnefpempaaaActs6
namespace Go.Proofs.Ytdgbmnefpempaaa
open Go.RowKit
def stepC (s : CS) (most : Nat) (k to i : Int) (t : ByteArray) : CS :=
  if k = 1 then sendC s most to t else if k = 2 then takeC s to i else if k = 4 then dropC s to i else if k = 5 then takeC s to i else if k = 6 then ⟨[], [], s.lost + s.total⟩ else s
def ofBoth (B m : Nat) (b : Nat) : Prop := ofCable B b ∨ b = m
structure Both (w w' : World) (B m most : Nat) (s : CS) : Prop where
  c : IsCable w' B most s
  r : IsRefC w' m most s
  k : Keeps (ofBoth B m) w w'
structure CS.ok (s : CS) : Prop where
  a : ∀ v ∈ s.a, okText v
  b : ∀ v ∈ s.b, okText v
theorem CS.ok.copy {s : CS} (h : s.ok) {to i : Int} {v : ByteArray} (hc : copyC s to i = some v) : okText v := by
  unfold copyC at hc
  split at hc
  · rename_i hh
    have hm := List.mem_of_getElem? hc
    unfold CS.get at hm
    split at hm
    · exact h.a v hm
    · exact h.b v hm
  · cases hc
section
variable {w w' w'' : World} {B m most : Nat} {s s' : CS}
theorem Both.alloc (hC : IsCable w B most s) (hM : IsRefC w m most s) (o : Obj) : Both w (w.alloc o) B m most s :=
  ⟨hC.keeps (S := fun _ => False) ((Keeps.refl _ w).alloc o) (fun _ _ => id), hM.keeps (S := fun _ => False) ((Keeps.refl _ w).alloc o) (fun _ _ _ => id), (Keeps.refl _ w).alloc o⟩
/-- behind a call on the cable -/
theorem Both.ofC (h : Both w w' B m most s) (hlt : B + 4 < m) (k : Keeps (ofCable B) w' w'') : IsRefC w'' m most s ∧ Keeps (ofBoth B m) w w'' :=
  ⟨h.r.keeps k (fun b h1 _ h3 => by have := h3.2; omega), h.k.trans (k.mono fun _ _ h => .inl h)⟩
theorem behind_c (hr : IsRefC w' m most s) (hk : Keeps (ofBoth B m) w w') (hlt : B + 4 < m) (k : Keeps (ofCable B) w' w'') : IsRefC w'' m most s ∧ Keeps (ofBoth B m) w w'' :=
  ⟨hr.keeps k (fun b h1 _ h3 => by have := h3.2; omega), hk.trans (k.mono fun _ _ h => .inl h)⟩
theorem Both.ofR (hC : IsCable w' B most s) (hlt : B + 4 < m) (k : Keeps (fun b => b = m) w' w'') : IsCable w'' B most s :=
  hC.keeps k (fun b h1 h2 => by have := h1.2; omega)
set_option maxRecDepth 100000 in
theorem does_Other (k to i : Int) (t : ByteArray) (x : Int) (b : Nat) (hC : IsCable w B most s) (hM : IsRefC w m most s)
    (h1 : k ≠ 1) (h2 : k ≠ 2) (h3 : k ≠ 3) (h4 : k ≠ 4) (h5 : k ≠ 5) (h6 : k ≠ 6) :
    Calls Try.prog 17 #[.pointer (some ⟨B, 0, none⟩), .pointer (some ⟨m, 0, none⟩), .agg #[.int .i64 k, .int .i64 to, .int .i64 i, .string t, .int .i64 x, .int .u8 b]] w fun e w' => e = .returned (.bool true) ∧ Both w w' B m most s := by
  have hbox := Both.alloc hC hM (.cells #[.int .i64 k, .int .i64 to, .int .i64 i, .string t, .int .i64 x, .int .u8 b] 31)
  rw [← beq_eq_false_iff_ne] at h1 h2 h3 h4 h5 h6
  go_enter Try.func17, Try.ntmps17
  go_wp2_with fail
  go_ret
  exact ⟨rfl, hbox⟩
set_option maxRecDepth 100000 in
theorem does_1 (to i : Int) (t : ByteArray) (x : Int) (b : Nat) (hC : IsCable w B most s) (hM : IsRefC w m most s) (hlt : B + 4 < m) (hmost : most ≤ 64) (hlo : 0 ≤ s.lost ∧ s.lost ≤ 900000) (ht : t.size ≤ maxLen) :
    Calls Try.prog 17 #[.pointer (some ⟨B, 0, none⟩), .pointer (some ⟨m, 0, none⟩), .agg #[.int .i64 1, .int .i64 to, .int .i64 i, .string t, .int .i64 x, .int .u8 b]] w fun e w' => e = .returned (.bool true) ∧ Both w w' B m most (sendC s most to t) := by
  have lm := hM.lt
  have hnc : ¬ ofCable B w.heap.size := fun h => by have := h.2; omega
  have hnm : ¬ w.heap.size = m := by omega
  have hbox := Both.alloc hC hM (.cells #[.int .i64 1, .int .i64 to, .int .i64 i, .string t, .int .i64 x, .int .u8 b] 31)
  have hxb := blk_new w (.cells #[.int .i64 1, .int .i64 to, .int .i64 i, .string t, .int .i64 x, .int .u8 b] 31)
  have HB := hid hbox
  clear hbox
  have hS := hid (fun W (h : IsCable W B most s) => cable_Send h ⟨hlo.1, by omega⟩ to t ht)
  have hR := hid (fun W (h : IsRefC W m most s) => refC_Send h to hmost (hC.ring to).le.1 ⟨hlo.1, by omega⟩ t ht)
  generalize sendB s most to t = bb at *
  generalize sendE to t = ee at *
  generalize sendC s most to t = s1 at *
  go_enter Try.func17, Try.ntmps17
  go_wp2_with fail
  refine (hS.out _ HB.out.c).mono ?_
  rintro e w2 ⟨rfl, hc2, hk2⟩
  have hx2 := hk2.heap hxb hnc
  have y1 : w2.cell? ⟨w.heap.size, 1, none⟩ = some (.int .i64 to) := blk_cell hx2 rfl
  have y2 : w2.cell? ⟨w.heap.size, 2, none⟩ = some (.int .i64 i) := blk_cell hx2 rfl
  have y3 : w2.cell? ⟨w.heap.size, 3, none⟩ = some (.string t) := blk_cell hx2 rfl
  have y4 : w2.cell? ⟨w.heap.size, 4, none⟩ = some (.int .i64 x) := blk_cell hx2 rfl
  have y5 : w2.cell? ⟨w.heap.size, 5, none⟩ = some (.int .u8 b) := blk_cell hx2 rfl
  obtain ⟨hr2, hkk2⟩ := HB.out.ofC hlt hk2
  clear hxb
  go_wp2_with fail
  refine (hR.out _ hr2).mono ?_
  rintro e w3 ⟨rfl, hr3, hk3⟩
  go_wp2_with fail
  go_ret
  exact ⟨by simp, Both.ofR hc2 hlt hk3, hr3, hkk2.trans (hk3.mono fun _ _ h => .inr h)⟩
set_option maxRecDepth 100000 in
theorem does_2 (to i : Int) (t : ByteArray) (x : Int) (b : Nat) (hC : IsCable w B most s) (hM : IsRefC w m most s) (hlt : B + 4 < m) (hmost : most ≤ 64) :
    Calls Try.prog 17 #[.pointer (some ⟨B, 0, none⟩), .pointer (some ⟨m, 0, none⟩), .agg #[.int .i64 2, .int .i64 to, .int .i64 i, .string t, .int .i64 x, .int .u8 b]] w fun e w' => e = .returned (.bool true) ∧ Both w w' B m most (takeC s to i) := by
  have lm := hM.lt
  have hnc : ¬ ofCable B w.heap.size := fun h => by have := h.2; omega
  have hnm : ¬ w.heap.size = m := by omega
  have hbox := Both.alloc hC hM (.cells #[.int .i64 2, .int .i64 to, .int .i64 i, .string t, .int .i64 x, .int .u8 b] 31)
  have hxb := blk_new w (.cells #[.int .i64 2, .int .i64 to, .int .i64 i, .string t, .int .i64 x, .int .u8 b] 31)
  have HB := hid hbox
  clear hbox
  have hS := hid (fun W (h : IsCable W B most s) => cable_Take h to i)
  have hR := hid (fun W (h : IsRefC W m most s) => refC_Take h to i (Nat.le_trans (hC.ring to).le.1 (by omega)))
  unfold strV at hS hR
  generalize (copyC s to i).getD ByteArray.empty = v at *
  generalize (copyC s to i).isSome = bb at *
  generalize takeC s to i = s1 at *
  go_enter Try.func17, Try.ntmps17
  go_wp2_with fail
  refine (hS.out _ HB.out.c).mono ?_
  rintro e w2 ⟨rfl, hc2, hk2⟩
  have hx2 := hk2.heap hxb hnc
  have y1 : w2.cell? ⟨w.heap.size, 1, none⟩ = some (.int .i64 to) := blk_cell hx2 rfl
  have y2 : w2.cell? ⟨w.heap.size, 2, none⟩ = some (.int .i64 i) := blk_cell hx2 rfl
  have y3 : w2.cell? ⟨w.heap.size, 3, none⟩ = some (.string t) := blk_cell hx2 rfl
  have y4 : w2.cell? ⟨w.heap.size, 4, none⟩ = some (.int .i64 x) := blk_cell hx2 rfl
  have y5 : w2.cell? ⟨w.heap.size, 5, none⟩ = some (.int .u8 b) := blk_cell hx2 rfl
  obtain ⟨hr2, hkk2⟩ := HB.out.ofC hlt hk2
  clear hxb
  go_wp2_with fail
  refine (hR.out _ hr2).mono ?_
  rintro e w3 ⟨rfl, hr3, hk3⟩
  go_wp2_with fail
  go_ret
  exact ⟨by simp, Both.ofR hc2 hlt hk3, hr3, hkk2.trans (hk3.mono fun _ _ h => .inr h)⟩
set_option maxRecDepth 100000 in
theorem does_3 (to i : Int) (t : ByteArray) (x : Int) (b : Nat) (hC : IsCable w B most s) (hM : IsRefC w m most s) (hlt : B + 4 < m) :
    Calls Try.prog 17 #[.pointer (some ⟨B, 0, none⟩), .pointer (some ⟨m, 0, none⟩), .agg #[.int .i64 3, .int .i64 to, .int .i64 i, .string t, .int .i64 x, .int .u8 b]] w fun e w' => e = .returned (.bool true) ∧ Both w w' B m most s := by
  have lm := hM.lt
  have hnc : ¬ ofCable B w.heap.size := fun h => by have := h.2; omega
  have hnm : ¬ w.heap.size = m := by omega
  have hbox := Both.alloc hC hM (.cells #[.int .i64 3, .int .i64 to, .int .i64 i, .string t, .int .i64 x, .int .u8 b] 31)
  have hxb := blk_new w (.cells #[.int .i64 3, .int .i64 to, .int .i64 i, .string t, .int .i64 x, .int .u8 b] 31)
  have HB := hid hbox
  clear hbox
  have hS := hid (fun W (h : IsCable W B most s) => cable_Copy h to i)
  have hR := hid (fun W (h : IsRefC W m most s) => refC_Copy h to i)
  unfold strV at hS hR
  generalize (copyC s to i).getD ByteArray.empty = v at *
  generalize (copyC s to i).isSome = bb at *
  go_enter Try.func17, Try.ntmps17
  go_wp2_with fail
  refine (hS.out _ HB.out.c).mono ?_
  rintro e w2 ⟨rfl, q, rfl⟩
  have hc2 := HB.out.c.keeps ((Keeps.refl (fun _ => False) _).drewN q) (fun _ _ => id)
  have hk2 : Keeps (ofCable B) (w.alloc (.cells #[.int .i64 3, .int .i64 to, .int .i64 i, .string t, .int .i64 x, .int .u8 b] 31)) ((w.alloc (.cells #[.int .i64 3, .int .i64 to, .int .i64 i, .string t, .int .i64 x, .int .u8 b] 31)).drewN q) := (Keeps.refl _ _).drewN q
  generalize (w.alloc (.cells #[.int .i64 3, .int .i64 to, .int .i64 i, .string t, .int .i64 x, .int .u8 b] 31)).drewN q = w2 at *
  have hx2 := hk2.heap hxb hnc
  have y1 : w2.cell? ⟨w.heap.size, 1, none⟩ = some (.int .i64 to) := blk_cell hx2 rfl
  have y2 : w2.cell? ⟨w.heap.size, 2, none⟩ = some (.int .i64 i) := blk_cell hx2 rfl
  have y3 : w2.cell? ⟨w.heap.size, 3, none⟩ = some (.string t) := blk_cell hx2 rfl
  have y4 : w2.cell? ⟨w.heap.size, 4, none⟩ = some (.int .i64 x) := blk_cell hx2 rfl
  have y5 : w2.cell? ⟨w.heap.size, 5, none⟩ = some (.int .u8 b) := blk_cell hx2 rfl
  obtain ⟨hr2, hkk2⟩ := HB.out.ofC hlt hk2
  clear hxb
  go_wp2_with fail
  refine (hR.out _ hr2).mono ?_
  rintro e w3 ⟨rfl, rfl⟩
  go_wp2_with fail
  go_ret
  exact ⟨by simp, hc2, hr2, hkk2⟩
set_option maxRecDepth 100000 in
theorem does_4 (to i : Int) (t : ByteArray) (x : Int) (b : Nat) (hC : IsCable w B most s) (hM : IsRefC w m most s) (hlt : B + 4 < m) (hmost : most ≤ 64) (hlo : 0 ≤ s.lost ∧ s.lost ≤ 900000) :
    Calls Try.prog 17 #[.pointer (some ⟨B, 0, none⟩), .pointer (some ⟨m, 0, none⟩), .agg #[.int .i64 4, .int .i64 to, .int .i64 i, .string t, .int .i64 x, .int .u8 b]] w fun e w' => e = .returned (.bool true) ∧ Both w w' B m most (dropC s to i) := by
  have lm := hM.lt
  have hnc : ¬ ofCable B w.heap.size := fun h => by have := h.2; omega
  have hnm : ¬ w.heap.size = m := by omega
  have hbox := Both.alloc hC hM (.cells #[.int .i64 4, .int .i64 to, .int .i64 i, .string t, .int .i64 x, .int .u8 b] 31)
  have hxb := blk_new w (.cells #[.int .i64 4, .int .i64 to, .int .i64 i, .string t, .int .i64 x, .int .u8 b] 31)
  have HB := hid hbox
  clear hbox
  have hS := hid (fun W (h : IsCable W B most s) => cable_Drop h ⟨hlo.1, by omega⟩ to i)
  have hR := hid (fun W (h : IsRefC W m most s) => refC_Take h to i (Nat.le_trans (hC.ring to).le.1 (by omega)))
  unfold strV at hR
  have hlo1 := takeC_lost s to i
  have hdr : dropC s to i = if (copyC s to i).isSome then { takeC s to i with lost := s.lost + 1 } else s := rfl
  have htn : copyC s to i = none → takeC s to i = s := takeC_none
  generalize takeC s to i = s1 at *
  generalize dropC s to i = s2 at *
  cases hcp : copyC s to i with
  | none =>
    rw [hcp] at hS hR hdr htn
    have e1 := htn rfl
    have e2 : s2 = s := hdr
    subst e2 e1
    clear htn hdr hcp
    simp only [Option.isSome_none] at hS hR
    go_enter Try.func17, Try.ntmps17
    go_wp2_with fail
    refine (hR.out _ HB.out.r).mono ?_
    rintro e w2 ⟨rfl, hr2, hk2⟩
    have hx2 := hk2.heap hxb hnm
    have y1 : w2.cell? ⟨w.heap.size, 1, none⟩ = some (.int .i64 to) := blk_cell hx2 rfl
    have y2 : w2.cell? ⟨w.heap.size, 2, none⟩ = some (.int .i64 i) := blk_cell hx2 rfl
    have hc2 := Both.ofR HB.out.c hlt hk2
    have hkk2 := HB.out.k.trans (hk2.mono (T := ofBoth B m) fun _ _ h => .inr h)
    clear hxb
    go_wp2_with fail
    refine (hS.out _ hc2).mono ?_
    rintro e w3 ⟨rfl, hc3, hk3⟩
    go_wp2_with fail
    go_ret
    obtain ⟨q1, q2⟩ := behind_c hr2 hkk2 hlt hk3
    exact ⟨rfl, hc3, q1, q2⟩
  | some v =>
    rw [hcp] at hS hR hdr
    have e2 : s2 = { s1 with lost := s.lost + 1 } := hdr
    clear htn hdr hcp
    simp only [Option.isSome_some] at hS hR
    have E2 := hid e2
    clear e2
    go_enter Try.func17, Try.ntmps17
    go_wp2_with fail
    refine (hR.out _ HB.out.r).mono ?_
    rintro e w2 ⟨rfl, hr2, hk2⟩
    have hx2 := hk2.heap hxb hnm
    have y1 : w2.cell? ⟨w.heap.size, 1, none⟩ = some (.int .i64 to) := blk_cell hx2 rfl
    have y2 : w2.cell? ⟨w.heap.size, 2, none⟩ = some (.int .i64 i) := blk_cell hx2 rfl
    have hc2 := Both.ofR HB.out.c hlt hk2
    have hkk2 := HB.out.k.trans (hk2.mono (T := ofBoth B m) fun _ _ h => .inr h)
    clear hxb
    have c3 : w2.cell? ⟨m, 2 + 1, none⟩ = some (.int .i64 s.lost) := by
      obtain ⟨_, _, _, _, h1⟩ := hr2
      rw [← hlo1]
      exact blk_cell h1.head rfl
    have f3 : w2.frozen? ⟨m, 3, none⟩ = false := by
      obtain ⟨_, _, _, _, h1⟩ := hr2
      exact blk_free h1.head 3
    have hs3 := hr2.setLost (s.lost + 1)
    rw [← E2.out] at hs3
    have hkm := (Keeps.refl (fun b => b = m) w2).setCell (p := ⟨m, 3, none⟩) rfl (.int .i64 (s.lost + 1))
    have hc3 := Both.ofR hc2 hlt hkm
    have hkk3 := hkk2.trans (hkm.mono (T := ofBoth B m) fun _ _ h => .inr h)
    have z1 := hkm.cell y1 hnm
    have z2 := hkm.cell y2 hnm
    clear hlo1
    go_wp2_with fail
    refine (hS.out _ hc3).mono ?_
    rintro e w3 ⟨rfl, hc4, hk4⟩
    go_wp2_with fail
    go_ret
    obtain ⟨q1, q2⟩ := behind_c hs3 hkk3 hlt hk4
    exact ⟨rfl, hc4, q1, q2⟩
end
end Go.Proofs.Ytdgbmnefpempaaa
