/- What the reference's fields of a text are. -/
import Derived.Test.YtlneddmfcheaiaaWireN
import Derived.Test.YtlneddmfcheaiaaStage
import Derived.Deep.CutBlock
import Derived.Deep.DeepCutAuto
namespace Go.Proofs.Ytlneddmfcheaiaa
open Go.RowKit
set_option maxRecDepth 10000
def beI (l : List UInt8) : Int := ((beN l : Nat) : Int)
def needF (k : Nat) : Nat := if k = 1 ∨ k = 2 then 4 else if k = 3 then 5 else if k = 4 then 6 else if k = 5 then 2 else if k = 6 then 3 else 0
def fldB (k : Nat) (b : List UInt8) : Option Msg :=
  if k = 1 ∨ k = 2 then some ⟨k, beI (b.take 4), 0, 0, [], 0, 0⟩
  else if k = 3 then (if (rdRun (b.drop 4)).2.2 = 0 then some ⟨k, 0, beI (b.take 2), beI ((b.drop 2).take 2), (rdRun (b.drop 4)).1, 0, 0⟩ else none)
  else if k = 4 then some ⟨k, 0, beI (b.take 2), 0, [], beI ((b.drop 2).take 4), 0⟩
  else if k = 5 then some ⟨k, 0, 0, beI (b.take 2), [], 0, 0⟩
  else if k = 6 then (if (rdNum (b.drop 2)).2.2 = 0 ∧ (rdNum (b.drop 2)).1 ≤ 4000 then some ⟨k, 0, beI (b.take 2), 0, [], 0, unzz (rdNum (b.drop 2)).1⟩ else none)
  else some ⟨k, 0, 0, 0, [], 0, 0⟩
def fldT : List UInt8 → Option Msg
  | c :: d :: b => if c = 80 ∧ 1 ≤ d.toNat ∧ d.toNat ≤ 7 ∧ needF d.toNat ≤ b.length then fldB d.toNat b else none
  | _ => none
def refF (t : List UInt8) : Msg × Bool := match fldT t with | some m => (m, decide (RightP m)) | none => (Msg.zero, false)
def FldPost (w : World) (m : Msg) (b : Bool) (e : Ending) (w' : World) : Prop := ∃ a c, e = .returned (.tuple #[(.agg #[.int .i64 m.kind, .int .u32 m.nonce, .int .u16 m.serial, .int .u16 m.ack, .slice a m.ins.length c, .int .u32 m.sum, .int .i64 m.lead]), .bool b]) ∧ IsBytes w' a c m.ins ∧ Below w.heap.size w w'
structure FldSt (w0 : World) (m : Msg) (w : World) : Prop where
  ex : ∃ a c, IsBytes w a c m.ins ∧ w.heap[w0.heap.size + 1]? = some (.cells #[.int .i64 m.kind, .int .u32 m.nonce, .int .u16 m.serial, .int .u16 m.ack, .slice a m.ins.length c, .int .u32 m.sum, .int .i64 m.lead] 26) ∧ (m.ins ≠ [] → ∀ x, a = some x → ¬ x.block = w0.heap.size)
  res : w.heap[w0.heap.size]? = some (.cells zeroC 26 (0, 0))
  below : Below w0.heap.size w0 w
variable {w : World}
theorem fld_st (w : World) (k n s a u l : Int) (x : Obj) : FldSt w ⟨k, n, s, a, [], u, l⟩ (((w.alloc (.cells zeroC 26)).alloc (.cells #[.int .i64 k, .int .u32 n, .int .u16 s, .int .u16 a, .slice none 0 0, .int .u32 u, .int .i64 l] 26)).alloc x) :=
  ⟨⟨none, 0, IsBytes.none _, blk_alloc (by have := blk_new (w.alloc (.cells zeroC 26)) (.cells #[.int .i64 k, .int .u32 n, .int .u16 s, .int .u16 a, .slice none 0 0, .int .u32 u, .int .i64 l] 26); rwa [World.size_alloc] at this) _, fun h => absurd rfl h⟩, blk_alloc (blk_alloc (blk_new w (.cells zeroC 26)) _) _, (((Below.refl _ w).alloc (Nat.le_refl _) _).alloc (by simp) _).alloc (by simp; omega) _⟩
set_option maxHeartbeats 4000000 in
theorem fld_1 (s : ByteArray) (hs : s.size ≤ 100000) (h2 : 2 + 4 ≤ s.size) (h0 : (s[0]'(by omega)).toNat = 80) (h1 : (s[1]'(by omega)).toNat = 1) (n : Int) (hn : bN ((s.extract 2 s.size).extract 0 4) = n) (bn : 0 ≤ n ∧ n < 4294967296) (r : Msg × Bool) (hr : r = ((⟨1, n, 0, 0, [], 0, 0⟩ : Msg), decide (RightP (⟨1, n, 0, 0, [], 0, 0⟩ : Msg)))) :
    Calls Try.prog 59 #[.string s] w (FldPost w r.1 r.2) := by
  obtain ⟨m, hm⟩ : ∃ m : Msg, (⟨1, n, 0, 0, [], 0, 0⟩ : Msg) = m := ⟨_, rfl⟩
  rw [hm] at hr
  have Hm := hid hm
  have Hr := hid hr
  clear hm hr
  go_enter Try.func59, Try.ntmps59
  go_upto_block 0 with fail
  go_cut [] (fun wx => FldSt w m wx)
  case first =>
    have Hn := hid hn
    clear hn
    go_wp2_with fail
    refine (ref_Num7 _ (by simp; omega) _).mono ?_
    rintro e w' ⟨rfl, rfl⟩
    rw [Hn.out]
    go_wp2_with fail
    go_meet
    case rel =>
      obtain rfl := Hm.out
      exact fld_st w _ _ _ _ _ _ _

  case rest =>
    obtain ⟨⟨a, c, hb, hmsg, hne⟩, hres, hbl⟩ := hcut
    clear h0 h1 h2
    unfold zeroC at hres
    go_wp2_with fail
    refine stages_start (by kernel_rfl) 5 rfl ?_
    have k0 := keptS_cell (S := fun _ => False) (w := wc.drew) (blk_cell hmsg (k := 0) rfl) id
    have k1 := keptS_cell (S := fun _ => False) (w := wc.drew) (blk_cell hmsg (k := 1) rfl) id
    have k2 := keptS_cell (S := fun _ => False) (w := wc.drew) (blk_cell hmsg (k := 2) rfl) id
    have k3 := keptS_cell (S := fun _ => False) (w := wc.drew) (blk_cell hmsg (k := 3) rfl) id
    have k4 := keptS_cell (S := fun _ => False) (w := wc.drew) (blk_cell hmsg (k := 4) rfl) id
    have k5 := keptS_cell (S := fun _ => False) (w := wc.drew) (blk_cell hmsg (k := 5) rfl) id
    have k6 := keptS_cell (S := fun _ => False) (w := wc.drew) (blk_cell hmsg (k := 6) rfl) id
    refine stagek (fun _ => False) [0, 1] [2] 2 rfl #[true, true, true, false, false] (by kernel_rfl) (by kernel_rfl) (fun _ _ _ d _ h => by cases d <;> exact h) ?_
    simp only [opsAt, List.map_cons, List.map_nil, List.getElem?_toArray, List.getElem?_cons_zero, List.getElem?_cons_succ, Option.getD_some]
    repeat (go_big_quiet_step (fail))
    refine wpQuiet_nil ?_
    refine links_cons (by first | rfl | simp [go_sem]) (fun K hK => ?_)
    go_simp
    refine (ref_RightM m (hb.keeps (S := fun _ => False) (Keeps.refl _ wc).drew (fun _ _ _ => id))).mono ?_
    rintro e w9 ⟨rfl, hb9⟩
    have hk9 : Keeps (fun _ => False) wc w9 := (Keeps.refl _ wc).drew.trans (Keeps.of_below hb9 (fun k h1 h2 => by omega))
    refine hK _ _ (keptS (Keeps.of_below hb9 (fun k h1 h2 => by omega))) ?_
    clear hK K
    try refine links_nil ?_
    have hres9 := hk9.heap hres id
    have hby9 := hb.keeps hk9 (fun _ _ _ => id)
    have hW9 := hbl.trans (hk9.below hbl.size (fun k h1 h2 => by omega))
    clear hb9 k0 k1 k2 k3 k4 k5 k6 hmsg hres hb hbl
    have f0 := blk_free hres9 0
    have f1 := blk_free hres9 1
    have f2 := blk_free hres9 2
    have f3 := blk_free hres9 3
    have f4 := blk_free hres9 4
    have f5 := blk_free hres9 5
    have f6 := blk_free hres9 6
    have e0 := blk_cell hres9 (k := 0) rfl
    have e1 := blk_cell hres9 (k := 1) rfl
    have e2 := blk_cell hres9 (k := 2) rfl
    have e3 := blk_cell hres9 (k := 3) rfl
    have e4 := blk_cell hres9 (k := 4) rfl
    have e5 := blk_cell hres9 (k := 5) rfl
    have e6 := blk_cell hres9 (k := 6) rfl
    have hf := blk_store hres9 (.int .i64 m.kind) (.int .u32 m.nonce) (.int .u16 m.serial) (.int .u16 m.ack) (.slice a m.ins.length c) (.int .u32 m.sum) (.int .i64 m.lead)
    have hS := (((((((Keeps.refl (fun b => b = w.heap.size) w9).setCell (p := ⟨w.heap.size, 0, none⟩) rfl (.int .i64 m.kind)).setCell (p := ⟨w.heap.size, 1, none⟩) rfl (.int .u32 m.nonce)).setCell (p := ⟨w.heap.size, 2, none⟩) rfl (.int .u16 m.serial)).setCell (p := ⟨w.heap.size, 3, none⟩) rfl (.int .u16 m.ack)).setCell (p := ⟨w.heap.size, 4, none⟩) rfl (.slice a m.ins.length c)).setCell (p := ⟨w.heap.size, 5, none⟩) rfl (.int .u32 m.sum)).setCell (p := ⟨w.heap.size, 6, none⟩) rfl (.int .i64 m.lead)
    refine stagek (fun _ => True) [] [3, 4] 0 rfl #[true, true, true, true, true] (by kernel_rfl) (by kernel_rfl) (fun _ _ _ d _ h => by cases d <;> exact h) ?_
    simp only [opsAt, List.map_cons, List.map_nil, List.getElem?_toArray, List.getElem?_cons_zero, List.getElem?_cons_succ, Option.getD_some]
    repeat (go_big_quiet_step (fail))
    refine wpQuiet_nil ?_
    refine links_cons (by first | rfl | simp [go_sem]) (fun K hK => ?_)
    go_simp
    refine hK _ _ (keptS (hS.mono (fun _ _ _ => trivial))) ?_
    clear hK K
    try refine links_nil ?_
    generalize World.setCell _ ⟨w.heap.size, 6, none⟩ _ = wz at hf hS ⊢
    refine links_cons (by first | rfl | simp [go_sem]) (fun K hK => ?_)
    go_simp
    refine hK _ _ (keptS (hS.mono (fun _ _ _ => trivial))) ?_
    clear hK K
    try refine links_nil ?_
    refine stages_end (by kernel_rfl) ?_
    go_wp2_with fail
    have y0 := blk_cell hf (k := 0) rfl
    have y1 := blk_cell hf (k := 1) rfl
    have y2 := blk_cell hf (k := 2) rfl
    have y3 := blk_cell hf (k := 3) rfl
    have y4 := blk_cell hf (k := 4) rfl
    have y5 := blk_cell hf (k := 5) rfl
    have y6 := blk_cell hf (k := 6) rfl
    refine bodyPost_ret (v := .tuple #[(.agg #[.int .i64 m.kind, .int .u32 m.nonce, .int .u16 m.serial, .int .u16 m.ack, .slice a m.ins.length c, .int .u32 m.sum, .int .i64 m.lead]), .bool (decide (RightP m))]) (by simp [results, Try.results59, go_sem, y0, y1, y2, y3, y4, y5, y6]) rfl ?_
    rw [Hr.out]
    exact ⟨a, c, rfl, hby9.keeps hS hne, hW9.trans (hS.below hW9.size (fun k h1 h2 => by omega))⟩
set_option maxHeartbeats 4000000 in
theorem fld_2 (s : ByteArray) (hs : s.size ≤ 100000) (h2 : 2 + 4 ≤ s.size) (h0 : (s[0]'(by omega)).toNat = 80) (h1 : (s[1]'(by omega)).toNat = 2) (n : Int) (hn : bN ((s.extract 2 s.size).extract 0 4) = n) (bn : 0 ≤ n ∧ n < 4294967296) (r : Msg × Bool) (hr : r = ((⟨2, n, 0, 0, [], 0, 0⟩ : Msg), decide (RightP (⟨2, n, 0, 0, [], 0, 0⟩ : Msg)))) :
    Calls Try.prog 59 #[.string s] w (FldPost w r.1 r.2) := by
  obtain ⟨m, hm⟩ : ∃ m : Msg, (⟨2, n, 0, 0, [], 0, 0⟩ : Msg) = m := ⟨_, rfl⟩
  rw [hm] at hr
  have Hm := hid hm
  have Hr := hid hr
  clear hm hr
  go_enter Try.func59, Try.ntmps59
  go_upto_block 0 with fail
  go_cut [] (fun wx => FldSt w m wx)
  case first =>
    have Hn := hid hn
    clear hn
    go_wp2_with fail
    refine (ref_Num7 _ (by simp; omega) _).mono ?_
    rintro e w' ⟨rfl, rfl⟩
    rw [Hn.out]
    go_wp2_with fail
    go_meet
    case rel =>
      obtain rfl := Hm.out
      exact fld_st w _ _ _ _ _ _ _

  case rest =>
    obtain ⟨⟨a, c, hb, hmsg, hne⟩, hres, hbl⟩ := hcut
    clear h0 h1 h2
    unfold zeroC at hres
    go_wp2_with fail
    refine stages_start (by kernel_rfl) 5 rfl ?_
    have k0 := keptS_cell (S := fun _ => False) (w := wc.drew) (blk_cell hmsg (k := 0) rfl) id
    have k1 := keptS_cell (S := fun _ => False) (w := wc.drew) (blk_cell hmsg (k := 1) rfl) id
    have k2 := keptS_cell (S := fun _ => False) (w := wc.drew) (blk_cell hmsg (k := 2) rfl) id
    have k3 := keptS_cell (S := fun _ => False) (w := wc.drew) (blk_cell hmsg (k := 3) rfl) id
    have k4 := keptS_cell (S := fun _ => False) (w := wc.drew) (blk_cell hmsg (k := 4) rfl) id
    have k5 := keptS_cell (S := fun _ => False) (w := wc.drew) (blk_cell hmsg (k := 5) rfl) id
    have k6 := keptS_cell (S := fun _ => False) (w := wc.drew) (blk_cell hmsg (k := 6) rfl) id
    refine stagek (fun _ => False) [0, 1] [2] 2 rfl #[true, true, true, false, false] (by kernel_rfl) (by kernel_rfl) (fun _ _ _ d _ h => by cases d <;> exact h) ?_
    simp only [opsAt, List.map_cons, List.map_nil, List.getElem?_toArray, List.getElem?_cons_zero, List.getElem?_cons_succ, Option.getD_some]
    repeat (go_big_quiet_step (fail))
    refine wpQuiet_nil ?_
    refine links_cons (by first | rfl | simp [go_sem]) (fun K hK => ?_)
    go_simp
    refine (ref_RightM m (hb.keeps (S := fun _ => False) (Keeps.refl _ wc).drew (fun _ _ _ => id))).mono ?_
    rintro e w9 ⟨rfl, hb9⟩
    have hk9 : Keeps (fun _ => False) wc w9 := (Keeps.refl _ wc).drew.trans (Keeps.of_below hb9 (fun k h1 h2 => by omega))
    refine hK _ _ (keptS (Keeps.of_below hb9 (fun k h1 h2 => by omega))) ?_
    clear hK K
    try refine links_nil ?_
    have hres9 := hk9.heap hres id
    have hby9 := hb.keeps hk9 (fun _ _ _ => id)
    have hW9 := hbl.trans (hk9.below hbl.size (fun k h1 h2 => by omega))
    clear hb9 k0 k1 k2 k3 k4 k5 k6 hmsg hres hb hbl
    have f0 := blk_free hres9 0
    have f1 := blk_free hres9 1
    have f2 := blk_free hres9 2
    have f3 := blk_free hres9 3
    have f4 := blk_free hres9 4
    have f5 := blk_free hres9 5
    have f6 := blk_free hres9 6
    have e0 := blk_cell hres9 (k := 0) rfl
    have e1 := blk_cell hres9 (k := 1) rfl
    have e2 := blk_cell hres9 (k := 2) rfl
    have e3 := blk_cell hres9 (k := 3) rfl
    have e4 := blk_cell hres9 (k := 4) rfl
    have e5 := blk_cell hres9 (k := 5) rfl
    have e6 := blk_cell hres9 (k := 6) rfl
    have hf := blk_store hres9 (.int .i64 m.kind) (.int .u32 m.nonce) (.int .u16 m.serial) (.int .u16 m.ack) (.slice a m.ins.length c) (.int .u32 m.sum) (.int .i64 m.lead)
    have hS := (((((((Keeps.refl (fun b => b = w.heap.size) w9).setCell (p := ⟨w.heap.size, 0, none⟩) rfl (.int .i64 m.kind)).setCell (p := ⟨w.heap.size, 1, none⟩) rfl (.int .u32 m.nonce)).setCell (p := ⟨w.heap.size, 2, none⟩) rfl (.int .u16 m.serial)).setCell (p := ⟨w.heap.size, 3, none⟩) rfl (.int .u16 m.ack)).setCell (p := ⟨w.heap.size, 4, none⟩) rfl (.slice a m.ins.length c)).setCell (p := ⟨w.heap.size, 5, none⟩) rfl (.int .u32 m.sum)).setCell (p := ⟨w.heap.size, 6, none⟩) rfl (.int .i64 m.lead)
    refine stagek (fun _ => True) [] [3, 4] 0 rfl #[true, true, true, true, true] (by kernel_rfl) (by kernel_rfl) (fun _ _ _ d _ h => by cases d <;> exact h) ?_
    simp only [opsAt, List.map_cons, List.map_nil, List.getElem?_toArray, List.getElem?_cons_zero, List.getElem?_cons_succ, Option.getD_some]
    repeat (go_big_quiet_step (fail))
    refine wpQuiet_nil ?_
    refine links_cons (by first | rfl | simp [go_sem]) (fun K hK => ?_)
    go_simp
    refine hK _ _ (keptS (hS.mono (fun _ _ _ => trivial))) ?_
    clear hK K
    try refine links_nil ?_
    generalize World.setCell _ ⟨w.heap.size, 6, none⟩ _ = wz at hf hS ⊢
    refine links_cons (by first | rfl | simp [go_sem]) (fun K hK => ?_)
    go_simp
    refine hK _ _ (keptS (hS.mono (fun _ _ _ => trivial))) ?_
    clear hK K
    try refine links_nil ?_
    refine stages_end (by kernel_rfl) ?_
    go_wp2_with fail
    have y0 := blk_cell hf (k := 0) rfl
    have y1 := blk_cell hf (k := 1) rfl
    have y2 := blk_cell hf (k := 2) rfl
    have y3 := blk_cell hf (k := 3) rfl
    have y4 := blk_cell hf (k := 4) rfl
    have y5 := blk_cell hf (k := 5) rfl
    have y6 := blk_cell hf (k := 6) rfl
    refine bodyPost_ret (v := .tuple #[(.agg #[.int .i64 m.kind, .int .u32 m.nonce, .int .u16 m.serial, .int .u16 m.ack, .slice a m.ins.length c, .int .u32 m.sum, .int .i64 m.lead]), .bool (decide (RightP m))]) (by simp [results, Try.results59, go_sem, y0, y1, y2, y3, y4, y5, y6]) rfl ?_
    rw [Hr.out]
    exact ⟨a, c, rfl, hby9.keeps hS hne, hW9.trans (hS.below hW9.size (fun k h1 h2 => by omega))⟩
set_option maxHeartbeats 4000000 in
theorem fld_4 (s : ByteArray) (hs : s.size ≤ 100000) (h2 : 2 + 6 ≤ s.size) (h0 : (s[0]'(by omega)).toNat = 80) (h1 : (s[1]'(by omega)).toNat = 4) (n : Int) (hn : bN ((s.extract 2 s.size).extract 0 2) = n) (bn : 0 ≤ n ∧ n < 65536) (p : Int) (hp : bN ((s.extract 2 s.size).extract 2 6) = p) (bp : 0 ≤ p ∧ p < 4294967296) (r : Msg × Bool) (hr : r = ((⟨4, 0, n, 0, [], p, 0⟩ : Msg), decide (RightP (⟨4, 0, n, 0, [], p, 0⟩ : Msg)))) :
    Calls Try.prog 59 #[.string s] w (FldPost w r.1 r.2) := by
  obtain ⟨m, hm⟩ : ∃ m : Msg, (⟨4, 0, n, 0, [], p, 0⟩ : Msg) = m := ⟨_, rfl⟩
  rw [hm] at hr
  have Hm := hid hm
  have Hr := hid hr
  clear hm hr
  go_enter Try.func59, Try.ntmps59
  go_upto_block 0 with fail
  go_cut [] (fun wx => FldSt w m wx)
  case first =>
    have Hn := hid hn
    clear hn
    have Hp := hid hp
    clear hp
    go_wp2_with fail
    refine (ref_Num7 _ (by simp; omega) _).mono ?_
    rintro e w' ⟨rfl, rfl⟩
    rw [Hn.out]
    go_wp2_with fail
    refine (ref_Num7 _ (by simp; omega) _).mono ?_
    rintro e w' ⟨rfl, rfl⟩
    rw [Hp.out]
    go_wp2_with fail
    go_meet
    case rel =>
      obtain rfl := Hm.out
      exact fld_st w _ _ _ _ _ _ _

  case rest =>
    obtain ⟨⟨a, c, hb, hmsg, hne⟩, hres, hbl⟩ := hcut
    clear h0 h1 h2
    unfold zeroC at hres
    go_wp2_with fail
    refine stages_start (by kernel_rfl) 5 rfl ?_
    have k0 := keptS_cell (S := fun _ => False) (w := wc.drew) (blk_cell hmsg (k := 0) rfl) id
    have k1 := keptS_cell (S := fun _ => False) (w := wc.drew) (blk_cell hmsg (k := 1) rfl) id
    have k2 := keptS_cell (S := fun _ => False) (w := wc.drew) (blk_cell hmsg (k := 2) rfl) id
    have k3 := keptS_cell (S := fun _ => False) (w := wc.drew) (blk_cell hmsg (k := 3) rfl) id
    have k4 := keptS_cell (S := fun _ => False) (w := wc.drew) (blk_cell hmsg (k := 4) rfl) id
    have k5 := keptS_cell (S := fun _ => False) (w := wc.drew) (blk_cell hmsg (k := 5) rfl) id
    have k6 := keptS_cell (S := fun _ => False) (w := wc.drew) (blk_cell hmsg (k := 6) rfl) id
    refine stagek (fun _ => False) [0, 1] [2] 2 rfl #[true, true, true, false, false] (by kernel_rfl) (by kernel_rfl) (fun _ _ _ d _ h => by cases d <;> exact h) ?_
    simp only [opsAt, List.map_cons, List.map_nil, List.getElem?_toArray, List.getElem?_cons_zero, List.getElem?_cons_succ, Option.getD_some]
    repeat (go_big_quiet_step (fail))
    refine wpQuiet_nil ?_
    refine links_cons (by first | rfl | simp [go_sem]) (fun K hK => ?_)
    go_simp
    refine (ref_RightM m (hb.keeps (S := fun _ => False) (Keeps.refl _ wc).drew (fun _ _ _ => id))).mono ?_
    rintro e w9 ⟨rfl, hb9⟩
    have hk9 : Keeps (fun _ => False) wc w9 := (Keeps.refl _ wc).drew.trans (Keeps.of_below hb9 (fun k h1 h2 => by omega))
    refine hK _ _ (keptS (Keeps.of_below hb9 (fun k h1 h2 => by omega))) ?_
    clear hK K
    try refine links_nil ?_
    have hres9 := hk9.heap hres id
    have hby9 := hb.keeps hk9 (fun _ _ _ => id)
    have hW9 := hbl.trans (hk9.below hbl.size (fun k h1 h2 => by omega))
    clear hb9 k0 k1 k2 k3 k4 k5 k6 hmsg hres hb hbl
    have f0 := blk_free hres9 0
    have f1 := blk_free hres9 1
    have f2 := blk_free hres9 2
    have f3 := blk_free hres9 3
    have f4 := blk_free hres9 4
    have f5 := blk_free hres9 5
    have f6 := blk_free hres9 6
    have e0 := blk_cell hres9 (k := 0) rfl
    have e1 := blk_cell hres9 (k := 1) rfl
    have e2 := blk_cell hres9 (k := 2) rfl
    have e3 := blk_cell hres9 (k := 3) rfl
    have e4 := blk_cell hres9 (k := 4) rfl
    have e5 := blk_cell hres9 (k := 5) rfl
    have e6 := blk_cell hres9 (k := 6) rfl
    have hf := blk_store hres9 (.int .i64 m.kind) (.int .u32 m.nonce) (.int .u16 m.serial) (.int .u16 m.ack) (.slice a m.ins.length c) (.int .u32 m.sum) (.int .i64 m.lead)
    have hS := (((((((Keeps.refl (fun b => b = w.heap.size) w9).setCell (p := ⟨w.heap.size, 0, none⟩) rfl (.int .i64 m.kind)).setCell (p := ⟨w.heap.size, 1, none⟩) rfl (.int .u32 m.nonce)).setCell (p := ⟨w.heap.size, 2, none⟩) rfl (.int .u16 m.serial)).setCell (p := ⟨w.heap.size, 3, none⟩) rfl (.int .u16 m.ack)).setCell (p := ⟨w.heap.size, 4, none⟩) rfl (.slice a m.ins.length c)).setCell (p := ⟨w.heap.size, 5, none⟩) rfl (.int .u32 m.sum)).setCell (p := ⟨w.heap.size, 6, none⟩) rfl (.int .i64 m.lead)
    refine stagek (fun _ => True) [] [3, 4] 0 rfl #[true, true, true, true, true] (by kernel_rfl) (by kernel_rfl) (fun _ _ _ d _ h => by cases d <;> exact h) ?_
    simp only [opsAt, List.map_cons, List.map_nil, List.getElem?_toArray, List.getElem?_cons_zero, List.getElem?_cons_succ, Option.getD_some]
    repeat (go_big_quiet_step (fail))
    refine wpQuiet_nil ?_
    refine links_cons (by first | rfl | simp [go_sem]) (fun K hK => ?_)
    go_simp
    refine hK _ _ (keptS (hS.mono (fun _ _ _ => trivial))) ?_
    clear hK K
    try refine links_nil ?_
    generalize World.setCell _ ⟨w.heap.size, 6, none⟩ _ = wz at hf hS ⊢
    refine links_cons (by first | rfl | simp [go_sem]) (fun K hK => ?_)
    go_simp
    refine hK _ _ (keptS (hS.mono (fun _ _ _ => trivial))) ?_
    clear hK K
    try refine links_nil ?_
    refine stages_end (by kernel_rfl) ?_
    go_wp2_with fail
    have y0 := blk_cell hf (k := 0) rfl
    have y1 := blk_cell hf (k := 1) rfl
    have y2 := blk_cell hf (k := 2) rfl
    have y3 := blk_cell hf (k := 3) rfl
    have y4 := blk_cell hf (k := 4) rfl
    have y5 := blk_cell hf (k := 5) rfl
    have y6 := blk_cell hf (k := 6) rfl
    refine bodyPost_ret (v := .tuple #[(.agg #[.int .i64 m.kind, .int .u32 m.nonce, .int .u16 m.serial, .int .u16 m.ack, .slice a m.ins.length c, .int .u32 m.sum, .int .i64 m.lead]), .bool (decide (RightP m))]) (by simp [results, Try.results59, go_sem, y0, y1, y2, y3, y4, y5, y6]) rfl ?_
    rw [Hr.out]
    exact ⟨a, c, rfl, hby9.keeps hS hne, hW9.trans (hS.below hW9.size (fun k h1 h2 => by omega))⟩
set_option maxHeartbeats 4000000 in
theorem fld_5 (s : ByteArray) (hs : s.size ≤ 100000) (h2 : 2 + 2 ≤ s.size) (h0 : (s[0]'(by omega)).toNat = 80) (h1 : (s[1]'(by omega)).toNat = 5) (n : Int) (hn : bN ((s.extract 2 s.size).extract 0 2) = n) (bn : 0 ≤ n ∧ n < 65536) (r : Msg × Bool) (hr : r = ((⟨5, 0, 0, n, [], 0, 0⟩ : Msg), decide (RightP (⟨5, 0, 0, n, [], 0, 0⟩ : Msg)))) :
    Calls Try.prog 59 #[.string s] w (FldPost w r.1 r.2) := by
  obtain ⟨m, hm⟩ : ∃ m : Msg, (⟨5, 0, 0, n, [], 0, 0⟩ : Msg) = m := ⟨_, rfl⟩
  rw [hm] at hr
  have Hm := hid hm
  have Hr := hid hr
  clear hm hr
  go_enter Try.func59, Try.ntmps59
  go_upto_block 0 with fail
  go_cut [] (fun wx => FldSt w m wx)
  case first =>
    have Hn := hid hn
    clear hn
    go_wp2_with fail
    refine (ref_Num7 _ (by simp; omega) _).mono ?_
    rintro e w' ⟨rfl, rfl⟩
    rw [Hn.out]
    go_wp2_with fail
    go_meet
    case rel =>
      obtain rfl := Hm.out
      exact fld_st w _ _ _ _ _ _ _

  case rest =>
    obtain ⟨⟨a, c, hb, hmsg, hne⟩, hres, hbl⟩ := hcut
    clear h0 h1 h2
    unfold zeroC at hres
    go_wp2_with fail
    refine stages_start (by kernel_rfl) 5 rfl ?_
    have k0 := keptS_cell (S := fun _ => False) (w := wc.drew) (blk_cell hmsg (k := 0) rfl) id
    have k1 := keptS_cell (S := fun _ => False) (w := wc.drew) (blk_cell hmsg (k := 1) rfl) id
    have k2 := keptS_cell (S := fun _ => False) (w := wc.drew) (blk_cell hmsg (k := 2) rfl) id
    have k3 := keptS_cell (S := fun _ => False) (w := wc.drew) (blk_cell hmsg (k := 3) rfl) id
    have k4 := keptS_cell (S := fun _ => False) (w := wc.drew) (blk_cell hmsg (k := 4) rfl) id
    have k5 := keptS_cell (S := fun _ => False) (w := wc.drew) (blk_cell hmsg (k := 5) rfl) id
    have k6 := keptS_cell (S := fun _ => False) (w := wc.drew) (blk_cell hmsg (k := 6) rfl) id
    refine stagek (fun _ => False) [0, 1] [2] 2 rfl #[true, true, true, false, false] (by kernel_rfl) (by kernel_rfl) (fun _ _ _ d _ h => by cases d <;> exact h) ?_
    simp only [opsAt, List.map_cons, List.map_nil, List.getElem?_toArray, List.getElem?_cons_zero, List.getElem?_cons_succ, Option.getD_some]
    repeat (go_big_quiet_step (fail))
    refine wpQuiet_nil ?_
    refine links_cons (by first | rfl | simp [go_sem]) (fun K hK => ?_)
    go_simp
    refine (ref_RightM m (hb.keeps (S := fun _ => False) (Keeps.refl _ wc).drew (fun _ _ _ => id))).mono ?_
    rintro e w9 ⟨rfl, hb9⟩
    have hk9 : Keeps (fun _ => False) wc w9 := (Keeps.refl _ wc).drew.trans (Keeps.of_below hb9 (fun k h1 h2 => by omega))
    refine hK _ _ (keptS (Keeps.of_below hb9 (fun k h1 h2 => by omega))) ?_
    clear hK K
    try refine links_nil ?_
    have hres9 := hk9.heap hres id
    have hby9 := hb.keeps hk9 (fun _ _ _ => id)
    have hW9 := hbl.trans (hk9.below hbl.size (fun k h1 h2 => by omega))
    clear hb9 k0 k1 k2 k3 k4 k5 k6 hmsg hres hb hbl
    have f0 := blk_free hres9 0
    have f1 := blk_free hres9 1
    have f2 := blk_free hres9 2
    have f3 := blk_free hres9 3
    have f4 := blk_free hres9 4
    have f5 := blk_free hres9 5
    have f6 := blk_free hres9 6
    have e0 := blk_cell hres9 (k := 0) rfl
    have e1 := blk_cell hres9 (k := 1) rfl
    have e2 := blk_cell hres9 (k := 2) rfl
    have e3 := blk_cell hres9 (k := 3) rfl
    have e4 := blk_cell hres9 (k := 4) rfl
    have e5 := blk_cell hres9 (k := 5) rfl
    have e6 := blk_cell hres9 (k := 6) rfl
    have hf := blk_store hres9 (.int .i64 m.kind) (.int .u32 m.nonce) (.int .u16 m.serial) (.int .u16 m.ack) (.slice a m.ins.length c) (.int .u32 m.sum) (.int .i64 m.lead)
    have hS := (((((((Keeps.refl (fun b => b = w.heap.size) w9).setCell (p := ⟨w.heap.size, 0, none⟩) rfl (.int .i64 m.kind)).setCell (p := ⟨w.heap.size, 1, none⟩) rfl (.int .u32 m.nonce)).setCell (p := ⟨w.heap.size, 2, none⟩) rfl (.int .u16 m.serial)).setCell (p := ⟨w.heap.size, 3, none⟩) rfl (.int .u16 m.ack)).setCell (p := ⟨w.heap.size, 4, none⟩) rfl (.slice a m.ins.length c)).setCell (p := ⟨w.heap.size, 5, none⟩) rfl (.int .u32 m.sum)).setCell (p := ⟨w.heap.size, 6, none⟩) rfl (.int .i64 m.lead)
    refine stagek (fun _ => True) [] [3, 4] 0 rfl #[true, true, true, true, true] (by kernel_rfl) (by kernel_rfl) (fun _ _ _ d _ h => by cases d <;> exact h) ?_
    simp only [opsAt, List.map_cons, List.map_nil, List.getElem?_toArray, List.getElem?_cons_zero, List.getElem?_cons_succ, Option.getD_some]
    repeat (go_big_quiet_step (fail))
    refine wpQuiet_nil ?_
    refine links_cons (by first | rfl | simp [go_sem]) (fun K hK => ?_)
    go_simp
    refine hK _ _ (keptS (hS.mono (fun _ _ _ => trivial))) ?_
    clear hK K
    try refine links_nil ?_
    generalize World.setCell _ ⟨w.heap.size, 6, none⟩ _ = wz at hf hS ⊢
    refine links_cons (by first | rfl | simp [go_sem]) (fun K hK => ?_)
    go_simp
    refine hK _ _ (keptS (hS.mono (fun _ _ _ => trivial))) ?_
    clear hK K
    try refine links_nil ?_
    refine stages_end (by kernel_rfl) ?_
    go_wp2_with fail
    have y0 := blk_cell hf (k := 0) rfl
    have y1 := blk_cell hf (k := 1) rfl
    have y2 := blk_cell hf (k := 2) rfl
    have y3 := blk_cell hf (k := 3) rfl
    have y4 := blk_cell hf (k := 4) rfl
    have y5 := blk_cell hf (k := 5) rfl
    have y6 := blk_cell hf (k := 6) rfl
    refine bodyPost_ret (v := .tuple #[(.agg #[.int .i64 m.kind, .int .u32 m.nonce, .int .u16 m.serial, .int .u16 m.ack, .slice a m.ins.length c, .int .u32 m.sum, .int .i64 m.lead]), .bool (decide (RightP m))]) (by simp [results, Try.results59, go_sem, y0, y1, y2, y3, y4, y5, y6]) rfl ?_
    rw [Hr.out]
    exact ⟨a, c, rfl, hby9.keeps hS hne, hW9.trans (hS.below hW9.size (fun k h1 h2 => by omega))⟩
set_option maxHeartbeats 4000000 in
theorem fld_6e (s : ByteArray) (hs : s.size ≤ 100000) (h2 : 2 + 3 ≤ s.size) (h0 : (s[0]'(by omega)).toNat = 80) (h1 : (s[1]'(by omega)).toNat = 6) (n : Int) (hn : bN ((s.extract 2 s.size).extract 0 2) = n) (bn : 0 ≤ n ∧ n < 65536) (v i : Nat) (hq : rdNum ((s.extract 2 s.size).extract 2 (s.size - 2)).data.toList = (v, i, 0)) (hv : v ≤ 4000) (hpar : v % 2 = 0) (r : Msg × Bool) (hr : r = ((⟨6, 0, n, 0, [], 0, ((v / 2 : Nat) : Int)⟩ : Msg), decide (RightP (⟨6, 0, n, 0, [], 0, ((v / 2 : Nat) : Int)⟩ : Msg)))) :
    Calls Try.prog 59 #[.string s] w (FldPost w r.1 r.2) := by
  obtain ⟨m, hm⟩ : ∃ m : Msg, (⟨6, 0, n, 0, [], 0, ((v / 2 : Nat) : Int)⟩ : Msg) = m := ⟨_, rfl⟩
  rw [hm] at hr
  have Hm := hid hm
  have Hr := hid hr
  clear hm hr
  go_enter Try.func59, Try.ntmps59
  go_upto_block 0 with fail
  go_cut [] (fun wx => FldSt w m wx)
  case first =>
    have Hn := hid hn
    clear hn
    have Hq := hid hq
    clear hq
    go_wp2_with fail
    refine (ref_Num7 _ (by simp; omega) _).mono ?_
    rintro e w' ⟨rfl, rfl⟩
    rw [Hn.out]
    go_wp2_with fail
    refine (ref_ReadNumber _ (by simp [maxLen]; omega) _).mono ?_
    rintro e w' ⟨rfl, rfl⟩
    rw [Hq.out]
    go_wp2_with fail
    go_meet
    case rel =>
      obtain rfl := Hm.out
      trace_state
      exact fld_st w _ _ _ _ _ _ _

  case rest =>
    obtain ⟨⟨a, c, hb, hmsg, hne⟩, hres, hbl⟩ := hcut
    clear h0 h1 h2
    unfold zeroC at hres
    go_wp2_with fail
    refine stages_start (by kernel_rfl) 5 rfl ?_
    have k0 := keptS_cell (S := fun _ => False) (w := wc.drew) (blk_cell hmsg (k := 0) rfl) id
    have k1 := keptS_cell (S := fun _ => False) (w := wc.drew) (blk_cell hmsg (k := 1) rfl) id
    have k2 := keptS_cell (S := fun _ => False) (w := wc.drew) (blk_cell hmsg (k := 2) rfl) id
    have k3 := keptS_cell (S := fun _ => False) (w := wc.drew) (blk_cell hmsg (k := 3) rfl) id
    have k4 := keptS_cell (S := fun _ => False) (w := wc.drew) (blk_cell hmsg (k := 4) rfl) id
    have k5 := keptS_cell (S := fun _ => False) (w := wc.drew) (blk_cell hmsg (k := 5) rfl) id
    have k6 := keptS_cell (S := fun _ => False) (w := wc.drew) (blk_cell hmsg (k := 6) rfl) id
    refine stagek (fun _ => False) [0, 1] [2] 2 rfl #[true, true, true, false, false] (by kernel_rfl) (by kernel_rfl) (fun _ _ _ d _ h => by cases d <;> exact h) ?_
    simp only [opsAt, List.map_cons, List.map_nil, List.getElem?_toArray, List.getElem?_cons_zero, List.getElem?_cons_succ, Option.getD_some]
    repeat (go_big_quiet_step (fail))
    refine wpQuiet_nil ?_
    refine links_cons (by first | rfl | simp [go_sem]) (fun K hK => ?_)
    go_simp
    refine (ref_RightM m (hb.keeps (S := fun _ => False) (Keeps.refl _ wc).drew (fun _ _ _ => id))).mono ?_
    rintro e w9 ⟨rfl, hb9⟩
    have hk9 : Keeps (fun _ => False) wc w9 := (Keeps.refl _ wc).drew.trans (Keeps.of_below hb9 (fun k h1 h2 => by omega))
    refine hK _ _ (keptS (Keeps.of_below hb9 (fun k h1 h2 => by omega))) ?_
    clear hK K
    try refine links_nil ?_
    have hres9 := hk9.heap hres id
    have hby9 := hb.keeps hk9 (fun _ _ _ => id)
    have hW9 := hbl.trans (hk9.below hbl.size (fun k h1 h2 => by omega))
    clear hb9 k0 k1 k2 k3 k4 k5 k6 hmsg hres hb hbl
    have f0 := blk_free hres9 0
    have f1 := blk_free hres9 1
    have f2 := blk_free hres9 2
    have f3 := blk_free hres9 3
    have f4 := blk_free hres9 4
    have f5 := blk_free hres9 5
    have f6 := blk_free hres9 6
    have e0 := blk_cell hres9 (k := 0) rfl
    have e1 := blk_cell hres9 (k := 1) rfl
    have e2 := blk_cell hres9 (k := 2) rfl
    have e3 := blk_cell hres9 (k := 3) rfl
    have e4 := blk_cell hres9 (k := 4) rfl
    have e5 := blk_cell hres9 (k := 5) rfl
    have e6 := blk_cell hres9 (k := 6) rfl
    have hf := blk_store hres9 (.int .i64 m.kind) (.int .u32 m.nonce) (.int .u16 m.serial) (.int .u16 m.ack) (.slice a m.ins.length c) (.int .u32 m.sum) (.int .i64 m.lead)
    have hS := (((((((Keeps.refl (fun b => b = w.heap.size) w9).setCell (p := ⟨w.heap.size, 0, none⟩) rfl (.int .i64 m.kind)).setCell (p := ⟨w.heap.size, 1, none⟩) rfl (.int .u32 m.nonce)).setCell (p := ⟨w.heap.size, 2, none⟩) rfl (.int .u16 m.serial)).setCell (p := ⟨w.heap.size, 3, none⟩) rfl (.int .u16 m.ack)).setCell (p := ⟨w.heap.size, 4, none⟩) rfl (.slice a m.ins.length c)).setCell (p := ⟨w.heap.size, 5, none⟩) rfl (.int .u32 m.sum)).setCell (p := ⟨w.heap.size, 6, none⟩) rfl (.int .i64 m.lead)
    refine stagek (fun _ => True) [] [3, 4] 0 rfl #[true, true, true, true, true] (by kernel_rfl) (by kernel_rfl) (fun _ _ _ d _ h => by cases d <;> exact h) ?_
    simp only [opsAt, List.map_cons, List.map_nil, List.getElem?_toArray, List.getElem?_cons_zero, List.getElem?_cons_succ, Option.getD_some]
    repeat (go_big_quiet_step (fail))
    refine wpQuiet_nil ?_
    refine links_cons (by first | rfl | simp [go_sem]) (fun K hK => ?_)
    go_simp
    refine hK _ _ (keptS (hS.mono (fun _ _ _ => trivial))) ?_
    clear hK K
    try refine links_nil ?_
    generalize World.setCell _ ⟨w.heap.size, 6, none⟩ _ = wz at hf hS ⊢
    refine links_cons (by first | rfl | simp [go_sem]) (fun K hK => ?_)
    go_simp
    refine hK _ _ (keptS (hS.mono (fun _ _ _ => trivial))) ?_
    clear hK K
    try refine links_nil ?_
    refine stages_end (by kernel_rfl) ?_
    go_wp2_with fail
    have y0 := blk_cell hf (k := 0) rfl
    have y1 := blk_cell hf (k := 1) rfl
    have y2 := blk_cell hf (k := 2) rfl
    have y3 := blk_cell hf (k := 3) rfl
    have y4 := blk_cell hf (k := 4) rfl
    have y5 := blk_cell hf (k := 5) rfl
    have y6 := blk_cell hf (k := 6) rfl
    refine bodyPost_ret (v := .tuple #[(.agg #[.int .i64 m.kind, .int .u32 m.nonce, .int .u16 m.serial, .int .u16 m.ack, .slice a m.ins.length c, .int .u32 m.sum, .int .i64 m.lead]), .bool (decide (RightP m))]) (by simp [results, Try.results59, go_sem, y0, y1, y2, y3, y4, y5, y6]) rfl ?_
    rw [Hr.out]
    exact ⟨a, c, rfl, hby9.keeps hS hne, hW9.trans (hS.below hW9.size (fun k h1 h2 => by omega))⟩
set_option maxHeartbeats 4000000 in
theorem fld_6o (s : ByteArray) (hs : s.size ≤ 100000) (h2 : 2 + 3 ≤ s.size) (h0 : (s[0]'(by omega)).toNat = 80) (h1 : (s[1]'(by omega)).toNat = 6) (n : Int) (hn : bN ((s.extract 2 s.size).extract 0 2) = n) (bn : 0 ≤ n ∧ n < 65536) (v i : Nat) (hq : rdNum ((s.extract 2 s.size).extract 2 (s.size - 2)).data.toList = (v, i, 0)) (hv : v ≤ 4000) (hpar : v % 2 = 1) (r : Msg × Bool) (hr : r = ((⟨6, 0, n, 0, [], 0, (-((v / 2 : Nat) : Int) - 1)⟩ : Msg), decide (RightP (⟨6, 0, n, 0, [], 0, (-((v / 2 : Nat) : Int) - 1)⟩ : Msg)))) :
    Calls Try.prog 59 #[.string s] w (FldPost w r.1 r.2) := by
  obtain ⟨m, hm⟩ : ∃ m : Msg, (⟨6, 0, n, 0, [], 0, (-((v / 2 : Nat) : Int) - 1)⟩ : Msg) = m := ⟨_, rfl⟩
  rw [hm] at hr
  have Hm := hid hm
  have Hr := hid hr
  clear hm hr
  go_enter Try.func59, Try.ntmps59
  go_upto_block 0 with fail
  go_cut [] (fun wx => FldSt w m wx)
  case first =>
    have Hn := hid hn
    clear hn
    have Hq := hid hq
    clear hq
    go_wp2_with fail
    refine (ref_Num7 _ (by simp; omega) _).mono ?_
    rintro e w' ⟨rfl, rfl⟩
    rw [Hn.out]
    go_wp2_with fail
    refine (ref_ReadNumber _ (by simp [maxLen]; omega) _).mono ?_
    rintro e w' ⟨rfl, rfl⟩
    rw [Hq.out]
    go_wp2_with fail
    go_meet
    case rel =>
      obtain rfl := Hm.out
      trace_state
      exact fld_st w _ _ _ _ _ _ _

  case rest =>
    obtain ⟨⟨a, c, hb, hmsg, hne⟩, hres, hbl⟩ := hcut
    clear h0 h1 h2
    unfold zeroC at hres
    go_wp2_with fail
    refine stages_start (by kernel_rfl) 5 rfl ?_
    have k0 := keptS_cell (S := fun _ => False) (w := wc.drew) (blk_cell hmsg (k := 0) rfl) id
    have k1 := keptS_cell (S := fun _ => False) (w := wc.drew) (blk_cell hmsg (k := 1) rfl) id
    have k2 := keptS_cell (S := fun _ => False) (w := wc.drew) (blk_cell hmsg (k := 2) rfl) id
    have k3 := keptS_cell (S := fun _ => False) (w := wc.drew) (blk_cell hmsg (k := 3) rfl) id
    have k4 := keptS_cell (S := fun _ => False) (w := wc.drew) (blk_cell hmsg (k := 4) rfl) id
    have k5 := keptS_cell (S := fun _ => False) (w := wc.drew) (blk_cell hmsg (k := 5) rfl) id
    have k6 := keptS_cell (S := fun _ => False) (w := wc.drew) (blk_cell hmsg (k := 6) rfl) id
    refine stagek (fun _ => False) [0, 1] [2] 2 rfl #[true, true, true, false, false] (by kernel_rfl) (by kernel_rfl) (fun _ _ _ d _ h => by cases d <;> exact h) ?_
    simp only [opsAt, List.map_cons, List.map_nil, List.getElem?_toArray, List.getElem?_cons_zero, List.getElem?_cons_succ, Option.getD_some]
    repeat (go_big_quiet_step (fail))
    refine wpQuiet_nil ?_
    refine links_cons (by first | rfl | simp [go_sem]) (fun K hK => ?_)
    go_simp
    refine (ref_RightM m (hb.keeps (S := fun _ => False) (Keeps.refl _ wc).drew (fun _ _ _ => id))).mono ?_
    rintro e w9 ⟨rfl, hb9⟩
    have hk9 : Keeps (fun _ => False) wc w9 := (Keeps.refl _ wc).drew.trans (Keeps.of_below hb9 (fun k h1 h2 => by omega))
    refine hK _ _ (keptS (Keeps.of_below hb9 (fun k h1 h2 => by omega))) ?_
    clear hK K
    try refine links_nil ?_
    have hres9 := hk9.heap hres id
    have hby9 := hb.keeps hk9 (fun _ _ _ => id)
    have hW9 := hbl.trans (hk9.below hbl.size (fun k h1 h2 => by omega))
    clear hb9 k0 k1 k2 k3 k4 k5 k6 hmsg hres hb hbl
    have f0 := blk_free hres9 0
    have f1 := blk_free hres9 1
    have f2 := blk_free hres9 2
    have f3 := blk_free hres9 3
    have f4 := blk_free hres9 4
    have f5 := blk_free hres9 5
    have f6 := blk_free hres9 6
    have e0 := blk_cell hres9 (k := 0) rfl
    have e1 := blk_cell hres9 (k := 1) rfl
    have e2 := blk_cell hres9 (k := 2) rfl
    have e3 := blk_cell hres9 (k := 3) rfl
    have e4 := blk_cell hres9 (k := 4) rfl
    have e5 := blk_cell hres9 (k := 5) rfl
    have e6 := blk_cell hres9 (k := 6) rfl
    have hf := blk_store hres9 (.int .i64 m.kind) (.int .u32 m.nonce) (.int .u16 m.serial) (.int .u16 m.ack) (.slice a m.ins.length c) (.int .u32 m.sum) (.int .i64 m.lead)
    have hS := (((((((Keeps.refl (fun b => b = w.heap.size) w9).setCell (p := ⟨w.heap.size, 0, none⟩) rfl (.int .i64 m.kind)).setCell (p := ⟨w.heap.size, 1, none⟩) rfl (.int .u32 m.nonce)).setCell (p := ⟨w.heap.size, 2, none⟩) rfl (.int .u16 m.serial)).setCell (p := ⟨w.heap.size, 3, none⟩) rfl (.int .u16 m.ack)).setCell (p := ⟨w.heap.size, 4, none⟩) rfl (.slice a m.ins.length c)).setCell (p := ⟨w.heap.size, 5, none⟩) rfl (.int .u32 m.sum)).setCell (p := ⟨w.heap.size, 6, none⟩) rfl (.int .i64 m.lead)
    refine stagek (fun _ => True) [] [3, 4] 0 rfl #[true, true, true, true, true] (by kernel_rfl) (by kernel_rfl) (fun _ _ _ d _ h => by cases d <;> exact h) ?_
    simp only [opsAt, List.map_cons, List.map_nil, List.getElem?_toArray, List.getElem?_cons_zero, List.getElem?_cons_succ, Option.getD_some]
    repeat (go_big_quiet_step (fail))
    refine wpQuiet_nil ?_
    refine links_cons (by first | rfl | simp [go_sem]) (fun K hK => ?_)
    go_simp
    refine hK _ _ (keptS (hS.mono (fun _ _ _ => trivial))) ?_
    clear hK K
    try refine links_nil ?_
    generalize World.setCell _ ⟨w.heap.size, 6, none⟩ _ = wz at hf hS ⊢
    refine links_cons (by first | rfl | simp [go_sem]) (fun K hK => ?_)
    go_simp
    refine hK _ _ (keptS (hS.mono (fun _ _ _ => trivial))) ?_
    clear hK K
    try refine links_nil ?_
    refine stages_end (by kernel_rfl) ?_
    go_wp2_with fail
    have y0 := blk_cell hf (k := 0) rfl
    have y1 := blk_cell hf (k := 1) rfl
    have y2 := blk_cell hf (k := 2) rfl
    have y3 := blk_cell hf (k := 3) rfl
    have y4 := blk_cell hf (k := 4) rfl
    have y5 := blk_cell hf (k := 5) rfl
    have y6 := blk_cell hf (k := 6) rfl
    refine bodyPost_ret (v := .tuple #[(.agg #[.int .i64 m.kind, .int .u32 m.nonce, .int .u16 m.serial, .int .u16 m.ack, .slice a m.ins.length c, .int .u32 m.sum, .int .i64 m.lead]), .bool (decide (RightP m))]) (by simp [results, Try.results59, go_sem, y0, y1, y2, y3, y4, y5, y6]) rfl ?_
    rw [Hr.out]
    exact ⟨a, c, rfl, hby9.keeps hS hne, hW9.trans (hS.below hW9.size (fun k h1 h2 => by omega))⟩
set_option maxHeartbeats 4000000 in
theorem fld_7 (s : ByteArray) (hs : s.size ≤ 100000) (h2 : 2 + 0 ≤ s.size) (h0 : (s[0]'(by omega)).toNat = 80) (h1 : (s[1]'(by omega)).toNat = 7) (r : Msg × Bool) (hr : r = ((⟨7, 0, 0, 0, [], 0, 0⟩ : Msg), decide (RightP (⟨7, 0, 0, 0, [], 0, 0⟩ : Msg)))) :
    Calls Try.prog 59 #[.string s] w (FldPost w r.1 r.2) := by
  obtain ⟨m, hm⟩ : ∃ m : Msg, (⟨7, 0, 0, 0, [], 0, 0⟩ : Msg) = m := ⟨_, rfl⟩
  rw [hm] at hr
  have Hm := hid hm
  have Hr := hid hr
  clear hm hr
  go_enter Try.func59, Try.ntmps59
  go_upto_block 0 with fail
  go_cut [] (fun wx => FldSt w m wx)
  case first =>
    go_wp2_with fail
    go_meet
    case rel =>
      obtain rfl := Hm.out
      exact fld_st w _ _ _ _ _ _ _

  case rest =>
    obtain ⟨⟨a, c, hb, hmsg, hne⟩, hres, hbl⟩ := hcut
    clear h0 h1 h2
    unfold zeroC at hres
    go_wp2_with fail
    refine stages_start (by kernel_rfl) 5 rfl ?_
    have k0 := keptS_cell (S := fun _ => False) (w := wc.drew) (blk_cell hmsg (k := 0) rfl) id
    have k1 := keptS_cell (S := fun _ => False) (w := wc.drew) (blk_cell hmsg (k := 1) rfl) id
    have k2 := keptS_cell (S := fun _ => False) (w := wc.drew) (blk_cell hmsg (k := 2) rfl) id
    have k3 := keptS_cell (S := fun _ => False) (w := wc.drew) (blk_cell hmsg (k := 3) rfl) id
    have k4 := keptS_cell (S := fun _ => False) (w := wc.drew) (blk_cell hmsg (k := 4) rfl) id
    have k5 := keptS_cell (S := fun _ => False) (w := wc.drew) (blk_cell hmsg (k := 5) rfl) id
    have k6 := keptS_cell (S := fun _ => False) (w := wc.drew) (blk_cell hmsg (k := 6) rfl) id
    refine stagek (fun _ => False) [0, 1] [2] 2 rfl #[true, true, true, false, false] (by kernel_rfl) (by kernel_rfl) (fun _ _ _ d _ h => by cases d <;> exact h) ?_
    simp only [opsAt, List.map_cons, List.map_nil, List.getElem?_toArray, List.getElem?_cons_zero, List.getElem?_cons_succ, Option.getD_some]
    repeat (go_big_quiet_step (fail))
    refine wpQuiet_nil ?_
    refine links_cons (by first | rfl | simp [go_sem]) (fun K hK => ?_)
    go_simp
    refine (ref_RightM m (hb.keeps (S := fun _ => False) (Keeps.refl _ wc).drew (fun _ _ _ => id))).mono ?_
    rintro e w9 ⟨rfl, hb9⟩
    have hk9 : Keeps (fun _ => False) wc w9 := (Keeps.refl _ wc).drew.trans (Keeps.of_below hb9 (fun k h1 h2 => by omega))
    refine hK _ _ (keptS (Keeps.of_below hb9 (fun k h1 h2 => by omega))) ?_
    clear hK K
    try refine links_nil ?_
    have hres9 := hk9.heap hres id
    have hby9 := hb.keeps hk9 (fun _ _ _ => id)
    have hW9 := hbl.trans (hk9.below hbl.size (fun k h1 h2 => by omega))
    clear hb9 k0 k1 k2 k3 k4 k5 k6 hmsg hres hb hbl
    have f0 := blk_free hres9 0
    have f1 := blk_free hres9 1
    have f2 := blk_free hres9 2
    have f3 := blk_free hres9 3
    have f4 := blk_free hres9 4
    have f5 := blk_free hres9 5
    have f6 := blk_free hres9 6
    have e0 := blk_cell hres9 (k := 0) rfl
    have e1 := blk_cell hres9 (k := 1) rfl
    have e2 := blk_cell hres9 (k := 2) rfl
    have e3 := blk_cell hres9 (k := 3) rfl
    have e4 := blk_cell hres9 (k := 4) rfl
    have e5 := blk_cell hres9 (k := 5) rfl
    have e6 := blk_cell hres9 (k := 6) rfl
    have hf := blk_store hres9 (.int .i64 m.kind) (.int .u32 m.nonce) (.int .u16 m.serial) (.int .u16 m.ack) (.slice a m.ins.length c) (.int .u32 m.sum) (.int .i64 m.lead)
    have hS := (((((((Keeps.refl (fun b => b = w.heap.size) w9).setCell (p := ⟨w.heap.size, 0, none⟩) rfl (.int .i64 m.kind)).setCell (p := ⟨w.heap.size, 1, none⟩) rfl (.int .u32 m.nonce)).setCell (p := ⟨w.heap.size, 2, none⟩) rfl (.int .u16 m.serial)).setCell (p := ⟨w.heap.size, 3, none⟩) rfl (.int .u16 m.ack)).setCell (p := ⟨w.heap.size, 4, none⟩) rfl (.slice a m.ins.length c)).setCell (p := ⟨w.heap.size, 5, none⟩) rfl (.int .u32 m.sum)).setCell (p := ⟨w.heap.size, 6, none⟩) rfl (.int .i64 m.lead)
    refine stagek (fun _ => True) [] [3, 4] 0 rfl #[true, true, true, true, true] (by kernel_rfl) (by kernel_rfl) (fun _ _ _ d _ h => by cases d <;> exact h) ?_
    simp only [opsAt, List.map_cons, List.map_nil, List.getElem?_toArray, List.getElem?_cons_zero, List.getElem?_cons_succ, Option.getD_some]
    repeat (go_big_quiet_step (fail))
    refine wpQuiet_nil ?_
    refine links_cons (by first | rfl | simp [go_sem]) (fun K hK => ?_)
    go_simp
    refine hK _ _ (keptS (hS.mono (fun _ _ _ => trivial))) ?_
    clear hK K
    try refine links_nil ?_
    generalize World.setCell _ ⟨w.heap.size, 6, none⟩ _ = wz at hf hS ⊢
    refine links_cons (by first | rfl | simp [go_sem]) (fun K hK => ?_)
    go_simp
    refine hK _ _ (keptS (hS.mono (fun _ _ _ => trivial))) ?_
    clear hK K
    try refine links_nil ?_
    refine stages_end (by kernel_rfl) ?_
    go_wp2_with fail
    have y0 := blk_cell hf (k := 0) rfl
    have y1 := blk_cell hf (k := 1) rfl
    have y2 := blk_cell hf (k := 2) rfl
    have y3 := blk_cell hf (k := 3) rfl
    have y4 := blk_cell hf (k := 4) rfl
    have y5 := blk_cell hf (k := 5) rfl
    have y6 := blk_cell hf (k := 6) rfl
    refine bodyPost_ret (v := .tuple #[(.agg #[.int .i64 m.kind, .int .u32 m.nonce, .int .u16 m.serial, .int .u16 m.ack, .slice a m.ins.length c, .int .u32 m.sum, .int .i64 m.lead]), .bool (decide (RightP m))]) (by simp [results, Try.results59, go_sem, y0, y1, y2, y3, y4, y5, y6]) rfl ?_
    rw [Hr.out]
    exact ⟨a, c, rfl, hby9.keeps hS hne, hW9.trans (hS.below hW9.size (fun k h1 h2 => by omega))⟩
end Go.Proofs.Ytlneddmfcheaiaa
