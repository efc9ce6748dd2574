/- WireG · WireH · WireR · WireJ · WireU · WireV · MsgO, in one text. -/
import Derived.Test.YtlneddmfcheaiaaWireF
import Derived.Test.YtlneddmfcheaiaaRefRead
import Derived.Test.YtlneddmfcheaiaaWireQ
import Derived.Deep.LoopGhost
import Derived.Test.YtlneddmfcheaiaaOpen
import Derived.Test.YtlneddmfcheaiaaMsg
/- What the reference's fields of a text are: the texts that are refused, and kind 3. -/
namespace Go.Proofs.Ytlneddmfcheaiaa
open Go.RowKit
set_option maxRecDepth 10000
variable {w : World}
set_option maxHeartbeats 4000000 in
theorem fld_short (s : ByteArray) (hs : s.size ≤ 100000) (h2 : s.size < 2) :
    Calls Try.prog 59 #[.string s] w (FldPost w Msg.zero false) := by
  go_enter Try.func59, Try.ntmps59
  go_wp2_with fail
  refine bodyPost_ret (v := .tuple #[.agg #[.int .i64 0, .int .u32 0, .int .u16 0, .int .u16 0, .slice none 0 0, .int .u32 0, .int .i64 0], .bool false]) (by simp [results, Try.results59, go_sem]) rfl ?_
  exact ⟨none, 0, rfl, IsBytes.none _, (Below.refl _ w).alloc (Nat.le_refl _) _⟩
set_option maxHeartbeats 4000000 in
theorem fld_zero (s : ByteArray) (hs : s.size ≤ 100000) (h2 : 2 ≤ s.size) (h0 : (s[0]'(by omega)).toNat ≠ 80) :
    Calls Try.prog 59 #[.string s] w (FldPost w Msg.zero false) := by
  have hq : (((s[0]'(by omega)).toNat : Int) != 80) = true := by simp; omega
  go_enter Try.func59, Try.ntmps59
  go_wp2_with fail
  refine bodyPost_ret (v := .tuple #[.agg #[.int .i64 0, .int .u32 0, .int .u16 0, .int .u16 0, .slice none 0 0, .int .u32 0, .int .i64 0], .bool false]) (by simp [results, Try.results59, go_sem]) rfl ?_
  exact ⟨none, 0, rfl, IsBytes.none _, (Below.refl _ w).alloc (Nat.le_refl _) _⟩
set_option maxHeartbeats 4000000 in
theorem fld_kind (s : ByteArray) (hs : s.size ≤ 100000) (h2 : 2 ≤ s.size) (h0 : (s[0]'(by omega)).toNat = 80) (d : Nat) (hd : (s[1]'(by omega)).toNat = d) (hd2 : d < 256) (h1 : d < 1) :
    Calls Try.prog 59 #[.string s] w (FldPost w Msg.zero false) := by
  have hw : wrap64 (d : Int) = (d : Int) := by unfold wrap64; omega
  go_enter Try.func59, Try.ntmps59
  go_wp2_with fail
  refine bodyPost_ret (v := .tuple #[.agg #[.int .i64 0, .int .u32 0, .int .u16 0, .int .u16 0, .slice none 0 0, .int .u32 0, .int .i64 0], .bool false]) (by simp [results, Try.results59, go_sem]) rfl ?_
  exact ⟨none, 0, rfl, IsBytes.none _, (((Below.refl _ w).alloc (Nat.le_refl _) _).alloc (by simp) _).alloc (by simp; omega) _⟩
set_option maxHeartbeats 4000000 in
theorem fld_kindb (s : ByteArray) (hs : s.size ≤ 100000) (h2 : 2 ≤ s.size) (h0 : (s[0]'(by omega)).toNat = 80) (d : Nat) (hd : (s[1]'(by omega)).toNat = d) (hd2 : d < 256) (h1 : 7 < d) :
    Calls Try.prog 59 #[.string s] w (FldPost w Msg.zero false) := by
  have hw : wrap64 (d : Int) = (d : Int) := by unfold wrap64; omega
  go_enter Try.func59, Try.ntmps59
  go_wp2_with fail
  refine bodyPost_ret (v := .tuple #[.agg #[.int .i64 0, .int .u32 0, .int .u16 0, .int .u16 0, .slice none 0 0, .int .u32 0, .int .i64 0], .bool false]) (by simp [results, Try.results59, go_sem]) rfl ?_
  exact ⟨none, 0, rfl, IsBytes.none _, (((Below.refl _ w).alloc (Nat.le_refl _) _).alloc (by simp) _).alloc (by simp; omega) _⟩
set_option maxHeartbeats 4000000 in
theorem fld_len1 (s : ByteArray) (hs : s.size ≤ 100000) (h2 : 2 ≤ s.size) (h3 : s.size < 2 + 4) (h0 : (s[0]'(by omega)).toNat = 80) (h1 : (s[1]'(by omega)).toNat = 1) :
    Calls Try.prog 59 #[.string s] w (FldPost w Msg.zero false) := by
  go_enter Try.func59, Try.ntmps59
  go_wp2_with fail
  refine bodyPost_ret (v := .tuple #[.agg #[.int .i64 0, .int .u32 0, .int .u16 0, .int .u16 0, .slice none 0 0, .int .u32 0, .int .i64 0], .bool false]) (by simp [results, Try.results59, go_sem]) rfl ?_
  exact ⟨none, 0, rfl, IsBytes.none _, (((Below.refl _ w).alloc (Nat.le_refl _) _).alloc (by simp) _).alloc (by simp; omega) _⟩
set_option maxHeartbeats 4000000 in
theorem fld_len2 (s : ByteArray) (hs : s.size ≤ 100000) (h2 : 2 ≤ s.size) (h3 : s.size < 2 + 4) (h0 : (s[0]'(by omega)).toNat = 80) (h1 : (s[1]'(by omega)).toNat = 2) :
    Calls Try.prog 59 #[.string s] w (FldPost w Msg.zero false) := by
  go_enter Try.func59, Try.ntmps59
  go_wp2_with fail
  refine bodyPost_ret (v := .tuple #[.agg #[.int .i64 0, .int .u32 0, .int .u16 0, .int .u16 0, .slice none 0 0, .int .u32 0, .int .i64 0], .bool false]) (by simp [results, Try.results59, go_sem]) rfl ?_
  exact ⟨none, 0, rfl, IsBytes.none _, (((Below.refl _ w).alloc (Nat.le_refl _) _).alloc (by simp) _).alloc (by simp; omega) _⟩
set_option maxHeartbeats 4000000 in
theorem fld_len3 (s : ByteArray) (hs : s.size ≤ 100000) (h2 : 2 ≤ s.size) (h3 : s.size < 2 + 5) (h0 : (s[0]'(by omega)).toNat = 80) (h1 : (s[1]'(by omega)).toNat = 3) :
    Calls Try.prog 59 #[.string s] w (FldPost w Msg.zero false) := by
  go_enter Try.func59, Try.ntmps59
  go_wp2_with fail
  refine bodyPost_ret (v := .tuple #[.agg #[.int .i64 0, .int .u32 0, .int .u16 0, .int .u16 0, .slice none 0 0, .int .u32 0, .int .i64 0], .bool false]) (by simp [results, Try.results59, go_sem]) rfl ?_
  exact ⟨none, 0, rfl, IsBytes.none _, (((Below.refl _ w).alloc (Nat.le_refl _) _).alloc (by simp) _).alloc (by simp; omega) _⟩
set_option maxHeartbeats 4000000 in
theorem fld_len4 (s : ByteArray) (hs : s.size ≤ 100000) (h2 : 2 ≤ s.size) (h3 : s.size < 2 + 6) (h0 : (s[0]'(by omega)).toNat = 80) (h1 : (s[1]'(by omega)).toNat = 4) :
    Calls Try.prog 59 #[.string s] w (FldPost w Msg.zero false) := by
  go_enter Try.func59, Try.ntmps59
  go_wp2_with fail
  refine bodyPost_ret (v := .tuple #[.agg #[.int .i64 0, .int .u32 0, .int .u16 0, .int .u16 0, .slice none 0 0, .int .u32 0, .int .i64 0], .bool false]) (by simp [results, Try.results59, go_sem]) rfl ?_
  exact ⟨none, 0, rfl, IsBytes.none _, (((Below.refl _ w).alloc (Nat.le_refl _) _).alloc (by simp) _).alloc (by simp; omega) _⟩
set_option maxHeartbeats 4000000 in
theorem fld_len5 (s : ByteArray) (hs : s.size ≤ 100000) (h2 : 2 ≤ s.size) (h3 : s.size < 2 + 2) (h0 : (s[0]'(by omega)).toNat = 80) (h1 : (s[1]'(by omega)).toNat = 5) :
    Calls Try.prog 59 #[.string s] w (FldPost w Msg.zero false) := by
  go_enter Try.func59, Try.ntmps59
  go_wp2_with fail
  refine bodyPost_ret (v := .tuple #[.agg #[.int .i64 0, .int .u32 0, .int .u16 0, .int .u16 0, .slice none 0 0, .int .u32 0, .int .i64 0], .bool false]) (by simp [results, Try.results59, go_sem]) rfl ?_
  exact ⟨none, 0, rfl, IsBytes.none _, (((Below.refl _ w).alloc (Nat.le_refl _) _).alloc (by simp) _).alloc (by simp; omega) _⟩
set_option maxHeartbeats 4000000 in
theorem fld_len6 (s : ByteArray) (hs : s.size ≤ 100000) (h2 : 2 ≤ s.size) (h3 : s.size < 2 + 3) (h0 : (s[0]'(by omega)).toNat = 80) (h1 : (s[1]'(by omega)).toNat = 6) :
    Calls Try.prog 59 #[.string s] w (FldPost w Msg.zero false) := by
  go_enter Try.func59, Try.ntmps59
  go_wp2_with fail
  refine bodyPost_ret (v := .tuple #[.agg #[.int .i64 0, .int .u32 0, .int .u16 0, .int .u16 0, .slice none 0 0, .int .u32 0, .int .i64 0], .bool false]) (by simp [results, Try.results59, go_sem]) rfl ?_
  exact ⟨none, 0, rfl, IsBytes.none _, (((Below.refl _ w).alloc (Nat.le_refl _) _).alloc (by simp) _).alloc (by simp; omega) _⟩
set_option maxHeartbeats 4000000 in
theorem fld_6r (s : ByteArray) (hs : s.size ≤ 100000) (h2 : 2 + 3 ≤ s.size) (h0 : (s[0]'(by omega)).toNat = 80) (h1 : (s[1]'(by omega)).toNat = 6) (n : Int) (hn : bN ((s.extract 2 s.size).extract 0 2) = n) (bn : 0 ≤ n ∧ n < 65536) (v i : Nat) (er : Int) (hq : rdNum ((s.extract 2 s.size).extract 2 (s.size - 2)).data.toList = (v, i, er)) (he : er ≠ 0) :
    Calls Try.prog 59 #[.string s] w (FldPost w Msg.zero false) := by
  have Hn := hid hn
  clear hn
  have Hq := hid hq
  clear hq
  have hne : (er != 0) = true := by simpa using he
  go_enter Try.func59, Try.ntmps59
  go_wp2_with fail
  refine (ref_Num7 _ (by simp; omega) _).mono ?_
  rintro e w' ⟨rfl, rfl⟩
  rw [Hn.out]
  go_wp2_with fail
  refine (ref_ReadNumber _ (by simp [maxLen]; omega) _).mono ?_
  rintro e w' ⟨rfl, rfl⟩
  rw [Hq.out]
  go_wp2_with fail
  refine bodyPost_ret (v := .tuple #[.agg #[.int .i64 0, .int .u32 0, .int .u16 0, .int .u16 0, .slice none 0 0, .int .u32 0, .int .i64 0], .bool false]) (by simp [results, Try.results59, go_sem]) rfl ?_
  exact ⟨none, 0, rfl, IsBytes.none _, (((Below.refl _ w).alloc (Nat.le_refl _) _).alloc (by simp) _).alloc (by simp; omega) _⟩
set_option maxHeartbeats 4000000 in
theorem fld_6b (s : ByteArray) (hs : s.size ≤ 100000) (h2 : 2 + 3 ≤ s.size) (h0 : (s[0]'(by omega)).toNat = 80) (h1 : (s[1]'(by omega)).toNat = 6) (n : Int) (hn : bN ((s.extract 2 s.size).extract 0 2) = n) (bn : 0 ≤ n ∧ n < 65536) (v i : Nat) (hq : rdNum ((s.extract 2 s.size).extract 2 (s.size - 2)).data.toList = (v, i, 0)) (hv : 4000 < v) :
    Calls Try.prog 59 #[.string s] w (FldPost w Msg.zero false) := by
  have Hn := hid hn
  clear hn
  have Hq := hid hq
  clear hq
  go_enter Try.func59, Try.ntmps59
  go_wp2_with fail
  refine (ref_Num7 _ (by simp; omega) _).mono ?_
  rintro e w' ⟨rfl, rfl⟩
  rw [Hn.out]
  go_wp2_with fail
  refine (ref_ReadNumber _ (by simp [maxLen]; omega) _).mono ?_
  rintro e w' ⟨rfl, rfl⟩
  rw [Hq.out]
  go_wp2_with fail
  refine bodyPost_ret (v := .tuple #[.agg #[.int .i64 0, .int .u32 0, .int .u16 0, .int .u16 0, .slice none 0 0, .int .u32 0, .int .i64 0], .bool false]) (by simp [results, Try.results59, go_sem]) rfl ?_
  exact ⟨none, 0, rfl, IsBytes.none _, (((Below.refl _ w).alloc (Nat.le_refl _) _).alloc (by simp) _).alloc (by simp; omega) _⟩
end Go.Proofs.Ytlneddmfcheaiaa
/- What the reference's fields of a text are: kind 3. -/
namespace Go.Proofs.Ytlneddmfcheaiaa
open Go.RowKit
set_option maxRecDepth 10000
variable {w : World}
theorem fld_hm (w : World) (vs : Array Value) (x : Obj) : (((w.alloc (.cells zeroC 26)).alloc (.cells vs 26)).alloc x).heap[w.heap.size + 1]? = some (.cells vs 26 (0, 0)) :=
  blk_alloc (by have := blk_new (w.alloc (.cells zeroC 26)) (.cells vs 26); rwa [World.size_alloc] at this) _
theorem fld_hr (w : World) (y x : Obj) : (((w.alloc (.cells zeroC 26)).alloc y).alloc x).heap[w.heap.size]? = some (.cells zeroC 26 (0, 0)) := blk_alloc (blk_alloc (blk_new w (.cells zeroC 26)) _) _
theorem fld_hW (w : World) (a b c : Obj) : Below w.heap.size w (((w.alloc a).alloc b).alloc c) := (((Below.refl _ w).alloc (Nat.le_refl _) _).alloc (by simp) _).alloc (by simp; omega) _
set_option maxHeartbeats 4000000 in
theorem fld_3 (s : ByteArray) (hs : s.size ≤ 100000) (h2 : 2 + 5 ≤ s.size) (h0 : (s[0]'(by omega)).toNat = 80) (h1 : (s[1]'(by omega)).toNat = 3) (n : Int) (hn : bN ((s.extract 2 s.size).extract 0 2) = n) (bn : 0 ≤ n ∧ n < 65536) (p : Int) (hp : bN ((s.extract 2 s.size).extract 2 4) = p) (bp : 0 ≤ p ∧ p < 65536) (L : List UInt8) (i : Nat) (hq : rdRun ((s.extract 2 s.size).extract 4 (s.size - 2)).data.toList = (L, i, 0)) (r : Msg × Bool) (hr : r = ((⟨3, 0, n, p, L, 0, 0⟩ : Msg), decide (RightP (⟨3, 0, n, p, L, 0, 0⟩ : Msg)))) :
    Calls Try.prog 59 #[.string s] w (FldPost w r.1 r.2) := by
  obtain ⟨m, hm⟩ : ∃ m : Msg, (⟨3, 0, n, p, L, 0, 0⟩ : Msg) = m := ⟨_, rfl⟩
  rw [hm] at hr
  have Hm := hid hm
  have Hr := hid hr
  clear hm hr
  go_enter Try.func59, Try.ntmps59
  go_upto_block 0 with fail
  go_cut [] (fun wx => FldSt w m wx)
  case first =>
    have Hn := hid hn
    clear hn
    have Hp := hid hp
    clear hp
    have Hq := hid hq
    clear hq
    go_wp2_with fail
    refine (ref_Num7 _ (by simp; omega) _).mono ?_
    rintro e w' ⟨rfl, rfl⟩
    rw [Hn.out]
    go_wp2_with fail
    refine (ref_Num7 _ (by simp; omega) _).mono ?_
    rintro e w' ⟨rfl, rfl⟩
    rw [Hp.out]
    go_wp2_with fail
    refine (ref_ReadRun _ (by simp [maxLen]; omega) _).mono ?_
    rintro e w1 ⟨v, rfl, ho, hb1⟩
    rw [Hq.out] at ho ⊢
    have hk1 : Keeps (fun _ => False) _ w1 := Keeps.of_below hb1 (fun k h1 h2 => by omega)
    have hmsg := hk1.heap (fld_hm w _ _) id
    have hres := hk1.heap (fld_hr w _ _) id
    have hW := (fld_hW w _ _ _).trans (hk1.below (fld_hW w _ _ _).size (fun k h1 h2 => by omega))
    obtain ⟨aa, cap, rfl, hby⟩ := own_bytes ho
    obtain ⟨A', cap', e', _, hbx⟩ := vals_of_own ho
    cases e'
    have hba : L ≠ [] → ∀ x, aa = some x → ¬ x.block = w.heap.size + 1 := fun _ x hx => by have := (hbx x hx).1; simp at this; omega
    have hbr : L ≠ [] → ∀ x, aa = some x → ¬ x.block = w.heap.size := fun _ x hx => by have := (hbx x hx).1; simp at this; omega
    have f4 := blk_free hmsg 4
    have c4 := blk_cell hmsg (k := 4) rfl
    clear hk1 ho hbx hb1
    go_wp2_with fail
    go_meet
    case rel =>
      obtain rfl := Hm.out
      have hkk := (Keeps.refl (fun b => b = w.heap.size + 1) w1).setCell (p := ⟨w.heap.size + 1, 4, none⟩) rfl (.slice aa L.length cap)
      exact ⟨⟨aa, cap, hby.keeps hkk hba, by simpa using blk_set hmsg 4 (.slice aa L.length cap), hbr⟩, hkk.heap hres (by omega), hW.trans (hkk.below hW.size (fun k h1 h2 => by omega))⟩

  case rest =>
    obtain ⟨⟨a, c, hb, hmsg, hne⟩, hres, hbl⟩ := hcut
    clear h0 h1 h2
    unfold zeroC at hres
    go_wp2_with fail
    refine stages_start (by kernel_rfl) 5 rfl ?_
    have k0 := keptS_cell (S := fun _ => False) (w := wc.drew) (blk_cell hmsg (k := 0) rfl) id
    have k1 := keptS_cell (S := fun _ => False) (w := wc.drew) (blk_cell hmsg (k := 1) rfl) id
    have k2 := keptS_cell (S := fun _ => False) (w := wc.drew) (blk_cell hmsg (k := 2) rfl) id
    have k3 := keptS_cell (S := fun _ => False) (w := wc.drew) (blk_cell hmsg (k := 3) rfl) id
    have k4 := keptS_cell (S := fun _ => False) (w := wc.drew) (blk_cell hmsg (k := 4) rfl) id
    have k5 := keptS_cell (S := fun _ => False) (w := wc.drew) (blk_cell hmsg (k := 5) rfl) id
    have k6 := keptS_cell (S := fun _ => False) (w := wc.drew) (blk_cell hmsg (k := 6) rfl) id
    refine stagek (fun _ => False) [0, 1] [2] 2 rfl #[true, true, true, false, false] (by kernel_rfl) (by kernel_rfl) (fun _ _ _ d _ h => by cases d <;> exact h) ?_
    simp only [opsAt, List.map_cons, List.map_nil, List.getElem?_toArray, List.getElem?_cons_zero, List.getElem?_cons_succ, Option.getD_some]
    repeat (go_big_quiet_step (fail))
    refine wpQuiet_nil ?_
    refine links_cons (by first | rfl | simp [go_sem]) (fun K hK => ?_)
    go_simp
    refine (ref_RightM m (hb.keeps (S := fun _ => False) (Keeps.refl _ wc).drew (fun _ _ _ => id))).mono ?_
    rintro e w9 ⟨rfl, hb9⟩
    have hk9 : Keeps (fun _ => False) wc w9 := (Keeps.refl _ wc).drew.trans (Keeps.of_below hb9 (fun k h1 h2 => by omega))
    refine hK _ _ (keptS (Keeps.of_below hb9 (fun k h1 h2 => by omega))) ?_
    clear hK K
    try refine links_nil ?_
    have hres9 := hk9.heap hres id
    have hby9 := hb.keeps hk9 (fun _ _ _ => id)
    have hW9 := hbl.trans (hk9.below hbl.size (fun k h1 h2 => by omega))
    clear hb9 k0 k1 k2 k3 k4 k5 k6 hmsg hres hb hbl
    have f0 := blk_free hres9 0
    have f1 := blk_free hres9 1
    have f2 := blk_free hres9 2
    have f3 := blk_free hres9 3
    have f4 := blk_free hres9 4
    have f5 := blk_free hres9 5
    have f6 := blk_free hres9 6
    have e0 := blk_cell hres9 (k := 0) rfl
    have e1 := blk_cell hres9 (k := 1) rfl
    have e2 := blk_cell hres9 (k := 2) rfl
    have e3 := blk_cell hres9 (k := 3) rfl
    have e4 := blk_cell hres9 (k := 4) rfl
    have e5 := blk_cell hres9 (k := 5) rfl
    have e6 := blk_cell hres9 (k := 6) rfl
    have hf := blk_store hres9 (.int .i64 m.kind) (.int .u32 m.nonce) (.int .u16 m.serial) (.int .u16 m.ack) (.slice a m.ins.length c) (.int .u32 m.sum) (.int .i64 m.lead)
    have hS := (((((((Keeps.refl (fun b => b = w.heap.size) w9).setCell (p := ⟨w.heap.size, 0, none⟩) rfl (.int .i64 m.kind)).setCell (p := ⟨w.heap.size, 1, none⟩) rfl (.int .u32 m.nonce)).setCell (p := ⟨w.heap.size, 2, none⟩) rfl (.int .u16 m.serial)).setCell (p := ⟨w.heap.size, 3, none⟩) rfl (.int .u16 m.ack)).setCell (p := ⟨w.heap.size, 4, none⟩) rfl (.slice a m.ins.length c)).setCell (p := ⟨w.heap.size, 5, none⟩) rfl (.int .u32 m.sum)).setCell (p := ⟨w.heap.size, 6, none⟩) rfl (.int .i64 m.lead)
    refine stagek (fun _ => True) [] [3, 4] 0 rfl #[true, true, true, true, true] (by kernel_rfl) (by kernel_rfl) (fun _ _ _ d _ h => by cases d <;> exact h) ?_
    simp only [opsAt, List.map_cons, List.map_nil, List.getElem?_toArray, List.getElem?_cons_zero, List.getElem?_cons_succ, Option.getD_some]
    repeat (go_big_quiet_step (fail))
    refine wpQuiet_nil ?_
    refine links_cons (by first | rfl | simp [go_sem]) (fun K hK => ?_)
    go_simp
    refine hK _ _ (keptS (hS.mono (fun _ _ _ => trivial))) ?_
    clear hK K
    try refine links_nil ?_
    generalize World.setCell _ ⟨w.heap.size, 6, none⟩ _ = wz at hf hS ⊢
    refine links_cons (by first | rfl | simp [go_sem]) (fun K hK => ?_)
    go_simp
    refine hK _ _ (keptS (hS.mono (fun _ _ _ => trivial))) ?_
    clear hK K
    try refine links_nil ?_
    refine stages_end (by kernel_rfl) ?_
    go_wp2_with fail
    have y0 := blk_cell hf (k := 0) rfl
    have y1 := blk_cell hf (k := 1) rfl
    have y2 := blk_cell hf (k := 2) rfl
    have y3 := blk_cell hf (k := 3) rfl
    have y4 := blk_cell hf (k := 4) rfl
    have y5 := blk_cell hf (k := 5) rfl
    have y6 := blk_cell hf (k := 6) rfl
    refine bodyPost_ret (v := .tuple #[(.agg #[.int .i64 m.kind, .int .u32 m.nonce, .int .u16 m.serial, .int .u16 m.ack, .slice a m.ins.length c, .int .u32 m.sum, .int .i64 m.lead]), .bool (decide (RightP m))]) (by simp [results, Try.results59, go_sem, y0, y1, y2, y3, y4, y5, y6]) rfl ?_
    rw [Hr.out]
    exact ⟨a, c, rfl, hby9.keeps hS hne, hW9.trans (hS.below hW9.size (fun k h1 h2 => by omega))⟩
set_option maxHeartbeats 4000000 in
theorem fld_3r (s : ByteArray) (hs : s.size ≤ 100000) (h2 : 2 + 5 ≤ s.size) (h0 : (s[0]'(by omega)).toNat = 80) (h1 : (s[1]'(by omega)).toNat = 3) (n : Int) (hn : bN ((s.extract 2 s.size).extract 0 2) = n) (bn : 0 ≤ n ∧ n < 65536) (p : Int) (hp : bN ((s.extract 2 s.size).extract 2 4) = p) (bp : 0 ≤ p ∧ p < 65536) (L : List UInt8) (i : Nat) (er : Int) (hq : rdRun ((s.extract 2 s.size).extract 4 (s.size - 2)).data.toList = (L, i, er)) (he : er ≠ 0) :
    Calls Try.prog 59 #[.string s] w (FldPost w Msg.zero false) := by
  have Hn := hid hn
  clear hn
  have Hp := hid hp
  clear hp
  have Hq := hid hq
  clear hq
  have hne : (er != 0) = true := by simpa using he
  go_enter Try.func59, Try.ntmps59
  go_wp2_with fail
  refine (ref_Num7 _ (by simp; omega) _).mono ?_
  rintro e w' ⟨rfl, rfl⟩
  rw [Hn.out]
  go_wp2_with fail
  refine (ref_Num7 _ (by simp; omega) _).mono ?_
  rintro e w' ⟨rfl, rfl⟩
  rw [Hp.out]
  go_wp2_with fail
  refine (ref_ReadRun _ (by simp [maxLen]; omega) _).mono ?_
  rintro e w1 ⟨v, rfl, ho, hb1⟩
  rw [Hq.out] at ho ⊢
  have hk1 : Keeps (fun _ => False) _ w1 := Keeps.of_below hb1 (fun k h1 h2 => by omega)
  have hmsg := hk1.heap (fld_hm w _ _) id
  have hres := hk1.heap (fld_hr w _ _) id
  have hW := (fld_hW w _ _ _).trans (hk1.below (fld_hW w _ _ _).size (fun k h1 h2 => by omega))
  unfold zeroC at hres
  clear hk1 ho hb1 hmsg
  have f0 := blk_free hres 0
  have e0 := blk_cell hres (k := 0) rfl
  have f1 := blk_free hres 1
  have e1 := blk_cell hres (k := 1) rfl
  have f2 := blk_free hres 2
  have e2 := blk_cell hres (k := 2) rfl
  have f3 := blk_free hres 3
  have e3 := blk_cell hres (k := 3) rfl
  have f4 := blk_free hres 4
  have e4 := blk_cell hres (k := 4) rfl
  have f5 := blk_free hres 5
  have e5 := blk_cell hres (k := 5) rfl
  have f6 := blk_free hres 6
  have e6 := blk_cell hres (k := 6) rfl
  go_wp2_with fail
  have hf := blk_store hres (.int .i64 0) (.int .u32 0) (.int .u16 0) (.int .u16 0) (.slice none 0 0) (.int .u32 0) (.int .i64 0)
  have d0 := blk_cell hf (k := 0) rfl
  have d1 := blk_cell hf (k := 1) rfl
  have d2 := blk_cell hf (k := 2) rfl
  have d3 := blk_cell hf (k := 3) rfl
  have d4 := blk_cell hf (k := 4) rfl
  have d5 := blk_cell hf (k := 5) rfl
  have d6 := blk_cell hf (k := 6) rfl
  refine bodyPost_ret (v := .tuple #[.agg #[.int .i64 0, .int .u32 0, .int .u16 0, .int .u16 0, .slice none 0 0, .int .u32 0, .int .i64 0], .bool false]) (by simp [results, Try.results59, go_sem, d0, d1, d2, d3, d4, d5, d6]) rfl ?_
  exact ⟨none, 0, rfl, IsBytes.none _, ((((((hW.setCell (p := ⟨w.heap.size, 0, none⟩) (Nat.le_refl _) (.int .i64 0)).setCell (p := ⟨w.heap.size, 1, none⟩) (Nat.le_refl _) (.int .u32 0)).setCell (p := ⟨w.heap.size, 2, none⟩) (Nat.le_refl _) (.int .u16 0)).setCell (p := ⟨w.heap.size, 3, none⟩) (Nat.le_refl _) (.int .u16 0)).setCell (p := ⟨w.heap.size, 4, none⟩) (Nat.le_refl _) (.slice none 0 0)).setCell (p := ⟨w.heap.size, 5, none⟩) (Nat.le_refl _) (.int .u32 0)).setCell (p := ⟨w.heap.size, 6, none⟩) (Nat.le_refl _) (.int .i64 0)⟩
end Go.Proofs.Ytlneddmfcheaiaa
/- Plain facts: the program's reading of a text is the reference's. -/
namespace Go.Proofs.Ytlneddmfcheaiaa
def lst (x : Rd) : List UInt8 := x.s.data.toList
theorem take_good {n : Nat} {x y : Rd} {b : ByteArray} (h : takeR n x = (b, y)) (hy : y.bad = false) : x.bad = false ∧ lst x = b.data.toList ++ lst y ∧ b.data.toList.length = n := by
  unfold takeR at h
  split at h
  · cases h; cases hy
  · rename_i hc
    cases h
    have h1 : ¬ x.bad = true := fun h => hc (.inl h)
    have h2 : ¬ x.s.size < n := fun h => hc (.inr h)
    refine ⟨by simpa using h1, ?_, ?_⟩
    · unfold lst
      simp only
      rw [extract_data, extract_end]
      simp
    · rw [extract_data]
      simp
      omega
theorem beI_list (l : List UInt8) : beI l = bN ⟨l.toArray⟩ := (bN_list l).symm
theorem bN_beI (b : ByteArray) : bN b = beI b.data.toList := rfl
theorem tail4_beI (l : List UInt8) (h : l.length = 4) : tail4 (beI l) = l := by
  match l, h with
  | [a, b, c, d], _ =>
    have h1 := a.toNat_lt
    have h2 := b.toNat_lt
    have h3 := c.toNat_lt
    have h4 := d.toNat_lt
    unfold tail4 beI beN
    simp only [List.foldl_cons, List.foldl_nil, List.cons.injEq, and_true]
    refine ⟨?_, ?_, ?_, ?_⟩ <;> (apply UInt8.toNat_inj.1; rw [byte_of _ (by omega)]; omega)
theorem be2_beI (l : List UInt8) (h : l.length = 2) : be2 (beI l) = l := by
  match l, h with
  | [a, b], _ =>
    have h1 := a.toNat_lt
    have h2 := b.toNat_lt
    unfold be2 beI beN
    simp only [List.foldl_cons, List.foldl_nil, List.cons.injEq, and_true]
    constructor <;> apply UInt8.toNat_inj.1 <;> rw [byte_of _ (by omega)] <;> omega
theorem rdr_good {x y : Rd} {c : List UInt8} (h : rdrR x = (c, y)) (hy : y.bad = false) : x.bad = false ∧ lst x = runBytes c ++ lst y := by
  unfold rdrR at h
  obtain ⟨⟨L, k, er⟩, hq⟩ : ∃ q, rdRun x.s.data.toList = q := ⟨_, rfl⟩
  rw [hq] at h
  simp only [Prod.mk.injEq] at h
  obtain ⟨rfl, h⟩ := h
  obtain ⟨⟨b, y'⟩, ht⟩ : ∃ q, takeR k ⟨x.s, x.bad || (er != 0)⟩ = q := ⟨_, rfl⟩
  rw [ht] at h
  subst h
  obtain ⟨h1, h2, h3⟩ := take_good ht hy
  simp only [Bool.or_eq_false_iff, bne_eq_false_iff_eq] at h1
  obtain ⟨h0, rfl⟩ := h1
  refine ⟨h0, ?_⟩
  obtain ⟨e1, _, _⟩ := rd_run_told _ _ _ hq
  have h2' : x.s.data.toList = b.data.toList ++ lst y' := h2
  rw [e1]
  show x.s.data.toList = _
  rw [h2', List.take_left' h3]
theorem rds_good {x y : Rd} {v : Int} (h : rdsR x = (v, y)) (hy : y.bad = false) : x.bad = false ∧ lst x = num (zz v) ++ lst y := by
  unfold rdsR at h
  obtain ⟨⟨n, k, er⟩, hq⟩ : ∃ q, rdNum x.s.data.toList = q := ⟨_, rfl⟩
  rw [hq] at h
  simp only [Prod.mk.injEq] at h
  obtain ⟨rfl, h⟩ := h
  obtain ⟨⟨b, y'⟩, ht⟩ : ∃ q, takeR k ⟨x.s, x.bad || (er != 0)⟩ = q := ⟨_, rfl⟩
  rw [ht] at h
  subst h
  obtain ⟨h1, h2, h3⟩ := take_good ht hy
  simp only [Bool.or_eq_false_iff, bne_eq_false_iff_eq] at h1
  obtain ⟨h0, rfl⟩ := h1
  refine ⟨h0, ?_⟩
  obtain ⟨e1, _, _⟩ := rd_ok _ _ _ hq
  have h2' : x.s.data.toList = b.data.toList ++ lst y' := h2
  rw [zz_unzz, e1]
  show x.s.data.toList = _
  rw [h2', List.take_left' h3]
/-- a body that is read whole is the body of what was read -/
theorem body_told (k : Int) (x : Rd) (p : Msg × Rd) (h : parseK k x = p) (hb : p.2.bad = false) (hs : lst p.2 = []) : x.bad = false ∧ p.1.kind = k ∧ bodyM p.1 = lst x := by
  unfold parseK at h
  by_cases h12 : k = 1 ∨ k = 2
  · rw [if_pos h12] at h
    obtain ⟨⟨b, y⟩, ht⟩ : ∃ q, takeR 4 x = q := ⟨_, rfl⟩
    rw [ht] at h
    subst h
    obtain ⟨g1, g2, g3⟩ := take_good ht hb
    refine ⟨g1, rfl, ?_⟩
    simp only at hs
    rw [g2, hs, List.append_nil]
    unfold bodyM
    simp only
    rw [if_pos h12, bN_beI, tail4_beI _ g3]
  rw [if_neg h12] at h
  by_cases h3 : k = 3
  · rw [if_pos h3] at h
    obtain ⟨⟨b, y⟩, ht⟩ : ∃ q, takeR 2 x = q := ⟨_, rfl⟩
    rw [ht] at h
    simp only at h
    obtain ⟨⟨b2, y2⟩, ht2⟩ : ∃ q, takeR 2 y = q := ⟨_, rfl⟩
    rw [ht2] at h
    simp only at h
    obtain ⟨⟨c, z⟩, hr⟩ : ∃ q, rdrR y2 = q := ⟨_, rfl⟩
    rw [hr] at h
    subst h
    obtain ⟨e1, e2⟩ := rdr_good hr hb
    obtain ⟨f1, f2, f3⟩ := take_good ht2 e1
    obtain ⟨g1, g2, g3⟩ := take_good ht f1
    refine ⟨g1, rfl, ?_⟩
    simp only at hs
    rw [g2, f2, e2, hs, List.append_nil]
    unfold bodyM
    simp only
    rw [if_neg h12, if_pos h3, bN_beI, bN_beI, be2_beI _ g3, be2_beI _ f3, List.append_assoc]
  rw [if_neg h3] at h
  by_cases h4 : k = 4
  · rw [if_pos h4] at h
    obtain ⟨⟨b, y⟩, ht⟩ : ∃ q, takeR 2 x = q := ⟨_, rfl⟩
    rw [ht] at h
    simp only at h
    obtain ⟨⟨b2, y2⟩, ht2⟩ : ∃ q, takeR 4 y = q := ⟨_, rfl⟩
    rw [ht2] at h
    subst h
    obtain ⟨f1, f2, f3⟩ := take_good ht2 hb
    obtain ⟨g1, g2, g3⟩ := take_good ht f1
    refine ⟨g1, rfl, ?_⟩
    simp only at hs
    rw [g2, f2, hs, List.append_nil]
    unfold bodyM
    simp only
    rw [if_neg h12, if_neg h3, if_pos h4, bN_beI, bN_beI, be2_beI _ g3, tail4_beI _ f3]
  rw [if_neg h4] at h
  by_cases h5 : k = 5
  · rw [if_pos h5] at h
    obtain ⟨⟨b, y⟩, ht⟩ : ∃ q, takeR 2 x = q := ⟨_, rfl⟩
    rw [ht] at h
    subst h
    obtain ⟨g1, g2, g3⟩ := take_good ht hb
    refine ⟨g1, rfl, ?_⟩
    simp only at hs
    rw [g2, hs, List.append_nil]
    unfold bodyM
    simp only
    rw [if_neg h12, if_neg h3, if_neg h4, if_pos h5, bN_beI, be2_beI _ g3]
  rw [if_neg h5] at h
  by_cases h6 : k = 6
  · rw [if_pos h6] at h
    obtain ⟨⟨b, y⟩, ht⟩ : ∃ q, takeR 2 x = q := ⟨_, rfl⟩
    rw [ht] at h
    simp only at h
    obtain ⟨⟨c, z⟩, hr⟩ : ∃ q, rdsR y = q := ⟨_, rfl⟩
    rw [hr] at h
    subst h
    obtain ⟨e1, e2⟩ := rds_good hr hb
    obtain ⟨g1, g2, g3⟩ := take_good ht e1
    refine ⟨g1, rfl, ?_⟩
    simp only at hs
    rw [g2, e2, hs, List.append_nil]
    unfold bodyM
    simp only
    rw [if_neg h12, if_neg h3, if_neg h4, if_neg h5, if_pos h6, bN_beI, be2_beI _ g3]
  · rw [if_neg h6] at h
    subst h
    refine ⟨hb, rfl, ?_⟩
    simp only at hs
    rw [hs]
    unfold bodyM
    simp only
    rw [if_neg h12, if_neg h3, if_neg h4, if_neg h5, if_neg h6]
theorem one_list (b : ByteArray) (h : b.data.toList.length = 1) : b.data.toList = [UInt8.ofNat (bN b).toNat] := by
  unfold bN
  match hb : b.data.toList, h with
  | [c], _ =>
    simp [beN]
theorem parse_told (t : List UInt8) (hw : ¬ wrongR (parseT t)) : rawM (parseT t).1 = t := by
  have h1 : (parseT t).2.bad = false := by
    cases hh : (parseT t).2.bad with
    | false => rfl
    | true => exact absurd (.inl hh) hw
  have h2 : lst (parseT t).2 = [] := by
    by_cases hh : (parseT t).2.s.toList = []
    · unfold lst; rw [← ByteArray.toList_eq]; exact hh
    · exact absurd (.inr (.inl hh)) hw
  obtain ⟨⟨b1, x1⟩, hx1⟩ : ∃ q, firstR t = q := ⟨_, rfl⟩
  obtain ⟨⟨b2, x2⟩, hx2⟩ : ∃ q, kindR t = q := ⟨_, rfl⟩
  obtain ⟨p, hp⟩ : ∃ p, parseT t = p := ⟨_, rfl⟩
  rw [hp] at h1 h2 ⊢
  have hk : parseK (bN b2) x2 = p := by rw [← hp]; unfold parseT; rw [hx2]
  obtain ⟨e1, e2, e3⟩ := body_told _ _ _ hk h1 h2
  have hx2' : takeR 1 ⟨x1.s, bN b1 != 80⟩ = (b2, x2) := by have := hx2; unfold kindR at this; rwa [hx1] at this
  obtain ⟨f1, f2, f3⟩ := take_good hx2' e1
  simp only [bne_eq_false_iff_eq] at f1
  have hx1' : takeR 1 ⟨⟨t.toArray⟩, false⟩ = (b1, x1) := hx1
  by_cases hx : x1.bad = false
  · obtain ⟨g1, g2, g3⟩ := take_good hx1' hx
    have ht : t = b1.data.toList ++ lst x1 := g2
    have hl : lst x1 = b2.data.toList ++ lst x2 := f2
    unfold rawM
    rw [e2, e3]
    rw [ht, hl, one_list b1 g3, one_list b2 f3, f1]
    rfl
  · exfalso
    unfold takeR at hx1'
    split at hx1'
    · cases hx1'
      exact absurd f1 (by decide)
    · cases hx1'
      exact hx rfl
theorem beI_2 (l : List UInt8) : 0 ≤ beI (l.take 2) ∧ beI (l.take 2) < 65536 := by
  have h1 : (l.take 2).length ≤ 2 := by simp; omega
  have h2 := beN_lt _ (l.take 2) rfl
  have h3 : 256 ^ (l.take 2).length ≤ 256 ^ 2 := Nat.pow_le_pow_right (by omega) h1
  unfold beI
  omega
theorem beI_4 (l : List UInt8) : 0 ≤ beI (l.take 4) ∧ beI (l.take 4) < 4294967296 := by
  have h1 : (l.take 4).length ≤ 4 := by simp; omega
  have h2 := beN_lt _ (l.take 4) rfl
  have h3 : 256 ^ (l.take 4).length ≤ 256 ^ 4 := Nat.pow_le_pow_right (by omega) h1
  unfold beI
  omega
theorem unzz_small (v : Nat) (h : v ≤ 4000) : -9223372036854775808 ≤ unzz v ∧ unzz v ≤ 9223372036854775807 := unzz_in v (by unfold two64; omega)
theorem fldB_wf (k : Nat) (hk : k < 256) (b : List UInt8) (m : Msg) (h : fldB k b = some m) : m.wf := by
  have h2 := beI_2 b
  have h4 := beI_4 b
  have h22 := beI_2 (b.drop 2)
  have h24 := beI_4 (b.drop 2)
  have hz := unzz_small (rdNum (b.drop 2)).1
  unfold fldB at h
  split at h
  · cases h; exact ⟨by simp only; omega, h4, by simp, by simp, by simp, by simp⟩
  split at h
  · split at h
    · cases h; exact ⟨by simp only; omega, by simp, h2, h22, by simp, by simp⟩
    · cases h
  split at h
  · cases h; exact ⟨by simp only; omega, by simp, h2, by simp, h24, by simp⟩
  split at h
  · cases h; exact ⟨by simp only; omega, by simp, by simp, h2, by simp, by simp⟩
  split at h
  · split at h
    · rename_i hc
      cases h; exact ⟨by simp only; omega, by simp, h2, by simp, by simp, hz hc.2⟩
    · cases h
  · cases h; exact ⟨by simp only; omega, by simp, by simp, by simp, by simp, by simp⟩
theorem fldT_wf (t : List UInt8) (m : Msg) (h : fldT t = some m) : m.wf := by
  unfold fldT at h
  split at h
  · split at h
    · exact fldB_wf _ (UInt8.toNat_lt _) _ _ h
    · cases h
  · cases h
theorem be2_get (n : Int) (h : 0 ≤ n ∧ n < 65536) (l : List UInt8) : beI ((be2 n ++ l).take 2) = n := by
  rw [List.take_left' (be2_len n), beI_list, bN_be2 n h]
theorem tail4_get (n : Int) (h : 0 ≤ n ∧ n < 4294967296) (l : List UInt8) : beI ((tail4 n ++ l).take 4) = n := by
  rw [List.take_left' (tail4_length n), beI_list, bN_tail4 n h]
theorem zz_4000 (n : Int) (h : -1000 ≤ n ∧ n ≤ 1000) : zz n ≤ 4000 := by
  unfold zz
  split <;> omega
/-- the reference's fields of a raw datagram are the datagram -/
theorem fldT_raw (m : Msg) (hr : RightP m) (wf : m.wf) : fldT (rawM m) = some m := by
  obtain ⟨k, n, s, ak, i, u, l⟩ := m
  obtain ⟨a1, a2, a3, a4, a5, a6, a7, a8, a9⟩ := hr
  obtain ⟨_, wn, ws, wk, wu, _⟩ := wf
  simp only at *
  obtain ⟨kn, rfl⟩ := Int.eq_ofNat_of_zero_le (show 0 ≤ k by omega)
  have hd : (UInt8.ofNat (kn : Int).toNat).toNat = kn := by rw [byte_of _ (by omega)]; omega
  show fldT (80 :: UInt8.ofNat (kn : Int).toNat :: bodyM _) = _
  unfold fldT
  simp only
  rw [hd]
  have t4 := fun v : Int => tail4_length v
  have b2 := be2_len
  have npos := num_pos (zz l)
  have rpos := num_pos i.length
  obtain rfl | rfl | rfl | rfl | rfl | rfl | rfl : kn = 1 ∨ kn = 2 ∨ kn = 3 ∨ kn = 4 ∨ kn = 5 ∨ kn = 6 ∨ kn = 7 := by omega
  · have e := nil_of a7 (by decide)
    obtain rfl : s = 0 := by omega
    obtain rfl : ak = 0 := by omega
    obtain rfl : u = 0 := by omega
    obtain rfl : l = 0 := by omega
    subst e
    have h := tail4_get n wn []
    rw [List.append_nil] at h
    simp [bodyM, fldB, needF, t4, h]
  · have e := nil_of a7 (by decide)
    obtain rfl : s = 0 := by omega
    obtain rfl : ak = 0 := by omega
    obtain rfl : u = 0 := by omega
    obtain rfl : l = 0 := by omega
    subst e
    have h := tail4_get n wn []
    rw [List.append_nil] at h
    simp [bodyM, fldB, needF, t4, h]
  · obtain rfl : n = 0 := by omega
    obtain rfl : u = 0 := by omega
    obtain rfl : l = 0 := by omega
    have h1 := be2_get s ws (be2 ak ++ runBytes i)
    have h2 := be2_get ak wk (runBytes i)
    have h3 := rd_run i [] a2
    rw [List.append_nil] at h3
    have d2 : (be2 s ++ (be2 ak ++ runBytes i)).drop 2 = be2 ak ++ runBytes i := List.drop_left' rfl
    have d4 : (be2 s ++ (be2 ak ++ runBytes i)).drop 4 = runBytes i := by
      rw [← List.append_assoc]; exact List.drop_left' rfl
    have hl : 1 ≤ (runBytes i).length := by unfold runBytes; simp; omega
    have hb : bodyM ⟨((3 : Nat) : Int), 0, s, ak, i, 0, 0⟩ = be2 s ++ (be2 ak ++ runBytes i) := by simp [bodyM]
    rw [hb, if_pos ⟨trivial, by decide, by decide, by simp [needF, b2]; omega⟩]
    unfold fldB
    rw [if_neg (by decide), if_pos rfl, d4, d2, h3, if_pos rfl, h1, h2]
  · have e := nil_of a7 (by decide)
    obtain rfl : n = 0 := by omega
    obtain rfl : ak = 0 := by omega
    obtain rfl : l = 0 := by omega
    subst e
    have h1 := be2_get s ws (tail4 u)
    have h2 := tail4_get u wu []
    rw [List.append_nil] at h2
    have d2 : (be2 s ++ tail4 u).drop 2 = tail4 u := List.drop_left' rfl
    have hb : bodyM ⟨((4 : Nat) : Int), 0, s, 0, [], u, 0⟩ = be2 s ++ tail4 u := by simp [bodyM]
    rw [hb, if_pos ⟨trivial, by decide, by decide, by simp [needF, b2, t4]⟩]
    unfold fldB
    rw [if_neg (by decide), if_neg (by decide), if_pos rfl, d2, h1, h2]
  · have e := nil_of a7 (by decide)
    obtain rfl : n = 0 := by omega
    obtain rfl : s = 0 := by omega
    obtain rfl : u = 0 := by omega
    obtain rfl : l = 0 := by omega
    subst e
    have h := be2_get ak wk []
    rw [List.append_nil] at h
    have hb : bodyM ⟨((5 : Nat) : Int), 0, 0, ak, [], 0, 0⟩ = be2 ak := by simp [bodyM]
    rw [hb, if_pos ⟨trivial, by decide, by decide, by simp [needF, b2]⟩]
    unfold fldB
    rw [if_neg (by decide), if_neg (by decide), if_neg (by decide), if_pos rfl, h]
  · have e := nil_of a7 (by decide)
    obtain rfl : n = 0 := by omega
    obtain rfl : ak = 0 := by omega
    obtain rfl : u = 0 := by omega
    subst e
    have h1 := be2_get s ws (num (zz l))
    have h3 := rd_behind (zz l) (zz_in l (by omega)) []
    rw [List.append_nil] at h3
    have d2 : (be2 s ++ num (zz l)).drop 2 = num (zz l) := List.drop_left' rfl
    have hb : bodyM ⟨((6 : Nat) : Int), 0, s, 0, [], 0, l⟩ = be2 s ++ num (zz l) := by simp [bodyM]
    rw [hb, if_pos ⟨trivial, by decide, by decide, by simp [needF, b2]; omega⟩]
    unfold fldB
    rw [if_neg (by decide), if_neg (by decide), if_neg (by decide), if_neg (by decide), if_pos rfl, d2, h3]
    simp only
    rw [if_pos ⟨trivial, zz_4000 l a3⟩, h1]
    simp only [unzz_zz]
  · have e := nil_of a7 (by decide)
    obtain rfl : n = 0 := by omega
    obtain rfl : s = 0 := by omega
    obtain rfl : ak = 0 := by omega
    obtain rfl : u = 0 := by omega
    obtain rfl : l = 0 := by omega
    subst e
    simp [bodyM, fldB, needF]
theorem bN_take (j : Nat) (x : Rd) : ∃ v : Nat, bN (takeR j x).1 = (v : Int) ∧ v < 256 ^ j := by
  have h1 := take_len j x
  have h2 := beN_lt _ (takeR j x).1.data.toList rfl
  have h3 : 256 ^ (takeR j x).1.data.toList.length ≤ 256 ^ j := Nat.pow_le_pow_right (by omega) (by simpa using h1)
  exact ⟨_, rfl, Nat.lt_of_lt_of_le h2 h3⟩
theorem bN_t1 (x : Rd) : 0 ≤ bN (takeR 1 x).1 ∧ bN (takeR 1 x).1 < 256 := by
  obtain ⟨v, h1, h2⟩ := bN_take 1 x
  rw [h1]
  omega
theorem bN_t2 (x : Rd) : 0 ≤ bN (takeR 2 x).1 ∧ bN (takeR 2 x).1 < 65536 := by
  obtain ⟨v, h1, h2⟩ := bN_take 2 x
  rw [h1]
  omega
theorem bN_t4 (x : Rd) : 0 ≤ bN (takeR 4 x).1 ∧ bN (takeR 4 x).1 < 4294967296 := by
  obtain ⟨v, h1, h2⟩ := bN_take 4 x
  rw [h1]
  omega
theorem rds_in (x : Rd) : -9223372036854775808 ≤ (rdsR x).1 ∧ (rdsR x).1 ≤ 9223372036854775807 := unzz_in _ (rd_in _).1
theorem parse_wf (t : List UInt8) : (parseT t).1.wf := by
  have hk := bN_t1 ⟨(firstR t).2.s, bN (firstR t).1 != 80⟩
  have hk' : 0 ≤ bN (kindR t).1 ∧ bN (kindR t).1 < 256 := hk
  unfold parseT parseK
  split
  · exact ⟨by simp only; omega, bN_t4 _, by simp, by simp, by simp, by simp⟩
  split
  · exact ⟨by simp only; omega, by simp, bN_t2 _, bN_t2 _, by simp, by simp⟩
  split
  · exact ⟨by simp only; omega, by simp, bN_t2 _, by simp, bN_t4 _, by simp⟩
  split
  · exact ⟨by simp only; omega, by simp, by simp, bN_t2 _, by simp, by simp⟩
  split
  · exact ⟨by simp only; omega, by simp, bN_t2 _, by simp, by simp, rds_in _⟩
  · exact ⟨by simp only; omega, by simp, by simp, by simp, by simp, by simp⟩
def refT (t : List UInt8) : Msg × Int := if (refF t).2 = true ∧ rawM (refF t).1 = t then ((refF t).1, 0) else (Msg.zero, 4)
theorem unpT_refT (t : List UInt8) : unpT t = refT t := by
  unfold refT
  by_cases h : (refF t).2 = true ∧ rawM (refF t).1 = t
  · rw [if_pos h]
    obtain ⟨h1, h2⟩ := h
    unfold refF at h1 h2 ⊢
    cases hf : fldT t with
    | none => rw [hf] at h1; cases h1
    | some m =>
      rw [hf] at h1 h2
      simp only [decide_eq_true_eq] at h1 h2 ⊢
      have := unpT_raw m h1 (fldT_wf t m hf)
      rwa [h2] at this
  · rw [if_neg h]
    unfold unpT
    by_cases hw : wrongR (parseT t)
    · rw [if_pos hw]
    · exfalso
      apply h
      have h1 := parse_told t hw
      have hr : RightP (parseT t).1 := by
        by_cases hh : RightP (parseT t).1
        · exact hh
        · exact absurd (.inr (.inr hh)) hw
      have hf := fldT_raw _ hr (parse_wf t)
      rw [h1] at hf
      unfold refF
      rw [hf]
      exact ⟨decide_eq_true hr, h1⟩
end Go.Proofs.Ytlneddmfcheaiaa
/- The reference's fields of any text. -/
namespace Go.Proofs.Ytlneddmfcheaiaa
open Go.RowKit
set_option maxRecDepth 10000
variable {w : World}
theorem two_of (s : ByteArray) (h : 2 ≤ s.size) : s.data.toList = (s[0]'(by omega)) :: (s[1]'(by omega)) :: s.data.toList.drop 2 :=
  (List.drop_eq_getElem_cons (l := s.data.toList) (i := 0) (by simp; omega)).trans (congrArg (List.cons _) (List.drop_eq_getElem_cons (l := s.data.toList) (i := 1) (by simp; omega)))
theorem ex_in (s : ByteArray) (i j : Nat) : bN ((s.extract 2 s.size).extract i j) = beI (((s.data.toList.drop 2).drop i).take (j - i)) := by
  rw [bN_beI, extract_data, extract_end]
theorem ex_to (s : ByteArray) (i : Nat) : ((s.extract 2 s.size).extract i (s.size - 2)).data.toList = (s.data.toList.drop 2).drop i := by
  rw [extract_data, extract_end, List.take_of_length_le (by simp; omega)]
theorem refF_none {l : List UInt8} (h : fldT l = none) : refF l = (Msg.zero, false) := by unfold refF; rw [h]
theorem refF_some {l : List UInt8} {m : Msg} (h : fldT l = some m) : refF l = (m, decide (RightP m)) := by unfold refF; rw [h]
theorem c80 (c : UInt8) : c = 80 ↔ c.toNat = 80 := ⟨fun h => by rw [h]; rfl, fun h => UInt8.toNat_inj.1 h⟩
theorem fldT_two (c d : UInt8) (b : List UInt8) : fldT (c :: d :: b) = if c = 80 ∧ 1 ≤ d.toNat ∧ d.toNat ≤ 7 ∧ needF d.toNat ≤ b.length then fldB d.toNat b else none := rfl
theorem ref_fields (s : ByteArray) (hs : s.size ≤ 100000) : Calls Try.prog 59 #[.string s] w (FldPost w (refF s.data.toList).1 (refF s.data.toList).2) := by
  by_cases hz : s.size < 2
  · have e : fldT s.data.toList = none := by
      have hl : s.data.toList.length < 2 := by simpa using hz
      match hq : s.data.toList with
      | [] => rfl
      | [_] => rfl
      | _ :: _ :: _ => rw [hq] at hl; simp only [List.length_cons] at hl; omega
    rw [refF_none e]
    exact fld_short s hs hz
  have h2 : 2 ≤ s.size := by omega
  have htw := two_of s h2
  have hbl : (s.data.toList.drop 2).length = s.size - 2 := by simp
  have hF : fldT s.data.toList = if (s[0]'(by omega)) = 80 ∧ 1 ≤ (s[1]'(by omega)).toNat ∧ (s[1]'(by omega)).toNat ≤ 7 ∧ needF (s[1]'(by omega)).toNat ≤ (s.data.toList.drop 2).length then fldB (s[1]'(by omega)).toNat (s.data.toList.drop 2) else none := by
    conv => lhs; rw [htw]
    rfl
  by_cases h0 : (s[0]'(by omega)).toNat = 80
  rotate_left
  · rw [if_neg (fun h => h0 ((c80 _).1 h.1))] at hF
    rw [refF_none hF]
    exact fld_zero s hs h2 h0
  have h0' := (c80 _).2 h0
  by_cases hlo : (s[1]'(by omega)).toNat < 1
  · rw [if_neg (fun h => by have := h.2.1; omega)] at hF
    rw [refF_none hF]
    exact fld_kind s hs h2 h0 _ rfl (by omega) hlo
  by_cases hhi : 7 < (s[1]'(by omega)).toNat
  · rw [if_neg (fun h => by have := h.2.2.1; omega)] at hF
    rw [refF_none hF]
    exact fld_kindb s hs h2 h0 _ rfl (UInt8.toNat_lt _) hhi
  obtain ⟨k, hk⟩ : ∃ k, (s[1]'(by omega)).toNat = k := ⟨_, rfl⟩
  rw [hk, hbl] at hF
  rw [hk] at hlo hhi
  by_cases hnd : needF k ≤ s.size - 2
  rotate_left
  · rw [if_neg (fun h => hnd h.2.2.2)] at hF
    rw [refF_none hF]
    obtain rfl | rfl | rfl | rfl | rfl | rfl | rfl : k = 1 ∨ k = 2 ∨ k = 3 ∨ k = 4 ∨ k = 5 ∨ k = 6 ∨ k = 7 := by omega
    · simp [needF] at hnd; exact fld_len1 s hs h2 (by omega) h0 hk
    · simp [needF] at hnd; exact fld_len2 s hs h2 (by omega) h0 hk
    · simp [needF] at hnd; exact fld_len3 s hs h2 (by omega) h0 hk
    · simp [needF] at hnd; exact fld_len4 s hs h2 (by omega) h0 hk
    · simp [needF] at hnd; exact fld_len5 s hs h2 (by omega) h0 hk
    · simp [needF] at hnd; exact fld_len6 s hs h2 (by omega) h0 hk
    · simp [needF] at hnd
  rw [if_pos ⟨h0', by omega, by omega, hnd⟩] at hF
  have t2 := beI_2 (s.data.toList.drop 2)
  have t4 := beI_4 (s.data.toList.drop 2)
  have t22 := beI_2 ((s.data.toList.drop 2).drop 2)
  have t24 := beI_4 ((s.data.toList.drop 2).drop 2)
  obtain rfl | rfl | rfl | rfl | rfl | rfl | rfl : k = 1 ∨ k = 2 ∨ k = 3 ∨ k = 4 ∨ k = 5 ∨ k = 6 ∨ k = 7 := by omega
  · simp [needF] at hnd
    exact fld_1 s hs (by omega) h0 hk _ (ex_in s 0 4) t4 _ (refF_some hF)
  · simp [needF] at hnd
    exact fld_2 s hs (by omega) h0 hk _ (ex_in s 0 4) t4 _ (refF_some hF)
  · simp [needF] at hnd
    obtain ⟨⟨L, i, er⟩, hq⟩ : ∃ q, rdRun ((s.data.toList.drop 2).drop 4) = q := ⟨_, rfl⟩
    have hF' : fldT s.data.toList = if er = 0 then some ⟨((3 : Nat) : Int), 0, beI ((s.data.toList.drop 2).take 2), beI (((s.data.toList.drop 2).drop 2).take 2), L, 0, 0⟩ else none := by
      rw [hF]; unfold fldB; rw [if_neg (by decide), if_pos rfl, hq]
    by_cases he : er = 0
    · subst he
      rw [if_pos rfl] at hF'
      exact fld_3 s hs (by omega) h0 hk _ (ex_in s 0 2) t2 _ (ex_in s 2 4) t22 L i (by rw [ex_to]; exact hq) _ (refF_some hF')
    · rw [if_neg he] at hF'
      rw [refF_none hF']
      exact fld_3r s hs (by omega) h0 hk _ (ex_in s 0 2) t2 _ (ex_in s 2 4) t22 L i er (by rw [ex_to]; exact hq) he
  · simp [needF] at hnd
    exact fld_4 s hs (by omega) h0 hk _ (ex_in s 0 2) t2 _ (ex_in s 2 6) t24 _ (refF_some hF)
  · simp [needF] at hnd
    exact fld_5 s hs (by omega) h0 hk _ (ex_in s 0 2) t2 _ (refF_some hF)
  · simp [needF] at hnd
    obtain ⟨⟨v, i, er⟩, hq⟩ : ∃ q, rdNum ((s.data.toList.drop 2).drop 2) = q := ⟨_, rfl⟩
    have hF' : fldT s.data.toList = if er = 0 ∧ v ≤ 4000 then some ⟨((6 : Nat) : Int), 0, beI ((s.data.toList.drop 2).take 2), 0, [], 0, unzz v⟩ else none := by
      rw [hF]; unfold fldB; rw [if_neg (by decide), if_neg (by decide), if_neg (by decide), if_neg (by decide), if_pos rfl, hq]
    by_cases he : er = 0
    · subst he
      by_cases hv : v ≤ 4000
      · rw [if_pos ⟨rfl, hv⟩] at hF'
        by_cases hp : v % 2 = 0
        · unfold unzz at hF'
          rw [if_pos hp] at hF'
          exact fld_6e s hs (by omega) h0 hk _ (ex_in s 0 2) t2 v i (by rw [ex_to]; exact hq) hv hp _ (refF_some hF')
        · unfold unzz at hF'
          rw [if_neg hp] at hF'
          exact fld_6o s hs (by omega) h0 hk _ (ex_in s 0 2) t2 v i (by rw [ex_to]; exact hq) hv (by omega) _ (refF_some hF')
      · rw [if_neg (fun h => hv h.2)] at hF'
        rw [refF_none hF']
        exact fld_6b s hs (by omega) h0 hk _ (ex_in s 0 2) t2 v i (by rw [ex_to]; exact hq) (by omega)
    · rw [if_neg (fun h => he h.1)] at hF'
      rw [refF_none hF']
      exact fld_6r s hs (by omega) h0 hk _ (ex_in s 0 2) t2 v i er (by rw [ex_to]; exact hq) he
  · exact fld_7 s hs (by omega) h0 hk _ (refF_some hF)
end Go.Proofs.Ytlneddmfcheaiaa
/- What the reference's Unpack returns. -/
namespace Go.Proofs.Ytlneddmfcheaiaa
open Go.RowKit
set_option maxRecDepth 10000
variable {w : World}
theorem str_ne {U s : ByteArray} (h : U ≠ s) : (U.toList == s.toList) = false := by
  rw [beq_eq_false_iff_ne]
  intro h'
  rw [ByteArray.toList_eq, ByteArray.toList_eq] at h'
  exact h (ByteArray.ext (Array.ext' h'))
theorem bytes_other {w : World} {a : Option Addr} {c B : Nat} {L : List UInt8} (hb : IsBytes w a c L) (hres : w.heap[B]? = some (.cells zeroC 26 (0, 0))) (h : L ≠ []) : ∀ x, a = some x → ¬ x.block = B := by
  intro x hx hB
  rcases hb.2.2 with h0 | ⟨b, o, ha, hc⟩
  · exact h h0
  · rw [ha] at hx
    cases hx
    simp only at hB
    subst hB
    have h1 := hc 0 (List.length_pos_iff.2 h)
    unfold World.cell? at h1
    rw [hres] at h1
    unfold byteV at h1
    match o, h1 with
    | 0, h1 => simp [zeroC] at h1
    | 1, h1 => simp [zeroC] at h1
    | 2, h1 => simp [zeroC] at h1
    | 3, h1 => simp [zeroC] at h1
    | 4, h1 => simp [zeroC] at h1
    | 5, h1 => simp [zeroC] at h1
    | 6, h1 => simp [zeroC] at h1
    | n + 7, h1 => simp [zeroC] at h1
theorem ref_unp_short (s : ByteArray) (hs : s.size < 4) : Calls Try.prog 19 #[.string s] w (UnpPost w Msg.zero 3) := by
  go_enter Try.func19, Try.ntmps19
  go_wp2_with fail
  refine bodyPost_ret (v := .tuple #[.agg #[.int .i64 0, .int .u32 0, .int .u16 0, .int .u16 0, .slice none 0 0, .int .u32 0, .int .i64 0], .int .i64 3]) (by simp [results, Try.results19, go_sem]) rfl ?_
  exact ⟨none, 0, rfl, IsBytes.none _, (Below.refl _ w).alloc (Nat.le_refl _) _⟩
set_option maxHeartbeats 4000000 in
theorem ref_unp_seal (s T : ByteArray) (hs : s.size ≤ 100000) (h4 : 4 ≤ s.size) (hT : s.extract 0 (s.size - 4) = T) (U : ByteArray) (hU : (⟨(sealed T.data.toList).toArray⟩ : ByteArray) = U) (hne : U ≠ s) : Calls Try.prog 19 #[.string s] w (UnpPost w Msg.zero 15) := by
  have hTs : T.size ≤ 100000 := by rw [← hT]; simp; omega
  have HTs := hid hTs
  have HS := hid (fun W => ref_Seal T (by omega) W)
  rw [hU] at HS
  have HF := hid (fun W => ref_fields (w := W) T hTs)
  clear hU hTs
  have hq := str_ne hne
  go_enter Try.func19, Try.ntmps19
  go_wp2_with fail
  refine (HS.out _).mono ?_
  rintro e w1 ⟨rfl, hb1⟩
  have hk1 : Keeps (fun _ => False) _ w1 := Keeps.of_below hb1 (fun k h1 h2 => by omega)
  have hres := hk1.heap (blk_new w (.cells zeroC 26)) id
  have hW0 := (Below.refl w.heap.size w).alloc (Nat.le_refl _) (.cells zeroC 26)
  have hW := hW0.trans (hk1.below hW0.size (fun k h1 h2 => by omega))
  unfold zeroC at hres
  clear hb1 hk1 hW0
  have f0 := blk_free hres 0
  have e0 := blk_cell hres (k := 0) rfl
  have f1 := blk_free hres 1
  have e1 := blk_cell hres (k := 1) rfl
  have f2 := blk_free hres 2
  have e2 := blk_cell hres (k := 2) rfl
  have f3 := blk_free hres 3
  have e3 := blk_cell hres (k := 3) rfl
  have f4 := blk_free hres 4
  have e4 := blk_cell hres (k := 4) rfl
  have f5 := blk_free hres 5
  have e5 := blk_cell hres (k := 5) rfl
  have f6 := blk_free hres 6
  have e6 := blk_cell hres (k := 6) rfl
  go_wp2_with fail
  have hf := blk_store hres (.int .i64 0) (.int .u32 0) (.int .u16 0) (.int .u16 0) (.slice none 0 0) (.int .u32 0) (.int .i64 0)
  have d0 := blk_cell hf (k := 0) rfl
  have d1 := blk_cell hf (k := 1) rfl
  have d2 := blk_cell hf (k := 2) rfl
  have d3 := blk_cell hf (k := 3) rfl
  have d4 := blk_cell hf (k := 4) rfl
  have d5 := blk_cell hf (k := 5) rfl
  have d6 := blk_cell hf (k := 6) rfl
  have hbl := (((((((hW.setCell (p := ⟨w.heap.size, 0, none⟩) (Nat.le_refl _) (.int .i64 0)).setCell (p := ⟨w.heap.size, 1, none⟩) (Nat.le_refl _) (.int .u32 0)).setCell (p := ⟨w.heap.size, 2, none⟩) (Nat.le_refl _) (.int .u16 0)).setCell (p := ⟨w.heap.size, 3, none⟩) (Nat.le_refl _) (.int .u16 0)).setCell (p := ⟨w.heap.size, 4, none⟩) (Nat.le_refl _) (.slice none 0 0)).setCell (p := ⟨w.heap.size, 5, none⟩) (Nat.le_refl _) (.int .u32 0)).setCell (p := ⟨w.heap.size, 6, none⟩) (Nat.le_refl _) (.int .i64 0))
  refine bodyPost_ret (v := .tuple #[.agg #[.int .i64 0, .int .u32 0, .int .u16 0, .int .u16 0, .slice none 0 0, .int .u32 0, .int .i64 0], .int .i64 15]) (by simp [results, Try.results19, go_sem, d0, d1, d2, d3, d4, d5, d6]) rfl ?_
  exact ⟨none, 0, rfl, IsBytes.none _, hbl⟩
set_option maxHeartbeats 4000000 in
theorem ref_unp_no (s T : ByteArray) (hs : s.size ≤ 100000) (h4 : 4 ≤ s.size) (hT : s.extract 0 (s.size - 4) = T) (U : ByteArray) (hU : (⟨(sealed T.data.toList).toArray⟩ : ByteArray) = U) (hue : U = s) (m : Msg) (hr : refF T.data.toList = (m, false)) : Calls Try.prog 19 #[.string s] w (UnpPost w Msg.zero 4) := by
  have Hr := hid hr
  clear hr
  have hTs : T.size ≤ 100000 := by rw [← hT]; simp; omega
  have HTs := hid hTs
  have HS := hid (fun W => ref_Seal T (by omega) W)
  rw [hU] at HS
  have HF := hid (fun W => ref_fields (w := W) T hTs)
  clear hU hTs
  go_enter Try.func19, Try.ntmps19
  go_wp2_with fail
  refine (HS.out _).mono ?_
  rintro e w1 ⟨rfl, hb1⟩
  have hk1 : Keeps (fun _ => False) _ w1 := Keeps.of_below hb1 (fun k h1 h2 => by omega)
  have hres := hk1.heap (blk_new w (.cells zeroC 26)) id
  have hW0 := (Below.refl w.heap.size w).alloc (Nat.le_refl _) (.cells zeroC 26)
  have hW := hW0.trans (hk1.below hW0.size (fun k h1 h2 => by omega))
  unfold zeroC at hres
  clear hb1 hk1 hW0
  go_wp2_with fail
  refine (HF.out _).mono ?_
  rw [Hr.out]
  rintro e w2 ⟨a, c, rfl, hby, hb2⟩
  have hk2 : Keeps (fun _ => False) w1 w2 := Keeps.of_below hb2 (fun k h1 h2 => by omega)
  have hres2 := blk_alloc (hk2.heap hres id) (.cells #[.int .i64 m.kind, .int .u32 m.nonce, .int .u16 m.serial, .int .u16 m.ack, .slice a m.ins.length c, .int .u32 m.sum, .int .i64 m.lead] 26)
  have hW2 := (hW.trans (hk2.below hW.size (fun k h1 h2 => by omega))).alloc (hW.trans (hk2.below hW.size (fun k h1 h2 => by omega))).size (.cells #[.int .i64 m.kind, .int .u32 m.nonce, .int .u16 m.serial, .int .u16 m.ack, .slice a m.ins.length c, .int .u32 m.sum, .int .i64 m.lead] 26)
  have hmsg := blk_new w2 (.cells #[.int .i64 m.kind, .int .u32 m.nonce, .int .u16 m.serial, .int .u16 m.ack, .slice a m.ins.length c, .int .u32 m.sum, .int .i64 m.lead] 26)
  have hby2 := hby.keeps ((Keeps.refl (fun _ => False) w2).alloc (.cells #[.int .i64 m.kind, .int .u32 m.nonce, .int .u16 m.serial, .int .u16 m.ack, .slice a m.ins.length c, .int .u32 m.sum, .int .i64 m.lead] 26)) (fun _ _ _ => id)
  clear hres hW hk2 hb2 hby
  have hres := hres2
  have hW := hW2
  clear hres2 hW2
  have f0 := blk_free hres 0
  have e0 := blk_cell hres (k := 0) rfl
  have f1 := blk_free hres 1
  have e1 := blk_cell hres (k := 1) rfl
  have f2 := blk_free hres 2
  have e2 := blk_cell hres (k := 2) rfl
  have f3 := blk_free hres 3
  have e3 := blk_cell hres (k := 3) rfl
  have f4 := blk_free hres 4
  have e4 := blk_cell hres (k := 4) rfl
  have f5 := blk_free hres 5
  have e5 := blk_cell hres (k := 5) rfl
  have f6 := blk_free hres 6
  have e6 := blk_cell hres (k := 6) rfl
  go_wp2_with fail
  have hf := blk_store hres (.int .i64 0) (.int .u32 0) (.int .u16 0) (.int .u16 0) (.slice none 0 0) (.int .u32 0) (.int .i64 0)
  have d0 := blk_cell hf (k := 0) rfl
  have d1 := blk_cell hf (k := 1) rfl
  have d2 := blk_cell hf (k := 2) rfl
  have d3 := blk_cell hf (k := 3) rfl
  have d4 := blk_cell hf (k := 4) rfl
  have d5 := blk_cell hf (k := 5) rfl
  have d6 := blk_cell hf (k := 6) rfl
  have hbl := (((((((hW.setCell (p := ⟨w.heap.size, 0, none⟩) (Nat.le_refl _) (.int .i64 0)).setCell (p := ⟨w.heap.size, 1, none⟩) (Nat.le_refl _) (.int .u32 0)).setCell (p := ⟨w.heap.size, 2, none⟩) (Nat.le_refl _) (.int .u16 0)).setCell (p := ⟨w.heap.size, 3, none⟩) (Nat.le_refl _) (.int .u16 0)).setCell (p := ⟨w.heap.size, 4, none⟩) (Nat.le_refl _) (.slice none 0 0)).setCell (p := ⟨w.heap.size, 5, none⟩) (Nat.le_refl _) (.int .u32 0)).setCell (p := ⟨w.heap.size, 6, none⟩) (Nat.le_refl _) (.int .i64 0))
  refine bodyPost_ret (v := .tuple #[.agg #[.int .i64 0, .int .u32 0, .int .u16 0, .int .u16 0, .slice none 0 0, .int .u32 0, .int .i64 0], .int .i64 4]) (by simp [results, Try.results19, go_sem, d0, d1, d2, d3, d4, d5, d6]) rfl ?_
  exact ⟨none, 0, rfl, IsBytes.none _, hbl⟩
set_option maxHeartbeats 4000000 in
theorem ref_unp_diff (s T : ByteArray) (hs : s.size ≤ 100000) (h4 : 4 ≤ s.size) (hT : s.extract 0 (s.size - 4) = T) (U : ByteArray) (hU : (⟨(sealed T.data.toList).toArray⟩ : ByteArray) = U) (hue : U = s) (m : Msg) (hr : refF T.data.toList = (m, true)) (wf : m.wf) (rp : RightP m) (V : ByteArray) (hV : (⟨(packM m).toArray⟩ : ByteArray) = V) (hd : V ≠ s) : Calls Try.prog 19 #[.string s] w (UnpPost w Msg.zero 4) := by
  have hq2 := str_ne hd
  have Hr := hid hr
  have HP := hid (fun (W : World) (a : Option Addr) (c : Nat) (hb : IsBytes W a c m.ins) => ref_Pack (w := W) m hb wf rp)
  rw [hV] at HP
  clear hr hV wf rp
  have hTs : T.size ≤ 100000 := by rw [← hT]; simp; omega
  have HTs := hid hTs
  have HS := hid (fun W => ref_Seal T (by omega) W)
  rw [hU] at HS
  have HF := hid (fun W => ref_fields (w := W) T hTs)
  clear hU hTs
  go_enter Try.func19, Try.ntmps19
  go_wp2_with fail
  refine (HS.out _).mono ?_
  rintro e w1 ⟨rfl, hb1⟩
  have hk1 : Keeps (fun _ => False) _ w1 := Keeps.of_below hb1 (fun k h1 h2 => by omega)
  have hres := hk1.heap (blk_new w (.cells zeroC 26)) id
  have hW0 := (Below.refl w.heap.size w).alloc (Nat.le_refl _) (.cells zeroC 26)
  have hW := hW0.trans (hk1.below hW0.size (fun k h1 h2 => by omega))
  unfold zeroC at hres
  clear hb1 hk1 hW0
  go_wp2_with fail
  refine (HF.out _).mono ?_
  rw [Hr.out]
  rintro e w2 ⟨a, c, rfl, hby, hb2⟩
  have hk2 : Keeps (fun _ => False) w1 w2 := Keeps.of_below hb2 (fun k h1 h2 => by omega)
  have hres2 := blk_alloc (hk2.heap hres id) (.cells #[.int .i64 m.kind, .int .u32 m.nonce, .int .u16 m.serial, .int .u16 m.ack, .slice a m.ins.length c, .int .u32 m.sum, .int .i64 m.lead] 26)
  have hW2 := (hW.trans (hk2.below hW.size (fun k h1 h2 => by omega))).alloc (hW.trans (hk2.below hW.size (fun k h1 h2 => by omega))).size (.cells #[.int .i64 m.kind, .int .u32 m.nonce, .int .u16 m.serial, .int .u16 m.ack, .slice a m.ins.length c, .int .u32 m.sum, .int .i64 m.lead] 26)
  have hmsg := blk_new w2 (.cells #[.int .i64 m.kind, .int .u32 m.nonce, .int .u16 m.serial, .int .u16 m.ack, .slice a m.ins.length c, .int .u32 m.sum, .int .i64 m.lead] 26)
  have hby2 := hby.keeps ((Keeps.refl (fun _ => False) w2).alloc (.cells #[.int .i64 m.kind, .int .u32 m.nonce, .int .u16 m.serial, .int .u16 m.ack, .slice a m.ins.length c, .int .u32 m.sum, .int .i64 m.lead] 26)) (fun _ _ _ => id)
  clear hres hW hk2 hb2 hby
  have hres := hres2
  have hW := hW2
  clear hres2 hW2
  have n0 := blk_cell hmsg (k := 0) rfl
  have n1 := blk_cell hmsg (k := 1) rfl
  have n2 := blk_cell hmsg (k := 2) rfl
  have n3 := blk_cell hmsg (k := 3) rfl
  have n4 := blk_cell hmsg (k := 4) rfl
  have n5 := blk_cell hmsg (k := 5) rfl
  have n6 := blk_cell hmsg (k := 6) rfl
  go_wp2_with fail
  refine (HP.out _ _ _ hby2).mono ?_
  rintro e w3 ⟨rfl, hb3⟩
  have hk3 : Keeps (fun _ => False) _ w3 := Keeps.of_below hb3 (fun k h1 h2 => by omega)
  have hres3 := hk3.heap hres id
  have hmsg3 := hk3.heap hmsg id
  have hby3 := hby2.keeps hk3 (fun _ _ _ => id)
  have hW3 := hW.trans (hk3.below hW.size (fun k h1 h2 => by omega))
  clear hres hmsg hby2 hW hk3 hb3
  have hres := hres3
  have hmsg := hmsg3
  have hW := hW3
  clear hres3 hmsg3 hW3
  have f0 := blk_free hres 0
  have e0 := blk_cell hres (k := 0) rfl
  have f1 := blk_free hres 1
  have e1 := blk_cell hres (k := 1) rfl
  have f2 := blk_free hres 2
  have e2 := blk_cell hres (k := 2) rfl
  have f3 := blk_free hres 3
  have e3 := blk_cell hres (k := 3) rfl
  have f4 := blk_free hres 4
  have e4 := blk_cell hres (k := 4) rfl
  have f5 := blk_free hres 5
  have e5 := blk_cell hres (k := 5) rfl
  have f6 := blk_free hres 6
  have e6 := blk_cell hres (k := 6) rfl
  go_wp2_with fail
  have hf := blk_store hres (.int .i64 0) (.int .u32 0) (.int .u16 0) (.int .u16 0) (.slice none 0 0) (.int .u32 0) (.int .i64 0)
  have d0 := blk_cell hf (k := 0) rfl
  have d1 := blk_cell hf (k := 1) rfl
  have d2 := blk_cell hf (k := 2) rfl
  have d3 := blk_cell hf (k := 3) rfl
  have d4 := blk_cell hf (k := 4) rfl
  have d5 := blk_cell hf (k := 5) rfl
  have d6 := blk_cell hf (k := 6) rfl
  have hbl := (((((((hW.setCell (p := ⟨w.heap.size, 0, none⟩) (Nat.le_refl _) (.int .i64 0)).setCell (p := ⟨w.heap.size, 1, none⟩) (Nat.le_refl _) (.int .u32 0)).setCell (p := ⟨w.heap.size, 2, none⟩) (Nat.le_refl _) (.int .u16 0)).setCell (p := ⟨w.heap.size, 3, none⟩) (Nat.le_refl _) (.int .u16 0)).setCell (p := ⟨w.heap.size, 4, none⟩) (Nat.le_refl _) (.slice none 0 0)).setCell (p := ⟨w.heap.size, 5, none⟩) (Nat.le_refl _) (.int .u32 0)).setCell (p := ⟨w.heap.size, 6, none⟩) (Nat.le_refl _) (.int .i64 0))
  refine bodyPost_ret (v := .tuple #[.agg #[.int .i64 0, .int .u32 0, .int .u16 0, .int .u16 0, .slice none 0 0, .int .u32 0, .int .i64 0], .int .i64 4]) (by simp [results, Try.results19, go_sem, d0, d1, d2, d3, d4, d5, d6]) rfl ?_
  exact ⟨none, 0, rfl, IsBytes.none _, hbl⟩
set_option maxHeartbeats 4000000 in
theorem ref_unp_ok (s T : ByteArray) (hs : s.size ≤ 100000) (h4 : 4 ≤ s.size) (hT : s.extract 0 (s.size - 4) = T) (U : ByteArray) (hU : (⟨(sealed T.data.toList).toArray⟩ : ByteArray) = U) (hue : U = s) (m : Msg) (hr : refF T.data.toList = (m, true)) (wf : m.wf) (rp : RightP m) (V : ByteArray) (hV : (⟨(packM m).toArray⟩ : ByteArray) = V) (hd : V = s) : Calls Try.prog 19 #[.string s] w (UnpPost w m 0) := by
  have Hr := hid hr
  have HP := hid (fun (W : World) (a : Option Addr) (c : Nat) (hb : IsBytes W a c m.ins) => ref_Pack (w := W) m hb wf rp)
  rw [hV] at HP
  clear hr hV wf rp
  have hTs : T.size ≤ 100000 := by rw [← hT]; simp; omega
  have HTs := hid hTs
  have HS := hid (fun W => ref_Seal T (by omega) W)
  rw [hU] at HS
  have HF := hid (fun W => ref_fields (w := W) T hTs)
  clear hU hTs
  go_enter Try.func19, Try.ntmps19
  go_wp2_with fail
  refine (HS.out _).mono ?_
  rintro e w1 ⟨rfl, hb1⟩
  have hk1 : Keeps (fun _ => False) _ w1 := Keeps.of_below hb1 (fun k h1 h2 => by omega)
  have hres := hk1.heap (blk_new w (.cells zeroC 26)) id
  have hW0 := (Below.refl w.heap.size w).alloc (Nat.le_refl _) (.cells zeroC 26)
  have hW := hW0.trans (hk1.below hW0.size (fun k h1 h2 => by omega))
  unfold zeroC at hres
  clear hb1 hk1 hW0
  go_wp2_with fail
  refine (HF.out _).mono ?_
  rw [Hr.out]
  rintro e w2 ⟨a, c, rfl, hby, hb2⟩
  have hk2 : Keeps (fun _ => False) w1 w2 := Keeps.of_below hb2 (fun k h1 h2 => by omega)
  have hres2 := blk_alloc (hk2.heap hres id) (.cells #[.int .i64 m.kind, .int .u32 m.nonce, .int .u16 m.serial, .int .u16 m.ack, .slice a m.ins.length c, .int .u32 m.sum, .int .i64 m.lead] 26)
  have hW2 := (hW.trans (hk2.below hW.size (fun k h1 h2 => by omega))).alloc (hW.trans (hk2.below hW.size (fun k h1 h2 => by omega))).size (.cells #[.int .i64 m.kind, .int .u32 m.nonce, .int .u16 m.serial, .int .u16 m.ack, .slice a m.ins.length c, .int .u32 m.sum, .int .i64 m.lead] 26)
  have hmsg := blk_new w2 (.cells #[.int .i64 m.kind, .int .u32 m.nonce, .int .u16 m.serial, .int .u16 m.ack, .slice a m.ins.length c, .int .u32 m.sum, .int .i64 m.lead] 26)
  have hby2 := hby.keeps ((Keeps.refl (fun _ => False) w2).alloc (.cells #[.int .i64 m.kind, .int .u32 m.nonce, .int .u16 m.serial, .int .u16 m.ack, .slice a m.ins.length c, .int .u32 m.sum, .int .i64 m.lead] 26)) (fun _ _ _ => id)
  clear hres hW hk2 hb2 hby
  have hres := hres2
  have hW := hW2
  clear hres2 hW2
  have n0 := blk_cell hmsg (k := 0) rfl
  have n1 := blk_cell hmsg (k := 1) rfl
  have n2 := blk_cell hmsg (k := 2) rfl
  have n3 := blk_cell hmsg (k := 3) rfl
  have n4 := blk_cell hmsg (k := 4) rfl
  have n5 := blk_cell hmsg (k := 5) rfl
  have n6 := blk_cell hmsg (k := 6) rfl
  go_wp2_with fail
  refine (HP.out _ _ _ hby2).mono ?_
  rintro e w3 ⟨rfl, hb3⟩
  have hk3 : Keeps (fun _ => False) _ w3 := Keeps.of_below hb3 (fun k h1 h2 => by omega)
  have hres3 := hk3.heap hres id
  have hmsg3 := hk3.heap hmsg id
  have hby3 := hby2.keeps hk3 (fun _ _ _ => id)
  have hW3 := hW.trans (hk3.below hW.size (fun k h1 h2 => by omega))
  clear hres hmsg hby2 hW hk3 hb3
  have hres := hres3
  have hmsg := hmsg3
  have hW := hW3
  clear hres3 hmsg3 hW3
  clear n0 n1 n2 n3 n4 n5 n6
  have n0 := blk_cell hmsg (k := 0) rfl
  have n1 := blk_cell hmsg (k := 1) rfl
  have n2 := blk_cell hmsg (k := 2) rfl
  have n3 := blk_cell hmsg (k := 3) rfl
  have n4 := blk_cell hmsg (k := 4) rfl
  have n5 := blk_cell hmsg (k := 5) rfl
  have n6 := blk_cell hmsg (k := 6) rfl
  have f0 := blk_free hres 0
  have e0 := blk_cell hres (k := 0) rfl
  have f1 := blk_free hres 1
  have e1 := blk_cell hres (k := 1) rfl
  have f2 := blk_free hres 2
  have e2 := blk_cell hres (k := 2) rfl
  have f3 := blk_free hres 3
  have e3 := blk_cell hres (k := 3) rfl
  have f4 := blk_free hres 4
  have e4 := blk_cell hres (k := 4) rfl
  have f5 := blk_free hres 5
  have e5 := blk_cell hres (k := 5) rfl
  have f6 := blk_free hres 6
  have e6 := blk_cell hres (k := 6) rfl
  have hne : m.ins ≠ [] → ∀ x, a = some x → ¬ x.block = w.heap.size := fun h => bytes_other hby3 hres h
  go_wp2_with fail
  have hf := blk_store hres (.int .i64 m.kind) (.int .u32 m.nonce) (.int .u16 m.serial) (.int .u16 m.ack) (.slice a m.ins.length c) (.int .u32 m.sum) (.int .i64 m.lead)
  have d0 := blk_cell hf (k := 0) rfl
  have d1 := blk_cell hf (k := 1) rfl
  have d2 := blk_cell hf (k := 2) rfl
  have d3 := blk_cell hf (k := 3) rfl
  have d4 := blk_cell hf (k := 4) rfl
  have d5 := blk_cell hf (k := 5) rfl
  have d6 := blk_cell hf (k := 6) rfl
  have hbl := (((((((hW.setCell (p := ⟨w.heap.size, 0, none⟩) (Nat.le_refl _) (.int .i64 m.kind)).setCell (p := ⟨w.heap.size, 1, none⟩) (Nat.le_refl _) (.int .u32 m.nonce)).setCell (p := ⟨w.heap.size, 2, none⟩) (Nat.le_refl _) (.int .u16 m.serial)).setCell (p := ⟨w.heap.size, 3, none⟩) (Nat.le_refl _) (.int .u16 m.ack)).setCell (p := ⟨w.heap.size, 4, none⟩) (Nat.le_refl _) (.slice a m.ins.length c)).setCell (p := ⟨w.heap.size, 5, none⟩) (Nat.le_refl _) (.int .u32 m.sum)).setCell (p := ⟨w.heap.size, 6, none⟩) (Nat.le_refl _) (.int .i64 m.lead))
  refine bodyPost_ret (v := .tuple #[.agg #[.int .i64 m.kind, .int .u32 m.nonce, .int .u16 m.serial, .int .u16 m.ack, .slice a m.ins.length c, .int .u32 m.sum, .int .i64 m.lead], .int .i64 0]) (by simp [results, Try.results19, go_sem, d0, d1, d2, d3, d4, d5, d6]) rfl ?_
  exact ⟨a, c, rfl, hby3.keeps ((((((((Keeps.refl (fun b => b = w.heap.size) w3).setCell (p := ⟨w.heap.size, 0, none⟩) rfl _).setCell (p := ⟨w.heap.size, 1, none⟩) rfl _).setCell (p := ⟨w.heap.size, 2, none⟩) rfl _).setCell (p := ⟨w.heap.size, 3, none⟩) rfl _).setCell (p := ⟨w.heap.size, 4, none⟩) rfl _).setCell (p := ⟨w.heap.size, 5, none⟩) rfl _).setCell (p := ⟨w.heap.size, 6, none⟩) rfl _) hne, hbl⟩
end Go.Proofs.Ytlneddmfcheaiaa
/- The law WireReads. -/
namespace Go.Proofs.Ytlneddmfcheaiaa
open Go.RowKit
set_option maxRecDepth 10000
variable {w : World}
theorem refF_true {t : List UInt8} {m : Msg} (h : refF t = (m, true)) : m.wf ∧ RightP m := by
  unfold refF at h
  cases hf : fldT t with
  | none => rw [hf] at h; cases h
  | some m' =>
    rw [hf] at h
    simp only [Prod.mk.injEq, decide_eq_true_eq] at h
    obtain ⟨rfl, h2⟩ := h
    exact ⟨fldT_wf t _ hf, h2⟩
theorem sealed_inj' {a b : List UInt8} (h : sealed a = sealed b) : a = b := by
  have := congrArg opened h
  rw [opened_sealed, opened_sealed] at this
  exact (Prod.mk.inj this).1
theorem zero_wf : Msg.zero.wf := by constructor <;> simp [Msg.zero]
theorem unp_told (l : List UInt8) : (unpM l).1.wf ∧ ((unpM l).2 = 0 → packS (unpM l).1 = l ∧ packE (unpM l).1 = 0) := by
  unfold unpM
  by_cases h0 : (opened l).2 = 0
  rotate_left
  · rw [if_neg h0]
    exact ⟨zero_wf, fun h => absurd h h0⟩
  rw [if_pos h0, unpT_refT]
  have hs : sealed (opened l).1 = l := by
    unfold opened at h0 ⊢
    split at h0
    · cases h0
    · rename_i h4
      rw [if_neg h4]
      split at h0
      · rename_i h5
        rw [if_pos h5]
        exact h5
      · cases h0
  generalize (opened l).1 = t at *
  unfold refT
  obtain ⟨⟨m, b⟩, hr⟩ : ∃ q, refF t = q := ⟨_, rfl⟩
  rw [hr]
  by_cases hc : b = true ∧ rawM m = t
  · rw [if_pos hc]
    obtain ⟨rfl, hraw⟩ := hc
    obtain ⟨h1, h2⟩ := refF_true hr
    refine ⟨h1, fun _ => ?_⟩
    unfold packS packE
    simp only
    rw [if_pos h2, if_pos h2]
    refine ⟨?_, rfl⟩
    unfold packM
    rw [hraw, hs]
  · rw [if_neg hc]
    exact ⟨zero_wf, fun h => absurd h (by decide)⟩
theorem ref_Unpack (s : ByteArray) (hs : s.size ≤ 100000) : Calls Try.prog 19 #[.string s] w (UnpPost w (unpM s.data.toList).1 (unpM s.data.toList).2) := by
  have hlen : s.data.toList.length = s.size := by simp
  by_cases h4 : s.size < 4
  · have e : unpM s.data.toList = (Msg.zero, 3) := by
      have hop : opened s.data.toList = ([], 3) := by
        unfold opened
        rw [if_pos (by rw [hlen]; exact h4)]
      unfold unpM
      rw [hop, if_neg (by decide)]
    rw [e]
    exact ref_unp_short s h4
  have h4' : 4 ≤ s.size := by omega
  obtain ⟨T, hT⟩ : ∃ T, s.extract 0 (s.size - 4) = T := ⟨_, rfl⟩
  have hTl : T.data.toList = s.data.toList.take (s.size - 4) := by rw [← hT, extract_data]; rfl
  have hop : opened s.data.toList = if sealed T.data.toList = s.data.toList then (T.data.toList, 0) else ([], 15) := by
    unfold opened
    rw [if_neg (by rw [hlen]; exact h4), hlen, ← hTl]
  by_cases hsl : sealed T.data.toList = s.data.toList
  rotate_left
  · rw [if_neg hsl] at hop
    have e : unpM s.data.toList = (Msg.zero, 15) := by
      unfold unpM
      rw [hop, if_neg (by decide)]
    rw [e]
    refine ref_unp_seal s T hs h4' hT _ rfl (fun h => hsl ?_)
    rw [← h]
  rw [if_pos hsl] at hop
  have hU : (⟨(sealed T.data.toList).toArray⟩ : ByteArray) = s := by rw [hsl]
  have e : unpM s.data.toList = refT T.data.toList := by
    unfold unpM
    rw [hop, if_pos rfl, unpT_refT]
  rw [e]
  unfold refT
  obtain ⟨⟨m, b⟩, hr⟩ : ∃ q, refF T.data.toList = q := ⟨_, rfl⟩
  rw [hr]
  cases b with
  | false =>
    rw [if_neg (fun h => by cases h.1)]
    exact ref_unp_no s T hs h4' hT _ rfl hU m hr
  | true =>
    obtain ⟨h1, h2⟩ := refF_true hr
    by_cases hraw : rawM m = T.data.toList
    · rw [if_pos ⟨rfl, hraw⟩]
      exact ref_unp_ok s T hs h4' hT _ rfl hU m hr h1 h2 _ rfl (by unfold packM; rw [hraw]; exact hU)
    · rw [if_neg (fun h => hraw h.2)]
      refine ref_unp_diff s T hs h4' hT _ rfl hU m hr h1 h2 _ rfl (fun h => hraw ?_)
      have h3 : packM m = s.data.toList := by rw [← h]
      rw [← hsl] at h3
      exact sealed_inj' h3
set_option maxHeartbeats 4000000 in
theorem law_WireReads (s : ByteArray) :
    Calls Try.prog 5 #[.string s] w fun e w' => e = .returned (.bool true) ∧ Below w.heap.size w w' := by
  by_cases hs : 400 < s.size
  · go_enter Try.func5, Try.ntmps5
    go_wp2_with fail
    refine (awake07 _).mono ?_
    rintro e w1 ⟨rfl, hb1⟩
    go_wp2_with fail
    go_ret
    exact ⟨rfl, hb1⟩
  have hs' : s.size ≤ 400 := by omega
  go_enter Try.func5, Try.ntmps5
  go_wp2_with fail
  refine (awake07 _).mono ?_
  rintro e w1 ⟨rfl, hb1⟩
  go_wp2_with fail
  go_loopg [0, 3] 2 (fun g sv iv wr => ∃ (k : Nat) (t : ByteArray), g = 2 - k ∧ k ≤ 2 ∧ sv = .string t ∧ iv = .int .i64 k ∧ t.size ≤ 400 + 4 * k ∧ Below w.heap.size w wr)
  case atStart => exact ⟨0, s, rfl, by omega, rfl, rfl, by omega, hb1⟩
  case round =>
    obtain ⟨k, t, hg, hk, rfl, rfl, ht, hW⟩ := hrel
    by_cases hlt : k < 2
    · obtain ⟨⟨m, er⟩, hun⟩ : ∃ q, unpM t.data.toList = q := ⟨_, rfl⟩
      have htold := unp_told t.data.toList
      have hU := fun W => wire_Unpack (w := W) t (by omega)
      have hR := fun W => ref_Unpack (w := W) t (by omega)
      rw [hun] at htold hU hR
      obtain ⟨wf, hback⟩ := htold
      simp only at wf hback hU hR
      have HU := hid hU
      have HR := hid hR
      have hSl := fun W => ref_Seal t (by omega) W
      have hsz : (⟨(sealed t.data.toList).toArray⟩ : ByteArray).size ≤ 400 + 4 * (k + 1) := by
        show (sealed t.data.toList).toArray.size ≤ _
        unfold sealed
        simp [tail4_length]
        omega
      generalize hT2 : (⟨(sealed t.data.toList).toArray⟩ : ByteArray) = t2 at *
      have HSl := hid hSl
      have Hsz := hid hsz
      have Hg := hid hg
      have Hback := hid hback
      have Hwf := hid wf
      clear hun hU hR hSl hsz hT2 hg hback wf
      by_cases he : er = 0
      · subst he
        obtain ⟨e1, e2⟩ := Hback.out rfl
        have hP := fun (W : World) (a : Option Addr) (c : Nat) (hb : IsBytes W a c m.ins) => wire_Pack (w := W) m hb Hwf.out
        rw [e1, e2, show (⟨t.data.toList.toArray⟩ : ByteArray) = t by simp] at hP
        have HP := hid hP
        clear hP e1 e2 Hback Hwf
        go_wp2_with fail
        refine (HU.out _).mono ?_
        rintro e w4 ⟨a4, c4, rfl, hb4, hbb⟩
        have hW4 := hW.trans (hbb.mono hW.size)
        have hbA := hb4.keeps ((Keeps.refl (fun _ => False) w4).alloc (.cells #[.int .i64 m.kind, .int .u32 m.nonce, .int .u16 m.serial, .int .u16 m.ack, .slice a4 m.ins.length c4, .int .u32 m.sum, .int .i64 m.lead] 26)) (fun _ _ _ => id)
        have hm1 := blk_new w4 (.cells #[.int .i64 m.kind, .int .u32 m.nonce, .int .u16 m.serial, .int .u16 m.ack, .slice a4 m.ins.length c4, .int .u32 m.sum, .int .i64 m.lead] 26)
        have hW5 := hW4.alloc hW4.size (.cells #[.int .i64 m.kind, .int .u32 m.nonce, .int .u16 m.serial, .int .u16 m.ack, .slice a4 m.ins.length c4, .int .u32 m.sum, .int .i64 m.lead] 26)
        clear hW hbb hb4 hW4
        go_wp2_with fail
        refine (HR.out _).mono ?_
        rintro e w6 ⟨a6, c6, rfl, hb6, hbc⟩
        have hk6 : Keeps (fun _ => False) _ w6 := Keeps.of_below hbc (fun k h1 h2 => by omega)
        have hm6 := blk_alloc (hk6.heap hm1 id) (.cells #[.int .i64 m.kind, .int .u32 m.nonce, .int .u16 m.serial, .int .u16 m.ack, .slice a6 m.ins.length c6, .int .u32 m.sum, .int .i64 m.lead] 26)
        have hbA6 := (hbA.keeps hk6 (fun _ _ _ => id)).keeps ((Keeps.refl (fun _ => False) w6).alloc (.cells #[.int .i64 m.kind, .int .u32 m.nonce, .int .u16 m.serial, .int .u16 m.ack, .slice a6 m.ins.length c6, .int .u32 m.sum, .int .i64 m.lead] 26)) (fun _ _ _ => id)
        have hbB := hb6.keeps ((Keeps.refl (fun _ => False) w6).alloc (.cells #[.int .i64 m.kind, .int .u32 m.nonce, .int .u16 m.serial, .int .u16 m.ack, .slice a6 m.ins.length c6, .int .u32 m.sum, .int .i64 m.lead] 26)) (fun _ _ _ => id)
        have hW6 := (hW5.trans (hk6.below hW5.size (fun k h1 h2 => by omega))).alloc (hW5.trans (hk6.below hW5.size (fun k h1 h2 => by omega))).size (.cells #[.int .i64 m.kind, .int .u32 m.nonce, .int .u16 m.serial, .int .u16 m.ack, .slice a6 m.ins.length c6, .int .u32 m.sum, .int .i64 m.lead] 26)
        clear hb6 hbc hbA hm1 hW5 hk6
        have n0 := blk_cell hm6 (k := 0) rfl
        have n1 := blk_cell hm6 (k := 1) rfl
        have n2 := blk_cell hm6 (k := 2) rfl
        have n3 := blk_cell hm6 (k := 3) rfl
        have n4 := blk_cell hm6 (k := 4) rfl
        have n5 := blk_cell hm6 (k := 5) rfl
        have n6 := blk_cell hm6 (k := 6) rfl
        have HSm := hid (ref_SameM (a := m) (b := m) hbA6 hbB)
        rw [(sameM_iff m m).2 rfl] at HSm
        go_wp2_with fail
        refine HSm.out.mono ?_
        rintro e w7 ⟨rfl, hb7⟩
        have hk7 : Keeps (fun _ => False) _ w7 := Keeps.of_below hb7 (fun k h1 h2 => by omega)
        have hm7 := hk7.heap hm6 id
        have hbA7 := hbA6.keeps hk7 (fun _ _ _ => id)
        have hW7 := hW6.trans (hk7.below hW6.size (fun k h1 h2 => by omega))
        clear HSm hb7 hk7 hbA6 hbB hW6 hm6 n0 n1 n2 n3 n4 n5 n6
        have n0 := blk_cell hm7 (k := 0) rfl
        have n1 := blk_cell hm7 (k := 1) rfl
        have n2 := blk_cell hm7 (k := 2) rfl
        have n3 := blk_cell hm7 (k := 3) rfl
        have n4 := blk_cell hm7 (k := 4) rfl
        have n5 := blk_cell hm7 (k := 5) rfl
        have n6 := blk_cell hm7 (k := 6) rfl
        go_wp2_with fail
        refine (HP.out _ _ _ hbA7).mono ?_
        rintro e w8 ⟨rfl, hb8⟩
        have hW8 := hW7.trans (hb8.mono hW7.size)
        clear hb8 hW7 hm7 hbA7 n0 n1 n2 n3 n4 n5 n6
        go_wp2_with fail
        refine (HSl.out _).mono ?_
        rintro e w9 ⟨rfl, hb9⟩
        have hW9 := hW8.trans (hb9.mono hW8.size)
        clear hb9 hW8
        go_wp2_with fail
        go_roundg (2 - (k + 1))
        case measure => have := Hg.out; omega
        case rel => exact ⟨k + 1, t2, rfl, by omega, rfl, by go_num, Hsz.out, hW9⟩
      · have hq : (er == 0) = false := by simpa using he
        have HP := hid fun (W : World) (a : Option Addr) (c : Nat) (hb : IsBytes W a c m.ins) => wire_Pack (w := W) m hb Hwf.out
        clear he Hback Hwf
        go_wp2_with fail
        refine (HU.out _).mono ?_
        rintro e w4 ⟨a4, c4, rfl, hb4, hbb⟩
        have hW4 := hW.trans (hbb.mono hW.size)
        have hbA := hb4.keeps ((Keeps.refl (fun _ => False) w4).alloc (.cells #[.int .i64 m.kind, .int .u32 m.nonce, .int .u16 m.serial, .int .u16 m.ack, .slice a4 m.ins.length c4, .int .u32 m.sum, .int .i64 m.lead] 26)) (fun _ _ _ => id)
        have hm1 := blk_new w4 (.cells #[.int .i64 m.kind, .int .u32 m.nonce, .int .u16 m.serial, .int .u16 m.ack, .slice a4 m.ins.length c4, .int .u32 m.sum, .int .i64 m.lead] 26)
        have hW5 := hW4.alloc hW4.size (.cells #[.int .i64 m.kind, .int .u32 m.nonce, .int .u16 m.serial, .int .u16 m.ack, .slice a4 m.ins.length c4, .int .u32 m.sum, .int .i64 m.lead] 26)
        clear hW hbb hb4 hW4
        go_wp2_with fail
        refine (HR.out _).mono ?_
        rintro e w6 ⟨a6, c6, rfl, hb6, hbc⟩
        have hk6 : Keeps (fun _ => False) _ w6 := Keeps.of_below hbc (fun k h1 h2 => by omega)
        have hm6 := blk_alloc (hk6.heap hm1 id) (.cells #[.int .i64 m.kind, .int .u32 m.nonce, .int .u16 m.serial, .int .u16 m.ack, .slice a6 m.ins.length c6, .int .u32 m.sum, .int .i64 m.lead] 26)
        have hbA6 := (hbA.keeps hk6 (fun _ _ _ => id)).keeps ((Keeps.refl (fun _ => False) w6).alloc (.cells #[.int .i64 m.kind, .int .u32 m.nonce, .int .u16 m.serial, .int .u16 m.ack, .slice a6 m.ins.length c6, .int .u32 m.sum, .int .i64 m.lead] 26)) (fun _ _ _ => id)
        have hbB := hb6.keeps ((Keeps.refl (fun _ => False) w6).alloc (.cells #[.int .i64 m.kind, .int .u32 m.nonce, .int .u16 m.serial, .int .u16 m.ack, .slice a6 m.ins.length c6, .int .u32 m.sum, .int .i64 m.lead] 26)) (fun _ _ _ => id)
        have hW6 := (hW5.trans (hk6.below hW5.size (fun k h1 h2 => by omega))).alloc (hW5.trans (hk6.below hW5.size (fun k h1 h2 => by omega))).size (.cells #[.int .i64 m.kind, .int .u32 m.nonce, .int .u16 m.serial, .int .u16 m.ack, .slice a6 m.ins.length c6, .int .u32 m.sum, .int .i64 m.lead] 26)
        clear hb6 hbc hbA hm1 hW5 hk6
        have n0 := blk_cell hm6 (k := 0) rfl
        have n1 := blk_cell hm6 (k := 1) rfl
        have n2 := blk_cell hm6 (k := 2) rfl
        have n3 := blk_cell hm6 (k := 3) rfl
        have n4 := blk_cell hm6 (k := 4) rfl
        have n5 := blk_cell hm6 (k := 5) rfl
        have n6 := blk_cell hm6 (k := 6) rfl
        have HSm := hid (ref_SameM (a := m) (b := m) hbA6 hbB)
        rw [(sameM_iff m m).2 rfl] at HSm
        go_wp2_with fail
        refine HSm.out.mono ?_
        rintro e w7 ⟨rfl, hb7⟩
        have hk7 : Keeps (fun _ => False) _ w7 := Keeps.of_below hb7 (fun k h1 h2 => by omega)
        have hm7 := hk7.heap hm6 id
        have hbA7 := hbA6.keeps hk7 (fun _ _ _ => id)
        have hW7 := hW6.trans (hk7.below hW6.size (fun k h1 h2 => by omega))
        clear HSm hb7 hk7 hbA6 hbB hW6 hm6 n0 n1 n2 n3 n4 n5 n6
        have n0 := blk_cell hm7 (k := 0) rfl
        have n1 := blk_cell hm7 (k := 1) rfl
        have n2 := blk_cell hm7 (k := 2) rfl
        have n3 := blk_cell hm7 (k := 3) rfl
        have n4 := blk_cell hm7 (k := 4) rfl
        have n5 := blk_cell hm7 (k := 5) rfl
        have n6 := blk_cell hm7 (k := 6) rfl
        go_wp2_with fail
        refine (HP.out _ _ _ hbA7).mono ?_
        rintro e w8 ⟨rfl, hb8⟩
        have hW8 := hW7.trans (hb8.mono hW7.size)
        clear hb8 hW7 hm7 hbA7 n0 n1 n2 n3 n4 n5 n6
        go_wp2_with fail
        refine (HSl.out _).mono ?_
        rintro e w9 ⟨rfl, hb9⟩
        have hW9 := hW8.trans (hb9.mono hW8.size)
        clear hb9 hW8
        go_wp2_with fail
        go_roundg (2 - (k + 1))
        case measure => have := Hg.out; omega
        case rel => exact ⟨k + 1, t2, rfl, by omega, rfl, by go_num, Hsz.out, hW9⟩
    · obtain rfl : k = 2 := by omega
      go_wp2
      go_ret
      exact ⟨rfl, hW⟩
end Go.Proofs.Ytlneddmfcheaiaa
/- A datagram that came in as an argument. -/
namespace Go.Proofs.Ytlneddmfcheaiaa
open Go.RowKit
theorem bytes_of_vals {w : World} {a : Option Addr} {cap n : Nat} {L : List Int} (hn : n = L.length) (h : Vals w 1 a n cap (L.map fun x => .int .u8 x)) (hw : ∀ n ∈ L, (Lit.int .u8 n).wf = true) :
    ∃ B : List UInt8, B.length = n ∧ IsBytes w a cap B := by
  subst hn
  refine ⟨L.map fun n => UInt8.ofNat n.toNat, by simp, by simpa using h.2.1, h.2.2.1, ?_⟩
  by_cases h0 : L.length = 0
  · exact .inl (by simpa using h0)
  · obtain ⟨b, o, rfl, hc⟩ := h.at' (by omega)
    refine .inr ⟨b, o, rfl, fun i hi => ?_⟩
    simp at hi
    have h1 := hc i (.int .u8 L[i]) (by simp [hi])
    rw [h1]
    have h3 := wf_u8 (hw L[i] (List.getElem_mem hi))
    simp [byteV]
    omega
theorem wf_u32 {n : Int} (h : (Lit.int .u32 n).wf = true) : 0 ≤ n ∧ n < 4294967296 := by
  simp only [Lit.wf] at h
  have : 0 ≤ n ∧ n ≤ 4294967295 := by simpa [IntKind.min, IntKind.max, IntKind.signed, IntKind.bits] using h
  omega
theorem wf_u16 {n : Int} (h : (Lit.int .u16 n).wf = true) : 0 ≤ n ∧ n < 65536 := by
  simp only [Lit.wf] at h
  have : 0 ≤ n ∧ n ≤ 65535 := by simpa [IntKind.min, IntKind.max, IntKind.signed, IntKind.bits] using h
  omega
theorem msg_of {w : World} {cs : List Value} (h : LeavesAre w [.int .i64, .int .u32, .int .u16, .int .u16, .ints .u8, .int .u32, .int .i64] cs) :
    ∃ (m : Msg) (a : Option Addr) (c : Nat), cs = [.int .i64 m.kind, .int .u32 m.nonce, .int .u16 m.serial, .int .u16 m.ack, .slice a m.ins.length c, .int .u32 m.sum, .int .i64 m.lead] ∧ IsBytes w a c m.ins ∧ m.wf := by
  obtain ⟨hl, hc⟩ := h
  obtain ⟨v0, v1, v2, v3, v4, v5, v6, rfl⟩ : ∃ v0 v1 v2 v3 v4 v5 v6, cs = [v0, v1, v2, v3, v4, v5, v6] := by
    match cs, hl with
    | [v0, v1, v2, v3, v4, v5, v6], _ => exact ⟨v0, v1, v2, v3, v4, v5, v6, rfl⟩
  obtain ⟨k, rfl, wk⟩ := hc 0 _ _ rfl rfl
  obtain ⟨n, rfl, wn⟩ := hc 1 _ _ rfl rfl
  obtain ⟨s, rfl, ws⟩ := hc 2 _ _ rfl rfl
  obtain ⟨ak, rfl, wak⟩ := hc 3 _ _ rfl rfl
  obtain ⟨a, L, cap, rfl, hv, hw⟩ := hc 4 _ _ rfl rfl
  obtain ⟨u, rfl, wu⟩ := hc 5 _ _ rfl rfl
  obtain ⟨l, rfl, wl⟩ := hc 6 _ _ rfl rfl
  obtain ⟨B, hB, hb⟩ := bytes_of_vals rfl hv hw
  exact ⟨⟨k, n, s, ak, B, u, l⟩, a, cap, by rw [← hB], hb, ⟨wf_i64 wk, wf_u32 wn, wf_u16 ws, wf_u16 wak, wf_u32 wu, wf_i64 wl⟩⟩
end Go.Proofs.Ytlneddmfcheaiaa
