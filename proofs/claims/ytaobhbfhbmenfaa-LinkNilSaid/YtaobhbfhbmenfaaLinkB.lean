/- Wire10 · WireQ · Msg3 · WirePk · Link4 · Link5 · Link6 · Link7 · Link8, in one text. -/
import Derived.Test.YtaobhbfhbmenfaaWire9
import Derived.Test.YtaobhbfhbmenfaaWireP
import Derived.Test.YtaobhbfhbmenfaaMsg2
import Derived.Test.YtaobhbfhbmenfaaWire6
import Derived.Test.YtaobhbfhbmenfaaLinkA
import Derived.OneCell
import Derived.RangeFuncBox
import Derived.Deep.Cut
import Derived.LoopIn
import Derived.LoopNIn
import Derived.Shelf.RegionOpen
import Derived.TacticsInMore
import Derived.OwnWalkIn
import Derived.Test.YtaobhbfhbmenfaaWire4
import Derived.Test.YtaobhbfhbmenfaaVals
import Derived.Test.YtaobhbfhbmenfaaEqB
import Derived.Test.YtaobhbfhbmenfaaOpen
/- Reading a datagram, by all ways. -/
namespace Go.Proofs.Ytaobhbfhbmenfaa
open Go.RowKit
set_option maxRecDepth 10000
variable {w : World}
theorem unpack_err (s : ByteArray) (hs : s.size ≤ maxLen) (l : List UInt8) (e0 : Int) (hop : opened s.data.toList = (l, e0)) (he : e0 ≠ 0) :
    Calls Try.prog 26 #[.string s] w (UnpPost w Msg.zero e0) := by
  have hO := sum_Open s hs (w.alloc (.cells #[.int .i64 0, .int .u32 0, .int .u16 0, .int .u16 0, .slice none 0 0, .int .u32 0, .int .i64 0] 49))
  rw [hop] at hO
  have HO := hid hO
  have hq : (e0 != 0) = true := by simp [he]
  clear hO hop he hs
  go_enter Try.func26, Try.ntmps26
  go_wp2_with fail
  refine HO.out.mono ?_
  rintro e w1 ⟨rfl, hb1⟩
  have hk1 : Keeps (fun _ => False) (w.alloc (.cells #[.int .i64 0, .int .u32 0, .int .u16 0, .int .u16 0, .slice none 0 0, .int .u32 0, .int .i64 0] 49)) w1 := Keeps.of_below hb1 (fun k h1 h2 => by omega)
  have hW : Below w.heap.size w w1 := ((Below.refl _ w).alloc (Nat.le_refl _) _).trans (hb1.mono (by simp))
  have hres := hk1.heap (blk_new w (.cells #[.int .i64 0, .int .u32 0, .int .u16 0, .int .u16 0, .slice none 0 0, .int .u32 0, .int .i64 0] 49)) id
  clear hb1 hk1
  have r0 := blk_cell hres (k := 0) rfl
  have g0 := blk_free hres 0
  have r1 := blk_cell hres (k := 1) rfl
  have g1 := blk_free hres 1
  have r2 := blk_cell hres (k := 2) rfl
  have g2 := blk_free hres 2
  have r3 := blk_cell hres (k := 3) rfl
  have g3 := blk_free hres 3
  have r4 := blk_cell hres (k := 4) rfl
  have g4 := blk_free hres 4
  have r5 := blk_cell hres (k := 5) rfl
  have g5 := blk_free hres 5
  have r6 := blk_cell hres (k := 6) rfl
  have g6 := blk_free hres 6
  go_wp2_with fail
  have hf := blk_store hres (.int .i64 0) (.int .u32 0) (.int .u16 0) (.int .u16 0) (.slice none 0 0) (.int .u32 0) (.int .i64 0)
  have d0 := blk_cell hf (k := 0) rfl
  have d1 := blk_cell hf (k := 1) rfl
  have d2 := blk_cell hf (k := 2) rfl
  have d3 := blk_cell hf (k := 3) rfl
  have d4 := blk_cell hf (k := 4) rfl
  have d5 := blk_cell hf (k := 5) rfl
  have d6 := blk_cell hf (k := 6) rfl
  have hbl := ((((((hW.setCell (p := ⟨w.heap.size, 0, none⟩) (Nat.le_refl _) (.int .i64 0)).setCell (p := ⟨w.heap.size, 1, none⟩) (Nat.le_refl _) (.int .u32 0)).setCell (p := ⟨w.heap.size, 2, none⟩) (Nat.le_refl _) (.int .u16 0)).setCell (p := ⟨w.heap.size, 3, none⟩) (Nat.le_refl _) (.int .u16 0)).setCell (p := ⟨w.heap.size, 4, none⟩) (Nat.le_refl _) (.slice none 0 0)).setCell (p := ⟨w.heap.size, 5, none⟩) (Nat.le_refl _) (.int .u32 0)).setCell (p := ⟨w.heap.size, 6, none⟩) (Nat.le_refl _) (.int .i64 0)
  refine bodyPost_ret (v := .tuple #[.agg #[.int .i64 0, .int .u32 0, .int .u16 0, .int .u16 0, .slice none 0 0, .int .u32 0, .int .i64 0], .int .i64 e0]) (by simp [results, Try.results26, go_sem, d0, d1, d2, d3, d4, d5, d6]) rfl ?_
  exact ⟨none, 0, rfl, IsBytes.none _, hbl⟩
theorem opened_len (l : List UInt8) : (opened l).1.length ≤ l.length := by
  unfold opened
  split
  · exact Nat.zero_le _
  split
  · simp
  · exact Nat.zero_le _
theorem wire_Unpack (s : ByteArray) (hs : s.size ≤ 100000) :
    Calls Try.prog 26 #[.string s] w (UnpPost w (unpM s.data.toList).1 (unpM s.data.toList).2) := by
  have hm : s.size ≤ maxLen := by unfold maxLen; omega
  unfold unpM
  by_cases he : (opened s.data.toList).2 = 0
  · rw [if_pos he]
    have hop : opened s.data.toList = ((opened s.data.toList).1, 0) := Prod.ext rfl he
    have htl : (opened s.data.toList).1.length ≤ 100000 := Nat.le_trans (opened_len _) (by simpa using hs)
    generalize (opened s.data.toList).1 = t at *
    clear he
    by_cases h12 : bN (kindR t).1 = 1 ∨ bN (kindR t).1 = 2
    · exact unp_12 s t _ _ _ _ _ hm hop htl rfl rfl rfl h12
    by_cases h3 : bN (kindR t).1 = 3
    · exact unp_3 s t _ _ _ _ _ hm hop htl rfl rfl rfl h3
    by_cases h4 : bN (kindR t).1 = 4
    · exact unp_4 s t _ _ _ _ _ hm hop htl rfl rfl rfl h4
    by_cases h5 : bN (kindR t).1 = 5
    · exact unp_5 s t _ _ _ _ _ hm hop htl rfl rfl rfl h5
    by_cases h6 : bN (kindR t).1 = 6
    · exact unp_6 s t _ _ _ _ _ hm hop htl rfl rfl rfl h6
    · exact unp_0 s t _ _ _ _ _ hm hop htl rfl rfl rfl ⟨h12, h3, h4, h5, h6⟩
  · rw [if_neg he]
    exact unpack_err s hm _ _ rfl he
end Go.Proofs.Ytaobhbfhbmenfaa
/- Plain facts: what is packed is read as it was. -/
namespace Go.Proofs.Ytaobhbfhbmenfaa
theorem takeR_front (n : Nat) (l r : List UInt8) (hn : l.length = n) : takeR n ⟨⟨(l ++ r).toArray⟩, false⟩ = (⟨l.toArray⟩, ⟨⟨r.toArray⟩, false⟩) := by
  subst hn
  have hs : (⟨(l ++ r).toArray⟩ : ByteArray).size = l.length + r.length := by show (l ++ r).toArray.size = _; simp
  unfold takeR
  rw [if_neg (by simp only [hs]; simp)]
  refine Prod.ext ?_ ?_
  · refine of_list _ _ ?_
    rw [extract_data]
    simp
  · show Rd.mk _ _ = Rd.mk _ _
    congr 1
    refine of_list _ _ ?_
    simp only [hs]
    rw [extract_data]
    simp
theorem bN_list (l : List UInt8) : bN ⟨l.toArray⟩ = (beN l : Int) := by simp [bN]
theorem bN_tail4 (n : Int) (h : 0 ≤ n ∧ n < 4294967296) : bN ⟨(tail4 n).toArray⟩ = n := by
  rw [bN_list]
  simp only [tail4, beN, List.foldl_cons, List.foldl_nil]
  rw [byte_of _ (by omega), byte_of _ (by omega), byte_of _ (by omega), byte_of _ (by omega)]
  omega
theorem bN_be2 (n : Int) (h : 0 ≤ n ∧ n < 65536) : bN ⟨(be2 n).toArray⟩ = n := by
  rw [bN_list]
  simp only [be2, beN, List.foldl_cons, List.foldl_nil]
  rw [byte_of _ (by omega), byte_of _ (by omega)]
  omega
theorem rdrR_run (L : List UInt8) (hf : fits L = true) : rdrR ⟨⟨(runBytes L).toArray⟩, false⟩ = (L, ⟨⟨([] : List UInt8).toArray⟩, false⟩) := by
  have h := rd_run L [] hf
  rw [List.append_nil] at h
  unfold rdrR
  simp only [h]
  rw [show ((0 : Int) != 0) = false by decide, Bool.or_false]
  have ht := takeR_front (runBytes L).length (runBytes L) [] rfl
  rw [List.append_nil] at ht
  rw [ht]
theorem rdsR_num (n : Int) (h : -1000 ≤ n ∧ n ≤ 1000) : rdsR ⟨⟨(num (zz n)).toArray⟩, false⟩ = (n, ⟨⟨([] : List UInt8).toArray⟩, false⟩) := by
  have h1 := rd_behind (zz n) (zz_in n (by omega)) []
  rw [List.append_nil] at h1
  unfold rdsR
  simp only [h1, unzz_zz]
  rw [show ((0 : Int) != 0) = false by decide, Bool.or_false]
  have ht := takeR_front (num (zz n)).length (num (zz n)) [] rfl
  rw [List.append_nil] at ht
  rw [ht]
theorem parse_raw (m : Msg) (hr : RightP m) (wf : m.wf) : parseT (rawM m) = (m, ⟨⟨([] : List UInt8).toArray⟩, false⟩) := by
  obtain ⟨k, n, s, ak, i, u, l⟩ := m
  obtain ⟨a1, a2, a3, a4, a5, a6, a7, a8, a9⟩ := hr
  obtain ⟨_, wn, ws, wk, wu, _⟩ := wf
  simp only at *
  have h1 : firstR (rawM ⟨k, n, s, ak, i, u, l⟩) = (⟨[(80 : UInt8)].toArray⟩, ⟨⟨(UInt8.ofNat k.toNat :: bodyM ⟨k, n, s, ak, i, u, l⟩).toArray⟩, false⟩) := takeR_front 1 [80] _ rfl
  have hb : (bN ⟨[(80 : UInt8)].toArray⟩ != 80) = false := by rw [bN_list]; rfl
  have h2 : kindR (rawM ⟨k, n, s, ak, i, u, l⟩) = (⟨[UInt8.ofNat k.toNat].toArray⟩, ⟨⟨(bodyM ⟨k, n, s, ak, i, u, l⟩).toArray⟩, false⟩) := by
    unfold kindR
    rw [h1]
    simp only
    rw [hb]
    exact takeR_front 1 [UInt8.ofNat k.toNat] _ rfl
  have h3 : bN ⟨[UInt8.ofNat k.toNat].toArray⟩ = k := by
    rw [bN_list]
    simp only [beN, List.foldl_cons, List.foldl_nil]
    rw [byte_of _ (by omega)]
    omega
  unfold parseT
  rw [h2]
  simp only
  rw [h3]
  unfold parseK bodyM
  simp only
  by_cases h12 : k = 1 ∨ k = 2
  · rw [if_pos h12, if_pos h12]
    have ht := takeR_front 4 (tail4 n) [] rfl
    rw [List.append_nil] at ht
    rw [ht, bN_tail4 n wn]
    have e := nil_of a7 (by omega)
    simp only [Prod.mk.injEq, Msg.mk.injEq, and_true, true_and]
    exact ⟨by omega, by omega, e.symm, by omega, by omega⟩
  rw [if_neg h12, if_neg h12]
  by_cases h3' : k = 3
  · rw [if_pos h3', if_pos h3']
    rw [List.append_assoc, takeR_front 2 (be2 s) _ rfl]
    simp only
    rw [takeR_front 2 (be2 ak) _ rfl]
    simp only
    rw [rdrR_run i a2, bN_be2 s ws, bN_be2 ak wk]
    simp only [Prod.mk.injEq, Msg.mk.injEq, and_true, true_and]
    exact ⟨by omega, by omega, by omega⟩
  have e := nil_of a7 h3'
  rw [if_neg h3', if_neg h3']
  by_cases h4 : k = 4
  · rw [if_pos h4, if_pos h4, takeR_front 2 (be2 s) _ rfl]
    simp only
    have ht := takeR_front 4 (tail4 u) [] rfl
    rw [List.append_nil] at ht
    rw [ht, bN_be2 s ws, bN_tail4 u wu]
    simp only [Prod.mk.injEq, Msg.mk.injEq, and_true, true_and]
    exact ⟨by omega, by omega, e.symm, by omega⟩
  rw [if_neg h4, if_neg h4]
  by_cases h5 : k = 5
  · rw [if_pos h5, if_pos h5]
    have ht := takeR_front 2 (be2 ak) [] rfl
    rw [List.append_nil] at ht
    rw [ht, bN_be2 ak wk]
    simp only [Prod.mk.injEq, Msg.mk.injEq, and_true, true_and]
    exact ⟨by omega, by omega, e.symm, by omega, by omega⟩
  rw [if_neg h5, if_neg h5]
  by_cases h6 : k = 6
  · rw [if_pos h6, if_pos h6, takeR_front 2 (be2 s) _ rfl]
    simp only
    rw [rdsR_num l a3, bN_be2 s ws]
    simp only [Prod.mk.injEq, Msg.mk.injEq, and_true, true_and]
    exact ⟨by omega, by omega, e.symm, by omega⟩
  · rw [if_neg h6, if_neg h6]
    simp only [Prod.mk.injEq, Msg.mk.injEq, and_true, true_and]
    exact ⟨by omega, by omega, by omega, e.symm, by omega, by omega⟩
theorem unpT_raw (m : Msg) (hr : RightP m) (wf : m.wf) : unpT (rawM m) = (m, 0) := by
  unfold unpT
  rw [parse_raw m hr wf, if_neg]
  rintro (h | h | h)
  · cases h
  · exact h (by simp [ByteArray.toList_eq])
  · exact h hr
theorem runBytes_129 (L : List UInt8) (hf : fits L = true) : (runBytes L).length ≤ 129 := by
  have hl : L.length ≤ 64 := by
    unfold fits at hf
    simp only [Bool.and_eq_true, decide_eq_true_eq] at hf
    exact hf.2
  unfold runBytes
  have h1 := runsBytes_len (runs L) (fun x hx => by have := (runs_le _ L (Nat.le_refl _) x hx).2; omega)
  have h2 := runs_len _ L (Nat.le_refl _)
  rw [List.length_append, h1, num_small _ (by omega)]
  simp
  omega
theorem pack_len (m : Msg) (hr : RightP m) : (packM m).length ≤ 139 := by
  have h1 := runBytes_129 m.ins hr.2.1
  have h2 := zz_small m.lead hr.2.2.1
  unfold packM sealed rawM bodyM
  simp only [List.length_append, List.length_cons, List.length_nil, tail4_length]
  split
  · simp [tail4_length]
  split
  · simp only [List.length_append, be2_len]; omega
  split
  · simp [be2_len, tail4_length]
  split
  · simp [be2_len]
  split
  · simp only [List.length_append, be2_len]; omega
  · simp
end Go.Proofs.Ytaobhbfhbmenfaa
/- Whether a datagram may be, by the reference. -/
namespace Go.Proofs.Ytaobhbfhbmenfaa
open Go.RowKit
variable {w : World} {a : Option Addr} {c : Nat}
theorem right_yes {m : Msg} (h : RightP m) : Ending.returned (.bool true) = .returned (.bool (decide (RightP m))) := by rw [decide_eq_true h]
theorem right_no {m : Msg} (h : ¬ RightP m) : Ending.returned (.bool false) = .returned (.bool (decide (RightP m))) := by rw [decide_eq_false h]
theorem right_mk {k n s ak u l : Int} {i : List UInt8} {len : Nat} (hf : fits i = true) (hl : i.length = len) (h1 : 1 ≤ k ∧ k ≤ 7) (h2 : -1000 ≤ l ∧ l ≤ 1000) (h3 : n = 0 ∨ k = 1 ∨ k = 2) (h4 : s = 0 ∨ k = 3 ∨ k = 4 ∨ k = 6) (h5 : ak = 0 ∨ k = 3 ∨ k = 5) (h6 : 0 < len ↔ k = 3) (h7 : u = 0 ∨ k = 4) (h8 : l = 0 ∨ k = 6) : RightP ⟨k, n, s, ak, i, u, l⟩ :=
  ⟨h1, hf, h2, h3, h4, h5, by subst hl; exact h6, h7, h8⟩
theorem right_un {k n s ak u l : Int} {i : List UInt8} {len : Nat} (hl : i.length = len) (h : RightP ⟨k, n, s, ak, i, u, l⟩) : (1 ≤ k ∧ k ≤ 7) ∧ (-1000 ≤ l ∧ l ≤ 1000) ∧ (n = 0 ∨ k = 1 ∨ k = 2) ∧ (s = 0 ∨ k = 3 ∨ k = 4 ∨ k = 6) ∧ (ak = 0 ∨ k = 3 ∨ k = 5) ∧ (0 < len ↔ k = 3) ∧ (u = 0 ∨ k = 4) ∧ (l = 0 ∨ k = 6) := by
  obtain ⟨h1, hf, h2, h3, h4, h5, h6, h7, h8⟩ := h
  subst hl
  exact ⟨h1, h2, h3, h4, h5, h6, h7, h8⟩
end Go.Proofs.Ytaobhbfhbmenfaa
/- The law on packing datagrams. -/
namespace Go.Proofs.Ytaobhbfhbmenfaa
open Go.RowKit
set_option maxRecDepth 10000
variable {w : World} {m : Msg} {a : Option Addr} {c : Nat}
theorem opened_sealed (l : List UInt8) : opened (sealed l) = (l, 0) := by
  unfold opened sealed
  rw [if_neg (by simp [tail4_length])]
  have e : (l ++ tail4 (more 1 l)).length - 4 = l.length := by simp [tail4_length]
  rw [e, List.take_left]
  simp
theorem unpM_pack (m : Msg) (hr : RightP m) (wf : m.wf) : unpM (packM m) = (m, 0) := by
  unfold unpM packM
  rw [opened_sealed, if_pos rfl]
  exact unpT_raw m hr wf
theorem ref_Pack (m : Msg) (h : IsBytes w a c m.ins) (hw : m.wf) (hr : RightP m) :
    Calls Try.prog 18 #[(.agg #[.int .i64 m.kind, .int .u32 m.nonce, .int .u16 m.serial, .int .u16 m.ack, .slice a m.ins.length c, .int .u32 m.sum, .int .i64 m.lead])] w fun e w' => e = .returned (.string ⟨(packM m).toArray⟩) ∧ Below w.heap.size w w' := by
  obtain ⟨_, hn, hs, hak, hu, _⟩ := hw
  have hk := hr.1
  obtain ⟨k, n, s, ak, i, u, l⟩ := m
  simp only at *
  obtain rfl | rfl | rfl | rfl | rfl | rfl | rfl : k = 1 ∨ k = 2 ∨ k = 3 ∨ k = 4 ∨ k = 5 ∨ k = 6 ∨ k = 7 := by omega
  · exact refpack_k1 n s ak u l i hr hn
  · exact refpack_k2 n s ak u l i hr hn
  · exact refpack_k3 n s ak u l i h hr hs hak
  · exact refpack_k4 n s ak u l i hr hs hu
  · exact refpack_k5 n s ak u l i hr hak
  · exact refpack_k6 n s ak u l i hr hs
  · exact refpack_k7 n s ak u l i hr
end Go.Proofs.Ytaobhbfhbmenfaa
/- link: what a tick sends. -/
namespace Go.Proofs.Ytaobhbfhbmenfaa
open Go.RowKit
attribute [local go_sem] Oper.semAt_some
set_option maxRecDepth 10000
variable {w : World} {B : LB} {l : Lk}
def byeM : Msg := ⟨7, 0, 0, 0, [], 0, 0⟩
def helloM (l : Lk) : Msg := ⟨1, l.nonce, 0, 0, [], 0, 0⟩
def saysF (l : Lk) (lead : Int) : List Msg × Lk :=
  if l.state = 2 then (if l.bye then ([byeM], { l with bye := false }) else ([], l)) else (l.out ++ (if l.state = 0 then [helloM l] else talkF l lead), { l with out := [] })
/-- what a tick says -/
def SaysPost (w : World) (B : LB) (l : Lk) (lead : Int) (e : Ending) (w' : World) : Prop :=
  (∃ A cap xs, e = .returned (.slice A xs.length cap) ∧ SlcM w.heap.size w' A cap xs ∧ xs.map MV.m = (saysF l lead).1) ∧ IsLink w' B (saysF l lead).2 ∧ Keeps B.S w w'
theorem info_msg2 : (Try.prog.info? 49).map (fun i => (i.zero, i.size, i.bytes)) = some (some (.agg (mC Msg.zero)), 7, 56) := by kernel_rfl
theorem says_gone (h : IsLink w B l) (lead : Int) (hs : l.state = 2) : Calls Try.prog 32 #[.pointer (some ⟨B.p, 0, none⟩), .int .i64 lead] w (SaysPost w B l lead) := by
  have c2 := h.c2
  have c3 := h.c3
  have f3 := h.free 3
  rw [hs] at c2
  unfold SaysPost saysF
  rw [if_pos hs]
  cases hb : l.bye
  · rw [if_neg (by simp)]
    rw [hb] at c3
    have H := hid h
    clear h hs hb
    go_enter Try.func32, Try.ntmps32
    go_wp2
    go_ret
    exact ⟨⟨none, 0, [], rfl, ⟨Vals.nil _ _, fun x hx => (by cases hx), fun y e => (by cases e)⟩, rfl⟩, H.out, Keeps.refl _ _⟩
  · rw [if_pos rfl]
    rw [hb] at c3
    have hS := h.set 3 (.bool false) { l with bye := false } rfl rfl rfl
    have hk := Keeps.setCell (S := B.S) (Keeps.refl _ w) (p := ⟨B.p, 3, none⟩) (.inl rfl) (.bool false)
    have HS := hid hS
    have HK := hid hk
    clear h hs hb hS hk
    go_enter Try.func32, Try.ntmps32
    go_wp2
    go_ret
    have hsz : (w.setCell ⟨B.p, 3, none⟩ (.bool false)).heap.size = w.heap.size := by simp
    have hB := blk_new (w.setCell ⟨B.p, 3, none⟩ (.bool false)) (.cells (flatM [⟨byeM, none, 0⟩]).toArray 49)
    rw [hsz] at hB
    have hS2 := HS.out.below ((Below.refl _ (w.setCell ⟨B.p, 3, none⟩ (.bool false))).alloc (Nat.le_refl _) (.cells (flatM [⟨byeM, none, 0⟩]).toArray 49))
    refine ⟨⟨some ⟨w.heap.size, 0, none⟩, 1, [⟨byeM, none, 0⟩], rfl, ⟨vals_blk hB rfl (by unfold maxLen; show 1 ≤ _; omega), ?_, fun y e => by cases e; exact Nat.le_refl _⟩, rfl⟩, hS2, HK.out.alloc _⟩
    intro x hx
    simp only [List.mem_cons, List.not_mem_nil, or_false] at hx
    subst hx
    exact ⟨bytes_nil _, fun _ e => by simp at e⟩
theorem cells_new (A : World) (cs : Array Value) (t : TypeId) (j : Nat) (u : Value) (h : cs.toList[j]? = some u) : (A.alloc (.cells cs t)).cell? ((⟨A.heap.size, 0, none⟩ : Addr).add j) = some u := by
  rw [addr_add, Nat.zero_add]
  exact blk_cell (blk_new _ _) (by simpa using h)
def bareF (xs : List Msg) : List Value := xs.flatMap fun m => (mC m).toList
/-- the rounds of 'for m := range l.waiting()' -/
structure SyI (w W : World) (B : LB) (l : Lk) (pre : List Msg) : Prop where
  row : ∃ v, W.heap[w.heap.size]? = some (.cells #[v] 78 (0, 0)) ∧ W.ownsRow (w.heap.size + 4) 49 7 v pre.length (bareF pre)
  bx : W.heap[w.heap.size + 1]? = some (.cells #[.pointer (some ⟨B.p, 0, none⟩)] 31 (0, 0))
  lk : W.heap[B.p]? = some (.cells (lkC B l) 72 (0, 0))
  ow : IsRing W B.h1 B.d1 64 (u8I l.own)
  ks : Keeps (fun b => b = B.h2 ∨ b = B.d2) w W
  sz : w.heap.size + 2 ≤ W.heap.size
theorem SyI.keep {w W W' : World} {pre : List Msg} {S : Nat → Prop} (h : SyI w W B l pre) (hk : Keeps S W W') (hl : IsLink w B l) (hs : ∀ b, S b → b = B.h2 ∨ b = B.d2 ∨ (w.heap.size + 2 ≤ b ∧ b ≤ w.heap.size + 3)) : SyI w W' B l pre := by
  have hlt := hl.lt
  have a := hl.ok.a
  have b' := hl.ok.b
  have c := hl.ok.c
  obtain ⟨v, i1, i2⟩ := h.row
  refine ⟨⟨v, hk.heap i1 (fun e => by have := hs _ e; omega), own_keeps i2 hk (fun b hb e => by have := (i2.lt b hb).1; have := hs _ e; omega)⟩, hk.heap h.bx (fun e => by have := hs _ e; omega), hk.heap h.lk (fun e => by have := hs _ e; omega), h.ow.keeps hk (fun e => by have := hs _ e; omega) (fun e => by have := hs _ e; omega), ?_, Nat.le_trans h.sz hk.size⟩
  exact keeps_past h.ks hk (fun k hk' e => by have := hs _ e; omega)
theorem wp_calm {P : Program} {c : Code} {Q : Exit → Act → World → Prop} {a : Act} {w : World} (h : c.wp P (fun e a' w' => e = Exit.normal ∧ Q .normal a' w') a w) : c.wp P Q a w :=
  wp_mono h (fun e a' w' ⟨he, hq⟩ => by subst he; exact hq)
theorem flat_bare (L : List Msg) (h : ∀ m ∈ L, m.ins = []) : flatM (L.map fun m => (⟨m, none, 0⟩ : MV)) = bareF L := by
  unfold flatM bareF
  induction L with
  | nil => rfl
  | cons m L ih =>
    have hm := h m (by simp)
    rw [List.map_cons, List.flatMap_cons, List.flatMap_cons, ih (fun x hx => h x (by simp [hx]))]
    congr 1
    simp [mvC, mC, hm]
theorem says_end {w W w1 : World} {v : Value} {n : Nat} {ys : List MV} {lead : Int} (hI : SyI w W B l l.out) (hM : IsMR W B.h2 B.d2 8 []) (hl : IsLink w B l) (hk : Keeps (fun k => w.heap.size + 3 < k) W w1)
    (hown : w1.ownsRow (w.heap.size + 4) 49 7 v n (bareF l.out ++ flatM ys)) (hn : n = l.out.length + ys.length) (hout : ∀ m ∈ l.out, m.ins = [])
    (hys : ∀ x ∈ ys, IsBytes w1 x.a x.c x.m.ins ∧ ∀ y, x.a = some y → w.heap.size + 3 ≤ y.block) (hs : saysF l lead = (l.out ++ ys.map MV.m, { l with out := [] })) (o : Obj) :
    SaysPost w B l lead (.returned v) (w1.putObj (w.heap.size + 2) o) := by
  have hlt := hl.lt
  have hp : Keeps (fun k => k = w.heap.size + 2) w1 (w1.putObj (w.heap.size + 2) o) := Keeps.putObj (S := fun k => k = w.heap.size + 2) (Keeps.refl _ w1) rfl _
  obtain ⟨A, cap, rfl, hv, hb⟩ := vals_of_own hown
  have hkf : Keeps (fun k => w.heap.size + 2 = k ∨ w.heap.size + 3 < k) W (w1.putObj (w.heap.size + 2) o) := (hk.mono fun _ _ h => .inr h).trans (hp.mono fun _ _ h => .inl h.symm)
  have hW : IsLink W B { l with out := [] } := ⟨hI.lk, hI.ow, hM, hl.ok⟩
  unfold SaysPost
  rw [hs]
  refine ⟨⟨A, cap, (l.out.map fun m => (⟨m, none, 0⟩ : MV)) ++ ys, ?_, ⟨?_, ?_, fun y e => by have := (hb y e).1; omega⟩, ?_⟩, hW.keeps hkf (fun b hb' => by rcases hb' with e | e | e | e | e <;> omega), ?_⟩
  · rw [hn, List.length_append, List.length_map]
  · rw [List.length_append, List.length_map, ← hn, show flatM ((l.out.map fun m => (⟨m, none, 0⟩ : MV)) ++ ys) = bareF l.out ++ flatM ys by rw [← flat_bare _ hout]; simp [flatM]]
    exact hv.keeps hp (fun _ y e h => by have := (hb y e).1; omega)
  · intro x hx
    rcases List.mem_append.1 hx with hx | hx
    · obtain ⟨m, hm, rfl⟩ := List.mem_map.1 hx
      exact ⟨by show IsBytes _ none 0 m.ins; rw [hout m hm]; exact bytes_nil _, fun _ e => by simp at e⟩
    · obtain ⟨h1, h2⟩ := hys x hx
      exact ⟨h1.keeps hp (fun _ y e h => by have := h2 y e; omega), fun y e => by have := h2 y e; omega⟩
  · rw [List.map_append, List.map_map]
    congr 1
    show l.out.map (fun m => m) = l.out
    simp
  · exact keeps_past (keeps_past (hI.ks.mono (T := B.S) fun b _ h => h.elim (fun e => .inr (.inr (.inr (.inl e)))) (fun e => .inr (.inr (.inr (.inr e))))) hk (fun k hk' e => by omega)) hp (fun k hk' e => by omega)
set_option maxHeartbeats 2000000 in
theorem says_on (h : IsLink w B l) (lead : Int) (hs : l.state ≠ 2) (ht : 0 ≤ l.ticks ∧ l.ticks ≤ 1099511627776) (hout : ∀ m ∈ l.out, m.ins = []) : Calls Try.prog 32 #[.pointer (some ⟨B.p, 0, none⟩), .int .i64 lead] w (SaysPost w B l lead) := by
  obtain ⟨i0, hi, hz0, hz1, hz2⟩ : ∃ i, Try.prog.info? 49 = some i ∧ i.zero = some (.agg (mC Msg.zero)) ∧ i.size = 7 ∧ i.bytes = 56 := by
    have h := info_msg2
    cases hh : Try.prog.info? 49 with
    | none => rw [hh] at h; cases h
    | some i => rw [hh] at h; simp only [Option.map_some, Option.some.injEq, Prod.mk.injEq] at h; exact ⟨i, rfl, h.1, h.2.1, h.2.2⟩
  have hlt := h.lt
  have hok := h.ok
  have q2 : (l.state == 2) = false := by rw [beq_eq_false_iff_ne]; exact hs
  have HI := hid hi
  have c2 := h.c2
  have H := hid h
  have hls := h.out.le.1
  clear hi h
  refine (callsIn_wide (n := 0)).1 ?_
  refine callsIn_of_wp_marks Try.func32 rfl trivial ?_ rfl
  simp only [Try.ntmps32, List.size_toArray, List.length_cons, List.length_nil, Nat.reduceAdd, Nat.reduceSub, Array.replicate_succ, Array.replicate_zero, List.push_toArray, List.append_toArray, List.nil_append, List.cons_append]
  gi_wp2_with (fail)
  refine ⟨trivial, rfl, callsIn_wide.2 ((lk_waiting _ _).mono ?_)⟩
  rintro e w2 ⟨rfl, hw2⟩
  gi_wp2_with (fail)
  have hs0 : w2.heap.size = w.heap.size + 2 := by rw [← hw2]; simp
  have hkw : Keeps (fun _ => False) w w2 := by rw [← hw2]; exact ((Keeps.refl _ w).alloc _).alloc _
  have hN : w2.heap[w.heap.size]? = some (.cells #[.slice none 0 0] 78 (0, 0)) := by rw [← hw2]; exact blk_alloc (blk_new _ _) _
  have hN1 : w2.heap[w.heap.size + 1]? = some (.cells #[.pointer (some ⟨B.p, 0, none⟩)] 31 (0, 0)) := by
    have := blk_new (w.alloc (.cells #[.slice none 0 0] 78)) (.cells #[.pointer (some ⟨B.p, 0, none⟩)] 31)
    rw [World.size_alloc, hw2] at this
    exact this
  have H0 := H.out.keeps hkw (fun _ _ => id)
  clear hw2
  refine wpIn_rangeF (gf := 72) (lb := #[.pointer (some ⟨w.heap.size + 1, 0, none⟩)]) rfl (enters_of Try.func72 (by kernel_rfl) rfl)
    (fun _ => rfl) l.out (fun k => k = w.heap.size ∨ w.heap.size + 3 < k) (fun b => b = B.h2 ∨ b = B.d2) (fun W => IsMR W B.h2 B.d2 8 [])
    (wait1 H0.out H0.c9 (w.heap.size + 1) (blk_cell hN1 rfl) ⟨by omega, by omega⟩ ⟨by omega, by omega, hok.a.2.2.1, hok.a.2.2.2⟩ _ ⟨by omega, by omega, by omega, by omega⟩)
    (fun X Y hX hsz hk => hX.keeps hk (by omega) (by omega))
    (by rw [hs0]; omega) (by rw [hs0]; omega)
    (fun pre W => SyI w W B l pre)
    ?inv ?start
    (fun pre x a' W => ∃ X, a' = { tmps := #[.pointer (some ⟨B.p, 0, none⟩), .int .i64 lead, undef, undef, .slice none 0 0, .pointer (some ⟨w.heap.size, 0, none⟩), .pointer (some ⟨X, 0, none⟩), .pointer (some ⟨B.p, 0, none⟩), .pointer (some ⟨B.p, 0, none⟩), .pointer (some ⟨B.p, 2, none⟩), .int .i64 l.state, .bool false, undef, undef, undef, undef, undef, undef, undef, undef, undef, undef, .pointer (some ⟨B.p, 0, none⟩), .func (.func 72) #[] #[.pointer (some ⟨w.heap.size + 1, 0, none⟩)], .agg (mC x), undef, undef, undef, undef, undef, undef, undef, undef, undef, undef, undef, undef, undef, undef, undef, undef, undef, undef, undef, undef, undef, undef], defers := [] } ∧ w.heap.size + 4 ≤ X ∧ W.heap[X]? = some (.cells (mC x) 49 (0, 0)) ∧ SyI w W B l pre)
    ?ass ?assign ?body ?done
  case inv =>
    intro pre X Y hX hsz hk
    exact hX.keep hk H.out (fun b hb => by rw [hs0] at hb; omega)
  case start => exact ⟨⟨_, hN, own_nil _ _ _ _⟩, hN1, H0.blk, H0.own, hkw.mono fun _ _ x => x.elim, by omega⟩
  case ass =>
    rintro pre x a' A A' ⟨X, rfl, hX4, hX, hI⟩ hsz hk
    exact ⟨X, rfl, hX4, hk.heap hX (by omega), hI.keep hk H.out (fun b hb => by omega)⟩
  case assign =>
    intro l' pre x rest A K hl hx hI hsz hK
    have al := alloc_msg A
    have hX := blk_new A (.cells (mC Msg.zero) 49)
    obtain ⟨hst, _, hk3⟩ := store_all (A.alloc (.cells (mC Msg.zero) 49)) 49 7 A.heap.size (mC x) _ Try.sizeOf49 rfl rfl hX (mC_one _)
    have hX4 := setRow_at (A.alloc (.cells (mC Msg.zero) 49)) A.heap.size _ (mC x) 49 hX
    have hk4 := keeps_past ((Keeps.refl (fun _ => False) A).alloc (.cells (mC Msg.zero) 49)) hk3 (fun k hk e => by omega)
    generalize (A.alloc (.cells (mC Msg.zero) 49)).setRow A.heap.size (mC x) = A4 at *
    refine wpIn_region_lit ?_
    simp only [List.zip_toArray, List.zip_cons_cons, List.zip_nil_right, List.foldl_toArray, List.foldl_cons, List.foldl_nil, List.setIfInBounds_toArray, List.set_cons_succ, List.set_cons_zero]
    refine wpListIn_run_alloc al rfl rfl ?_
    refine wpListIn_run_store (p := .pointer (some ⟨A.heap.size, 0, none⟩)) (u := .agg (mC x)) hst rfl rfl rfl rfl ?_
    refine wpListIn_nil ?_
    refine hK _ _ ⟨A.heap.size, rfl, by omega, hX4, hI.keep hk4 H.out (fun b hb => hb.elim)⟩ (hk4.mono fun _ _ x => x.elim)
  case body =>
    rintro l' pre x rest a' A hl hx ⟨X, rfl, hX4, hX, hI⟩ hsz
    obtain ⟨v, i1, i2⟩ := hI.row
    have hpl : pre.length + 1 ≤ 8 := by
      have := congrArg List.length hx
      simp at this
      omega
    have hlX : (Instr.loadAt 49 (.pointer (some ⟨X, 0, none⟩))).run Try.prog A = .ok (.agg (mC x)) A := load_msg hX
    have cv := cell_of_one i1
    have fv := free_of_one i1
    have H1 := hid i1
    have HIx := hid hI
    have Hx := hid hx
    have Hl := hid hl
    have Hs0 := hid hs0
    have hszA : w.heap.size + 4 ≤ A.heap.size := by omega
    clear hl hs0
    have hBS := blk_new A (.cells (mC x) 49)
    clear i1 hI hx hX
    unfold mC at hlX hBS
    have hcn := cells_new A (mC x) 49
    have hoA := i2.alloc (.cells (mC x) 49)
    unfold mC at hcn hoA
    gi_wp2_with (first | (refine wpListIn_run_load hlX rfl rfl rfl ?_) | (gi_at_builtin; refine wpListIn_append_own _ rfl _ _ 78 rfl (w.heap.size + 4) 49 i0 (.agg (mC Msg.zero)) 7 56 Try.underlying78 HI.out hz0 hz1 hz2 rfl (by decide) _ _ _ rfl hoA ⟨A.heap.size, 0, none⟩ 1 1 (mC x).toList rfl rfl hcn (List.all_eq_true.1 (mC_one x)) (by simp only [maxLen]; omega) (by omega) (by simp; omega) ?_; intro v' w1 hown' hgrow _; have hk1 : Keeps (fun k => k = w.heap.size ∨ w.heap.size + 3 < k) A w1 := ((Keeps.refl _ A).alloc _).grown hgrow (fun k hk => .inl (.inr (by have := (i2.lt k hk).1; omega))); obtain ⟨g', cap', rfl⟩ := ownsRow_succ hown'; have h2 := (hgrow.block w.heap.size (by simp; omega) (fun e => by have := (i2.lt _ e.symm).1; omega)).trans (blk_alloc H1.out _); have cv1 := cell_of_one h2; have fv1 := free_of_one h2; have Hb := hid h2; clear h2 hgrow))
    have hk2 := hk1.setCell (p := ⟨w.heap.size, 0, none⟩) (.inl rfl) (.slice (some ⟨g', 0, none⟩) (pre.length + 1) cap')
    have hIx := HIx.out
    refine ⟨hk2, ⟨⟨.slice (some ⟨g', 0, none⟩) (pre.length + 1) cap', by simpa using blk_set Hb.out 0 _, ?_⟩, hk2.heap hIx.bx (by omega), hk2.heap hIx.lk (by omega), hIx.ow.keeps hk2 (by omega) (by omega), keeps_past hIx.ks hk2 (fun k hk e => by omega), Nat.le_trans hIx.sz hk2.size⟩⟩
    rw [List.length_append, List.length_singleton, show bareF (pre ++ [x]) = bareF pre ++ (mC x).toList by simp [bareF]]
    exact own_keeps hown' ((Keeps.refl (fun k => k = w.heap.size) w1).setCell (p := ⟨w.heap.size, 0, none⟩) rfl _) (fun b hb h => by have := (hown'.lt b hb).1; omega)
  case done =>
    rintro W hI hM hszD hD
    rw [hs0] at hszD
    obtain ⟨v, i1, i2⟩ := hI.row
    have hW : IsLink W B { l with out := [] } := ⟨hI.lk, hI.ow, hM, hok⟩
    have cv := cell_of_one i1
    have c2 := hW.c2
    have c0 := hW.c0
    have HI2 := hid hI
    have HM := hid hM
    have HW := hid hW
    have Hs0 := hid hs0
    have HD := hid hD
    have hszW := hI.sz
    have Hout := hid hout
    clear i1 hI hW hM hs0 hD hout
    have hlN : w.heap.size + 2 < W.heap.size := by
      have := blk_lt HD.out
      rw [Hs0.out] at this
      exact this
    by_cases hst0 : l.state = 0
    · have hSF := hid (show saysF l lead = (l.out ++ [(⟨helloM l, none, 0⟩ : MV)].map MV.m, { l with out := [] }) by unfold saysF; rw [if_neg hs, if_pos hst0]; rfl)
      rw [hst0] at c2
      gi_wp2_with (fail)
      refine (wpIn_wide (n := 0)).2 (wp_calm ?_)
      have hlt2 := hlt
      have z0 := keptS_cell (S := fun k => w.heap.size + 3 < k) (w := W.drew) (p := ⟨B.p, 0, none⟩) c0 (by show ¬ w.heap.size + 3 < B.p; omega)
      have zv := keptS_cell (S := fun k => w.heap.size + 3 < k) (w := W.drew) (p := ⟨w.heap.size, 0, none⟩) cv (by show ¬ w.heap.size + 3 < w.heap.size; omega)
      have hoD := own_keeps i2 ((Keeps.refl (fun _ => False) W).drew) (fun _ _ => id)
      have hoA := hoD.alloc (.cells (mC (helloM l)) 49)
      have hBk := blk_new W.drew (.cells (mC (helloM l)) 49)
      have hkA : Keeps (fun _ => False) W.drew (W.drew.alloc (.cells (mC (helloM l)) 49)) := (Keeps.refl _ _).alloc _
      have hvl : Vals (W.drew.alloc (.cells (mC (helloM l)) 49)) 7 (some ⟨W.heap.size, 0, none⟩) 1 1 (mC (helloM l)).toList := vals_blk (t := 49) hBk rfl (by unfold maxLen; omega)
      have h1c := List.all_eq_true.1 (mC_one (helloM l))
      unfold mC helloM at hoA hBk hkA hvl h1c
      refine stages_start (by kernel_rfl) 9 rfl ?_
      refine stagek (fun k => w.heap.size + 3 < k) [0, 1, 2, 3, 4, 5] [6, 7, 8] 0 rfl #[true, true, true, true, true, true, true, true, true] (by kernel_rfl) (by kernel_rfl) (fun _ _ _ d _ h => by first | (cases d <;> exact h) | cases h.1) ?_
      simp only [opsAt, List.map_cons, List.map_nil, List.getElem?_toArray, List.getElem?_cons_zero, List.getElem?_cons_succ, Option.getD_some]
      repeat (go_big_quiet_step (fail))
      refine wpQuiet_nil ?_
      refine links_cons (by first | rfl | simp [go_sem]) (fun K hK => ?_)
      go_simp
      refine hK _ _ (keptS (hkA.mono fun _ _ x => x.elim)) ?_
      clear hK K
      try refine links_nil ?_
      refine links_cons (by first | rfl | simp [go_sem]) (fun K hK => ?_)
      refine wp_append_vals _ _ _ 78 rfl (w.heap.size + 4) 49 i0 (.agg (mC Msg.zero)) 7 56 Try.underlying78 HI.out hz0 hz1 hz2 rfl (by omega) v l.out.length (bareF l.out) rfl hoA (some ⟨W.heap.size, 0, none⟩) 1 1 _ rfl hvl h1c (by simp only [maxLen]; omega) (by omega) (by simp; omega) ?_
      intro v' w1 hown' hgrow _
      simp only [Act.put, List.setIfInBounds_toArray, List.set_cons_succ, List.set_cons_zero]
      have hkB : Keeps (fun k => w.heap.size + 3 < k) W.drew w1 := (hkA.mono fun _ _ x => x.elim).grown hgrow (fun k hk => .inl (by have := (i2.lt k hk).1; omega))
      have hkd : Keeps (fun k => w.heap.size + 3 < k) W w1 := ((Keeps.refl _ W).drew).trans hkB
      refine hK _ _ (keptS (hkB)) ?_
      clear hK K
      try refine links_nil ?_
      refine links_cons (by first | rfl | simp [go_sem]) (fun K hK => ?_)
      go_simp
      refine hK _ _ (keptS (hkB)) ?_
      clear hK K
      try refine links_nil ?_
      refine stages_end (by kernel_rfl) ?_
      refine ⟨rfl, ?_⟩
      have hD2 := hkd.heap HD.out (by rw [Hs0.out]; omega)
      rw [Hs0.out] at hD2
      have hend := fun o => says_end (v := v') (lead := lead) (ys := [⟨helloM l, none, 0⟩]) HI2.out HM.out H.out hkd hown' rfl Hout.out (fun x hx => by
        simp only [List.mem_cons, List.not_mem_nil, or_false] at hx
        subst hx
        exact ⟨bytes_nil _, fun _ e => by simp at e⟩) hSF.out o
      have HE := hid hend
      rw [Hs0.out]
      clear hend hown' hoA hoD hvl hBk h1c z0 zv
      gi_wp2
      refine ⟨by simp, .inl ⟨_, _, rfl, run_takeDeferred hD2, ?_⟩⟩
      refine ⟨_, results_tmp rfl _ _ _, ?_⟩
      exact HE.out _
    · have hSF := hid (show saysF l lead = (l.out ++ talkF l lead, { l with out := [] }) by unfold saysF; rw [if_neg hs, if_neg hst0])
      have q0 : (l.state == 0) = false := by rw [beq_eq_false_iff_ne]; exact hst0
      gi_wp2_with (fail)
      refine (wpIn_wide (n := 0)).2 (wp_calm ?_)
      have hlt2 := hlt
      have zv := keptS_cell (S := fun k => w.heap.size + 3 < k) (w := W.drew) (p := ⟨w.heap.size, 0, none⟩) cv (by show ¬ w.heap.size + 3 < w.heap.size; omega)
      have hT := lk_talk (HW.out.drew 1) lead ht
      refine stages_start (by kernel_rfl) 6 rfl ?_
      refine stagek (fun k => w.heap.size + 3 < k) [0, 1, 2] [3, 4, 5] 0 rfl #[true, true, true, true, true, true] (by kernel_rfl) (by kernel_rfl) (fun _ _ _ d _ h => by first | (cases d <;> exact h) | cases h.1) ?_
      simp only [opsAt, List.map_cons, List.map_nil, List.getElem?_toArray, List.getElem?_cons_zero, List.getElem?_cons_succ, Option.getD_some]
      repeat (go_big_quiet_step (fail))
      refine wpQuiet_nil ?_
      refine links_cons (by first | rfl | simp [go_sem]) (fun K hK => ?_)
      go_simp
      refine hT.mono ?_
      rintro e w4 ⟨⟨A4, cap4, ys, rfl, hS4, hm4⟩, hb4⟩
      have hk4 : Keeps (fun _ => False) W.drew w4 := Keeps.of_below hb4 (fun k h1 h2 => by have h1 : k < W.heap.size := h1; have h2 : W.heap.size ≤ k := h2; omega)
      refine hK _ _ (keptS (hk4.mono fun _ _ x => x.elim)) ?_
      clear hK K
      try refine links_nil ?_
      refine links_cons (by first | rfl | simp [go_sem]) (fun K hK => ?_)
      have hoD := own_keeps i2 (((Keeps.refl (fun _ => False) W).drew).trans hk4) (fun _ _ => id)
      have hny : 0 < ys.length := by
        have := congrArg List.length hm4
        rw [List.length_map] at this
        rw [this]
        unfold talkF
        split <;> simp
      have hy2 : ys.length ≤ 2 := by
        have := congrArg List.length hm4
        rw [List.length_map] at this
        rw [this]
        unfold talkF
        split <;> simp
      have hone : ∀ u ∈ flatM ys, u.oneCell' = true := by
        intro u hu
        unfold flatM at hu
        obtain ⟨x, _, hx⟩ := List.mem_flatMap.1 hu
        have hall : (mvC x).toList.all (fun v => v.oneCell') = true := by kernel_rfl
        exact List.all_eq_true.1 hall u hx
      have hs4 : W.heap.size ≤ w4.heap.size := hk4.size
      refine wp_append_vals _ _ _ 78 rfl (w.heap.size + 4) 49 i0 (.agg (mC Msg.zero)) 7 56 Try.underlying78 HI.out hz0 hz1 hz2 rfl (by omega) v l.out.length (bareF l.out) rfl hoD A4 ys.length cap4 _ rfl hS4.vals hone (by simp only [maxLen]; omega) (by omega) (by omega) ?_
      intro v' w1 hown' hgrow _
      simp only [Act.put, List.setIfInBounds_toArray, List.set_cons_succ, List.set_cons_zero]
      have hkB : Keeps (fun k => w.heap.size + 3 < k) w4 w1 := (Keeps.refl _ w4).grown hgrow (fun k hk => .inl (by have := (i2.lt k hk).1; omega))
      have hkR : Keeps (fun k => k < W.heap.size) w4 w1 := (Keeps.refl _ w4).grown hgrow (fun k hk => .inl (i2.lt k hk).2)
      have hkC : Keeps (fun k => w.heap.size + 3 < k) W.drew w1 := (hk4.mono fun _ _ x => x.elim).trans hkB
      refine hK _ _ (keptS (hkC)) ?_
      clear hK K
      try refine links_nil ?_
      refine links_cons (by first | rfl | simp [go_sem]) (fun K hK => ?_)
      go_simp
      refine hK _ _ (keptS (hkC)) ?_
      clear hK K
      try refine links_nil ?_
      refine stages_end (by kernel_rfl) ?_
      refine ⟨rfl, ?_⟩
      have hkd : Keeps (fun k => w.heap.size + 3 < k) W w1 := ((Keeps.refl _ W).drew).trans hkC
      have hD2 := hkd.heap HD.out (by rw [Hs0.out]; omega)
      rw [Hs0.out] at hD2
      have hend := fun o => says_end (v := v') (lead := lead) (ys := ys) HI2.out HM.out H.out hkd hown' rfl Hout.out (fun x hx => by
        obtain ⟨h1, h2⟩ := hS4.ins x hx
        exact ⟨h1.keeps hkR (fun _ y e h => by have h3 : W.heap.size ≤ y.block := h2 y e; have h : y.block < W.heap.size := h; omega), fun y e => by have h3 : W.heap.size ≤ y.block := h2 y e; omega⟩) (by rw [hm4]; exact hSF.out) o
      have HE := hid hend
      rw [Hs0.out]
      clear hend hown' hoD zv hS4 hone
      gi_wp2
      refine ⟨by simp, .inl ⟨_, _, rfl, run_takeDeferred hD2, ?_⟩⟩
      refine ⟨_, results_tmp rfl _ _ _, ?_⟩
      exact HE.out _
theorem lk_says (h : IsLink w B l) (lead : Int) (ht : 0 ≤ l.ticks ∧ l.ticks ≤ 1099511627776) (hout : ∀ m ∈ l.out, m.ins = []) : Calls Try.prog 32 #[.pointer (some ⟨B.p, 0, none⟩), .int .i64 lead] w (SaysPost w B l lead) := by
  by_cases hs : l.state = 2
  · exact says_gone h lead hs
  · exact says_on h lead hs ht hout
end Go.Proofs.Ytaobhbfhbmenfaa
/- link: a tick. -/
namespace Go.Proofs.Ytaobhbfhbmenfaa
open Go.RowKit
set_option maxRecDepth 10000
variable {w : World} {B : LB} {l : Lk}
def upL (l : Lk) : Lk := { l with ticks := l.ticks + 1 }
def endL (l : Lk) : Lk := if (upL l).patience < (upL l).ticks - (upL l).heard then { upL l with state := 2 } else upL l
def tickF (l : Lk) (lead : Int) : List Msg × Lk := saysF (endL l) lead
def strsM (ms : List Msg) : List Value := ms.map fun m => Value.string ⟨(packM m).toArray⟩
/-- what a tick sends -/
def TickPost (w : World) (B : LB) (l : Lk) (lead : Int) (e : Ending) (w' : World) : Prop :=
  (∃ A cap, e = .returned (.slice A (tickF l lead).1.length cap) ∧ Vals w' 1 A (tickF l lead).1.length cap (strsM (tickF l lead).1) ∧ ∀ y, A = some y → w.heap.size ≤ y.block) ∧ IsLink w' B (tickF l lead).2 ∧ Keeps B.S w w'
theorem info_str : (Try.prog.info? 9).map (fun i => (i.zero, i.size, i.bytes)) = some (some (.string ByteArray.empty), 1, 16) := by kernel_rfl
theorem bytes_below {w w' : World} {a : Option Addr} {c : Nat} {L : List UInt8} (h : IsBytes w a c L) (hb : Below w.heap.size w w') : IsBytes w' a c L :=
  h.keeps (S := fun _ => False) (Keeps.of_below hb (fun k h1 h2 => by omega)) (fun _ _ _ => id)
theorem flat_at {xs : List MV} {k : Nat} {x : MV} (h : xs[k]? = some x) (j : Nat) (hj : j < 7) : (flatM xs)[k * 7 + j]? = (mvC x).toList[j]? := by
  induction xs generalizing k with
  | nil => simp at h
  | cons y ys ih =>
    have hl : (mvC y).toList.length = 7 := rfl
    unfold flatM at ih ⊢
    rw [List.flatMap_cons]
    cases k with
    | zero =>
      simp only [List.getElem?_cons_zero, Option.some.injEq] at h
      subst h
      rw [List.getElem?_append_left (by omega)]
      congr 1
      omega
    | succ k =>
      rw [List.getElem?_cons_succ] at h
      rw [List.getElem?_append_right (by omega), hl, ← ih h]
      congr 1
      omega
/-- the loop that packs -/
theorem tick_loop_cells {w4 wr : World} {b : Nat} {bb o cap : Nat} {xs : List MV} (h : SlcM b w4 (some ⟨bb, o, none⟩) cap xs) (hb : Below w4.heap.size w4 wr) (k : Nat) (x : MV) (hx : xs[k]? = some x) (j : Nat) (hj : j < 7) (u : Value) (hu : (mvC x).toList[j]? = some u) : wr.cell? ⟨bb, o + k * 7 + j, none⟩ = some u := by
  rw [Nat.add_assoc]
  have hk : k < xs.length := (List.getElem?_eq_some_iff.1 hx).1
  obtain ⟨b', o', e, hc⟩ := h.vals.at' (by omega)
  cases e
  have := hc (k * 7 + j) u (by rw [flat_at hx j hj, hu])
  exact (Keeps.of_below (S := fun _ => False) hb (fun k h1 h2 => by omega)).cell this id
set_option maxHeartbeats 2000000 in
theorem lk_Tick (h : IsLink w B l) (lead : Int) (ht : 0 ≤ l.ticks ∧ l.ticks ≤ 1000000) (hh : 0 ≤ l.heard ∧ l.heard ≤ 1000000) (hout : ∀ m ∈ l.out, m.ins = []) (hm : ∀ m ∈ (tickF l lead).1, m.wf ∧ RightP m) (hn : (tickF l lead).1.length ≤ 100) :
    Calls Try.prog 17 #[.pointer (some ⟨B.p, 0, none⟩), .int .i64 lead] w (TickPost w B l lead) := by
  have c4 := h.c4
  have f4 := h.free 4
  have hU := h.set 4 (.int .i64 (l.ticks + 1)) (upL l) rfl rfl rfl
  have hkU := Keeps.setCell (S := B.S) (Keeps.refl _ w) (p := ⟨B.p, 4, none⟩) (.inl rfl) (.int .i64 (l.ticks + 1))
  have H := hid h
  clear h
  obtain ⟨i0, hi, hz0, hz1, hz2⟩ : ∃ i, Try.prog.info? 9 = some i ∧ i.zero = some (.string ByteArray.empty) ∧ i.size = 1 ∧ i.bytes = 16 := by
    have h := info_str
    cases hh : Try.prog.info? 9 with
    | none => rw [hh] at h; cases h
    | some i => rw [hh] at h; simp only [Option.map_some, Option.some.injEq, Prod.mk.injEq] at h; exact ⟨i, rfl, h.1, h.2.1, h.2.2⟩
  have Hi := hid hi
  clear hi
  by_cases hp : l.patience < l.ticks + 1 - l.heard
  · have hE : endL l = { upL l with state := 2 } := by unfold endL; rw [if_pos (by exact hp)]
    go_enter Try.func17, Try.ntmps17
    go_wp2_with fail
    generalize w.setCell ⟨B.p, 4, none⟩ (.int .i64 (l.ticks + 1)) = w1 at *
    have d4 : w1.cell? ⟨B.p, 4, none⟩ = some (.int .i64 (l.ticks + 1)) := hU.c4
    have d5 : w1.cell? ⟨B.p, 5, none⟩ = some (.int .i64 l.heard) := hU.c5
    have d1 : w1.cell? ⟨B.p, 1, none⟩ = some (.int .i64 l.patience) := hU.c1
    go_quiet (fail)
    have d2 := (hU.drew nq).c2
    have g2 := (hU.drew nq).free 2
    have h3 := (hU.drew nq).set 2 (.int .i64 2) (endL l) (by rw [hE]; rfl) (by rw [hE]) (by rw [hE])
    have hk3 := Keeps.setCell (S := B.S) (hkU.drewN nq) (p := ⟨B.p, 2, none⟩) (.inl rfl) (.int .i64 2)
    clear hE
    go_wp2_with fail
    clear d4 d5 d1 d2 g2 hU hkU c4 f4
    generalize (w1.drewN nq).setCell ⟨B.p, 2, none⟩ (.int .i64 2) = w3 at *
    have hT9 : 0 ≤ (endL l).ticks ∧ (endL l).ticks ≤ 1099511627776 := by
      have : (endL l).ticks = l.ticks + 1 := by unfold endL; split <;> rfl
      rw [this]
      omega
    have hO9 : ∀ m ∈ (endL l).out, m.ins = [] := by
      have : (endL l).out = l.out := by unfold endL; split <;> rfl
      rw [this]
      exact hout
    refine (lk_says h3 lead hT9 hO9).mono ?_
    rintro e w4 ⟨⟨A, cap, xs, rfl, hS, hxs⟩, hL4, hk4⟩
    have hk4' := hk3.trans hk4
    have HL4 := hid hL4
    have HK4 := hid hk4'
    have hxl : xs.length = (tickF l lead).1.length := by
      have := congrArg List.length hxs
      rwa [List.length_map] at this
    have hs34 : w.heap.size ≤ w4.heap.size := hk4'.size
    have hS0 : ∀ y, A = some y → w.heap.size ≤ y.block := fun y e => Nat.le_trans hk3.size (hS.new y e)
    have HS := hid hS
    have Hxs := hid (show xs.map MV.m = (tickF l lead).1 from hxs)
    have Hm := hid hm
    have Hn := hid hn
    clear hT9 hO9 hS hL4 hk4 hk4' h3 hk3 hm hout hxs hn
    have hnl : xs.length ≤ 100 := by rw [hxl]; exact Hn.out
    go_wp2_with fail
    go_loopw [5, 40] (fun v i wr => ∃ k : Nat, k ≤ xs.length ∧ i = .int .i64 k ∧ wr.ownsRow w4.heap.size 9 1 v k (strsM ((xs.take k).map MV.m)) ∧ Below w4.heap.size w4 wr) (fun _ i _ => xs.length - (intOf i).toNat)
    case atStart => exact ⟨0, Nat.zero_le _, rfl, own_nil _ _ _ _, Below.refl _ _⟩
    case round =>
      obtain ⟨k, hk, rfl, hown, hbr⟩ := hrel
      by_cases hlt : k < xs.length
      · obtain ⟨x, hx⟩ : ∃ x, xs[k]? = some x := ⟨xs[k], List.getElem?_eq_getElem hlt⟩
        obtain ⟨bb, o, rfl, _⟩ := HS.out.vals.at' (by omega)
        have y0 : wr.cell? ⟨bb, o + k * 7, none⟩ = some (.int .i64 x.m.kind) := tick_loop_cells HS.out hbr k x hx 0 (by omega) (.int .i64 x.m.kind) rfl
        have y1 := tick_loop_cells HS.out hbr k x hx 1 (by omega) (.int .u32 x.m.nonce) rfl
        have y2 := tick_loop_cells HS.out hbr k x hx 2 (by omega) (.int .u16 x.m.serial) rfl
        have y3 := tick_loop_cells HS.out hbr k x hx 3 (by omega) (.int .u16 x.m.ack) rfl
        have y4 := tick_loop_cells HS.out hbr k x hx 4 (by omega) (.slice x.a x.m.ins.length x.c) rfl
        have y5 := tick_loop_cells HS.out hbr k x hx 5 (by omega) (.int .u32 x.m.sum) rfl
        have y6 := tick_loop_cells HS.out hbr k x hx 6 (by omega) (.int .i64 x.m.lead) rfl
        have hmm : (x.m).wf ∧ RightP x.m := Hm.out x.m (by rw [← Hxs.out]; exact List.mem_map.2 ⟨x, List.mem_of_getElem? hx, rfl⟩)
        have hIb := bytes_below (HS.out.ins x (List.mem_of_getElem? hx)).1 hbr
        have hE0 : packE x.m = 0 := by unfold packE; rw [if_pos hmm.2]
        have hS0' : packS x.m = packM x.m := by unfold packS; rw [if_pos hmm.2]
        have hnv : strsM ((xs.take (k + 1)).map MV.m) = strsM ((xs.take k).map MV.m) ++ [.string ⟨(packM x.m).toArray⟩] := by
          rw [List.take_add_one, hx]; simp [strsM]
        have Hnv := hid hnv
        have Hbr := hid hbr
        have hsz := hbr.size
        clear hnv hbr
        go_wp2_with fail
        have hbb : Below w4.heap.size wr (wr.alloc (.cells (mvC x) 49)) := (Below.refl _ wr).alloc hsz _
        refine (wire_Pack x.m (bytes_below hIb ((Below.refl _ wr).alloc (Nat.le_refl _) _)) hmm.1).mono ?_
        rintro e w5 ⟨rfl, hb5⟩
        rw [hE0, hS0']
        have hk5 : Keeps (fun _ => False) wr w5 := ((Keeps.refl (fun _ => False) wr).alloc _).trans (Keeps.of_below hb5 (fun k h1 h2 => by omega))
        clear hE0 hS0' hbb hb5 hIb hmm y0 y1 y2 y3 y4 y5 y6
        have hs5 := hk5.size
        generalize packM x.m = px at *
        have hv1 := vals_one w5 (.string ⟨px.toArray⟩) 9
        have hown5 := own_keeps hown hk5 (fun _ _ => id)
        go_wp2_with (at_builtin; refine wpList_append_vals _ rfl (.tmp 51) (.tmp 53) _ rfl w4.heap.size 9 i0 _ 1 16 Try.underlying33 Hi.out hz0 hz1 hz2 rfl (by omega) _ k _ rfl (own_keeps hown5 ((Keeps.refl (fun _ => False) _).alloc _) (fun _ _ => id)) (some ⟨_, 0, none⟩) 1 1 [.string ⟨px.toArray⟩] rfl hv1 (by simp [Value.oneCell']) (by simp only [maxLen]; omega) (by omega) (by simp; omega) ?_)
        intro v1 w6 hown1 hg1 _
        have hk6 : Keeps (fun k => w4.heap.size ≤ k) w5 w6 := ((Keeps.refl _ w5).alloc _).grown hg1 (fun k hk => .inl (hown5.lt k hk).1)
        have hk56 : Keeps (fun k => w4.heap.size ≤ k) wr w6 := keeps_past (hk5.mono fun _ _ x => x.elim) hk6 (fun k _ h => h)
        have hb6 := Hbr.out.trans (hk56.below hsz (fun k h1 h2 => by omega))
        go_wp2_with fail
        go_roundw
        case rel => exact ⟨k + 1, by omega, by go_num, by rw [Hnv.out]; simpa using hown1, hb6⟩
        case measure => simp [intOf]; omega
      · obtain rfl : k = xs.length := by omega
        obtain ⟨A', cp, rfl, hvM, hbM⟩ := vals_of_own hown
        rw [List.take_length, Hxs.out] at hvM
        rw [hxl] at hvM
        go_wp2_with fail
        go_ret
        refine ⟨⟨A', cp, by rw [← hxl]; rfl, hvM, fun y e => Nat.le_trans hs34 (hbM y e).1⟩, HL4.out.below hbr, ?_⟩
        exact keeps_past HK4.out (Keeps.of_below (S := fun _ => False) hbr (fun k h1 h2 => by omega)) (fun k _ h => h.elim)
  · have hE : endL l = upL l := by unfold endL; rw [if_neg (by exact hp)]
    go_enter Try.func17, Try.ntmps17
    go_wp2_with fail
    generalize w.setCell ⟨B.p, 4, none⟩ (.int .i64 (l.ticks + 1)) = w1 at *
    have d4 : w1.cell? ⟨B.p, 4, none⟩ = some (.int .i64 (l.ticks + 1)) := hU.c4
    have d5 : w1.cell? ⟨B.p, 5, none⟩ = some (.int .i64 l.heard) := hU.c5
    have d1 : w1.cell? ⟨B.p, 1, none⟩ = some (.int .i64 l.patience) := hU.c1
    go_quiet (fail)
    have h3 := hU.drew nq
    rw [← hE] at h3
    have hk3 := hkU.drewN nq
    clear hE
    go_wp2_with fail
    clear d4 d5 d1 hU hkU c4 f4
    generalize w1.drewN nq = w3 at *
    have hT9 : 0 ≤ (endL l).ticks ∧ (endL l).ticks ≤ 1099511627776 := by
      have : (endL l).ticks = l.ticks + 1 := by unfold endL; split <;> rfl
      rw [this]
      omega
    have hO9 : ∀ m ∈ (endL l).out, m.ins = [] := by
      have : (endL l).out = l.out := by unfold endL; split <;> rfl
      rw [this]
      exact hout
    refine (lk_says h3 lead hT9 hO9).mono ?_
    rintro e w4 ⟨⟨A, cap, xs, rfl, hS, hxs⟩, hL4, hk4⟩
    have hk4' := hk3.trans hk4
    have HL4 := hid hL4
    have HK4 := hid hk4'
    have hxl : xs.length = (tickF l lead).1.length := by
      have := congrArg List.length hxs
      rwa [List.length_map] at this
    have hs34 : w.heap.size ≤ w4.heap.size := hk4'.size
    have hS0 : ∀ y, A = some y → w.heap.size ≤ y.block := fun y e => Nat.le_trans hk3.size (hS.new y e)
    have HS := hid hS
    have Hxs := hid (show xs.map MV.m = (tickF l lead).1 from hxs)
    have Hm := hid hm
    have Hn := hid hn
    clear hT9 hO9 hS hL4 hk4 hk4' h3 hk3 hm hout hxs hn
    have hnl : xs.length ≤ 100 := by rw [hxl]; exact Hn.out
    go_wp2_with fail
    go_loopw [5, 40] (fun v i wr => ∃ k : Nat, k ≤ xs.length ∧ i = .int .i64 k ∧ wr.ownsRow w4.heap.size 9 1 v k (strsM ((xs.take k).map MV.m)) ∧ Below w4.heap.size w4 wr) (fun _ i _ => xs.length - (intOf i).toNat)
    case atStart => exact ⟨0, Nat.zero_le _, rfl, own_nil _ _ _ _, Below.refl _ _⟩
    case round =>
      obtain ⟨k, hk, rfl, hown, hbr⟩ := hrel
      by_cases hlt : k < xs.length
      · obtain ⟨x, hx⟩ : ∃ x, xs[k]? = some x := ⟨xs[k], List.getElem?_eq_getElem hlt⟩
        obtain ⟨bb, o, rfl, _⟩ := HS.out.vals.at' (by omega)
        have y0 : wr.cell? ⟨bb, o + k * 7, none⟩ = some (.int .i64 x.m.kind) := tick_loop_cells HS.out hbr k x hx 0 (by omega) (.int .i64 x.m.kind) rfl
        have y1 := tick_loop_cells HS.out hbr k x hx 1 (by omega) (.int .u32 x.m.nonce) rfl
        have y2 := tick_loop_cells HS.out hbr k x hx 2 (by omega) (.int .u16 x.m.serial) rfl
        have y3 := tick_loop_cells HS.out hbr k x hx 3 (by omega) (.int .u16 x.m.ack) rfl
        have y4 := tick_loop_cells HS.out hbr k x hx 4 (by omega) (.slice x.a x.m.ins.length x.c) rfl
        have y5 := tick_loop_cells HS.out hbr k x hx 5 (by omega) (.int .u32 x.m.sum) rfl
        have y6 := tick_loop_cells HS.out hbr k x hx 6 (by omega) (.int .i64 x.m.lead) rfl
        have hmm : (x.m).wf ∧ RightP x.m := Hm.out x.m (by rw [← Hxs.out]; exact List.mem_map.2 ⟨x, List.mem_of_getElem? hx, rfl⟩)
        have hIb := bytes_below (HS.out.ins x (List.mem_of_getElem? hx)).1 hbr
        have hE0 : packE x.m = 0 := by unfold packE; rw [if_pos hmm.2]
        have hS0' : packS x.m = packM x.m := by unfold packS; rw [if_pos hmm.2]
        have hnv : strsM ((xs.take (k + 1)).map MV.m) = strsM ((xs.take k).map MV.m) ++ [.string ⟨(packM x.m).toArray⟩] := by
          rw [List.take_add_one, hx]; simp [strsM]
        have Hnv := hid hnv
        have Hbr := hid hbr
        have hsz := hbr.size
        clear hnv hbr
        go_wp2_with fail
        have hbb : Below w4.heap.size wr (wr.alloc (.cells (mvC x) 49)) := (Below.refl _ wr).alloc hsz _
        refine (wire_Pack x.m (bytes_below hIb ((Below.refl _ wr).alloc (Nat.le_refl _) _)) hmm.1).mono ?_
        rintro e w5 ⟨rfl, hb5⟩
        rw [hE0, hS0']
        have hk5 : Keeps (fun _ => False) wr w5 := ((Keeps.refl (fun _ => False) wr).alloc _).trans (Keeps.of_below hb5 (fun k h1 h2 => by omega))
        clear hE0 hS0' hbb hb5 hIb hmm y0 y1 y2 y3 y4 y5 y6
        have hs5 := hk5.size
        generalize packM x.m = px at *
        have hv1 := vals_one w5 (.string ⟨px.toArray⟩) 9
        have hown5 := own_keeps hown hk5 (fun _ _ => id)
        go_wp2_with (at_builtin; refine wpList_append_vals _ rfl (.tmp 51) (.tmp 53) _ rfl w4.heap.size 9 i0 _ 1 16 Try.underlying33 Hi.out hz0 hz1 hz2 rfl (by omega) _ k _ rfl (own_keeps hown5 ((Keeps.refl (fun _ => False) _).alloc _) (fun _ _ => id)) (some ⟨_, 0, none⟩) 1 1 [.string ⟨px.toArray⟩] rfl hv1 (by simp [Value.oneCell']) (by simp only [maxLen]; omega) (by omega) (by simp; omega) ?_)
        intro v1 w6 hown1 hg1 _
        have hk6 : Keeps (fun k => w4.heap.size ≤ k) w5 w6 := ((Keeps.refl _ w5).alloc _).grown hg1 (fun k hk => .inl (hown5.lt k hk).1)
        have hk56 : Keeps (fun k => w4.heap.size ≤ k) wr w6 := keeps_past (hk5.mono fun _ _ x => x.elim) hk6 (fun k _ h => h)
        have hb6 := Hbr.out.trans (hk56.below hsz (fun k h1 h2 => by omega))
        go_wp2_with fail
        go_roundw
        case rel => exact ⟨k + 1, by omega, by go_num, by rw [Hnv.out]; simpa using hown1, hb6⟩
        case measure => simp [intOf]; omega
      · obtain rfl : k = xs.length := by omega
        obtain ⟨A', cp, rfl, hvM, hbM⟩ := vals_of_own hown
        rw [List.take_length, Hxs.out] at hvM
        rw [hxl] at hvM
        go_wp2_with fail
        go_ret
        refine ⟨⟨A', cp, by rw [← hxl]; rfl, hvM, fun y e => Nat.le_trans hs34 (hbM y e).1⟩, HL4.out.below hbr, ?_⟩
        exact keeps_past HK4.out (Keeps.of_below (S := fun _ => False) hbr (fun k h1 h2 => by omega)) (fun k _ h => h.elim)
end Go.Proofs.Ytaobhbfhbmenfaa
/- link: the example; what a link that is not there hears. -/
namespace Go.Proofs.Ytaobhbfhbmenfaa
open Go.RowKit
set_option maxRecDepth 10000
variable {w : World}
theorem nil_Hear (s : ByteArray) (w : World) : Calls Try.prog 19 #[.pointer none, .string s] w fun e w' => e = .returned (.tuple #[.agg #[.int .i64 0, .int .i64 0, .slice none 0 0, .int .i64 0, .int .u32 0, .int .i64 0], .int .i64 2]) ∧ Below w.heap.size w w' := by
  go_enter Try.func19, Try.ntmps19
  go_wp2
  have hB := blk_new w (.cells #[.int .i64 0, .int .i64 0, .slice none 0 0, .int .i64 0, .int .u32 0, .int .i64 0] 51)
  have hload := box_load _ _ _ _ hB 6 rfl
  refine bodyPost_ret (v := .tuple #[.agg #[.int .i64 0, .int .i64 0, .slice none 0 0, .int .i64 0, .int .u32 0, .int .i64 0], .int .i64 2]) (by simp [results, Try.results19, asAddr, loadVar, loadCells, Try.isAgg51, Try.sizeOf51, hload]) rfl ?_
  exact ⟨rfl, (Below.refl _ _).alloc (Nat.le_refl _) _⟩
theorem hello_tick : tickF (Lk.new 7 10 0) 0 = ([⟨1, 7, 0, 0, [], 0, 0⟩], { Lk.new 7 10 0 with ticks := 1 }) := by
  unfold tickF endL upL saysF Lk.new
  simp [helloM]
theorem hello_right : RightP ⟨1, 7, 0, 0, [], 0, 0⟩ ∧ Msg.wf ⟨1, 7, 0, 0, [], 0, 0⟩ := by
  exact ⟨by decide, by decide, by decide, by decide, by decide, by decide, by decide⟩
theorem awake16 (w : World) : Calls Try.prog 7 #[] w fun e w' => e = .returned (.bool true) ∧ Below w.heap.size w w' := by
  go_enter Try.func7, Try.ntmps7
  go_wp2_with fail
  refine (lk_New 7 10 0 (by omega) (by omega) _).mono ?_
  rintro e w1 ⟨rfl, hL, hb1⟩
  go_wp2_with fail
  refine (lk_Tick hL 0 (by simp [Lk.new]) (by simp [Lk.new]) (by simp [Lk.new]) (by rw [hello_tick]; simp; exact hello_right.symm) (by rw [hello_tick]; simp)).mono ?_
  rintro e w2 ⟨⟨A, cap, rfl, hV, hA⟩, hL2, hk2⟩
  rw [hello_tick] at hV ⊢
  obtain ⟨b, o, rfl, hc⟩ := hV.at' (by simp)
  have c0 : w2.cell? ⟨b, o, none⟩ = some (.string ⟨(packM ⟨1, 7, 0, 0, [], 0, 0⟩).toArray⟩) := hc 0 _ rfl
  go_wp2_with fail
  refine (wire_Unpack _ (by have := pack_len ⟨1, 7, 0, 0, [], 0, 0⟩ hello_right.1; simp [ByteArray.size]; omega)).mono ?_
  rw [show (unpM (ByteArray.mk (packM ⟨1, 7, 0, 0, [], 0, 0⟩).toArray).data.toList) = (⟨1, 7, 0, 0, [], 0, 0⟩, 0) from unpM_pack _ hello_right.1 hello_right.2]
  rintro e w3 ⟨a, c, rfl, hA3, hb3⟩
  go_wp2
  go_ret
  refine ⟨by rfl, ?_⟩
  have hk3 : Keeps (fun b => w.heap.size ≤ b) w1 w3 := keeps_past (hk2.mono fun b _ h => by rcases h with e | e | e | e | e <;> simp at e <;> omega) (Keeps.of_below (S := fun _ => False) hb3 (fun k h1 h2 => by omega)) (fun _ _ h => h.elim)
  exact (hb1.trans (hk3.below hb1.size (fun k h1 h2 => by omega))).alloc (by have := hb1.size; have := hk3.size; omega) _
end Go.Proofs.Ytaobhbfhbmenfaa
/- link: the law on a link that is not there. -/
namespace Go.Proofs.Ytaobhbfhbmenfaa
open Go.RowKit
set_option maxRecDepth 10000
variable {w : World}
theorem same_zero (w : World) : Calls Try.prog 24 #[.agg #[.int .i64 0, .int .i64 0, .slice none 0 0, .int .i64 0, .int .u32 0, .int .i64 0], .agg #[.int .i64 0, .int .i64 0, .slice none 0 0, .int .i64 0, .int .u32 0, .int .i64 0]] w fun e w' => e = .returned (.bool true) ∧ Below w.heap.size w w' := by
  have hS := fun W => ref_SameB W none none 0 0 [] [] (bytes_nil _) (bytes_nil _)
  go_enter Try.func24, Try.ntmps24
  go_wp2_with fail
  refine (hS _).mono ?_
  rintro e w1 ⟨rfl, q, rfl⟩
  go_wp2_with fail
  go_ret
  refine ⟨by rfl, below_drewN (((Below.refl _ _).alloc (Nat.le_refl _) _).alloc (by simp) _) q⟩
def actC (k b i : Int) (s : ByteArray) (m : Msg) (a : Option Addr) (c : Nat) : Array Value := #[.int .i64 k, .int .i64 b, .int .u8 i, .string s, .int .i64 m.kind, .int .u32 m.nonce, .int .u16 m.serial, .int .u16 m.ack, .slice a m.ins.length c, .int .u32 m.sum, .int .i64 m.lead]
set_option maxHeartbeats 1000000 in
theorem law_LinkNil (k b i : Int) (s : ByteArray) (m : Msg) (a : Option Addr) (c : Nat) (w : World) : Calls Try.prog 6 #[.agg (actC k b i s m a c)] w fun e w' => e = .returned (.bool true) ∧ Below w.heap.size w w' := by
  have hX := blk_new w (.cells (actC k b i s m a c) 58)
  have hbe := (Below.refl w.heap.size w).alloc (Nat.le_refl _) (.cells (actC k b i s m a c) 58)
  unfold actC at *
  by_cases hs : s.size ≤ 400
  · go_enter Try.func6, Try.ntmps6
    go_wp2_with fail
    refine (awake16 _).mono ?_
    rintro e w1 ⟨rfl, hb1⟩
    have hX1 := (Keeps.of_below (S := fun _ => False) hb1 (fun k h1 h2 => by omega)).heap hX id
    have hbe1 := hbe.trans (hb1.mono (by simp))
    have x1 := blk_cell (k := 1) hX1 rfl
    have x2 := blk_cell (k := 2) hX1 rfl
    have x3 := blk_cell (k := 3) hX1 rfl
    clear hX hbe hb1
    go_wp2_with fail
    first | (refine (nil_State _).mono ?_; rintro e wq ⟨rfl, rfl⟩) | (refine (nil_Next _).mono ?_; rintro e wq ⟨rfl, rfl⟩) | (refine (nil_Acked _).mono ?_; rintro e wq ⟨rfl, rfl⟩) | (refine (nil_Waits _).mono ?_; rintro e wq ⟨rfl, rfl⟩) | (refine (nil_Ticks _).mono ?_; rintro e wq ⟨rfl, rfl⟩) | (refine (nil_Counts _).mono ?_; rintro e wq ⟨rfl, rfl⟩) | (refine (nil_Own _ _ _).mono ?_; rintro e wq ⟨rfl, rfl⟩) | (refine (nil_Report _ _ _).mono ?_; rintro e wq ⟨rfl, rfl⟩) | (refine (nil_Tick _ _).mono ?_; rintro e wq ⟨rfl, rfl⟩) | (refine (nil_Bye _).mono ?_; rintro e wq ⟨rfl, rfl⟩)
    go_wp2_with fail
    refine (nil_Hear _ _).mono ?_
    rintro e w2 ⟨rfl, hb2⟩
    have hX2 := (Keeps.of_below (S := fun _ => False) hb2 (fun k h1 h2 => by omega)).heap hX1 id
    have hbe2 := hbe1.trans (hb2.mono hbe1.size)
    clear x1 x2 x3 hX1 hbe1 hb2
    have hlt2 := blk_lt hX2
    have x1 : w2.cell? ⟨w.heap.size, 1, none⟩ = some (.int .i64 b) := blk_cell hX2 rfl
    have x2 : w2.cell? ⟨w.heap.size, 2, none⟩ = some (.int .u8 i) := blk_cell hX2 rfl
    have x3 : w2.cell? ⟨w.heap.size, 3, none⟩ = some (.string s) := blk_cell hX2 rfl
    go_wp2_with fail
    first | (refine (nil_State _).mono ?_; rintro e wq ⟨rfl, rfl⟩) | (refine (nil_Next _).mono ?_; rintro e wq ⟨rfl, rfl⟩) | (refine (nil_Acked _).mono ?_; rintro e wq ⟨rfl, rfl⟩) | (refine (nil_Waits _).mono ?_; rintro e wq ⟨rfl, rfl⟩) | (refine (nil_Ticks _).mono ?_; rintro e wq ⟨rfl, rfl⟩) | (refine (nil_Counts _).mono ?_; rintro e wq ⟨rfl, rfl⟩) | (refine (nil_Own _ _ _).mono ?_; rintro e wq ⟨rfl, rfl⟩) | (refine (nil_Report _ _ _).mono ?_; rintro e wq ⟨rfl, rfl⟩) | (refine (nil_Tick _ _).mono ?_; rintro e wq ⟨rfl, rfl⟩) | (refine (nil_Bye _).mono ?_; rintro e wq ⟨rfl, rfl⟩)
    go_wp2_with fail
    first | (refine (nil_State _).mono ?_; rintro e wq ⟨rfl, rfl⟩) | (refine (nil_Next _).mono ?_; rintro e wq ⟨rfl, rfl⟩) | (refine (nil_Acked _).mono ?_; rintro e wq ⟨rfl, rfl⟩) | (refine (nil_Waits _).mono ?_; rintro e wq ⟨rfl, rfl⟩) | (refine (nil_Ticks _).mono ?_; rintro e wq ⟨rfl, rfl⟩) | (refine (nil_Counts _).mono ?_; rintro e wq ⟨rfl, rfl⟩) | (refine (nil_Own _ _ _).mono ?_; rintro e wq ⟨rfl, rfl⟩) | (refine (nil_Report _ _ _).mono ?_; rintro e wq ⟨rfl, rfl⟩) | (refine (nil_Tick _ _).mono ?_; rintro e wq ⟨rfl, rfl⟩) | (refine (nil_Bye _).mono ?_; rintro e wq ⟨rfl, rfl⟩)
    go_wp2_with fail
    first | (refine (nil_State _).mono ?_; rintro e wq ⟨rfl, rfl⟩) | (refine (nil_Next _).mono ?_; rintro e wq ⟨rfl, rfl⟩) | (refine (nil_Acked _).mono ?_; rintro e wq ⟨rfl, rfl⟩) | (refine (nil_Waits _).mono ?_; rintro e wq ⟨rfl, rfl⟩) | (refine (nil_Ticks _).mono ?_; rintro e wq ⟨rfl, rfl⟩) | (refine (nil_Counts _).mono ?_; rintro e wq ⟨rfl, rfl⟩) | (refine (nil_Own _ _ _).mono ?_; rintro e wq ⟨rfl, rfl⟩) | (refine (nil_Report _ _ _).mono ?_; rintro e wq ⟨rfl, rfl⟩) | (refine (nil_Tick _ _).mono ?_; rintro e wq ⟨rfl, rfl⟩) | (refine (nil_Bye _).mono ?_; rintro e wq ⟨rfl, rfl⟩)
    go_wp2_with fail
    first | (refine (nil_State _).mono ?_; rintro e wq ⟨rfl, rfl⟩) | (refine (nil_Next _).mono ?_; rintro e wq ⟨rfl, rfl⟩) | (refine (nil_Acked _).mono ?_; rintro e wq ⟨rfl, rfl⟩) | (refine (nil_Waits _).mono ?_; rintro e wq ⟨rfl, rfl⟩) | (refine (nil_Ticks _).mono ?_; rintro e wq ⟨rfl, rfl⟩) | (refine (nil_Counts _).mono ?_; rintro e wq ⟨rfl, rfl⟩) | (refine (nil_Own _ _ _).mono ?_; rintro e wq ⟨rfl, rfl⟩) | (refine (nil_Report _ _ _).mono ?_; rintro e wq ⟨rfl, rfl⟩) | (refine (nil_Tick _ _).mono ?_; rintro e wq ⟨rfl, rfl⟩) | (refine (nil_Bye _).mono ?_; rintro e wq ⟨rfl, rfl⟩)
    go_wp2_with fail
    refine (same_zero _).mono ?_
    rintro e w3 ⟨rfl, hb3⟩
    have hbe3 := (hbe2.alloc hbe2.size (.cells #[.int .i64 0, .int .i64 0, .slice none 0 0, .int .i64 0, .int .u32 0, .int .i64 0] 51)).trans (hb3.mono (by have := hbe2.size; simp; omega))
    clear hbe2 hb3
    go_wp2_with fail
    first | (refine (nil_State _).mono ?_; rintro e wq ⟨rfl, rfl⟩) | (refine (nil_Next _).mono ?_; rintro e wq ⟨rfl, rfl⟩) | (refine (nil_Acked _).mono ?_; rintro e wq ⟨rfl, rfl⟩) | (refine (nil_Waits _).mono ?_; rintro e wq ⟨rfl, rfl⟩) | (refine (nil_Ticks _).mono ?_; rintro e wq ⟨rfl, rfl⟩) | (refine (nil_Counts _).mono ?_; rintro e wq ⟨rfl, rfl⟩) | (refine (nil_Own _ _ _).mono ?_; rintro e wq ⟨rfl, rfl⟩) | (refine (nil_Report _ _ _).mono ?_; rintro e wq ⟨rfl, rfl⟩) | (refine (nil_Tick _ _).mono ?_; rintro e wq ⟨rfl, rfl⟩) | (refine (nil_Bye _).mono ?_; rintro e wq ⟨rfl, rfl⟩)
    go_wp2_with fail
    first | (refine (nil_State _).mono ?_; rintro e wq ⟨rfl, rfl⟩) | (refine (nil_Next _).mono ?_; rintro e wq ⟨rfl, rfl⟩) | (refine (nil_Acked _).mono ?_; rintro e wq ⟨rfl, rfl⟩) | (refine (nil_Waits _).mono ?_; rintro e wq ⟨rfl, rfl⟩) | (refine (nil_Ticks _).mono ?_; rintro e wq ⟨rfl, rfl⟩) | (refine (nil_Counts _).mono ?_; rintro e wq ⟨rfl, rfl⟩) | (refine (nil_Own _ _ _).mono ?_; rintro e wq ⟨rfl, rfl⟩) | (refine (nil_Report _ _ _).mono ?_; rintro e wq ⟨rfl, rfl⟩) | (refine (nil_Tick _ _).mono ?_; rintro e wq ⟨rfl, rfl⟩) | (refine (nil_Bye _).mono ?_; rintro e wq ⟨rfl, rfl⟩)
    go_wp2_with fail
    first | (refine (nil_State _).mono ?_; rintro e wq ⟨rfl, rfl⟩) | (refine (nil_Next _).mono ?_; rintro e wq ⟨rfl, rfl⟩) | (refine (nil_Acked _).mono ?_; rintro e wq ⟨rfl, rfl⟩) | (refine (nil_Waits _).mono ?_; rintro e wq ⟨rfl, rfl⟩) | (refine (nil_Ticks _).mono ?_; rintro e wq ⟨rfl, rfl⟩) | (refine (nil_Counts _).mono ?_; rintro e wq ⟨rfl, rfl⟩) | (refine (nil_Own _ _ _).mono ?_; rintro e wq ⟨rfl, rfl⟩) | (refine (nil_Report _ _ _).mono ?_; rintro e wq ⟨rfl, rfl⟩) | (refine (nil_Tick _ _).mono ?_; rintro e wq ⟨rfl, rfl⟩) | (refine (nil_Bye _).mono ?_; rintro e wq ⟨rfl, rfl⟩)
    go_wp2_with fail
    first | (refine (nil_State _).mono ?_; rintro e wq ⟨rfl, rfl⟩) | (refine (nil_Next _).mono ?_; rintro e wq ⟨rfl, rfl⟩) | (refine (nil_Acked _).mono ?_; rintro e wq ⟨rfl, rfl⟩) | (refine (nil_Waits _).mono ?_; rintro e wq ⟨rfl, rfl⟩) | (refine (nil_Ticks _).mono ?_; rintro e wq ⟨rfl, rfl⟩) | (refine (nil_Counts _).mono ?_; rintro e wq ⟨rfl, rfl⟩) | (refine (nil_Own _ _ _).mono ?_; rintro e wq ⟨rfl, rfl⟩) | (refine (nil_Report _ _ _).mono ?_; rintro e wq ⟨rfl, rfl⟩) | (refine (nil_Tick _ _).mono ?_; rintro e wq ⟨rfl, rfl⟩) | (refine (nil_Bye _).mono ?_; rintro e wq ⟨rfl, rfl⟩)
    go_wp2_with fail
    first | (refine (nil_State _).mono ?_; rintro e wq ⟨rfl, rfl⟩) | (refine (nil_Next _).mono ?_; rintro e wq ⟨rfl, rfl⟩) | (refine (nil_Acked _).mono ?_; rintro e wq ⟨rfl, rfl⟩) | (refine (nil_Waits _).mono ?_; rintro e wq ⟨rfl, rfl⟩) | (refine (nil_Ticks _).mono ?_; rintro e wq ⟨rfl, rfl⟩) | (refine (nil_Counts _).mono ?_; rintro e wq ⟨rfl, rfl⟩) | (refine (nil_Own _ _ _).mono ?_; rintro e wq ⟨rfl, rfl⟩) | (refine (nil_Report _ _ _).mono ?_; rintro e wq ⟨rfl, rfl⟩) | (refine (nil_Tick _ _).mono ?_; rintro e wq ⟨rfl, rfl⟩) | (refine (nil_Bye _).mono ?_; rintro e wq ⟨rfl, rfl⟩)
    go_wp2_with fail
    go_ret
    exact ⟨by rfl, hbe3⟩
  · go_enter Try.func6, Try.ntmps6
    go_wp2_with fail
    refine (awake16 _).mono ?_
    rintro e w1 ⟨rfl, hb1⟩
    have hX1 := (Keeps.of_below (S := fun _ => False) hb1 (fun k h1 h2 => by omega)).heap hX id
    have hbe1 := hbe.trans (hb1.mono (by simp))
    have x3 : w1.cell? ⟨w.heap.size, 3, none⟩ = some (.string s) := blk_cell hX1 rfl
    clear hX hbe hb1
    go_wp2_with fail
    go_ret
    exact ⟨rfl, hbe1⟩
end Go.Proofs.Ytaobhbfhbmenfaa
/- link: a call that came in as an argument. -/
namespace Go.Proofs.Ytaobhbfhbmenfaa
open Go.RowKit
theorem act11_of {w : World} {cs : List Value} (h : LeavesAre w [.int .i64, .int .i64, .int .u8, .str, .int .i64, .int .u32, .int .u16, .int .u16, .ints .u8, .int .u32, .int .i64] cs) :
    ∃ (k b i : Int) (s : ByteArray) (m : Msg) (a : Option Addr) (c : Nat), cs.toArray = actC k b i s m a c := by
  obtain ⟨hl, hc⟩ := h
  obtain ⟨v0, v1, v2, v3, v4, v5, v6, v7, v8, v9, v10, rfl⟩ : ∃ v0 v1 v2 v3 v4 v5 v6 v7 v8 v9 v10, cs = [v0, v1, v2, v3, v4, v5, v6, v7, v8, v9, v10] := by
    match cs, hl with
    | [v0, v1, v2, v3, v4, v5, v6, v7, v8, v9, v10], _ => exact ⟨v0, v1, v2, v3, v4, v5, v6, v7, v8, v9, v10, rfl⟩
  obtain ⟨k, rfl, _⟩ := hc 0 _ _ rfl rfl
  obtain ⟨b, rfl, _⟩ := hc 1 _ _ rfl rfl
  obtain ⟨i, rfl, _⟩ := hc 2 _ _ rfl rfl
  obtain ⟨s, rfl, _⟩ := hc 3 _ _ rfl rfl
  obtain ⟨mk, rfl, _⟩ := hc 4 _ _ rfl rfl
  obtain ⟨n, rfl, _⟩ := hc 5 _ _ rfl rfl
  obtain ⟨sr, rfl, _⟩ := hc 6 _ _ rfl rfl
  obtain ⟨ak, rfl, _⟩ := hc 7 _ _ rfl rfl
  obtain ⟨a, L, cap, rfl, hv, hw⟩ := hc 8 _ _ rfl rfl
  obtain ⟨u, rfl, _⟩ := hc 9 _ _ rfl rfl
  obtain ⟨l, rfl, _⟩ := hc 10 _ _ rfl rfl
  exact ⟨k, b, i, s, ⟨mk, n, sr, ak, L.map fun _ => 0, u, l⟩, a, cap, by unfold actC; simp⟩
end Go.Proofs.Ytaobhbfhbmenfaa
