/- Wire10 · WireQ · Msg3 · WirePk · Link4 · Link5 · Link6 · Link7 · Link8 · Link9 · Link10 · Link11 · Link12 · Link13 · Link14, in one text. -/
import Derived.Test.YtaobhbfhbmenfaaWire9
import Derived.Test.YtaobhbfhbmenfaaWireP
import Derived.Test.YtaobhbfhbmenfaaMsg2
import Derived.Test.YtaobhbfhbmenfaaWire6
import Derived.Test.YtaobhbfhbmenfaaLinkA
import Derived.OneCell
import Derived.RangeFuncBox
import Derived.Deep.Cut
import Derived.LoopIn
import Derived.LoopNIn
import Derived.Shelf.RegionOpen
import Derived.TacticsInMore
import Derived.OwnWalkIn
import Derived.Test.YtaobhbfhbmenfaaWire4
import Derived.Test.YtaobhbfhbmenfaaVals
import Derived.Test.YtaobhbfhbmenfaaEqB
import Derived.Test.YtaobhbfhbmenfaaOpen
import Derived.Deep.LoopGhost
/- Reading a datagram, by all ways. -/
namespace Go.Proofs.Ytaobhbfhbmenfaa
open Go.RowKit
set_option maxRecDepth 10000
variable {w : World}
theorem unpack_err (s : ByteArray) (hs : s.size ≤ maxLen) (l : List UInt8) (e0 : Int) (hop : opened s.data.toList = (l, e0)) (he : e0 ≠ 0) :
    Calls Try.prog 26 #[.string s] w (UnpN w Msg.zero e0) := by
  have hO := sum_Open s hs (w.alloc (.cells #[.int .i64 0, .int .u32 0, .int .u16 0, .int .u16 0, .slice none 0 0, .int .u32 0, .int .i64 0] 49))
  rw [hop] at hO
  have HO := hid hO
  have hq : (e0 != 0) = true := by simp [he]
  clear hO hop he hs
  go_enter Try.func26, Try.ntmps26
  go_wp2_with fail
  refine HO.out.mono ?_
  rintro e w1 ⟨rfl, hb1⟩
  have hk1 : Keeps (fun _ => False) (w.alloc (.cells #[.int .i64 0, .int .u32 0, .int .u16 0, .int .u16 0, .slice none 0 0, .int .u32 0, .int .i64 0] 49)) w1 := Keeps.of_below hb1 (fun k h1 h2 => by omega)
  have hW : Below w.heap.size w w1 := ((Below.refl _ w).alloc (Nat.le_refl _) _).trans (hb1.mono (by simp))
  have hres := hk1.heap (blk_new w (.cells #[.int .i64 0, .int .u32 0, .int .u16 0, .int .u16 0, .slice none 0 0, .int .u32 0, .int .i64 0] 49)) id
  clear hb1 hk1
  have r0 := blk_cell hres (k := 0) rfl
  have g0 := blk_free hres 0
  have r1 := blk_cell hres (k := 1) rfl
  have g1 := blk_free hres 1
  have r2 := blk_cell hres (k := 2) rfl
  have g2 := blk_free hres 2
  have r3 := blk_cell hres (k := 3) rfl
  have g3 := blk_free hres 3
  have r4 := blk_cell hres (k := 4) rfl
  have g4 := blk_free hres 4
  have r5 := blk_cell hres (k := 5) rfl
  have g5 := blk_free hres 5
  have r6 := blk_cell hres (k := 6) rfl
  have g6 := blk_free hres 6
  go_wp2_with fail
  have hf := blk_store hres (.int .i64 0) (.int .u32 0) (.int .u16 0) (.int .u16 0) (.slice none 0 0) (.int .u32 0) (.int .i64 0)
  have d0 := blk_cell hf (k := 0) rfl
  have d1 := blk_cell hf (k := 1) rfl
  have d2 := blk_cell hf (k := 2) rfl
  have d3 := blk_cell hf (k := 3) rfl
  have d4 := blk_cell hf (k := 4) rfl
  have d5 := blk_cell hf (k := 5) rfl
  have d6 := blk_cell hf (k := 6) rfl
  have hbl := ((((((hW.setCell (p := ⟨w.heap.size, 0, none⟩) (Nat.le_refl _) (.int .i64 0)).setCell (p := ⟨w.heap.size, 1, none⟩) (Nat.le_refl _) (.int .u32 0)).setCell (p := ⟨w.heap.size, 2, none⟩) (Nat.le_refl _) (.int .u16 0)).setCell (p := ⟨w.heap.size, 3, none⟩) (Nat.le_refl _) (.int .u16 0)).setCell (p := ⟨w.heap.size, 4, none⟩) (Nat.le_refl _) (.slice none 0 0)).setCell (p := ⟨w.heap.size, 5, none⟩) (Nat.le_refl _) (.int .u32 0)).setCell (p := ⟨w.heap.size, 6, none⟩) (Nat.le_refl _) (.int .i64 0)
  refine bodyPost_ret (v := .tuple #[.agg #[.int .i64 0, .int .u32 0, .int .u16 0, .int .u16 0, .slice none 0 0, .int .u32 0, .int .i64 0], .int .i64 e0]) (by simp [results, Try.results26, go_sem, d0, d1, d2, d3, d4, d5, d6]) rfl ?_
  exact ⟨none, 0, rfl, IsBytes.none _, hbl, fun _ h => by cases h⟩
theorem opened_len (l : List UInt8) : (opened l).1.length ≤ l.length := by
  unfold opened
  split
  · exact Nat.zero_le _
  split
  · simp
  · exact Nat.zero_le _
theorem wire_UnpackN (s : ByteArray) (hs : s.size ≤ 100000) :
    Calls Try.prog 26 #[.string s] w (UnpN w (unpM s.data.toList).1 (unpM s.data.toList).2) := by
  have hm : s.size ≤ maxLen := by unfold maxLen; omega
  unfold unpM
  by_cases he : (opened s.data.toList).2 = 0
  · rw [if_pos he]
    have hop : opened s.data.toList = ((opened s.data.toList).1, 0) := Prod.ext rfl he
    have htl : (opened s.data.toList).1.length ≤ 100000 := Nat.le_trans (opened_len _) (by simpa using hs)
    generalize (opened s.data.toList).1 = t at *
    clear he
    by_cases h12 : bN (kindR t).1 = 1 ∨ bN (kindR t).1 = 2
    · exact unp_12 s t _ _ _ _ _ hm hop htl rfl rfl rfl h12
    by_cases h3 : bN (kindR t).1 = 3
    · exact unp_3 s t _ _ _ _ _ hm hop htl rfl rfl rfl h3
    by_cases h4 : bN (kindR t).1 = 4
    · exact unp_4 s t _ _ _ _ _ hm hop htl rfl rfl rfl h4
    by_cases h5 : bN (kindR t).1 = 5
    · exact unp_5 s t _ _ _ _ _ hm hop htl rfl rfl rfl h5
    by_cases h6 : bN (kindR t).1 = 6
    · exact unp_6 s t _ _ _ _ _ hm hop htl rfl rfl rfl h6
    · exact unp_0 s t _ _ _ _ _ hm hop htl rfl rfl rfl ⟨h12, h3, h4, h5, h6⟩
  · rw [if_neg he]
    exact unpack_err s hm _ _ rfl he
theorem wire_Unpack (s : ByteArray) (hs : s.size ≤ 100000) :
    Calls Try.prog 26 #[.string s] w (UnpPost w (unpM s.data.toList).1 (unpM s.data.toList).2) :=
  (wire_UnpackN s hs).mono fun _ _ ⟨a, c, h1, h2, h3, _⟩ => ⟨a, c, h1, h2, h3⟩
end Go.Proofs.Ytaobhbfhbmenfaa
/- Plain facts: what is packed is read as it was. -/
namespace Go.Proofs.Ytaobhbfhbmenfaa
theorem takeR_front (n : Nat) (l r : List UInt8) (hn : l.length = n) : takeR n ⟨⟨(l ++ r).toArray⟩, false⟩ = (⟨l.toArray⟩, ⟨⟨r.toArray⟩, false⟩) := by
  subst hn
  have hs : (⟨(l ++ r).toArray⟩ : ByteArray).size = l.length + r.length := by show (l ++ r).toArray.size = _; simp
  unfold takeR
  rw [if_neg (by simp only [hs]; simp)]
  refine Prod.ext ?_ ?_
  · refine of_list _ _ ?_
    rw [extract_data]
    simp
  · show Rd.mk _ _ = Rd.mk _ _
    congr 1
    refine of_list _ _ ?_
    simp only [hs]
    rw [extract_data]
    simp
theorem bN_list (l : List UInt8) : bN ⟨l.toArray⟩ = (beN l : Int) := by simp [bN]
theorem bN_tail4 (n : Int) (h : 0 ≤ n ∧ n < 4294967296) : bN ⟨(tail4 n).toArray⟩ = n := by
  rw [bN_list]
  simp only [tail4, beN, List.foldl_cons, List.foldl_nil]
  rw [byte_of _ (by omega), byte_of _ (by omega), byte_of _ (by omega), byte_of _ (by omega)]
  omega
theorem bN_be2 (n : Int) (h : 0 ≤ n ∧ n < 65536) : bN ⟨(be2 n).toArray⟩ = n := by
  rw [bN_list]
  simp only [be2, beN, List.foldl_cons, List.foldl_nil]
  rw [byte_of _ (by omega), byte_of _ (by omega)]
  omega
theorem rdrR_run (L : List UInt8) (hf : fits L = true) : rdrR ⟨⟨(runBytes L).toArray⟩, false⟩ = (L, ⟨⟨([] : List UInt8).toArray⟩, false⟩) := by
  have h := rd_run L [] hf
  rw [List.append_nil] at h
  unfold rdrR
  simp only [h]
  rw [show ((0 : Int) != 0) = false by decide, Bool.or_false]
  have ht := takeR_front (runBytes L).length (runBytes L) [] rfl
  rw [List.append_nil] at ht
  rw [ht]
theorem rdsR_num (n : Int) (h : -1000 ≤ n ∧ n ≤ 1000) : rdsR ⟨⟨(num (zz n)).toArray⟩, false⟩ = (n, ⟨⟨([] : List UInt8).toArray⟩, false⟩) := by
  have h1 := rd_behind (zz n) (zz_in n (by omega)) []
  rw [List.append_nil] at h1
  unfold rdsR
  simp only [h1, unzz_zz]
  rw [show ((0 : Int) != 0) = false by decide, Bool.or_false]
  have ht := takeR_front (num (zz n)).length (num (zz n)) [] rfl
  rw [List.append_nil] at ht
  rw [ht]
theorem parse_raw (m : Msg) (hr : RightP m) (wf : m.wf) : parseT (rawM m) = (m, ⟨⟨([] : List UInt8).toArray⟩, false⟩) := by
  obtain ⟨k, n, s, ak, i, u, l⟩ := m
  obtain ⟨a1, a2, a3, a4, a5, a6, a7, a8, a9⟩ := hr
  obtain ⟨_, wn, ws, wk, wu, _⟩ := wf
  simp only at *
  have h1 : firstR (rawM ⟨k, n, s, ak, i, u, l⟩) = (⟨[(80 : UInt8)].toArray⟩, ⟨⟨(UInt8.ofNat k.toNat :: bodyM ⟨k, n, s, ak, i, u, l⟩).toArray⟩, false⟩) := takeR_front 1 [80] _ rfl
  have hb : (bN ⟨[(80 : UInt8)].toArray⟩ != 80) = false := by rw [bN_list]; rfl
  have h2 : kindR (rawM ⟨k, n, s, ak, i, u, l⟩) = (⟨[UInt8.ofNat k.toNat].toArray⟩, ⟨⟨(bodyM ⟨k, n, s, ak, i, u, l⟩).toArray⟩, false⟩) := by
    unfold kindR
    rw [h1]
    simp only
    rw [hb]
    exact takeR_front 1 [UInt8.ofNat k.toNat] _ rfl
  have h3 : bN ⟨[UInt8.ofNat k.toNat].toArray⟩ = k := by
    rw [bN_list]
    simp only [beN, List.foldl_cons, List.foldl_nil]
    rw [byte_of _ (by omega)]
    omega
  unfold parseT
  rw [h2]
  simp only
  rw [h3]
  unfold parseK bodyM
  simp only
  by_cases h12 : k = 1 ∨ k = 2
  · rw [if_pos h12, if_pos h12]
    have ht := takeR_front 4 (tail4 n) [] rfl
    rw [List.append_nil] at ht
    rw [ht, bN_tail4 n wn]
    have e := nil_of a7 (by omega)
    simp only [Prod.mk.injEq, Msg.mk.injEq, and_true, true_and]
    exact ⟨by omega, by omega, e.symm, by omega, by omega⟩
  rw [if_neg h12, if_neg h12]
  by_cases h3' : k = 3
  · rw [if_pos h3', if_pos h3']
    rw [List.append_assoc, takeR_front 2 (be2 s) _ rfl]
    simp only
    rw [takeR_front 2 (be2 ak) _ rfl]
    simp only
    rw [rdrR_run i a2, bN_be2 s ws, bN_be2 ak wk]
    simp only [Prod.mk.injEq, Msg.mk.injEq, and_true, true_and]
    exact ⟨by omega, by omega, by omega⟩
  have e := nil_of a7 h3'
  rw [if_neg h3', if_neg h3']
  by_cases h4 : k = 4
  · rw [if_pos h4, if_pos h4, takeR_front 2 (be2 s) _ rfl]
    simp only
    have ht := takeR_front 4 (tail4 u) [] rfl
    rw [List.append_nil] at ht
    rw [ht, bN_be2 s ws, bN_tail4 u wu]
    simp only [Prod.mk.injEq, Msg.mk.injEq, and_true, true_and]
    exact ⟨by omega, by omega, e.symm, by omega⟩
  rw [if_neg h4, if_neg h4]
  by_cases h5 : k = 5
  · rw [if_pos h5, if_pos h5]
    have ht := takeR_front 2 (be2 ak) [] rfl
    rw [List.append_nil] at ht
    rw [ht, bN_be2 ak wk]
    simp only [Prod.mk.injEq, Msg.mk.injEq, and_true, true_and]
    exact ⟨by omega, by omega, e.symm, by omega, by omega⟩
  rw [if_neg h5, if_neg h5]
  by_cases h6 : k = 6
  · rw [if_pos h6, if_pos h6, takeR_front 2 (be2 s) _ rfl]
    simp only
    rw [rdsR_num l a3, bN_be2 s ws]
    simp only [Prod.mk.injEq, Msg.mk.injEq, and_true, true_and]
    exact ⟨by omega, by omega, e.symm, by omega⟩
  · rw [if_neg h6, if_neg h6]
    simp only [Prod.mk.injEq, Msg.mk.injEq, and_true, true_and]
    exact ⟨by omega, by omega, by omega, e.symm, by omega, by omega⟩
theorem unpT_raw (m : Msg) (hr : RightP m) (wf : m.wf) : unpT (rawM m) = (m, 0) := by
  unfold unpT
  rw [parse_raw m hr wf, if_neg]
  rintro (h | h | h)
  · cases h
  · exact h (by simp [ByteArray.toList_eq])
  · exact h hr
theorem runBytes_129 (L : List UInt8) (hf : fits L = true) : (runBytes L).length ≤ 129 := by
  have hl : L.length ≤ 64 := by
    unfold fits at hf
    simp only [Bool.and_eq_true, decide_eq_true_eq] at hf
    exact hf.2
  unfold runBytes
  have h1 := runsBytes_len (runs L) (fun x hx => by have := (runs_le _ L (Nat.le_refl _) x hx).2; omega)
  have h2 := runs_len _ L (Nat.le_refl _)
  rw [List.length_append, h1, num_small _ (by omega)]
  simp
  omega
theorem pack_len (m : Msg) (hr : RightP m) : (packM m).length ≤ 139 := by
  have h1 := runBytes_129 m.ins hr.2.1
  have h2 := zz_small m.lead hr.2.2.1
  unfold packM sealed rawM bodyM
  simp only [List.length_append, List.length_cons, List.length_nil, tail4_length]
  split
  · simp [tail4_length]
  split
  · simp only [List.length_append, be2_len]; omega
  split
  · simp [be2_len, tail4_length]
  split
  · simp [be2_len]
  split
  · simp only [List.length_append, be2_len]; omega
  · simp
end Go.Proofs.Ytaobhbfhbmenfaa
/- Whether a datagram may be, by the reference. -/
namespace Go.Proofs.Ytaobhbfhbmenfaa
open Go.RowKit
variable {w : World} {a : Option Addr} {c : Nat}
theorem right_yes {m : Msg} (h : RightP m) : Ending.returned (.bool true) = .returned (.bool (decide (RightP m))) := by rw [decide_eq_true h]
theorem right_no {m : Msg} (h : ¬ RightP m) : Ending.returned (.bool false) = .returned (.bool (decide (RightP m))) := by rw [decide_eq_false h]
theorem right_mk {k n s ak u l : Int} {i : List UInt8} {len : Nat} (hf : fits i = true) (hl : i.length = len) (h1 : 1 ≤ k ∧ k ≤ 7) (h2 : -1000 ≤ l ∧ l ≤ 1000) (h3 : n = 0 ∨ k = 1 ∨ k = 2) (h4 : s = 0 ∨ k = 3 ∨ k = 4 ∨ k = 6) (h5 : ak = 0 ∨ k = 3 ∨ k = 5) (h6 : 0 < len ↔ k = 3) (h7 : u = 0 ∨ k = 4) (h8 : l = 0 ∨ k = 6) : RightP ⟨k, n, s, ak, i, u, l⟩ :=
  ⟨h1, hf, h2, h3, h4, h5, by subst hl; exact h6, h7, h8⟩
theorem right_un {k n s ak u l : Int} {i : List UInt8} {len : Nat} (hl : i.length = len) (h : RightP ⟨k, n, s, ak, i, u, l⟩) : (1 ≤ k ∧ k ≤ 7) ∧ (-1000 ≤ l ∧ l ≤ 1000) ∧ (n = 0 ∨ k = 1 ∨ k = 2) ∧ (s = 0 ∨ k = 3 ∨ k = 4 ∨ k = 6) ∧ (ak = 0 ∨ k = 3 ∨ k = 5) ∧ (0 < len ↔ k = 3) ∧ (u = 0 ∨ k = 4) ∧ (l = 0 ∨ k = 6) := by
  obtain ⟨h1, hf, h2, h3, h4, h5, h6, h7, h8⟩ := h
  subst hl
  exact ⟨h1, h2, h3, h4, h5, h6, h7, h8⟩
end Go.Proofs.Ytaobhbfhbmenfaa
/- The law on packing datagrams. -/
namespace Go.Proofs.Ytaobhbfhbmenfaa
open Go.RowKit
set_option maxRecDepth 10000
variable {w : World} {m : Msg} {a : Option Addr} {c : Nat}
theorem opened_sealed (l : List UInt8) : opened (sealed l) = (l, 0) := by
  unfold opened sealed
  rw [if_neg (by simp [tail4_length])]
  have e : (l ++ tail4 (more 1 l)).length - 4 = l.length := by simp [tail4_length]
  rw [e, List.take_left]
  simp
theorem unpM_pack (m : Msg) (hr : RightP m) (wf : m.wf) : unpM (packM m) = (m, 0) := by
  unfold unpM packM
  rw [opened_sealed, if_pos rfl]
  exact unpT_raw m hr wf
theorem ref_Pack (m : Msg) (h : IsBytes w a c m.ins) (hw : m.wf) (hr : RightP m) :
    Calls Try.prog 18 #[(.agg #[.int .i64 m.kind, .int .u32 m.nonce, .int .u16 m.serial, .int .u16 m.ack, .slice a m.ins.length c, .int .u32 m.sum, .int .i64 m.lead])] w fun e w' => e = .returned (.string ⟨(packM m).toArray⟩) ∧ Below w.heap.size w w' := by
  obtain ⟨_, hn, hs, hak, hu, _⟩ := hw
  have hk := hr.1
  obtain ⟨k, n, s, ak, i, u, l⟩ := m
  simp only at *
  obtain rfl | rfl | rfl | rfl | rfl | rfl | rfl : k = 1 ∨ k = 2 ∨ k = 3 ∨ k = 4 ∨ k = 5 ∨ k = 6 ∨ k = 7 := by omega
  · exact refpack_k1 n s ak u l i hr hn
  · exact refpack_k2 n s ak u l i hr hn
  · exact refpack_k3 n s ak u l i h hr hs hak
  · exact refpack_k4 n s ak u l i hr hs hu
  · exact refpack_k5 n s ak u l i hr hak
  · exact refpack_k6 n s ak u l i hr hs
  · exact refpack_k7 n s ak u l i hr
end Go.Proofs.Ytaobhbfhbmenfaa
/- link: what a tick sends. -/
namespace Go.Proofs.Ytaobhbfhbmenfaa
open Go.RowKit
attribute [local go_sem] Oper.semAt_some
set_option maxRecDepth 10000
variable {w : World} {B : LB} {l : Lk}
def byeM : Msg := ⟨7, 0, 0, 0, [], 0, 0⟩
def helloM (l : Lk) : Msg := ⟨1, l.nonce, 0, 0, [], 0, 0⟩
def saysF (l : Lk) (lead : Int) : List Msg × Lk :=
  if l.state = 2 then (if l.bye then ([byeM], { l with bye := false }) else ([], l)) else (l.out ++ (if l.state = 0 then [helloM l] else talkF l lead), { l with out := [] })
/-- what a tick says -/
def SaysPost (w : World) (B : LB) (l : Lk) (lead : Int) (e : Ending) (w' : World) : Prop :=
  (∃ A cap xs, e = .returned (.slice A xs.length cap) ∧ SlcM w.heap.size w' A cap xs ∧ xs.map MV.m = (saysF l lead).1) ∧ IsLink w' B (saysF l lead).2 ∧ Keeps B.S w w'
theorem info_msg2 : (Try.prog.info? 49).map (fun i => (i.zero, i.size, i.bytes)) = some (some (.agg (mC Msg.zero)), 7, 56) := by kernel_rfl
theorem says_gone (h : IsLink w B l) (lead : Int) (hs : l.state = 2) : Calls Try.prog 32 #[.pointer (some ⟨B.p, 0, none⟩), .int .i64 lead] w (SaysPost w B l lead) := by
  have c2 := h.c2
  have c3 := h.c3
  have f3 := h.free 3
  rw [hs] at c2
  unfold SaysPost saysF
  rw [if_pos hs]
  cases hb : l.bye
  · rw [if_neg (by simp)]
    rw [hb] at c3
    have H := hid h
    clear h hs hb
    go_enter Try.func32, Try.ntmps32
    go_wp2
    go_ret
    exact ⟨⟨none, 0, [], rfl, ⟨Vals.nil _ _, fun x hx => (by cases hx), fun y e => (by cases e)⟩, rfl⟩, H.out, Keeps.refl _ _⟩
  · rw [if_pos rfl]
    rw [hb] at c3
    have hS := h.set 3 (.bool false) { l with bye := false } rfl rfl rfl
    have hk := Keeps.setCell (S := B.S) (Keeps.refl _ w) (p := ⟨B.p, 3, none⟩) (.inl rfl) (.bool false)
    have HS := hid hS
    have HK := hid hk
    clear h hs hb hS hk
    go_enter Try.func32, Try.ntmps32
    go_wp2
    go_ret
    have hsz : (w.setCell ⟨B.p, 3, none⟩ (.bool false)).heap.size = w.heap.size := by simp
    have hB := blk_new (w.setCell ⟨B.p, 3, none⟩ (.bool false)) (.cells (flatM [⟨byeM, none, 0⟩]).toArray 49)
    rw [hsz] at hB
    have hS2 := HS.out.below ((Below.refl _ (w.setCell ⟨B.p, 3, none⟩ (.bool false))).alloc (Nat.le_refl _) (.cells (flatM [⟨byeM, none, 0⟩]).toArray 49))
    refine ⟨⟨some ⟨w.heap.size, 0, none⟩, 1, [⟨byeM, none, 0⟩], rfl, ⟨vals_blk hB rfl (by unfold maxLen; show 1 ≤ _; omega), ?_, fun y e => by cases e; exact Nat.le_refl _⟩, rfl⟩, hS2, HK.out.alloc _⟩
    intro x hx
    simp only [List.mem_cons, List.not_mem_nil, or_false] at hx
    subst hx
    exact ⟨bytes_nil _, fun _ e => by simp at e⟩
theorem cells_new (A : World) (cs : Array Value) (t : TypeId) (j : Nat) (u : Value) (h : cs.toList[j]? = some u) : (A.alloc (.cells cs t)).cell? ((⟨A.heap.size, 0, none⟩ : Addr).add j) = some u := by
  rw [addr_add, Nat.zero_add]
  exact blk_cell (blk_new _ _) (by simpa using h)
def bareF (xs : List Msg) : List Value := xs.flatMap fun m => (mC m).toList
/-- the rounds of 'for m := range l.waiting()' -/
structure SyI (w W : World) (B : LB) (l : Lk) (pre : List Msg) : Prop where
  row : ∃ v, W.heap[w.heap.size]? = some (.cells #[v] 78 (0, 0)) ∧ W.ownsRow (w.heap.size + 4) 49 7 v pre.length (bareF pre)
  bx : W.heap[w.heap.size + 1]? = some (.cells #[.pointer (some ⟨B.p, 0, none⟩)] 31 (0, 0))
  lk : W.heap[B.p]? = some (.cells (lkC B l) 72 (0, 0))
  ow : IsRing W B.h1 B.d1 64 (u8I l.own)
  ks : Keeps (fun b => b = B.h2 ∨ b = B.d2) w W
  sz : w.heap.size + 2 ≤ W.heap.size
theorem SyI.keep {w W W' : World} {pre : List Msg} {S : Nat → Prop} (h : SyI w W B l pre) (hk : Keeps S W W') (hl : IsLink w B l) (hs : ∀ b, S b → b = B.h2 ∨ b = B.d2 ∨ (w.heap.size + 2 ≤ b ∧ b ≤ w.heap.size + 3)) : SyI w W' B l pre := by
  have hlt := hl.lt
  have a := hl.ok.a
  have b' := hl.ok.b
  have c := hl.ok.c
  obtain ⟨v, i1, i2⟩ := h.row
  refine ⟨⟨v, hk.heap i1 (fun e => by have := hs _ e; omega), own_keeps i2 hk (fun b hb e => by have := (i2.lt b hb).1; have := hs _ e; omega)⟩, hk.heap h.bx (fun e => by have := hs _ e; omega), hk.heap h.lk (fun e => by have := hs _ e; omega), h.ow.keeps hk (fun e => by have := hs _ e; omega) (fun e => by have := hs _ e; omega), ?_, Nat.le_trans h.sz hk.size⟩
  exact keeps_past h.ks hk (fun k hk' e => by have := hs _ e; omega)
theorem wp_calm {P : Program} {c : Code} {Q : Exit → Act → World → Prop} {a : Act} {w : World} (h : c.wp P (fun e a' w' => e = Exit.normal ∧ Q .normal a' w') a w) : c.wp P Q a w :=
  wp_mono h (fun e a' w' ⟨he, hq⟩ => by subst he; exact hq)
theorem flat_bare (L : List Msg) (h : ∀ m ∈ L, m.ins = []) : flatM (L.map fun m => (⟨m, none, 0⟩ : MV)) = bareF L := by
  unfold flatM bareF
  induction L with
  | nil => rfl
  | cons m L ih =>
    have hm := h m (by simp)
    rw [List.map_cons, List.flatMap_cons, List.flatMap_cons, ih (fun x hx => h x (by simp [hx]))]
    congr 1
    simp [mvC, mC, hm]
theorem says_end {w W w1 : World} {v : Value} {n : Nat} {ys : List MV} {lead : Int} (hI : SyI w W B l l.out) (hM : IsMR W B.h2 B.d2 8 []) (hl : IsLink w B l) (hk : Keeps (fun k => w.heap.size + 3 < k) W w1)
    (hown : w1.ownsRow (w.heap.size + 4) 49 7 v n (bareF l.out ++ flatM ys)) (hn : n = l.out.length + ys.length) (hout : ∀ m ∈ l.out, m.ins = [])
    (hys : ∀ x ∈ ys, IsBytes w1 x.a x.c x.m.ins ∧ ∀ y, x.a = some y → w.heap.size + 3 ≤ y.block) (hs : saysF l lead = (l.out ++ ys.map MV.m, { l with out := [] })) (o : Obj) :
    SaysPost w B l lead (.returned v) (w1.putObj (w.heap.size + 2) o) := by
  have hlt := hl.lt
  have hp : Keeps (fun k => k = w.heap.size + 2) w1 (w1.putObj (w.heap.size + 2) o) := Keeps.putObj (S := fun k => k = w.heap.size + 2) (Keeps.refl _ w1) rfl _
  obtain ⟨A, cap, rfl, hv, hb⟩ := vals_of_own hown
  have hkf : Keeps (fun k => w.heap.size + 2 = k ∨ w.heap.size + 3 < k) W (w1.putObj (w.heap.size + 2) o) := (hk.mono fun _ _ h => .inr h).trans (hp.mono fun _ _ h => .inl h.symm)
  have hW : IsLink W B { l with out := [] } := ⟨hI.lk, hI.ow, hM, hl.ok⟩
  unfold SaysPost
  rw [hs]
  refine ⟨⟨A, cap, (l.out.map fun m => (⟨m, none, 0⟩ : MV)) ++ ys, ?_, ⟨?_, ?_, fun y e => by have := (hb y e).1; omega⟩, ?_⟩, hW.keeps hkf (fun b hb' => by rcases hb' with e | e | e | e | e <;> omega), ?_⟩
  · rw [hn, List.length_append, List.length_map]
  · rw [List.length_append, List.length_map, ← hn, show flatM ((l.out.map fun m => (⟨m, none, 0⟩ : MV)) ++ ys) = bareF l.out ++ flatM ys by rw [← flat_bare _ hout]; simp [flatM]]
    exact hv.keeps hp (fun _ y e h => by have := (hb y e).1; omega)
  · intro x hx
    rcases List.mem_append.1 hx with hx | hx
    · obtain ⟨m, hm, rfl⟩ := List.mem_map.1 hx
      exact ⟨by show IsBytes _ none 0 m.ins; rw [hout m hm]; exact bytes_nil _, fun _ e => by simp at e⟩
    · obtain ⟨h1, h2⟩ := hys x hx
      exact ⟨h1.keeps hp (fun _ y e h => by have := h2 y e; omega), fun y e => by have := h2 y e; omega⟩
  · rw [List.map_append, List.map_map]
    congr 1
    show l.out.map (fun m => m) = l.out
    simp
  · exact keeps_past (keeps_past (hI.ks.mono (T := B.S) fun b _ h => h.elim (fun e => .inr (.inr (.inr (.inl e)))) (fun e => .inr (.inr (.inr (.inr e))))) hk (fun k hk' e => by omega)) hp (fun k hk' e => by omega)
set_option maxHeartbeats 2000000 in
theorem says_on (h : IsLink w B l) (lead : Int) (hs : l.state ≠ 2) (ht : 0 ≤ l.ticks ∧ l.ticks ≤ 1099511627776) (hout : ∀ m ∈ l.out, m.ins = []) : Calls Try.prog 32 #[.pointer (some ⟨B.p, 0, none⟩), .int .i64 lead] w (SaysPost w B l lead) := by
  obtain ⟨i0, hi, hz0, hz1, hz2⟩ : ∃ i, Try.prog.info? 49 = some i ∧ i.zero = some (.agg (mC Msg.zero)) ∧ i.size = 7 ∧ i.bytes = 56 := by
    have h := info_msg2
    cases hh : Try.prog.info? 49 with
    | none => rw [hh] at h; cases h
    | some i => rw [hh] at h; simp only [Option.map_some, Option.some.injEq, Prod.mk.injEq] at h; exact ⟨i, rfl, h.1, h.2.1, h.2.2⟩
  have hlt := h.lt
  have hok := h.ok
  have q2 : (l.state == 2) = false := by rw [beq_eq_false_iff_ne]; exact hs
  have HI := hid hi
  have c2 := h.c2
  have H := hid h
  have hls := h.out.le.1
  clear hi h
  refine (callsIn_wide (n := 0)).1 ?_
  refine callsIn_of_wp_marks Try.func32 rfl trivial ?_ rfl
  simp only [Try.ntmps32, List.size_toArray, List.length_cons, List.length_nil, Nat.reduceAdd, Nat.reduceSub, Array.replicate_succ, Array.replicate_zero, List.push_toArray, List.append_toArray, List.nil_append, List.cons_append]
  gi_wp2_with (fail)
  refine ⟨trivial, rfl, callsIn_wide.2 ((lk_waiting _ _).mono ?_)⟩
  rintro e w2 ⟨rfl, hw2⟩
  gi_wp2_with (fail)
  have hs0 : w2.heap.size = w.heap.size + 2 := by rw [← hw2]; simp
  have hkw : Keeps (fun _ => False) w w2 := by rw [← hw2]; exact ((Keeps.refl _ w).alloc _).alloc _
  have hN : w2.heap[w.heap.size]? = some (.cells #[.slice none 0 0] 78 (0, 0)) := by rw [← hw2]; exact blk_alloc (blk_new _ _) _
  have hN1 : w2.heap[w.heap.size + 1]? = some (.cells #[.pointer (some ⟨B.p, 0, none⟩)] 31 (0, 0)) := by
    have := blk_new (w.alloc (.cells #[.slice none 0 0] 78)) (.cells #[.pointer (some ⟨B.p, 0, none⟩)] 31)
    rw [World.size_alloc, hw2] at this
    exact this
  have H0 := H.out.keeps hkw (fun _ _ => id)
  clear hw2
  refine wpIn_rangeF (gf := 72) (lb := #[.pointer (some ⟨w.heap.size + 1, 0, none⟩)]) rfl (enters_of Try.func72 (by kernel_rfl) rfl)
    (fun _ => rfl) l.out (fun k => k = w.heap.size ∨ w.heap.size + 3 < k) (fun b => b = B.h2 ∨ b = B.d2) (fun W => IsMR W B.h2 B.d2 8 [])
    (wait1 H0.out H0.c9 (w.heap.size + 1) (blk_cell hN1 rfl) ⟨by omega, by omega⟩ ⟨by omega, by omega, hok.a.2.2.1, hok.a.2.2.2⟩ _ ⟨by omega, by omega, by omega, by omega⟩)
    (fun X Y hX hsz hk => hX.keeps hk (by omega) (by omega))
    (by rw [hs0]; omega) (by rw [hs0]; omega)
    (fun pre W => SyI w W B l pre)
    ?inv ?start
    (fun pre x a' W => ∃ X, a' = { tmps := #[.pointer (some ⟨B.p, 0, none⟩), .int .i64 lead, undef, undef, .slice none 0 0, .pointer (some ⟨w.heap.size, 0, none⟩), .pointer (some ⟨X, 0, none⟩), .pointer (some ⟨B.p, 0, none⟩), .pointer (some ⟨B.p, 0, none⟩), .pointer (some ⟨B.p, 2, none⟩), .int .i64 l.state, .bool false, undef, undef, undef, undef, undef, undef, undef, undef, undef, undef, .pointer (some ⟨B.p, 0, none⟩), .func (.func 72) #[] #[.pointer (some ⟨w.heap.size + 1, 0, none⟩)], .agg (mC x), undef, undef, undef, undef, undef, undef, undef, undef, undef, undef, undef, undef, undef, undef, undef, undef, undef, undef, undef, undef, undef, undef], defers := [] } ∧ w.heap.size + 4 ≤ X ∧ W.heap[X]? = some (.cells (mC x) 49 (0, 0)) ∧ SyI w W B l pre)
    ?ass ?assign ?body ?done
  case inv =>
    intro pre X Y hX hsz hk
    exact hX.keep hk H.out (fun b hb => by rw [hs0] at hb; omega)
  case start => exact ⟨⟨_, hN, own_nil _ _ _ _⟩, hN1, H0.blk, H0.own, hkw.mono fun _ _ x => x.elim, by omega⟩
  case ass =>
    rintro pre x a' A A' ⟨X, rfl, hX4, hX, hI⟩ hsz hk
    exact ⟨X, rfl, hX4, hk.heap hX (by omega), hI.keep hk H.out (fun b hb => by omega)⟩
  case assign =>
    intro l' pre x rest A K hl hx hI hsz hK
    have al := alloc_msg A
    have hX := blk_new A (.cells (mC Msg.zero) 49)
    obtain ⟨hst, _, hk3⟩ := store_all (A.alloc (.cells (mC Msg.zero) 49)) 49 7 A.heap.size (mC x) _ Try.sizeOf49 rfl rfl hX (mC_one _)
    have hX4 := setRow_at (A.alloc (.cells (mC Msg.zero) 49)) A.heap.size _ (mC x) 49 hX
    have hk4 := keeps_past ((Keeps.refl (fun _ => False) A).alloc (.cells (mC Msg.zero) 49)) hk3 (fun k hk e => by omega)
    generalize (A.alloc (.cells (mC Msg.zero) 49)).setRow A.heap.size (mC x) = A4 at *
    refine wpIn_region_lit ?_
    simp only [List.zip_toArray, List.zip_cons_cons, List.zip_nil_right, List.foldl_toArray, List.foldl_cons, List.foldl_nil, List.setIfInBounds_toArray, List.set_cons_succ, List.set_cons_zero]
    refine wpListIn_run_alloc al rfl rfl ?_
    refine wpListIn_run_store (p := .pointer (some ⟨A.heap.size, 0, none⟩)) (u := .agg (mC x)) hst rfl rfl rfl rfl ?_
    refine wpListIn_nil ?_
    refine hK _ _ ⟨A.heap.size, rfl, by omega, hX4, hI.keep hk4 H.out (fun b hb => hb.elim)⟩ (hk4.mono fun _ _ x => x.elim)
  case body =>
    rintro l' pre x rest a' A hl hx ⟨X, rfl, hX4, hX, hI⟩ hsz
    obtain ⟨v, i1, i2⟩ := hI.row
    have hpl : pre.length + 1 ≤ 8 := by
      have := congrArg List.length hx
      simp at this
      omega
    have hlX : (Instr.loadAt 49 (.pointer (some ⟨X, 0, none⟩))).run Try.prog A = .ok (.agg (mC x)) A := load_msg hX
    have cv := cell_of_one i1
    have fv := free_of_one i1
    have H1 := hid i1
    have HIx := hid hI
    have Hx := hid hx
    have Hl := hid hl
    have Hs0 := hid hs0
    have hszA : w.heap.size + 4 ≤ A.heap.size := by omega
    clear hl hs0
    have hBS := blk_new A (.cells (mC x) 49)
    clear i1 hI hx hX
    unfold mC at hlX hBS
    have hcn := cells_new A (mC x) 49
    have hoA := i2.alloc (.cells (mC x) 49)
    unfold mC at hcn hoA
    gi_wp2_with (first | (refine wpListIn_run_load hlX rfl rfl rfl ?_) | (gi_at_builtin; refine wpListIn_append_own _ rfl _ _ 78 rfl (w.heap.size + 4) 49 i0 (.agg (mC Msg.zero)) 7 56 Try.underlying78 HI.out hz0 hz1 hz2 rfl (by decide) _ _ _ rfl hoA ⟨A.heap.size, 0, none⟩ 1 1 (mC x).toList rfl rfl hcn (List.all_eq_true.1 (mC_one x)) (by simp only [maxLen]; omega) (by omega) (by simp; omega) ?_; intro v' w1 hown' hgrow _; have hk1 : Keeps (fun k => k = w.heap.size ∨ w.heap.size + 3 < k) A w1 := ((Keeps.refl _ A).alloc _).grown hgrow (fun k hk => .inl (.inr (by have := (i2.lt k hk).1; omega))); obtain ⟨g', cap', rfl⟩ := ownsRow_succ hown'; have h2 := (hgrow.block w.heap.size (by simp; omega) (fun e => by have := (i2.lt _ e.symm).1; omega)).trans (blk_alloc H1.out _); have cv1 := cell_of_one h2; have fv1 := free_of_one h2; have Hb := hid h2; clear h2 hgrow))
    have hk2 := hk1.setCell (p := ⟨w.heap.size, 0, none⟩) (.inl rfl) (.slice (some ⟨g', 0, none⟩) (pre.length + 1) cap')
    have hIx := HIx.out
    refine ⟨hk2, ⟨⟨.slice (some ⟨g', 0, none⟩) (pre.length + 1) cap', by simpa using blk_set Hb.out 0 _, ?_⟩, hk2.heap hIx.bx (by omega), hk2.heap hIx.lk (by omega), hIx.ow.keeps hk2 (by omega) (by omega), keeps_past hIx.ks hk2 (fun k hk e => by omega), Nat.le_trans hIx.sz hk2.size⟩⟩
    rw [List.length_append, List.length_singleton, show bareF (pre ++ [x]) = bareF pre ++ (mC x).toList by simp [bareF]]
    exact own_keeps hown' ((Keeps.refl (fun k => k = w.heap.size) w1).setCell (p := ⟨w.heap.size, 0, none⟩) rfl _) (fun b hb h => by have := (hown'.lt b hb).1; omega)
  case done =>
    rintro W hI hM hszD hD
    rw [hs0] at hszD
    obtain ⟨v, i1, i2⟩ := hI.row
    have hW : IsLink W B { l with out := [] } := ⟨hI.lk, hI.ow, hM, hok⟩
    have cv := cell_of_one i1
    have c2 := hW.c2
    have c0 := hW.c0
    have HI2 := hid hI
    have HM := hid hM
    have HW := hid hW
    have Hs0 := hid hs0
    have HD := hid hD
    have hszW := hI.sz
    have Hout := hid hout
    clear i1 hI hW hM hs0 hD hout
    have hlN : w.heap.size + 2 < W.heap.size := by
      have := blk_lt HD.out
      rw [Hs0.out] at this
      exact this
    by_cases hst0 : l.state = 0
    · have hSF := hid (show saysF l lead = (l.out ++ [(⟨helloM l, none, 0⟩ : MV)].map MV.m, { l with out := [] }) by unfold saysF; rw [if_neg hs, if_pos hst0]; rfl)
      rw [hst0] at c2
      gi_wp2_with (fail)
      refine (wpIn_wide (n := 0)).2 (wp_calm ?_)
      have hlt2 := hlt
      have z0 := keptS_cell (S := fun k => w.heap.size + 3 < k) (w := W.drew) (p := ⟨B.p, 0, none⟩) c0 (by show ¬ w.heap.size + 3 < B.p; omega)
      have zv := keptS_cell (S := fun k => w.heap.size + 3 < k) (w := W.drew) (p := ⟨w.heap.size, 0, none⟩) cv (by show ¬ w.heap.size + 3 < w.heap.size; omega)
      have hoD := own_keeps i2 ((Keeps.refl (fun _ => False) W).drew) (fun _ _ => id)
      have hoA := hoD.alloc (.cells (mC (helloM l)) 49)
      have hBk := blk_new W.drew (.cells (mC (helloM l)) 49)
      have hkA : Keeps (fun _ => False) W.drew (W.drew.alloc (.cells (mC (helloM l)) 49)) := (Keeps.refl _ _).alloc _
      have hvl : Vals (W.drew.alloc (.cells (mC (helloM l)) 49)) 7 (some ⟨W.heap.size, 0, none⟩) 1 1 (mC (helloM l)).toList := vals_blk (t := 49) hBk rfl (by unfold maxLen; omega)
      have h1c := List.all_eq_true.1 (mC_one (helloM l))
      unfold mC helloM at hoA hBk hkA hvl h1c
      refine stages_start (by kernel_rfl) 9 rfl ?_
      refine stagek (fun k => w.heap.size + 3 < k) [0, 1, 2, 3, 4, 5] [6, 7, 8] 0 rfl #[true, true, true, true, true, true, true, true, true] (by kernel_rfl) (by kernel_rfl) (fun _ _ _ d _ h => by first | (cases d <;> exact h) | cases h.1) ?_
      simp only [opsAt, List.map_cons, List.map_nil, List.getElem?_toArray, List.getElem?_cons_zero, List.getElem?_cons_succ, Option.getD_some]
      repeat (go_big_quiet_step (fail))
      refine wpQuiet_nil ?_
      refine links_cons (by first | rfl | simp [go_sem]) (fun K hK => ?_)
      go_simp
      refine hK _ _ (keptS (hkA.mono fun _ _ x => x.elim)) ?_
      clear hK K
      try refine links_nil ?_
      refine links_cons (by first | rfl | simp [go_sem]) (fun K hK => ?_)
      refine wp_append_vals _ _ _ 78 rfl (w.heap.size + 4) 49 i0 (.agg (mC Msg.zero)) 7 56 Try.underlying78 HI.out hz0 hz1 hz2 rfl (by omega) v l.out.length (bareF l.out) rfl hoA (some ⟨W.heap.size, 0, none⟩) 1 1 _ rfl hvl h1c (by simp only [maxLen]; omega) (by omega) (by simp; omega) ?_
      intro v' w1 hown' hgrow _
      simp only [Act.put, List.setIfInBounds_toArray, List.set_cons_succ, List.set_cons_zero]
      have hkB : Keeps (fun k => w.heap.size + 3 < k) W.drew w1 := (hkA.mono fun _ _ x => x.elim).grown hgrow (fun k hk => .inl (by have := (i2.lt k hk).1; omega))
      have hkd : Keeps (fun k => w.heap.size + 3 < k) W w1 := ((Keeps.refl _ W).drew).trans hkB
      refine hK _ _ (keptS (hkB)) ?_
      clear hK K
      try refine links_nil ?_
      refine links_cons (by first | rfl | simp [go_sem]) (fun K hK => ?_)
      go_simp
      refine hK _ _ (keptS (hkB)) ?_
      clear hK K
      try refine links_nil ?_
      refine stages_end (by kernel_rfl) ?_
      refine ⟨rfl, ?_⟩
      have hD2 := hkd.heap HD.out (by rw [Hs0.out]; omega)
      rw [Hs0.out] at hD2
      have hend := fun o => says_end (v := v') (lead := lead) (ys := [⟨helloM l, none, 0⟩]) HI2.out HM.out H.out hkd hown' rfl Hout.out (fun x hx => by
        simp only [List.mem_cons, List.not_mem_nil, or_false] at hx
        subst hx
        exact ⟨bytes_nil _, fun _ e => by simp at e⟩) hSF.out o
      have HE := hid hend
      rw [Hs0.out]
      clear hend hown' hoA hoD hvl hBk h1c z0 zv
      gi_wp2
      refine ⟨by simp, .inl ⟨_, _, rfl, run_takeDeferred hD2, ?_⟩⟩
      refine ⟨_, results_tmp rfl _ _ _, ?_⟩
      exact HE.out _
    · have hSF := hid (show saysF l lead = (l.out ++ talkF l lead, { l with out := [] }) by unfold saysF; rw [if_neg hs, if_neg hst0])
      have q0 : (l.state == 0) = false := by rw [beq_eq_false_iff_ne]; exact hst0
      gi_wp2_with (fail)
      refine (wpIn_wide (n := 0)).2 (wp_calm ?_)
      have hlt2 := hlt
      have zv := keptS_cell (S := fun k => w.heap.size + 3 < k) (w := W.drew) (p := ⟨w.heap.size, 0, none⟩) cv (by show ¬ w.heap.size + 3 < w.heap.size; omega)
      have hT := lk_talk (HW.out.drew 1) lead ht
      refine stages_start (by kernel_rfl) 6 rfl ?_
      refine stagek (fun k => w.heap.size + 3 < k) [0, 1, 2] [3, 4, 5] 0 rfl #[true, true, true, true, true, true] (by kernel_rfl) (by kernel_rfl) (fun _ _ _ d _ h => by first | (cases d <;> exact h) | cases h.1) ?_
      simp only [opsAt, List.map_cons, List.map_nil, List.getElem?_toArray, List.getElem?_cons_zero, List.getElem?_cons_succ, Option.getD_some]
      repeat (go_big_quiet_step (fail))
      refine wpQuiet_nil ?_
      refine links_cons (by first | rfl | simp [go_sem]) (fun K hK => ?_)
      go_simp
      refine hT.mono ?_
      rintro e w4 ⟨⟨A4, cap4, ys, rfl, hS4, hm4⟩, hb4⟩
      have hk4 : Keeps (fun _ => False) W.drew w4 := Keeps.of_below hb4 (fun k h1 h2 => by have h1 : k < W.heap.size := h1; have h2 : W.heap.size ≤ k := h2; omega)
      refine hK _ _ (keptS (hk4.mono fun _ _ x => x.elim)) ?_
      clear hK K
      try refine links_nil ?_
      refine links_cons (by first | rfl | simp [go_sem]) (fun K hK => ?_)
      have hoD := own_keeps i2 (((Keeps.refl (fun _ => False) W).drew).trans hk4) (fun _ _ => id)
      have hny : 0 < ys.length := by
        have := congrArg List.length hm4
        rw [List.length_map] at this
        rw [this]
        unfold talkF
        split <;> simp
      have hy2 : ys.length ≤ 2 := by
        have := congrArg List.length hm4
        rw [List.length_map] at this
        rw [this]
        unfold talkF
        split <;> simp
      have hone : ∀ u ∈ flatM ys, u.oneCell' = true := by
        intro u hu
        unfold flatM at hu
        obtain ⟨x, _, hx⟩ := List.mem_flatMap.1 hu
        have hall : (mvC x).toList.all (fun v => v.oneCell') = true := by kernel_rfl
        exact List.all_eq_true.1 hall u hx
      have hs4 : W.heap.size ≤ w4.heap.size := hk4.size
      refine wp_append_vals _ _ _ 78 rfl (w.heap.size + 4) 49 i0 (.agg (mC Msg.zero)) 7 56 Try.underlying78 HI.out hz0 hz1 hz2 rfl (by omega) v l.out.length (bareF l.out) rfl hoD A4 ys.length cap4 _ rfl hS4.vals hone (by simp only [maxLen]; omega) (by omega) (by omega) ?_
      intro v' w1 hown' hgrow _
      simp only [Act.put, List.setIfInBounds_toArray, List.set_cons_succ, List.set_cons_zero]
      have hkB : Keeps (fun k => w.heap.size + 3 < k) w4 w1 := (Keeps.refl _ w4).grown hgrow (fun k hk => .inl (by have := (i2.lt k hk).1; omega))
      have hkR : Keeps (fun k => k < W.heap.size) w4 w1 := (Keeps.refl _ w4).grown hgrow (fun k hk => .inl (i2.lt k hk).2)
      have hkC : Keeps (fun k => w.heap.size + 3 < k) W.drew w1 := (hk4.mono fun _ _ x => x.elim).trans hkB
      refine hK _ _ (keptS (hkC)) ?_
      clear hK K
      try refine links_nil ?_
      refine links_cons (by first | rfl | simp [go_sem]) (fun K hK => ?_)
      go_simp
      refine hK _ _ (keptS (hkC)) ?_
      clear hK K
      try refine links_nil ?_
      refine stages_end (by kernel_rfl) ?_
      refine ⟨rfl, ?_⟩
      have hkd : Keeps (fun k => w.heap.size + 3 < k) W w1 := ((Keeps.refl _ W).drew).trans hkC
      have hD2 := hkd.heap HD.out (by rw [Hs0.out]; omega)
      rw [Hs0.out] at hD2
      have hend := fun o => says_end (v := v') (lead := lead) (ys := ys) HI2.out HM.out H.out hkd hown' rfl Hout.out (fun x hx => by
        obtain ⟨h1, h2⟩ := hS4.ins x hx
        exact ⟨h1.keeps hkR (fun _ y e h => by have h3 : W.heap.size ≤ y.block := h2 y e; have h : y.block < W.heap.size := h; omega), fun y e => by have h3 : W.heap.size ≤ y.block := h2 y e; omega⟩) (by rw [hm4]; exact hSF.out) o
      have HE := hid hend
      rw [Hs0.out]
      clear hend hown' hoD zv hS4 hone
      gi_wp2
      refine ⟨by simp, .inl ⟨_, _, rfl, run_takeDeferred hD2, ?_⟩⟩
      refine ⟨_, results_tmp rfl _ _ _, ?_⟩
      exact HE.out _
theorem lk_says (h : IsLink w B l) (lead : Int) (ht : 0 ≤ l.ticks ∧ l.ticks ≤ 1099511627776) (hout : ∀ m ∈ l.out, m.ins = []) : Calls Try.prog 32 #[.pointer (some ⟨B.p, 0, none⟩), .int .i64 lead] w (SaysPost w B l lead) := by
  by_cases hs : l.state = 2
  · exact says_gone h lead hs
  · exact says_on h lead hs ht hout
end Go.Proofs.Ytaobhbfhbmenfaa
/- link: a tick. -/
namespace Go.Proofs.Ytaobhbfhbmenfaa
open Go.RowKit
set_option maxRecDepth 10000
variable {w : World} {B : LB} {l : Lk}
def upL (l : Lk) : Lk := { l with ticks := l.ticks + 1 }
def endL (l : Lk) : Lk := if (upL l).patience < (upL l).ticks - (upL l).heard then { upL l with state := 2 } else upL l
def tickF (l : Lk) (lead : Int) : List Msg × Lk := saysF (endL l) lead
def strsM (ms : List Msg) : List Value := ms.map fun m => Value.string ⟨(packM m).toArray⟩
/-- what a tick sends -/
def TickPost (w : World) (B : LB) (l : Lk) (lead : Int) (e : Ending) (w' : World) : Prop :=
  (∃ A cap, e = .returned (.slice A (tickF l lead).1.length cap) ∧ Vals w' 1 A (tickF l lead).1.length cap (strsM (tickF l lead).1) ∧ ∀ y, A = some y → w.heap.size ≤ y.block) ∧ IsLink w' B (tickF l lead).2 ∧ Keeps B.S w w'
theorem info_str : (Try.prog.info? 9).map (fun i => (i.zero, i.size, i.bytes)) = some (some (.string ByteArray.empty), 1, 16) := by kernel_rfl
theorem bytes_below {w w' : World} {a : Option Addr} {c : Nat} {L : List UInt8} (h : IsBytes w a c L) (hb : Below w.heap.size w w') : IsBytes w' a c L :=
  h.keeps (S := fun _ => False) (Keeps.of_below hb (fun k h1 h2 => by omega)) (fun _ _ _ => id)
theorem flat_at {xs : List MV} {k : Nat} {x : MV} (h : xs[k]? = some x) (j : Nat) (hj : j < 7) : (flatM xs)[k * 7 + j]? = (mvC x).toList[j]? := by
  induction xs generalizing k with
  | nil => simp at h
  | cons y ys ih =>
    have hl : (mvC y).toList.length = 7 := rfl
    unfold flatM at ih ⊢
    rw [List.flatMap_cons]
    cases k with
    | zero =>
      simp only [List.getElem?_cons_zero, Option.some.injEq] at h
      subst h
      rw [List.getElem?_append_left (by omega)]
      congr 1
      omega
    | succ k =>
      rw [List.getElem?_cons_succ] at h
      rw [List.getElem?_append_right (by omega), hl, ← ih h]
      congr 1
      omega
/-- the loop that packs -/
theorem tick_loop_cells {w4 wr : World} {b : Nat} {bb o cap : Nat} {xs : List MV} (h : SlcM b w4 (some ⟨bb, o, none⟩) cap xs) (hb : Below w4.heap.size w4 wr) (k : Nat) (x : MV) (hx : xs[k]? = some x) (j : Nat) (hj : j < 7) (u : Value) (hu : (mvC x).toList[j]? = some u) : wr.cell? ⟨bb, o + k * 7 + j, none⟩ = some u := by
  rw [Nat.add_assoc]
  have hk : k < xs.length := (List.getElem?_eq_some_iff.1 hx).1
  obtain ⟨b', o', e, hc⟩ := h.vals.at' (by omega)
  cases e
  have := hc (k * 7 + j) u (by rw [flat_at hx j hj, hu])
  exact (Keeps.of_below (S := fun _ => False) hb (fun k h1 h2 => by omega)).cell this id
set_option maxHeartbeats 2000000 in
theorem lk_Tick (h : IsLink w B l) (lead : Int) (ht : 0 ≤ l.ticks ∧ l.ticks ≤ 1000000) (hh : 0 ≤ l.heard ∧ l.heard ≤ 1000000) (hout : ∀ m ∈ l.out, m.ins = []) (hm : ∀ m ∈ (tickF l lead).1, m.wf ∧ RightP m) (hn : (tickF l lead).1.length ≤ 100) :
    Calls Try.prog 17 #[.pointer (some ⟨B.p, 0, none⟩), .int .i64 lead] w (TickPost w B l lead) := by
  have c4 := h.c4
  have f4 := h.free 4
  have hU := h.set 4 (.int .i64 (l.ticks + 1)) (upL l) rfl rfl rfl
  have hkU := Keeps.setCell (S := B.S) (Keeps.refl _ w) (p := ⟨B.p, 4, none⟩) (.inl rfl) (.int .i64 (l.ticks + 1))
  have H := hid h
  clear h
  obtain ⟨i0, hi, hz0, hz1, hz2⟩ : ∃ i, Try.prog.info? 9 = some i ∧ i.zero = some (.string ByteArray.empty) ∧ i.size = 1 ∧ i.bytes = 16 := by
    have h := info_str
    cases hh : Try.prog.info? 9 with
    | none => rw [hh] at h; cases h
    | some i => rw [hh] at h; simp only [Option.map_some, Option.some.injEq, Prod.mk.injEq] at h; exact ⟨i, rfl, h.1, h.2.1, h.2.2⟩
  have Hi := hid hi
  clear hi
  by_cases hp : l.patience < l.ticks + 1 - l.heard
  · have hE : endL l = { upL l with state := 2 } := by unfold endL; rw [if_pos (by exact hp)]
    go_enter Try.func17, Try.ntmps17
    go_wp2_with fail
    generalize w.setCell ⟨B.p, 4, none⟩ (.int .i64 (l.ticks + 1)) = w1 at *
    have d4 : w1.cell? ⟨B.p, 4, none⟩ = some (.int .i64 (l.ticks + 1)) := hU.c4
    have d5 : w1.cell? ⟨B.p, 5, none⟩ = some (.int .i64 l.heard) := hU.c5
    have d1 : w1.cell? ⟨B.p, 1, none⟩ = some (.int .i64 l.patience) := hU.c1
    go_quiet (fail)
    have d2 := (hU.drew nq).c2
    have g2 := (hU.drew nq).free 2
    have h3 := (hU.drew nq).set 2 (.int .i64 2) (endL l) (by rw [hE]; rfl) (by rw [hE]) (by rw [hE])
    have hk3 := Keeps.setCell (S := B.S) (hkU.drewN nq) (p := ⟨B.p, 2, none⟩) (.inl rfl) (.int .i64 2)
    clear hE
    go_wp2_with fail
    clear d4 d5 d1 d2 g2 hU hkU c4 f4
    generalize (w1.drewN nq).setCell ⟨B.p, 2, none⟩ (.int .i64 2) = w3 at *
    have hT9 : 0 ≤ (endL l).ticks ∧ (endL l).ticks ≤ 1099511627776 := by
      have : (endL l).ticks = l.ticks + 1 := by unfold endL; split <;> rfl
      rw [this]
      omega
    have hO9 : ∀ m ∈ (endL l).out, m.ins = [] := by
      have : (endL l).out = l.out := by unfold endL; split <;> rfl
      rw [this]
      exact hout
    refine (lk_says h3 lead hT9 hO9).mono ?_
    rintro e w4 ⟨⟨A, cap, xs, rfl, hS, hxs⟩, hL4, hk4⟩
    have hk4' := hk3.trans hk4
    have HL4 := hid hL4
    have HK4 := hid hk4'
    have hxl : xs.length = (tickF l lead).1.length := by
      have := congrArg List.length hxs
      rwa [List.length_map] at this
    have hs34 : w.heap.size ≤ w4.heap.size := hk4'.size
    have hS0 : ∀ y, A = some y → w.heap.size ≤ y.block := fun y e => Nat.le_trans hk3.size (hS.new y e)
    have HS := hid hS
    have Hxs := hid (show xs.map MV.m = (tickF l lead).1 from hxs)
    have Hm := hid hm
    have Hn := hid hn
    clear hT9 hO9 hS hL4 hk4 hk4' h3 hk3 hm hout hxs hn
    have hnl : xs.length ≤ 100 := by rw [hxl]; exact Hn.out
    go_wp2_with fail
    go_loopw [5, 40] (fun v i wr => ∃ k : Nat, k ≤ xs.length ∧ i = .int .i64 k ∧ wr.ownsRow w4.heap.size 9 1 v k (strsM ((xs.take k).map MV.m)) ∧ Below w4.heap.size w4 wr) (fun _ i _ => xs.length - (intOf i).toNat)
    case atStart => exact ⟨0, Nat.zero_le _, rfl, own_nil _ _ _ _, Below.refl _ _⟩
    case round =>
      obtain ⟨k, hk, rfl, hown, hbr⟩ := hrel
      by_cases hlt : k < xs.length
      · obtain ⟨x, hx⟩ : ∃ x, xs[k]? = some x := ⟨xs[k], List.getElem?_eq_getElem hlt⟩
        obtain ⟨bb, o, rfl, _⟩ := HS.out.vals.at' (by omega)
        have y0 : wr.cell? ⟨bb, o + k * 7, none⟩ = some (.int .i64 x.m.kind) := tick_loop_cells HS.out hbr k x hx 0 (by omega) (.int .i64 x.m.kind) rfl
        have y1 := tick_loop_cells HS.out hbr k x hx 1 (by omega) (.int .u32 x.m.nonce) rfl
        have y2 := tick_loop_cells HS.out hbr k x hx 2 (by omega) (.int .u16 x.m.serial) rfl
        have y3 := tick_loop_cells HS.out hbr k x hx 3 (by omega) (.int .u16 x.m.ack) rfl
        have y4 := tick_loop_cells HS.out hbr k x hx 4 (by omega) (.slice x.a x.m.ins.length x.c) rfl
        have y5 := tick_loop_cells HS.out hbr k x hx 5 (by omega) (.int .u32 x.m.sum) rfl
        have y6 := tick_loop_cells HS.out hbr k x hx 6 (by omega) (.int .i64 x.m.lead) rfl
        have hmm : (x.m).wf ∧ RightP x.m := Hm.out x.m (by rw [← Hxs.out]; exact List.mem_map.2 ⟨x, List.mem_of_getElem? hx, rfl⟩)
        have hIb := bytes_below (HS.out.ins x (List.mem_of_getElem? hx)).1 hbr
        have hE0 : packE x.m = 0 := by unfold packE; rw [if_pos hmm.2]
        have hS0' : packS x.m = packM x.m := by unfold packS; rw [if_pos hmm.2]
        have hnv : strsM ((xs.take (k + 1)).map MV.m) = strsM ((xs.take k).map MV.m) ++ [.string ⟨(packM x.m).toArray⟩] := by
          rw [List.take_add_one, hx]; simp [strsM]
        have Hnv := hid hnv
        have Hbr := hid hbr
        have hsz := hbr.size
        clear hnv hbr
        go_wp2_with fail
        have hbb : Below w4.heap.size wr (wr.alloc (.cells (mvC x) 49)) := (Below.refl _ wr).alloc hsz _
        refine (wire_Pack x.m (bytes_below hIb ((Below.refl _ wr).alloc (Nat.le_refl _) _)) hmm.1).mono ?_
        rintro e w5 ⟨rfl, hb5⟩
        rw [hE0, hS0']
        have hk5 : Keeps (fun _ => False) wr w5 := ((Keeps.refl (fun _ => False) wr).alloc _).trans (Keeps.of_below hb5 (fun k h1 h2 => by omega))
        clear hE0 hS0' hbb hb5 hIb hmm y0 y1 y2 y3 y4 y5 y6
        have hs5 := hk5.size
        generalize packM x.m = px at *
        have hv1 := vals_one w5 (.string ⟨px.toArray⟩) 9
        have hown5 := own_keeps hown hk5 (fun _ _ => id)
        go_wp2_with (at_builtin; refine wpList_append_vals _ rfl (.tmp 51) (.tmp 53) _ rfl w4.heap.size 9 i0 _ 1 16 Try.underlying33 Hi.out hz0 hz1 hz2 rfl (by omega) _ k _ rfl (own_keeps hown5 ((Keeps.refl (fun _ => False) _).alloc _) (fun _ _ => id)) (some ⟨_, 0, none⟩) 1 1 [.string ⟨px.toArray⟩] rfl hv1 (by simp [Value.oneCell']) (by simp only [maxLen]; omega) (by omega) (by simp; omega) ?_)
        intro v1 w6 hown1 hg1 _
        have hk6 : Keeps (fun k => w4.heap.size ≤ k) w5 w6 := ((Keeps.refl _ w5).alloc _).grown hg1 (fun k hk => .inl (hown5.lt k hk).1)
        have hk56 : Keeps (fun k => w4.heap.size ≤ k) wr w6 := keeps_past (hk5.mono fun _ _ x => x.elim) hk6 (fun k _ h => h)
        have hb6 := Hbr.out.trans (hk56.below hsz (fun k h1 h2 => by omega))
        go_wp2_with fail
        go_roundw
        case rel => exact ⟨k + 1, by omega, by go_num, by rw [Hnv.out]; simpa using hown1, hb6⟩
        case measure => simp [intOf]; omega
      · obtain rfl : k = xs.length := by omega
        obtain ⟨A', cp, rfl, hvM, hbM⟩ := vals_of_own hown
        rw [List.take_length, Hxs.out] at hvM
        rw [hxl] at hvM
        go_wp2_with fail
        go_ret
        refine ⟨⟨A', cp, by rw [← hxl]; rfl, hvM, fun y e => Nat.le_trans hs34 (hbM y e).1⟩, HL4.out.below hbr, ?_⟩
        exact keeps_past HK4.out (Keeps.of_below (S := fun _ => False) hbr (fun k h1 h2 => by omega)) (fun k _ h => h.elim)
  · have hE : endL l = upL l := by unfold endL; rw [if_neg (by exact hp)]
    go_enter Try.func17, Try.ntmps17
    go_wp2_with fail
    generalize w.setCell ⟨B.p, 4, none⟩ (.int .i64 (l.ticks + 1)) = w1 at *
    have d4 : w1.cell? ⟨B.p, 4, none⟩ = some (.int .i64 (l.ticks + 1)) := hU.c4
    have d5 : w1.cell? ⟨B.p, 5, none⟩ = some (.int .i64 l.heard) := hU.c5
    have d1 : w1.cell? ⟨B.p, 1, none⟩ = some (.int .i64 l.patience) := hU.c1
    go_quiet (fail)
    have h3 := hU.drew nq
    rw [← hE] at h3
    have hk3 := hkU.drewN nq
    clear hE
    go_wp2_with fail
    clear d4 d5 d1 hU hkU c4 f4
    generalize w1.drewN nq = w3 at *
    have hT9 : 0 ≤ (endL l).ticks ∧ (endL l).ticks ≤ 1099511627776 := by
      have : (endL l).ticks = l.ticks + 1 := by unfold endL; split <;> rfl
      rw [this]
      omega
    have hO9 : ∀ m ∈ (endL l).out, m.ins = [] := by
      have : (endL l).out = l.out := by unfold endL; split <;> rfl
      rw [this]
      exact hout
    refine (lk_says h3 lead hT9 hO9).mono ?_
    rintro e w4 ⟨⟨A, cap, xs, rfl, hS, hxs⟩, hL4, hk4⟩
    have hk4' := hk3.trans hk4
    have HL4 := hid hL4
    have HK4 := hid hk4'
    have hxl : xs.length = (tickF l lead).1.length := by
      have := congrArg List.length hxs
      rwa [List.length_map] at this
    have hs34 : w.heap.size ≤ w4.heap.size := hk4'.size
    have hS0 : ∀ y, A = some y → w.heap.size ≤ y.block := fun y e => Nat.le_trans hk3.size (hS.new y e)
    have HS := hid hS
    have Hxs := hid (show xs.map MV.m = (tickF l lead).1 from hxs)
    have Hm := hid hm
    have Hn := hid hn
    clear hT9 hO9 hS hL4 hk4 hk4' h3 hk3 hm hout hxs hn
    have hnl : xs.length ≤ 100 := by rw [hxl]; exact Hn.out
    go_wp2_with fail
    go_loopw [5, 40] (fun v i wr => ∃ k : Nat, k ≤ xs.length ∧ i = .int .i64 k ∧ wr.ownsRow w4.heap.size 9 1 v k (strsM ((xs.take k).map MV.m)) ∧ Below w4.heap.size w4 wr) (fun _ i _ => xs.length - (intOf i).toNat)
    case atStart => exact ⟨0, Nat.zero_le _, rfl, own_nil _ _ _ _, Below.refl _ _⟩
    case round =>
      obtain ⟨k, hk, rfl, hown, hbr⟩ := hrel
      by_cases hlt : k < xs.length
      · obtain ⟨x, hx⟩ : ∃ x, xs[k]? = some x := ⟨xs[k], List.getElem?_eq_getElem hlt⟩
        obtain ⟨bb, o, rfl, _⟩ := HS.out.vals.at' (by omega)
        have y0 : wr.cell? ⟨bb, o + k * 7, none⟩ = some (.int .i64 x.m.kind) := tick_loop_cells HS.out hbr k x hx 0 (by omega) (.int .i64 x.m.kind) rfl
        have y1 := tick_loop_cells HS.out hbr k x hx 1 (by omega) (.int .u32 x.m.nonce) rfl
        have y2 := tick_loop_cells HS.out hbr k x hx 2 (by omega) (.int .u16 x.m.serial) rfl
        have y3 := tick_loop_cells HS.out hbr k x hx 3 (by omega) (.int .u16 x.m.ack) rfl
        have y4 := tick_loop_cells HS.out hbr k x hx 4 (by omega) (.slice x.a x.m.ins.length x.c) rfl
        have y5 := tick_loop_cells HS.out hbr k x hx 5 (by omega) (.int .u32 x.m.sum) rfl
        have y6 := tick_loop_cells HS.out hbr k x hx 6 (by omega) (.int .i64 x.m.lead) rfl
        have hmm : (x.m).wf ∧ RightP x.m := Hm.out x.m (by rw [← Hxs.out]; exact List.mem_map.2 ⟨x, List.mem_of_getElem? hx, rfl⟩)
        have hIb := bytes_below (HS.out.ins x (List.mem_of_getElem? hx)).1 hbr
        have hE0 : packE x.m = 0 := by unfold packE; rw [if_pos hmm.2]
        have hS0' : packS x.m = packM x.m := by unfold packS; rw [if_pos hmm.2]
        have hnv : strsM ((xs.take (k + 1)).map MV.m) = strsM ((xs.take k).map MV.m) ++ [.string ⟨(packM x.m).toArray⟩] := by
          rw [List.take_add_one, hx]; simp [strsM]
        have Hnv := hid hnv
        have Hbr := hid hbr
        have hsz := hbr.size
        clear hnv hbr
        go_wp2_with fail
        have hbb : Below w4.heap.size wr (wr.alloc (.cells (mvC x) 49)) := (Below.refl _ wr).alloc hsz _
        refine (wire_Pack x.m (bytes_below hIb ((Below.refl _ wr).alloc (Nat.le_refl _) _)) hmm.1).mono ?_
        rintro e w5 ⟨rfl, hb5⟩
        rw [hE0, hS0']
        have hk5 : Keeps (fun _ => False) wr w5 := ((Keeps.refl (fun _ => False) wr).alloc _).trans (Keeps.of_below hb5 (fun k h1 h2 => by omega))
        clear hE0 hS0' hbb hb5 hIb hmm y0 y1 y2 y3 y4 y5 y6
        have hs5 := hk5.size
        generalize packM x.m = px at *
        have hv1 := vals_one w5 (.string ⟨px.toArray⟩) 9
        have hown5 := own_keeps hown hk5 (fun _ _ => id)
        go_wp2_with (at_builtin; refine wpList_append_vals _ rfl (.tmp 51) (.tmp 53) _ rfl w4.heap.size 9 i0 _ 1 16 Try.underlying33 Hi.out hz0 hz1 hz2 rfl (by omega) _ k _ rfl (own_keeps hown5 ((Keeps.refl (fun _ => False) _).alloc _) (fun _ _ => id)) (some ⟨_, 0, none⟩) 1 1 [.string ⟨px.toArray⟩] rfl hv1 (by simp [Value.oneCell']) (by simp only [maxLen]; omega) (by omega) (by simp; omega) ?_)
        intro v1 w6 hown1 hg1 _
        have hk6 : Keeps (fun k => w4.heap.size ≤ k) w5 w6 := ((Keeps.refl _ w5).alloc _).grown hg1 (fun k hk => .inl (hown5.lt k hk).1)
        have hk56 : Keeps (fun k => w4.heap.size ≤ k) wr w6 := keeps_past (hk5.mono fun _ _ x => x.elim) hk6 (fun k _ h => h)
        have hb6 := Hbr.out.trans (hk56.below hsz (fun k h1 h2 => by omega))
        go_wp2_with fail
        go_roundw
        case rel => exact ⟨k + 1, by omega, by go_num, by rw [Hnv.out]; simpa using hown1, hb6⟩
        case measure => simp [intOf]; omega
      · obtain rfl : k = xs.length := by omega
        obtain ⟨A', cp, rfl, hvM, hbM⟩ := vals_of_own hown
        rw [List.take_length, Hxs.out] at hvM
        rw [hxl] at hvM
        go_wp2_with fail
        go_ret
        refine ⟨⟨A', cp, by rw [← hxl]; rfl, hvM, fun y e => Nat.le_trans hs34 (hbM y e).1⟩, HL4.out.below hbr, ?_⟩
        exact keeps_past HK4.out (Keeps.of_below (S := fun _ => False) hbr (fun k h1 h2 => by omega)) (fun k _ h => h.elim)
end Go.Proofs.Ytaobhbfhbmenfaa
/- link: the example; what a link that is not there hears. -/
namespace Go.Proofs.Ytaobhbfhbmenfaa
open Go.RowKit
set_option maxRecDepth 10000
variable {w : World}
theorem nil_Hear (s : ByteArray) (w : World) : Calls Try.prog 19 #[.pointer none, .string s] w fun e w' => e = .returned (.tuple #[.agg #[.int .i64 0, .int .i64 0, .slice none 0 0, .int .i64 0, .int .u32 0, .int .i64 0], .int .i64 2]) ∧ Below w.heap.size w w' := by
  go_enter Try.func19, Try.ntmps19
  go_wp2
  have hB := blk_new w (.cells #[.int .i64 0, .int .i64 0, .slice none 0 0, .int .i64 0, .int .u32 0, .int .i64 0] 51)
  have hload := box_load _ _ _ _ hB 6 rfl
  refine bodyPost_ret (v := .tuple #[.agg #[.int .i64 0, .int .i64 0, .slice none 0 0, .int .i64 0, .int .u32 0, .int .i64 0], .int .i64 2]) (by simp [results, Try.results19, asAddr, loadVar, loadCells, Try.isAgg51, Try.sizeOf51, hload]) rfl ?_
  exact ⟨rfl, (Below.refl _ _).alloc (Nat.le_refl _) _⟩
theorem hello_tick : tickF (Lk.new 7 10 0) 0 = ([⟨1, 7, 0, 0, [], 0, 0⟩], { Lk.new 7 10 0 with ticks := 1 }) := by
  unfold tickF endL upL saysF Lk.new
  simp [helloM]
theorem hello_right : RightP ⟨1, 7, 0, 0, [], 0, 0⟩ ∧ Msg.wf ⟨1, 7, 0, 0, [], 0, 0⟩ := by
  exact ⟨by decide, by decide, by decide, by decide, by decide, by decide, by decide⟩
theorem awake16 (w : World) : Calls Try.prog 7 #[] w fun e w' => e = .returned (.bool true) ∧ Below w.heap.size w w' := by
  go_enter Try.func7, Try.ntmps7
  go_wp2_with fail
  refine (lk_New 7 10 0 (by omega) (by omega) _).mono ?_
  rintro e w1 ⟨rfl, hL, hb1⟩
  go_wp2_with fail
  refine (lk_Tick hL 0 (by simp [Lk.new]) (by simp [Lk.new]) (by simp [Lk.new]) (by rw [hello_tick]; simp; exact hello_right.symm) (by rw [hello_tick]; simp)).mono ?_
  rintro e w2 ⟨⟨A, cap, rfl, hV, hA⟩, hL2, hk2⟩
  rw [hello_tick] at hV ⊢
  obtain ⟨b, o, rfl, hc⟩ := hV.at' (by simp)
  have c0 : w2.cell? ⟨b, o, none⟩ = some (.string ⟨(packM ⟨1, 7, 0, 0, [], 0, 0⟩).toArray⟩) := hc 0 _ rfl
  go_wp2_with fail
  refine (wire_Unpack _ (by have := pack_len ⟨1, 7, 0, 0, [], 0, 0⟩ hello_right.1; simp [ByteArray.size]; omega)).mono ?_
  rw [show (unpM (ByteArray.mk (packM ⟨1, 7, 0, 0, [], 0, 0⟩).toArray).data.toList) = (⟨1, 7, 0, 0, [], 0, 0⟩, 0) from unpM_pack _ hello_right.1 hello_right.2]
  rintro e w3 ⟨a, c, rfl, hA3, hb3⟩
  go_wp2
  go_ret
  refine ⟨by rfl, ?_⟩
  have hk3 : Keeps (fun b => w.heap.size ≤ b) w1 w3 := keeps_past (hk2.mono fun b _ h => by rcases h with e | e | e | e | e <;> simp at e <;> omega) (Keeps.of_below (S := fun _ => False) hb3 (fun k h1 h2 => by omega)) (fun _ _ h => h.elim)
  exact (hb1.trans (hk3.below hb1.size (fun k h1 h2 => by omega))).alloc (by have := hb1.size; have := hk3.size; omega) _
end Go.Proofs.Ytaobhbfhbmenfaa
/- link: the law on a link that is not there. -/
namespace Go.Proofs.Ytaobhbfhbmenfaa
open Go.RowKit
set_option maxRecDepth 10000
variable {w : World}
theorem same_zero (w : World) : Calls Try.prog 24 #[.agg #[.int .i64 0, .int .i64 0, .slice none 0 0, .int .i64 0, .int .u32 0, .int .i64 0], .agg #[.int .i64 0, .int .i64 0, .slice none 0 0, .int .i64 0, .int .u32 0, .int .i64 0]] w fun e w' => e = .returned (.bool true) ∧ Below w.heap.size w w' := by
  have hS := fun W => ref_SameB W none none 0 0 [] [] (bytes_nil _) (bytes_nil _)
  go_enter Try.func24, Try.ntmps24
  go_wp2_with fail
  refine (hS _).mono ?_
  rintro e w1 ⟨rfl, q, rfl⟩
  go_wp2_with fail
  go_ret
  refine ⟨by rfl, below_drewN (((Below.refl _ _).alloc (Nat.le_refl _) _).alloc (by simp) _) q⟩
def actC (k b i : Int) (s : ByteArray) (m : Msg) (a : Option Addr) (c : Nat) : Array Value := #[.int .i64 k, .int .i64 b, .int .u8 i, .string s, .int .i64 m.kind, .int .u32 m.nonce, .int .u16 m.serial, .int .u16 m.ack, .slice a m.ins.length c, .int .u32 m.sum, .int .i64 m.lead]
set_option maxHeartbeats 1000000 in
theorem law_LinkNil (k b i : Int) (s : ByteArray) (m : Msg) (a : Option Addr) (c : Nat) (w : World) : Calls Try.prog 6 #[.agg (actC k b i s m a c)] w fun e w' => e = .returned (.bool true) ∧ Below w.heap.size w w' := by
  have hX := blk_new w (.cells (actC k b i s m a c) 58)
  have hbe := (Below.refl w.heap.size w).alloc (Nat.le_refl _) (.cells (actC k b i s m a c) 58)
  unfold actC at *
  by_cases hs : s.size ≤ 400
  · go_enter Try.func6, Try.ntmps6
    go_wp2_with fail
    refine (awake16 _).mono ?_
    rintro e w1 ⟨rfl, hb1⟩
    have hX1 := (Keeps.of_below (S := fun _ => False) hb1 (fun k h1 h2 => by omega)).heap hX id
    have hbe1 := hbe.trans (hb1.mono (by simp))
    have x1 := blk_cell (k := 1) hX1 rfl
    have x2 := blk_cell (k := 2) hX1 rfl
    have x3 := blk_cell (k := 3) hX1 rfl
    clear hX hbe hb1
    go_wp2_with fail
    first | (refine (nil_State _).mono ?_; rintro e wq ⟨rfl, rfl⟩) | (refine (nil_Next _).mono ?_; rintro e wq ⟨rfl, rfl⟩) | (refine (nil_Acked _).mono ?_; rintro e wq ⟨rfl, rfl⟩) | (refine (nil_Waits _).mono ?_; rintro e wq ⟨rfl, rfl⟩) | (refine (nil_Ticks _).mono ?_; rintro e wq ⟨rfl, rfl⟩) | (refine (nil_Counts _).mono ?_; rintro e wq ⟨rfl, rfl⟩) | (refine (nil_Own _ _ _).mono ?_; rintro e wq ⟨rfl, rfl⟩) | (refine (nil_Report _ _ _).mono ?_; rintro e wq ⟨rfl, rfl⟩) | (refine (nil_Tick _ _).mono ?_; rintro e wq ⟨rfl, rfl⟩) | (refine (nil_Bye _).mono ?_; rintro e wq ⟨rfl, rfl⟩)
    go_wp2_with fail
    refine (nil_Hear _ _).mono ?_
    rintro e w2 ⟨rfl, hb2⟩
    have hX2 := (Keeps.of_below (S := fun _ => False) hb2 (fun k h1 h2 => by omega)).heap hX1 id
    have hbe2 := hbe1.trans (hb2.mono hbe1.size)
    clear x1 x2 x3 hX1 hbe1 hb2
    have hlt2 := blk_lt hX2
    have x1 : w2.cell? ⟨w.heap.size, 1, none⟩ = some (.int .i64 b) := blk_cell hX2 rfl
    have x2 : w2.cell? ⟨w.heap.size, 2, none⟩ = some (.int .u8 i) := blk_cell hX2 rfl
    have x3 : w2.cell? ⟨w.heap.size, 3, none⟩ = some (.string s) := blk_cell hX2 rfl
    go_wp2_with fail
    first | (refine (nil_State _).mono ?_; rintro e wq ⟨rfl, rfl⟩) | (refine (nil_Next _).mono ?_; rintro e wq ⟨rfl, rfl⟩) | (refine (nil_Acked _).mono ?_; rintro e wq ⟨rfl, rfl⟩) | (refine (nil_Waits _).mono ?_; rintro e wq ⟨rfl, rfl⟩) | (refine (nil_Ticks _).mono ?_; rintro e wq ⟨rfl, rfl⟩) | (refine (nil_Counts _).mono ?_; rintro e wq ⟨rfl, rfl⟩) | (refine (nil_Own _ _ _).mono ?_; rintro e wq ⟨rfl, rfl⟩) | (refine (nil_Report _ _ _).mono ?_; rintro e wq ⟨rfl, rfl⟩) | (refine (nil_Tick _ _).mono ?_; rintro e wq ⟨rfl, rfl⟩) | (refine (nil_Bye _).mono ?_; rintro e wq ⟨rfl, rfl⟩)
    go_wp2_with fail
    first | (refine (nil_State _).mono ?_; rintro e wq ⟨rfl, rfl⟩) | (refine (nil_Next _).mono ?_; rintro e wq ⟨rfl, rfl⟩) | (refine (nil_Acked _).mono ?_; rintro e wq ⟨rfl, rfl⟩) | (refine (nil_Waits _).mono ?_; rintro e wq ⟨rfl, rfl⟩) | (refine (nil_Ticks _).mono ?_; rintro e wq ⟨rfl, rfl⟩) | (refine (nil_Counts _).mono ?_; rintro e wq ⟨rfl, rfl⟩) | (refine (nil_Own _ _ _).mono ?_; rintro e wq ⟨rfl, rfl⟩) | (refine (nil_Report _ _ _).mono ?_; rintro e wq ⟨rfl, rfl⟩) | (refine (nil_Tick _ _).mono ?_; rintro e wq ⟨rfl, rfl⟩) | (refine (nil_Bye _).mono ?_; rintro e wq ⟨rfl, rfl⟩)
    go_wp2_with fail
    first | (refine (nil_State _).mono ?_; rintro e wq ⟨rfl, rfl⟩) | (refine (nil_Next _).mono ?_; rintro e wq ⟨rfl, rfl⟩) | (refine (nil_Acked _).mono ?_; rintro e wq ⟨rfl, rfl⟩) | (refine (nil_Waits _).mono ?_; rintro e wq ⟨rfl, rfl⟩) | (refine (nil_Ticks _).mono ?_; rintro e wq ⟨rfl, rfl⟩) | (refine (nil_Counts _).mono ?_; rintro e wq ⟨rfl, rfl⟩) | (refine (nil_Own _ _ _).mono ?_; rintro e wq ⟨rfl, rfl⟩) | (refine (nil_Report _ _ _).mono ?_; rintro e wq ⟨rfl, rfl⟩) | (refine (nil_Tick _ _).mono ?_; rintro e wq ⟨rfl, rfl⟩) | (refine (nil_Bye _).mono ?_; rintro e wq ⟨rfl, rfl⟩)
    go_wp2_with fail
    first | (refine (nil_State _).mono ?_; rintro e wq ⟨rfl, rfl⟩) | (refine (nil_Next _).mono ?_; rintro e wq ⟨rfl, rfl⟩) | (refine (nil_Acked _).mono ?_; rintro e wq ⟨rfl, rfl⟩) | (refine (nil_Waits _).mono ?_; rintro e wq ⟨rfl, rfl⟩) | (refine (nil_Ticks _).mono ?_; rintro e wq ⟨rfl, rfl⟩) | (refine (nil_Counts _).mono ?_; rintro e wq ⟨rfl, rfl⟩) | (refine (nil_Own _ _ _).mono ?_; rintro e wq ⟨rfl, rfl⟩) | (refine (nil_Report _ _ _).mono ?_; rintro e wq ⟨rfl, rfl⟩) | (refine (nil_Tick _ _).mono ?_; rintro e wq ⟨rfl, rfl⟩) | (refine (nil_Bye _).mono ?_; rintro e wq ⟨rfl, rfl⟩)
    go_wp2_with fail
    refine (same_zero _).mono ?_
    rintro e w3 ⟨rfl, hb3⟩
    have hbe3 := (hbe2.alloc hbe2.size (.cells #[.int .i64 0, .int .i64 0, .slice none 0 0, .int .i64 0, .int .u32 0, .int .i64 0] 51)).trans (hb3.mono (by have := hbe2.size; simp; omega))
    clear hbe2 hb3
    go_wp2_with fail
    first | (refine (nil_State _).mono ?_; rintro e wq ⟨rfl, rfl⟩) | (refine (nil_Next _).mono ?_; rintro e wq ⟨rfl, rfl⟩) | (refine (nil_Acked _).mono ?_; rintro e wq ⟨rfl, rfl⟩) | (refine (nil_Waits _).mono ?_; rintro e wq ⟨rfl, rfl⟩) | (refine (nil_Ticks _).mono ?_; rintro e wq ⟨rfl, rfl⟩) | (refine (nil_Counts _).mono ?_; rintro e wq ⟨rfl, rfl⟩) | (refine (nil_Own _ _ _).mono ?_; rintro e wq ⟨rfl, rfl⟩) | (refine (nil_Report _ _ _).mono ?_; rintro e wq ⟨rfl, rfl⟩) | (refine (nil_Tick _ _).mono ?_; rintro e wq ⟨rfl, rfl⟩) | (refine (nil_Bye _).mono ?_; rintro e wq ⟨rfl, rfl⟩)
    go_wp2_with fail
    first | (refine (nil_State _).mono ?_; rintro e wq ⟨rfl, rfl⟩) | (refine (nil_Next _).mono ?_; rintro e wq ⟨rfl, rfl⟩) | (refine (nil_Acked _).mono ?_; rintro e wq ⟨rfl, rfl⟩) | (refine (nil_Waits _).mono ?_; rintro e wq ⟨rfl, rfl⟩) | (refine (nil_Ticks _).mono ?_; rintro e wq ⟨rfl, rfl⟩) | (refine (nil_Counts _).mono ?_; rintro e wq ⟨rfl, rfl⟩) | (refine (nil_Own _ _ _).mono ?_; rintro e wq ⟨rfl, rfl⟩) | (refine (nil_Report _ _ _).mono ?_; rintro e wq ⟨rfl, rfl⟩) | (refine (nil_Tick _ _).mono ?_; rintro e wq ⟨rfl, rfl⟩) | (refine (nil_Bye _).mono ?_; rintro e wq ⟨rfl, rfl⟩)
    go_wp2_with fail
    first | (refine (nil_State _).mono ?_; rintro e wq ⟨rfl, rfl⟩) | (refine (nil_Next _).mono ?_; rintro e wq ⟨rfl, rfl⟩) | (refine (nil_Acked _).mono ?_; rintro e wq ⟨rfl, rfl⟩) | (refine (nil_Waits _).mono ?_; rintro e wq ⟨rfl, rfl⟩) | (refine (nil_Ticks _).mono ?_; rintro e wq ⟨rfl, rfl⟩) | (refine (nil_Counts _).mono ?_; rintro e wq ⟨rfl, rfl⟩) | (refine (nil_Own _ _ _).mono ?_; rintro e wq ⟨rfl, rfl⟩) | (refine (nil_Report _ _ _).mono ?_; rintro e wq ⟨rfl, rfl⟩) | (refine (nil_Tick _ _).mono ?_; rintro e wq ⟨rfl, rfl⟩) | (refine (nil_Bye _).mono ?_; rintro e wq ⟨rfl, rfl⟩)
    go_wp2_with fail
    first | (refine (nil_State _).mono ?_; rintro e wq ⟨rfl, rfl⟩) | (refine (nil_Next _).mono ?_; rintro e wq ⟨rfl, rfl⟩) | (refine (nil_Acked _).mono ?_; rintro e wq ⟨rfl, rfl⟩) | (refine (nil_Waits _).mono ?_; rintro e wq ⟨rfl, rfl⟩) | (refine (nil_Ticks _).mono ?_; rintro e wq ⟨rfl, rfl⟩) | (refine (nil_Counts _).mono ?_; rintro e wq ⟨rfl, rfl⟩) | (refine (nil_Own _ _ _).mono ?_; rintro e wq ⟨rfl, rfl⟩) | (refine (nil_Report _ _ _).mono ?_; rintro e wq ⟨rfl, rfl⟩) | (refine (nil_Tick _ _).mono ?_; rintro e wq ⟨rfl, rfl⟩) | (refine (nil_Bye _).mono ?_; rintro e wq ⟨rfl, rfl⟩)
    go_wp2_with fail
    first | (refine (nil_State _).mono ?_; rintro e wq ⟨rfl, rfl⟩) | (refine (nil_Next _).mono ?_; rintro e wq ⟨rfl, rfl⟩) | (refine (nil_Acked _).mono ?_; rintro e wq ⟨rfl, rfl⟩) | (refine (nil_Waits _).mono ?_; rintro e wq ⟨rfl, rfl⟩) | (refine (nil_Ticks _).mono ?_; rintro e wq ⟨rfl, rfl⟩) | (refine (nil_Counts _).mono ?_; rintro e wq ⟨rfl, rfl⟩) | (refine (nil_Own _ _ _).mono ?_; rintro e wq ⟨rfl, rfl⟩) | (refine (nil_Report _ _ _).mono ?_; rintro e wq ⟨rfl, rfl⟩) | (refine (nil_Tick _ _).mono ?_; rintro e wq ⟨rfl, rfl⟩) | (refine (nil_Bye _).mono ?_; rintro e wq ⟨rfl, rfl⟩)
    go_wp2_with fail
    go_ret
    exact ⟨by rfl, hbe3⟩
  · go_enter Try.func6, Try.ntmps6
    go_wp2_with fail
    refine (awake16 _).mono ?_
    rintro e w1 ⟨rfl, hb1⟩
    have hX1 := (Keeps.of_below (S := fun _ => False) hb1 (fun k h1 h2 => by omega)).heap hX id
    have hbe1 := hbe.trans (hb1.mono (by simp))
    have x3 : w1.cell? ⟨w.heap.size, 3, none⟩ = some (.string s) := blk_cell hX1 rfl
    clear hX hbe hb1
    go_wp2_with fail
    go_ret
    exact ⟨rfl, hbe1⟩
end Go.Proofs.Ytaobhbfhbmenfaa
/- link: a call that came in as an argument. -/
namespace Go.Proofs.Ytaobhbfhbmenfaa
open Go.RowKit
theorem act11_of {w : World} {cs : List Value} (h : LeavesAre w [.int .i64, .int .i64, .int .u8, .str, .int .i64, .int .u32, .int .u16, .int .u16, .ints .u8, .int .u32, .int .i64] cs) :
    ∃ (k b i : Int) (s : ByteArray) (m : Msg) (a : Option Addr) (c : Nat), cs.toArray = actC k b i s m a c := by
  obtain ⟨hl, hc⟩ := h
  obtain ⟨v0, v1, v2, v3, v4, v5, v6, v7, v8, v9, v10, rfl⟩ : ∃ v0 v1 v2 v3 v4 v5 v6 v7 v8 v9 v10, cs = [v0, v1, v2, v3, v4, v5, v6, v7, v8, v9, v10] := by
    match cs, hl with
    | [v0, v1, v2, v3, v4, v5, v6, v7, v8, v9, v10], _ => exact ⟨v0, v1, v2, v3, v4, v5, v6, v7, v8, v9, v10, rfl⟩
  obtain ⟨k, rfl, _⟩ := hc 0 _ _ rfl rfl
  obtain ⟨b, rfl, _⟩ := hc 1 _ _ rfl rfl
  obtain ⟨i, rfl, _⟩ := hc 2 _ _ rfl rfl
  obtain ⟨s, rfl, _⟩ := hc 3 _ _ rfl rfl
  obtain ⟨mk, rfl, _⟩ := hc 4 _ _ rfl rfl
  obtain ⟨n, rfl, _⟩ := hc 5 _ _ rfl rfl
  obtain ⟨sr, rfl, _⟩ := hc 6 _ _ rfl rfl
  obtain ⟨ak, rfl, _⟩ := hc 7 _ _ rfl rfl
  obtain ⟨a, L, cap, rfl, hv, hw⟩ := hc 8 _ _ rfl rfl
  obtain ⟨u, rfl, _⟩ := hc 9 _ _ rfl rfl
  obtain ⟨l, rfl, _⟩ := hc 10 _ _ rfl rfl
  exact ⟨k, b, i, s, ⟨mk, n, sr, ak, L.map fun _ => 0, u, l⟩, a, cap, by unfold actC; simp⟩
end Go.Proofs.Ytaobhbfhbmenfaa
/- link: what is acknowledged. -/
namespace Go.Proofs.Ytaobhbfhbmenfaa
open Go.RowKit
set_option maxRecDepth 10000
variable {w : World} {B : LB} {l : Lk}
/-- own inputs ahead of a frame are taken off -/
def ackL (l : Lk) (s : Int) : Lk :=
  let p := frm (min l.acked 1073741824) s
  if p.2 ≠ 0 ∨ p.1 < l.acked ∨ l.acked + l.own.length < p.1 then l else { l with acked := p.1, own := l.own.drop (p.1 - l.acked).toNat }
theorem lk_ack (h : IsLink w B l) (s : Int) (ha : 0 ≤ l.acked ∧ l.acked ≤ 1073741824) :
    Calls Try.prog 78 #[.pointer (some ⟨B.p, 0, none⟩), .int .u16 s] w fun e w' => e = .returned (.tuple #[]) ∧ IsLink w' B (ackL l s) ∧ Keeps B.S w w' := by
  have c7 := h.c7
  have c6 := h.c6
  have hq : min l.acked 1073741824 = l.acked := by omega
  unfold ackL
  rw [hq]
  have hul : (u8I l.own).length = l.own.length := by simp [u8I]
  have hol := h.own.le.1
  rw [hul] at hol
  have hwr : IntKind.i64.wrap (l.acked + (l.own.length : Int)) = l.acked + (l.own.length : Int) := by
    simp only [IntKind.wrap, IntKind.bits, IntKind.signed]
    simp
    omega
  have hLen := fun n => is_Len (h.drew n).own
  rw [hul] at hLen
  have hF := fun W => serial_Frame l.acked s W
  generalize hp : frm l.acked s = p at *
  obtain ⟨f, er⟩ := p
  simp only at *
  have HL := hid hLen
  have HF := hid hF
  have H := hid h
  clear h hLen hF hp
  by_cases h1 : er ≠ 0
  · rw [if_pos (.inl h1)]
    have q1 : (er != 0) = true := by simpa using h1
    go_enter Try.func78, Try.ntmps78
    go_wp2_with fail
    refine (HF.out _).mono ?_
    rintro e _ ⟨rfl, rfl⟩
    go_wp2_with fail
    go_quiet ((go_at_call 28; exact (HL.out _).mono fun _ _ h => ⟨h.1, _, h.2.symm⟩))
    go_wp2_with fail
    all_goals try (exfalso; omega)
    refine bodyPost_ret (v := .tuple #[]) (by first | rfl | simp [results, go_sem]) rfl ?_
    exact ⟨rfl, H.out.drew _, (Keeps.refl _ _).drewN _⟩
  have h1 : er = 0 := by omega
  subst h1
  by_cases h2 : f < l.acked
  · rw [if_pos (.inr (.inl h2))]
    go_enter Try.func78, Try.ntmps78
    go_wp2_with fail
    refine (HF.out _).mono ?_
    rintro e _ ⟨rfl, rfl⟩
    go_wp2_with fail
    go_quiet ((go_at_call 28; exact (HL.out _).mono fun _ _ h => ⟨h.1, _, h.2.symm⟩))
    go_wp2_with fail
    all_goals try (exfalso; omega)
    refine bodyPost_ret (v := .tuple #[]) (by first | rfl | simp [results, go_sem]) rfl ?_
    exact ⟨rfl, H.out.drew _, (Keeps.refl _ _).drewN _⟩
  by_cases h3 : l.acked + l.own.length < f
  · rw [if_pos (.inr (.inr h3))]
    go_enter Try.func78, Try.ntmps78
    go_wp2_with fail
    refine (HF.out _).mono ?_
    rintro e _ ⟨rfl, rfl⟩
    go_wp2_with fail
    go_quiet ((go_at_call 28; exact (HL.out _).mono fun _ _ h => ⟨h.1, _, h.2.symm⟩))
    go_wp2_with fail
    all_goals try (exfalso; omega)
    refine bodyPost_ret (v := .tuple #[]) (by first | rfl | simp [results, go_sem]) rfl ?_
    exact ⟨rfl, H.out.drew _, (Keeps.refl _ _).drewN _⟩
  rw [if_neg (by omega)]
  obtain ⟨d, hd⟩ : ∃ d : Nat, f = l.acked + d := ⟨(f - l.acked).toNat, by omega⟩
  subst hd
  rw [show (l.acked + (d : Int) - l.acked).toNat = d by omega]
  have hdl : d ≤ l.own.length := by omega
  go_enter Try.func78, Try.ntmps78
  go_wp2_with fail
  refine (HF.out _).mono ?_
  rintro e _ ⟨rfl, rfl⟩
  go_wp2_with fail
  go_quiet ((go_at_call 28; exact (HL.out _).mono fun _ _ h => ⟨h.1, _, h.2.symm⟩))
  go_wp2_with fail
  all_goals try (exfalso; omega)
  have hI := H.out.drew nq
  have hK := (Keeps.refl B.S w).drewN nq
  generalize w.drewN nq = w1 at *
  clear c6 c7 HL HF
  have e1 : decide (l.own.length < d) = false := by simp; omega
  have e2 : decide (l.acked + (d : Int) < l.acked) = false := by simp; omega
  simp only [e1, e2, Bool.or_false]
  clear e1 e2
  go_loopg [] d (fun g wr => ∃ k : Nat, g = d - k ∧ k ≤ d ∧ IsLink wr B { l with acked := l.acked + k, own := l.own.drop k } ∧ Keeps B.S w wr)
  case atStart => exact ⟨0, rfl, Nat.zero_le _, by simpa using hI, hK⟩
  case round =>
    obtain ⟨k, rfl, hk, hIr, hKr⟩ := hrel
    have c7 := hIr.c7
    have c6 := hIr.c6
    have f7 := hIr.free 7
    by_cases hlt : k < d
    · have hdr : l.own.drop k = l.own[k] :: l.own.drop (k + 1) := List.drop_eq_getElem_cons (by omega)
      have hO := hIr.own
      rw [show u8I (l.own.drop k) = ((l.own[k]).toNat : Int) :: u8I (l.own.drop (k + 1)) by rw [hdr]; rfl] at hO
      have HI := hid hIr
      have HK := hid hKr
      clear hIr hKr hdr
      go_wp2_with fail
      refine (is_Pop hO).mono ?_
      rintro e w2 ⟨rfl, hR, hk2⟩
      have hI2 := HI.out.ownd (L := l.own.drop (k + 1)) (l' := { l with acked := l.acked + k, own := l.own.drop (k + 1) }) hR hk2 rfl rfl rfl
      have hI3 := hI2.set 7 (.int .i64 (l.acked + k + 1)) { l with acked := l.acked + (k + 1 : Nat), own := l.own.drop (k + 1) } (by simp [lkC]; omega) rfl rfl
      have hK2 := HK.out.trans (hk2.mono fun b _ h => h.elim (fun e => .inr (.inl e)) (fun e => .inr (.inr (.inl e))))
      have hK3 := Keeps.setCell (S := B.S) hK2 (p := ⟨B.p, 7, none⟩) (.inl rfl) (.int .i64 (l.acked + k + 1))
      have c7 := hI2.c7
      have f7 := hI2.free 7
      have HI3 := hid hI3
      have HK3 := hid hK3
      clear hI2 hI3 hK2 hK3 hR hk2 hO
      go_wp2_with fail
      go_roundg (d - (k + 1))
      case rel => exact ⟨k + 1, by omega, by omega, HI3.out, HK3.out⟩
      case measure => omega
    · obtain rfl : k = d := by omega
      have HI := hid hIr
      have HK := hid hKr
      clear hIr hKr
      go_wp2_with fail
      refine bodyPost_end (v := .tuple #[]) (by first | rfl | simp [results, go_sem]) rfl ?_
      exact ⟨rfl, HI.out, HK.out⟩
end Go.Proofs.Ytaobhbfhbmenfaa
/- link: the inputs that are new. -/
namespace Go.Proofs.Ytaobhbfhbmenfaa
open Go.RowKit
set_option maxRecDepth 10000
variable {w : World} {B : LB} {l : Lk}
structure Hrd where
  kind : Int
  frm : Int
  ins : List UInt8
  frame : Int
  sum : Int
  lead : Int
def Hrd.zero : Hrd := ⟨0, 0, [], 0, 0, 0⟩
def hC (h : Hrd) (a : Option Addr) (c : Nat) : Array Value := #[.int .i64 h.kind, .int .i64 h.frm, .slice a h.ins.length c, .int .i64 h.frame, .int .u32 h.sum, .int .i64 h.lead]
/-- what is heard -/
def HrdPost (w : World) (B : LB) (h : Hrd) (ok : Value) (l' : Lk) (e : Ending) (w' : World) : Prop :=
  (∃ a c, e = .returned (.tuple #[.agg (hC h a c), ok]) ∧ IsBytes w' a c h.ins) ∧ IsLink w' B l' ∧ Keeps B.S w w'
def inpF (l : Lk) (m : Msg) : Hrd × Bool × Lk :=
  let p := frm (min l.next 1073741824) m.serial
  if p.2 ≠ 0 ∨ l.next < p.1 ∨ p.1 + m.ins.length ≤ l.next then (Hrd.zero, false, l) else (⟨m.kind, l.next, m.ins.drop (l.next - p.1).toNat, 0, 0, 0⟩, true, { l with next := p.1 + m.ins.length })
theorem hset {W : World} {b : Nat} {vs : Array Value} (h : W.heap[b]? = some (.cells vs 51 (0, 0))) (hs : vs.size = 6) (v0 v1 v2 v3 v4 v5 : Value) :
    ((((((W.setCell ⟨b, 0, none⟩ v0).setCell ⟨b, 1, none⟩ v1).setCell ⟨b, 2, none⟩ v2).setCell ⟨b, 3, none⟩ v3).setCell ⟨b, 4, none⟩ v4).setCell ⟨b, 5, none⟩ v5).heap[b]? = some (.cells #[v0, v1, v2, v3, v4, v5] 51 (0, 0)) := by
  rw [blk_set (blk_set (blk_set (blk_set (blk_set (blk_set h 0 v0) 1 v1) 2 v2) 3 v3) 4 v4) 5 v5]
  obtain ⟨vs⟩ := vs
  match vs, hs with
  | [a, b, c, d, e, f], _ => rfl
theorem hset_keeps {S : Nat → Prop} {w W : World} {b : Nat} (h : Keeps S w W) (hb : w.heap.size ≤ b) (v0 v1 v2 v3 v4 v5 : Value) :
    Keeps S w ((((((W.setCell ⟨b, 0, none⟩ v0).setCell ⟨b, 1, none⟩ v1).setCell ⟨b, 2, none⟩ v2).setCell ⟨b, 3, none⟩ v3).setCell ⟨b, 4, none⟩ v4).setCell ⟨b, 5, none⟩ v5) :=
  (((((h.setNew (p := ⟨b, 0, none⟩) hb v0).setNew (p := ⟨b, 1, none⟩) hb v1).setNew (p := ⟨b, 2, none⟩) hb v2).setNew (p := ⟨b, 3, none⟩) hb v3).setNew (p := ⟨b, 4, none⟩) hb v4).setNew (p := ⟨b, 5, none⟩) hb v5
theorem hset_in {S : Nat → Prop} {w W : World} {b : Nat} (h : Keeps S w W) (hb : S b) (v0 v1 v2 v3 v4 v5 : Value) :
    Keeps S w ((((((W.setCell ⟨b, 0, none⟩ v0).setCell ⟨b, 1, none⟩ v1).setCell ⟨b, 2, none⟩ v2).setCell ⟨b, 3, none⟩ v3).setCell ⟨b, 4, none⟩ v4).setCell ⟨b, 5, none⟩ v5) :=
  (((((h.setCell (p := ⟨b, 0, none⟩) hb v0).setCell (p := ⟨b, 1, none⟩) hb v1).setCell (p := ⟨b, 2, none⟩) hb v2).setCell (p := ⟨b, 3, none⟩) hb v3).setCell (p := ⟨b, 4, none⟩) hb v4).setCell (p := ⟨b, 5, none⟩) hb v5
theorem frm_in (a b : Int) : 0 ≤ (frm a b).1 ∧ (frm a b).1 ≤ 1073741824 := by
  unfold frm
  simp only []
  (repeat' split) <;> simp only [] <;> omega
set_option maxHeartbeats 1000000 in
theorem inp_no (h : IsLink w B l) (m : Msg) {a : Option Addr} {c : Nat} (hn : 0 ≤ l.next ∧ l.next ≤ 1073741824) (hm : m.ins.length ≤ 1000000) (f er : Int) (hF : ∀ W, Calls Try.prog 80 #[.int .i64 l.next, .int .u16 m.serial] W fun e w' => e = .returned (.tuple #[.int .i64 f, .int .i64 er]) ∧ W = w') (hfi : 0 ≤ f ∧ f ≤ 1073741824)
    (hno : er ≠ 0 ∨ l.next < f ∨ f + m.ins.length ≤ l.next) : Calls Try.prog 79 #[.pointer (some ⟨B.p, 0, none⟩), (.agg #[.int .i64 m.kind, .int .u32 m.nonce, .int .u16 m.serial, .int .u16 m.ack, .slice a m.ins.length c, .int .u32 m.sum, .int .i64 m.lead])] w (HrdPost w B Hrd.zero (.bool false) l) := by
  have c8 := h.c8
  have f8 := h.free 8
  have hq : min l.next 1073741824 = l.next := by omega
  have hlt := h.lt.1
  have HF := hid hF
  have H := hid h
  clear h hF
  by_cases h1 : er ≠ 0
  · clear hno
    have q1 : (er != 0) = true := by simpa using h1
    go_enter Try.func79, Try.ntmps79
    go_wp2_with fail
    go_quiet ((go_at_call 80; exact (HF.out _).mono fun _ _ h => ⟨h.1, _, h.2.symm⟩))
    go_wp2_with fail
    go_quiet (fail)
    go_wp2_with fail
    all_goals try (exfalso; omega)
    rename_i nqA _ _
    have hk0 := (((Keeps.refl (fun _ => False) w).alloc (.cells #[.int .i64 m.kind, .int .u32 m.nonce, .int .u16 m.serial, .int .u16 m.ack, .slice a m.ins.length c, .int .u32 m.sum, .int .i64 m.lead] 49)).alloc (.cells (hC Hrd.zero none 0) 51)).drewN (nqA + nq)
    have hR0 : (((w.alloc (.cells #[.int .i64 m.kind, .int .u32 m.nonce, .int .u16 m.serial, .int .u16 m.ack, .slice a m.ins.length c, .int .u32 m.sum, .int .i64 m.lead] 49)).alloc (.cells (hC Hrd.zero none 0) 51)).drewN (nqA + nq)).heap[w.heap.size + 1]? = some (.cells (hC Hrd.zero none 0) 51 (0, 0)) := by
      have := blk_new (w.alloc (.cells #[.int .i64 m.kind, .int .u32 m.nonce, .int .u16 m.serial, .int .u16 m.ack, .slice a m.ins.length c, .int .u32 m.sum, .int .i64 m.lead] 49)) (.cells (hC Hrd.zero none 0) 51)
      simpa using this
    have hload := box_load _ _ _ _ (hset hR0 rfl (.int .i64 0) (.int .i64 0) (.slice none 0 0) (.int .i64 0) (.int .u32 0) (.int .i64 0)) 6 rfl
    simp only [hC, Hrd.zero, List.length_nil] at hload
    refine bodyPost_ret (v := .tuple #[.agg (hC Hrd.zero none 0), .bool false]) (by simp [hC, Hrd.zero, results, Try.results79, asAddr, loadVar, loadCells, Try.isAgg51, Try.sizeOf51, hload]) rfl ?_
    exact ⟨⟨none, 0, rfl, bytes_nil _⟩, H.out.keeps (hset_keeps hk0 (Nat.le_succ _) _ _ _ _ _ _) (fun _ _ h => h), (hset_keeps hk0 (Nat.le_succ _) _ _ _ _ _ _).mono fun _ _ h => h.elim⟩
  have h1 : er = 0 := by omega
  subst h1
  by_cases h2 : l.next < f
  · clear hno
    go_enter Try.func79, Try.ntmps79
    go_wp2_with fail
    go_quiet ((go_at_call 80; exact (HF.out _).mono fun _ _ h => ⟨h.1, _, h.2.symm⟩))
    go_wp2_with fail
    go_quiet (fail)
    go_wp2_with fail
    all_goals try (exfalso; omega)
    rename_i nqA _ _
    have hk0 := (((Keeps.refl (fun _ => False) w).alloc (.cells #[.int .i64 m.kind, .int .u32 m.nonce, .int .u16 m.serial, .int .u16 m.ack, .slice a m.ins.length c, .int .u32 m.sum, .int .i64 m.lead] 49)).alloc (.cells (hC Hrd.zero none 0) 51)).drewN (nqA + nq)
    have hR0 : (((w.alloc (.cells #[.int .i64 m.kind, .int .u32 m.nonce, .int .u16 m.serial, .int .u16 m.ack, .slice a m.ins.length c, .int .u32 m.sum, .int .i64 m.lead] 49)).alloc (.cells (hC Hrd.zero none 0) 51)).drewN (nqA + nq)).heap[w.heap.size + 1]? = some (.cells (hC Hrd.zero none 0) 51 (0, 0)) := by
      have := blk_new (w.alloc (.cells #[.int .i64 m.kind, .int .u32 m.nonce, .int .u16 m.serial, .int .u16 m.ack, .slice a m.ins.length c, .int .u32 m.sum, .int .i64 m.lead] 49)) (.cells (hC Hrd.zero none 0) 51)
      simpa using this
    have hload := box_load _ _ _ _ (hset hR0 rfl (.int .i64 0) (.int .i64 0) (.slice none 0 0) (.int .i64 0) (.int .u32 0) (.int .i64 0)) 6 rfl
    simp only [hC, Hrd.zero, List.length_nil] at hload
    refine bodyPost_ret (v := .tuple #[.agg (hC Hrd.zero none 0), .bool false]) (by simp [hC, Hrd.zero, results, Try.results79, asAddr, loadVar, loadCells, Try.isAgg51, Try.sizeOf51, hload]) rfl ?_
    exact ⟨⟨none, 0, rfl, bytes_nil _⟩, H.out.keeps (hset_keeps hk0 (Nat.le_succ _) _ _ _ _ _ _) (fun _ _ h => h), (hset_keeps hk0 (Nat.le_succ _) _ _ _ _ _ _).mono fun _ _ h => h.elim⟩
  have hwr : IntKind.i64.wrap (f + (m.ins.length : Int)) = f + (m.ins.length : Int) := by
    simp only [IntKind.wrap, IntKind.bits, IntKind.signed]
    simp
    omega
  have h3 : f + m.ins.length ≤ l.next := by omega
  clear hno
  go_enter Try.func79, Try.ntmps79
  go_wp2_with fail
  go_quiet ((go_at_call 80; exact (HF.out _).mono fun _ _ h => ⟨h.1, _, h.2.symm⟩))
  go_wp2_with fail
  go_quiet (fail)
  go_wp2_with fail
  all_goals try (exfalso; omega)
  rename_i nqA _ _
  have hk0 := (((Keeps.refl (fun _ => False) w).alloc (.cells #[.int .i64 m.kind, .int .u32 m.nonce, .int .u16 m.serial, .int .u16 m.ack, .slice a m.ins.length c, .int .u32 m.sum, .int .i64 m.lead] 49)).alloc (.cells (hC Hrd.zero none 0) 51)).drewN (nqA + nq)
  have hR0 : (((w.alloc (.cells #[.int .i64 m.kind, .int .u32 m.nonce, .int .u16 m.serial, .int .u16 m.ack, .slice a m.ins.length c, .int .u32 m.sum, .int .i64 m.lead] 49)).alloc (.cells (hC Hrd.zero none 0) 51)).drewN (nqA + nq)).heap[w.heap.size + 1]? = some (.cells (hC Hrd.zero none 0) 51 (0, 0)) := by
    have := blk_new (w.alloc (.cells #[.int .i64 m.kind, .int .u32 m.nonce, .int .u16 m.serial, .int .u16 m.ack, .slice a m.ins.length c, .int .u32 m.sum, .int .i64 m.lead] 49)) (.cells (hC Hrd.zero none 0) 51)
    simpa using this
  have hload := box_load _ _ _ _ (hset hR0 rfl (.int .i64 0) (.int .i64 0) (.slice none 0 0) (.int .i64 0) (.int .u32 0) (.int .i64 0)) 6 rfl
  simp only [hC, Hrd.zero, List.length_nil] at hload
  refine bodyPost_ret (v := .tuple #[.agg (hC Hrd.zero none 0), .bool false]) (by simp [hC, Hrd.zero, results, Try.results79, asAddr, loadVar, loadCells, Try.isAgg51, Try.sizeOf51, hload]) rfl ?_
  exact ⟨⟨none, 0, rfl, bytes_nil _⟩, H.out.keeps (hset_keeps hk0 (Nat.le_succ _) _ _ _ _ _ _) (fun _ _ h => h), (hset_keeps hk0 (Nat.le_succ _) _ _ _ _ _ _).mono fun _ _ h => h.elim⟩
theorem drew_heap (X : World) : X.drew.heap = X.heap := rfl
/-- bytes do not lie in the link's own block -/
theorem bytes_off {a : Option Addr} {c : Nat} {L : List UInt8} (h : IsBytes w a c L) (hB : w.heap[B.p]? = some (.cells (lkC B l) 72 (0, 0))) (hne : L ≠ []) (x : Addr) (hx : a = some x) : x.block ≠ B.p := by
  obtain ⟨b, o, rfl, hc⟩ := h.at' hne
  cases hx
  intro e
  simp only at e
  subst e
  have h0 := hc 0 (List.length_pos_iff.2 hne)
  unfold World.cell? at h0
  rw [hB] at h0
  have h1 : (lkC B l)[o]? = some (byteV (L[0]'(List.length_pos_iff.2 hne))) := by simpa using h0
  unfold lkC byteV at h1
  match o, h1 with
  | 0, h1 => simp at h1
  | 1, h1 => simp at h1
  | 2, h1 => simp at h1
  | 3, h1 => simp at h1
  | 4, h1 => simp at h1
  | 5, h1 => simp at h1
  | 6, h1 => simp at h1
  | 7, h1 => simp at h1
  | 8, h1 => simp at h1
  | 9, h1 => simp at h1
  | 10, h1 => simp at h1
  | 11, h1 => simp at h1
  | 12, h1 => simp at h1
  | o + 13, h1 => simp at h1
set_option maxHeartbeats 8000000 in
theorem inp_ok (h : IsLink w B l) (m : Msg) {a : Option Addr} {c : Nat} (hb : IsBytes w a c m.ins) (hn : 0 ≤ l.next ∧ l.next ≤ 1073741824) (hm : m.ins.length ≤ 1000000) (f : Int) (hF : ∀ W, Calls Try.prog 80 #[.int .i64 l.next, .int .u16 m.serial] W fun e w' => e = .returned (.tuple #[.int .i64 f, .int .i64 0]) ∧ W = w') (hfi : 0 ≤ f ∧ f ≤ 1073741824)
    (h2 : ¬ l.next < f) (h3 : ¬ f + m.ins.length ≤ l.next) : Calls Try.prog 79 #[.pointer (some ⟨B.p, 0, none⟩), (.agg #[.int .i64 m.kind, .int .u32 m.nonce, .int .u16 m.serial, .int .u16 m.ack, .slice a m.ins.length c, .int .u32 m.sum, .int .i64 m.lead])] w (HrdPost w B ⟨m.kind, l.next, m.ins.drop (l.next - f).toNat, 0, 0, 0⟩ (.bool true) { l with next := f + m.ins.length }) := by
  have c8 := h.c8
  have f8 := h.free 8
  have hq : min l.next 1073741824 = l.next := by omega
  have hlt := h.lt.1
  have HF := hid hF
  have H := hid h
  clear h hF
  have hwr : IntKind.i64.wrap (f + (m.ins.length : Int)) = f + (m.ins.length : Int) := by
    simp only [IntKind.wrap, IntKind.bits, IntKind.signed]
    simp
    omega
  obtain ⟨d, hd⟩ : ∃ d : Nat, l.next - f = d := ⟨(l.next - f).toNat, by omega⟩
  have hdl : d < m.ins.length := by omega
  obtain ⟨a', hsl, hb', hblk⟩ := hb.drop d (by omega)
  have hz : (l.next - f).toNat = d := by omega
  rw [hz]
  go_enter Try.func79, Try.ntmps79
  go_wp2_with fail
  go_quiet ((go_at_call 80; exact (HF.out _).mono fun _ _ h => ⟨h.1, _, h.2.symm⟩))
  go_wp2_with fail
  go_quiet (fail)
  go_wp2_with fail
  all_goals try (exfalso; omega)
  have hwd : IntKind.i64.wrap (l.next - f) = (d : Int) := by
    simp only [IntKind.wrap, IntKind.bits, IntKind.signed]
    simp
    omega
  generalize hW : World.drewN (World.drewN (World.alloc (World.alloc w _) _) _) _ = W
  have hk0 : Keeps (fun _ => False) w W := by
    rw [← hW]
    exact ((((Keeps.refl (fun _ => False) w).alloc _).alloc _).drewN _).drewN _
  have hR0 : W.heap[w.heap.size + 1]? = some (.cells (hC Hrd.zero none 0) 51 (0, 0)) := by
    rw [← hW]
    have := blk_new (w.alloc (.cells #[.int .i64 m.kind, .int .u32 m.nonce, .int .u16 m.serial, .int .u16 m.ack, .slice a m.ins.length c, .int .u32 m.sum, .int .i64 m.lead] 49)) (.cells (hC Hrd.zero none 0) 51)
    rw [show (w.alloc (.cells #[.int .i64 m.kind, .int .u32 m.nonce, .int .u16 m.serial, .int .u16 m.ack, .slice a m.ins.length c, .int .u32 m.sum, .int .i64 m.lead] 49)).heap.size = w.heap.size + 1 by simp] at this
    exact this
  have hX0 : W.heap[w.heap.size]? = some (.cells #[.int .i64 m.kind, .int .u32 m.nonce, .int .u16 m.serial, .int .u16 m.ack, .slice a m.ins.length c, .int .u32 m.sum, .int .i64 m.lead] 49 (0, 0)) := by
    rw [← hW]
    exact blk_alloc (blk_new w (.cells #[.int .i64 m.kind, .int .u32 m.nonce, .int .u16 m.serial, .int .u16 m.ack, .slice a m.ins.length c, .int .u32 m.sum, .int .i64 m.lead] 49)) (.cells (hC Hrd.zero none 0) 51)
  have hsz : W.heap.size = w.heap.size + 2 := by rw [← hW]; simp
  clear hW c8 f8
  have HW := H.out.keeps hk0 (fun _ _ h => h)
  have hlt' : B.p < W.heap.size := by omega
  have hlt0 : w.heap.size < W.heap.size := by omega
  have hlt1 : w.heap.size + 1 < W.heap.size := by omega
  have c8 := HW.c8
  have f8 := HW.free 8
  have x0 := blk_cell (k := 0) hX0 rfl
  have x4 := blk_cell (k := 4) hX0 rfl
  have rf := fun k => blk_free hR0 k
  have rf0 := rf 0
  have rf1 := rf 1
  have rf2 := rf 2
  have rf3 := rf 3
  have rf4 := rf 4
  have rf5 := rf 5
  have r0 : W.cell? ⟨w.heap.size + 1, 0, none⟩ = some (.int .i64 0) := blk_cell hR0 rfl
  have r1 : W.cell? ⟨w.heap.size + 1, 1, none⟩ = some (.int .i64 0) := blk_cell hR0 rfl
  have r2 : W.cell? ⟨w.heap.size + 1, 2, none⟩ = some (.slice none 0 0) := blk_cell hR0 rfl
  have r3 : W.cell? ⟨w.heap.size + 1, 3, none⟩ = some (.int .i64 0) := blk_cell hR0 rfl
  have r4 : W.cell? ⟨w.heap.size + 1, 4, none⟩ = some (.int .u32 0) := blk_cell hR0 rfl
  have r5 : W.cell? ⟨w.heap.size + 1, 5, none⟩ = some (.int .i64 0) := blk_cell hR0 rfl
  clear rf
  have hb2 := hb'.keeps hk0 (fun _ _ _ => id)
  have HWd := hid HW
  have Hk0 := hid hk0
  have HR0 := hid hR0
  have HX0 := hid hX0
  have Hsz := hid hsz
  have Hb2 := hid hb2
  clear HW hk0 hR0 hX0 hsz hb2
  simp only [List.getElem_toArray, List.getElem_cons_zero, List.getElem_cons_succ] at x0 x4
  go_region
  go_wp2_with fail
  generalize hFW : World.drew _ = FW
  have hR1 := blk_other (p := ⟨B.p, 8, none⟩) HR0.out (by show w.heap.size + 1 ≠ B.p; omega) (.int .i64 (f + (m.ins.length : Int)))
  have hR2 : FW.heap[w.heap.size + 1]? = some (.cells #[.int .i64 m.kind, .int .i64 l.next, .slice a' (m.ins.length - d) (c - d), .int .i64 0, .int .u32 0, .int .i64 0] 51 (0, 0)) := by
    rw [← hFW, drew_heap]
    exact blk_alloc (hset hR1 rfl (.int .i64 m.kind) (.int .i64 l.next) (.slice a' (m.ins.length - d) (c - d)) (.int .i64 0) (.int .u32 0) (.int .i64 0)) _
  have hload := box_load _ _ _ _ hR2 6 rfl
  have hS := HWd.out.set 8 (.int .i64 (f + (m.ins.length : Int))) { l with next := f + m.ins.length } rfl rfl rfl
  have hkS : Keeps B.S w _ := Keeps.setCell (S := B.S) (Hk0.out.mono fun _ _ h => h.elim) (p := ⟨B.p, 8, none⟩) (.inl rfl) (.int .i64 (f + (m.ins.length : Int)))
  have hkT : Keeps B.S w FW := by
    rw [← hFW]
    have e1 := hset_keeps (b := w.heap.size + 1) hkS (Nat.le_add_right _ 1) (.int .i64 m.kind) (.int .i64 l.next) (.slice a' (m.ins.length - d) (c - d)) (.int .i64 0) (.int .u32 0) (.int .i64 0)
    have e2 := e1.alloc (.cells #[.int .i64 m.kind, .int .i64 l.next, .slice a' (m.ins.length - d) (c - d), .int .i64 0, .int .u32 0, .int .i64 0] 51)
    have e3 := e2.drew
    exact e3
  have hkU : Keeps (fun b => b = w.heap.size + 1) (W.setCell ⟨B.p, 8, none⟩ (.int .i64 (f + (m.ins.length : Int)))) FW := by
    rw [← hFW]
    have e1 := hset_in (S := fun b => b = w.heap.size + 1) (b := w.heap.size + 1) (Keeps.refl _ (W.setCell ⟨B.p, 8, none⟩ (.int .i64 (f + (m.ins.length : Int))))) rfl (.int .i64 m.kind) (.int .i64 l.next) (.slice a' (m.ins.length - d) (c - d)) (.int .i64 0) (.int .u32 0) (.int .i64 0)
    have e2 := e1.alloc (.cells #[.int .i64 m.kind, .int .i64 l.next, .slice a' (m.ins.length - d) (c - d), .int .i64 0, .int .u32 0, .int .i64 0] 51)
    have e3 := e2.drew
    exact e3
  have hkV := (Keeps.setCell (S := fun b => b = B.p ∨ b = w.heap.size + 1) (Keeps.refl _ W) (p := ⟨B.p, 8, none⟩) (.inl rfl) (.int .i64 (f + (m.ins.length : Int)))).trans (hkU.mono fun _ _ h => .inr h)
  clear hFW hkS hR1
  refine bodyPost_ret (v := .tuple #[.agg (hC ⟨m.kind, l.next, m.ins.drop d, 0, 0, 0⟩ a' (c - d)), .bool true]) (by simp [hC, results, Try.results79, asAddr, loadVar, loadCells, Try.isAgg51, Try.sizeOf51, hload]) rfl ?_
  refine ⟨⟨a', c - d, rfl, Hb2.out.keeps hkV ?_⟩, hS.keeps (S := fun b => b = w.heap.size + 1) hkU ?_, hkT⟩
  · intro _ x hx hxb
    obtain ⟨y, hy, hyb⟩ := hblk x hx
    have h9 : y.block < w.heap.size := hb.lt (by intro e; rw [e] at hdl; simp at hdl) y hy
    rcases hxb with e | e
    · exact bytes_off hb H.out.blk (by intro e; rw [e] at hdl; simp at hdl) y hy (by omega)
    · omega
  · intro b hb2 e
    have h9 := H.out.lt
    rcases hb2 with e' | e' | e' | e' | e' <;> omega
theorem lk_inputs (h : IsLink w B l) (m : Msg) {a : Option Addr} {c : Nat} (hb : IsBytes w a c m.ins) (hn : 0 ≤ l.next ∧ l.next ≤ 1073741824) (hm : m.ins.length ≤ 1000000) :
    Calls Try.prog 79 #[.pointer (some ⟨B.p, 0, none⟩), (.agg #[.int .i64 m.kind, .int .u32 m.nonce, .int .u16 m.serial, .int .u16 m.ack, .slice a m.ins.length c, .int .u32 m.sum, .int .i64 m.lead])] w (HrdPost w B (inpF l m).1 (.bool (inpF l m).2.1) (inpF l m).2.2) := by
  have hq : min l.next 1073741824 = l.next := by omega
  unfold inpF
  rw [hq]
  have hF := fun W => serial_Frame l.next m.serial W
  have hfi := frm_in l.next m.serial
  generalize frm l.next m.serial = p at *
  obtain ⟨f, er⟩ := p
  simp only at *
  by_cases hno : er ≠ 0 ∨ l.next < f ∨ f + m.ins.length ≤ l.next
  · rw [if_pos hno]
    exact inp_no h m hn hm f er hF hfi hno
  · rw [if_neg hno]
    obtain rfl : er = 0 := by omega
    exact inp_ok h m hb hn hm f hF hfi (by omega) (by omega)
end Go.Proofs.Ytaobhbfhbmenfaa
/- link: a datagram while it is open. -/
namespace Go.Proofs.Ytaobhbfhbmenfaa
open Go.RowKit
set_option maxRecDepth 10000
variable {w : World} {B : LB} {l : Lk}
/-- a datagram in its box at b, the result behind it -/
structure BoxSt (w V : World) (B : LB) (l : Lk) (m : Msg) (a : Option Addr) (c : Nat) : Prop where
  box : V.heap[w.heap.size]? = some (.cells #[.int .i64 m.kind, .int .u32 m.nonce, .int .u16 m.serial, .int .u16 m.ack, .slice a m.ins.length c, .int .u32 m.sum, .int .i64 m.lead] 49 (0, 0))
  res : V.heap[w.heap.size + 1]? = some (.cells (hC Hrd.zero none 0) 51 (0, 0))
  lk : IsLink V B l
  kp : Keeps B.S w V
  ins : IsBytes V a c m.ins
theorem BoxSt.start (h : IsLink w B l) (m : Msg) {a : Option Addr} {c : Nat} (hb : IsBytes w a c m.ins) : BoxSt w ((w.alloc (.cells #[.int .i64 m.kind, .int .u32 m.nonce, .int .u16 m.serial, .int .u16 m.ack, .slice a m.ins.length c, .int .u32 m.sum, .int .i64 m.lead] 49)).alloc (.cells (hC Hrd.zero none 0) 51)) B l m a c := by
  have hk := ((Keeps.refl (fun _ => False) w).alloc (.cells #[.int .i64 m.kind, .int .u32 m.nonce, .int .u16 m.serial, .int .u16 m.ack, .slice a m.ins.length c, .int .u32 m.sum, .int .i64 m.lead] 49)).alloc (.cells (hC Hrd.zero none 0) 51)
  refine ⟨blk_alloc (blk_new w _) _, ?_, h.keeps hk (fun _ _ => id), hk.mono fun _ _ h => h.elim, hb.keeps hk fun _ _ _ => id⟩
  have := blk_new (w.alloc (.cells #[.int .i64 m.kind, .int .u32 m.nonce, .int .u16 m.serial, .int .u16 m.ack, .slice a m.ins.length c, .int .u32 m.sum, .int .i64 m.lead] 49)) (.cells (hC Hrd.zero none 0) 51)
  rw [show (w.alloc (.cells #[.int .i64 m.kind, .int .u32 m.nonce, .int .u16 m.serial, .int .u16 m.ack, .slice a m.ins.length c, .int .u32 m.sum, .int .i64 m.lead] 49)).heap.size = w.heap.size + 1 by simp] at this
  exact this
theorem BoxSt.next {V V' : World} {m : Msg} {a : Option Addr} {c : Nat} {l' l0 : Lk} (h : BoxSt w V B l m a c) (h0 : IsLink w B l0) (hn : ∀ x, a = some x → ¬ B.S x.block) (hl : IsLink V' B l') (hk : Keeps B.S V V') : BoxSt w V' B l' m a c := by
  have h9 := h0.lt
  have hs : ∀ b, B.S b → b < w.heap.size := fun b hb => by rcases hb with e | e | e | e | e <;> omega
  exact ⟨hk.heap h.box (fun x => by have := hs _ x; omega), hk.heap h.res (fun x => by have := hs _ x; omega), hl, h.kp.trans hk, h.ins.keeps hk fun _ => hn⟩
theorem BoxSt.drew {V : World} {m : Msg} {a : Option Addr} {c : Nat} (h : BoxSt w V B l m a c) (n : Nat) : BoxSt w (V.drewN n) B l m a c :=
  ⟨h.box, h.res, h.lk.drew n, h.kp.drewN n, h.ins.keeps ((Keeps.refl (fun _ => False) V).drewN n) fun _ _ _ => id⟩
/-- bytes do not lie in a block of other things -/
theorem bytes_not {a : Option Addr} {c : Nat} {L : List UInt8} {b : Nat} {cs : Array Value} {t : TypeId} (h : IsBytes w a c L) (hB : w.heap[b]? = some (.cells cs t (0, 0))) (hcs : ∀ n, Value.int .u8 n ∉ cs.toList) (hne : L ≠ []) (x : Addr) (hx : a = some x) : x.block ≠ b := by
  obtain ⟨b', o, rfl, hc⟩ := h.at' hne
  cases hx
  intro e
  simp only at e
  subst e
  have h0 := hc 0 (List.length_pos_iff.2 hne)
  unfold World.cell? at h0
  rw [hB] at h0
  have h1 : cs[o]? = some (byteV (L[0]'(List.length_pos_iff.2 hne))) := by simpa using h0
  refine hcs _ (List.mem_of_getElem? (i := o) (a := byteV (L[0]'(List.length_pos_iff.2 hne))) ?_)
  simpa using h1
/-- the state behind stores into the result -/
theorem BoxSt.fin {l0 : Lk} {V : World} {m : Msg} {a : Option Addr} {c : Nat} (h : BoxSt w V B l m a c) (h0 : IsLink w B l0) (v0 v1 v2 v3 v4 v5 : Value) :
    let FW := ((((((V.setCell ⟨w.heap.size + 1, 0, none⟩ v0).setCell ⟨w.heap.size + 1, 1, none⟩ v1).setCell ⟨w.heap.size + 1, 2, none⟩ v2).setCell ⟨w.heap.size + 1, 3, none⟩ v3).setCell ⟨w.heap.size + 1, 4, none⟩ v4).setCell ⟨w.heap.size + 1, 5, none⟩ v5)
    FW.heap[w.heap.size + 1]? = some (.cells #[v0, v1, v2, v3, v4, v5] 51 (0, 0)) ∧ IsLink FW B l ∧ Keeps B.S w FW ∧ (∀ {a' : Option Addr} {c' : Nat} {L : List UInt8}, IsBytes V a' c' L → IsBytes FW a' c' L) := by
  have h9 := h0.lt
  have hk := hset_in (S := fun b => b = w.heap.size + 1) (b := w.heap.size + 1) (Keeps.refl _ V) rfl v0 v1 v2 v3 v4 v5
  refine ⟨hset h.res rfl v0 v1 v2 v3 v4 v5, h.lk.keeps hk (fun b hb => ?_), hset_keeps h.kp (Nat.le_succ _) v0 v1 v2 v3 v4 v5, fun hb => hb.keeps hk fun hne x e => bytes_not hb h.res (by simp [hC, Hrd.zero]) hne x e⟩
  rcases hb with e | e | e | e | e <;> omega
def openF (l : Lk) (m : Msg) : Hrd × Bool × Lk :=
  if m.kind = 3 then inpF (ackL l m.ack) m else
  if m.kind = 4 then (⟨4, 0, [], (frm (min l.next 1073741824) m.serial).1, m.sum, 0⟩, (frm (min l.next 1073741824) m.serial).2 == 0, l) else
  if m.kind = 5 then (⟨5, 0, [], 0, 0, 0⟩, true, ackL l m.ack) else
  if m.kind = 6 then (⟨6, 0, [], 0, 0, m.lead⟩, true, l) else (⟨m.kind, 0, [], 0, 0, 0⟩, true, l)
theorem ackL_next (l : Lk) (s : Int) : (ackL l s).next = l.next := by
  unfold ackL
  simp only []
  split <;> rfl
theorem lk_open (h : IsLink w B l) (m : Msg) {a : Option Addr} {c : Nat} (hb : IsBytes w a c m.ins) (hab : ∀ x, a = some x → ¬ B.S x.block) (hn : 0 ≤ l.next ∧ l.next ≤ 1073741824) (ha : 0 ≤ l.acked ∧ l.acked ≤ 1073741824) (hm : m.ins.length ≤ 1000000) :
    Calls Try.prog 61 #[.pointer (some ⟨B.p, 0, none⟩), (.agg #[.int .i64 m.kind, .int .u32 m.nonce, .int .u16 m.serial, .int .u16 m.ack, .slice a m.ins.length c, .int .u32 m.sum, .int .i64 m.lead])] w (HrdPost w B (openF l m).1 (.bool (openF l m).2.1) (openF l m).2.2) := by
  have hS := BoxSt.start h m hb
  simp only [hC, Hrd.zero, List.length_nil] at hS
  have h9 := h.lt
  have hnx := ackL_next l m.ack
  obtain ⟨mk, mn, ms, ma, mi, mu, ml⟩ := m
  simp only at *
  have H := hid h
  clear h
  unfold openF
  by_cases k3 : mk = 3
  · subst k3
    rw [if_pos rfl]
    simp only
    have HS := hid hS
    clear hS
    go_enter Try.func61, Try.ntmps61
    go_wp2_with fail
    refine (lk_ack HS.out.lk _ ha).mono ?_
    rintro e V ⟨rfl, hL, hK⟩
    have hS := HS.out.next H.out hab hL hK
    clear HS hL hK
    have y9 := (hS).lk.lt
    have x0 := blk_cell (k := 0) (hS).box rfl
    have x1 := blk_cell (k := 1) (hS).box rfl
    have x2 := blk_cell (k := 2) (hS).box rfl
    have x3 := blk_cell (k := 3) (hS).box rfl
    have x4 := blk_cell (k := 4) (hS).box rfl
    have x5 := blk_cell (k := 5) (hS).box rfl
    have x6 := blk_cell (k := 6) (hS).box rfl
    have z0 := blk_free (hS).res 0
    have z1 := blk_free (hS).res 1
    have z2 := blk_free (hS).res 2
    have z3 := blk_free (hS).res 3
    have z4 := blk_free (hS).res 4
    have z5 := blk_free (hS).res 5
    have q0 := blk_cell (k := 0) (hS).res rfl
    have q1 := blk_cell (k := 1) (hS).res rfl
    have q2 := blk_cell (k := 2) (hS).res rfl
    have q3 := blk_cell (k := 3) (hS).res rfl
    have q4 := blk_cell (k := 4) (hS).res rfl
    have q5 := blk_cell (k := 5) (hS).res rfl
    have HS := hid hS
    clear hS
    go_wp2_with fail
    refine (lk_inputs HS.out.lk ⟨3, mn, ms, ma, mi, mu, ml⟩ HS.out.ins (by rw [hnx]; exact hn) hm).mono ?_
    rintro e V2 ⟨⟨a2, c2, rfl, hb2⟩, hL, hK⟩
    have hS := HS.out.next H.out hab hL hK
    clear HS hL hK x0 x1 x2 x3 x4 x5 x6 y9
    generalize inpF (ackL l ma) ⟨3, mn, ms, ma, mi, mu, ml⟩ = R at *
    obtain ⟨R, ok, l2⟩ := R
    simp only at *
    have y9 := (hS).lk.lt
    have x0 := blk_cell (k := 0) (hS).box rfl
    have x1 := blk_cell (k := 1) (hS).box rfl
    have x2 := blk_cell (k := 2) (hS).box rfl
    have x3 := blk_cell (k := 3) (hS).box rfl
    have x4 := blk_cell (k := 4) (hS).box rfl
    have x5 := blk_cell (k := 5) (hS).box rfl
    have x6 := blk_cell (k := 6) (hS).box rfl
    have z0 := blk_free (hS).res 0
    have z1 := blk_free (hS).res 1
    have z2 := blk_free (hS).res 2
    have z3 := blk_free (hS).res 3
    have z4 := blk_free (hS).res 4
    have z5 := blk_free (hS).res 5
    have q0 := blk_cell (k := 0) (hS).res rfl
    have q1 := blk_cell (k := 1) (hS).res rfl
    have q2 := blk_cell (k := 2) (hS).res rfl
    have q3 := blk_cell (k := 3) (hS).res rfl
    have q4 := blk_cell (k := 4) (hS).res rfl
    have q5 := blk_cell (k := 5) (hS).res rfl
    have HS := hid hS
    have Hb2 := hid hb2
    clear hS hb2
    unfold hC
    go_wp2_with fail
    have hF := BoxSt.fin (HS.out) H.out (.int .i64 (R).kind) (.int .i64 (R).frm) (.slice a2 (R).ins.length c2) (.int .i64 (R).frame) (.int .u32 (R).sum) (.int .i64 (R).lead)
    simp only at hF
    generalize World.setCell _ ⟨w.heap.size + 1, 5, none⟩ _ = FW at *
    obtain ⟨hR2, hL2, hK2, hB2⟩ := hF
    have hload := box_load _ _ _ _ hR2 6 rfl
    refine bodyPost_ret (v := .tuple #[.agg (hC R a2 c2), .bool ok]) (by simp [hC, results, Try.results61, asAddr, loadVar, loadCells, Try.isAgg51, Try.sizeOf51, hload]) rfl ?_
    exact ⟨⟨a2, c2, rfl, hB2 Hb2.out⟩, hL2, hK2⟩
  rw [if_neg k3]
  by_cases k4 : mk = 4
  · subst k4
    rw [if_pos rfl]
    have hF := fun W => serial_Frame l.next ms W
    have hq : min l.next 1073741824 = l.next := by omega
    rw [hq]
    generalize frm l.next ms = p at *
    obtain ⟨f, er⟩ := p
    have HF := hid hF
    have c8 := hS.lk.c8
    go_enter Try.func61, Try.ntmps61
    go_upto_region 1 with fail
    generalize World.alloc (World.alloc w _) _ = V0 at *
    have y9 := (hS).lk.lt
    have x0 := blk_cell (k := 0) (hS).box rfl
    have x1 := blk_cell (k := 1) (hS).box rfl
    have x2 := blk_cell (k := 2) (hS).box rfl
    have x3 := blk_cell (k := 3) (hS).box rfl
    have x4 := blk_cell (k := 4) (hS).box rfl
    have x5 := blk_cell (k := 5) (hS).box rfl
    have x6 := blk_cell (k := 6) (hS).box rfl
    have z0 := blk_free (hS).res 0
    have z1 := blk_free (hS).res 1
    have z2 := blk_free (hS).res 2
    have z3 := blk_free (hS).res 3
    have z4 := blk_free (hS).res 4
    have z5 := blk_free (hS).res 5
    have q0 := blk_cell (k := 0) (hS).res rfl
    have q1 := blk_cell (k := 1) (hS).res rfl
    have q2 := blk_cell (k := 2) (hS).res rfl
    have q3 := blk_cell (k := 3) (hS).res rfl
    have q4 := blk_cell (k := 4) (hS).res rfl
    have q5 := blk_cell (k := 5) (hS).res rfl
    have HS := hid hS
    clear hS hF
    have c8 := HS.out.lk.c8
    go_wp2_with fail
    go_quiet ((go_at_call 80; exact (HF.out _).mono fun _ _ h => ⟨h.1, _, h.2.symm⟩))
    go_wp2_with fail
    have HS := hid (HS.out.drew nq)
    have hF := BoxSt.fin (HS.out) H.out (.int .i64 ((⟨4, 0, [], f, mu, 0⟩ : Hrd)).kind) (.int .i64 ((⟨4, 0, [], f, mu, 0⟩ : Hrd)).frm) (.slice none ((⟨4, 0, [], f, mu, 0⟩ : Hrd)).ins.length 0) (.int .i64 ((⟨4, 0, [], f, mu, 0⟩ : Hrd)).frame) (.int .u32 ((⟨4, 0, [], f, mu, 0⟩ : Hrd)).sum) (.int .i64 ((⟨4, 0, [], f, mu, 0⟩ : Hrd)).lead)
    simp only at hF
    generalize World.setCell _ ⟨w.heap.size + 1, 5, none⟩ _ = FW at *
    obtain ⟨hR2, hL2, hK2, hB2⟩ := hF
    have hload := box_load _ _ _ _ hR2 6 rfl
    refine bodyPost_ret (v := .tuple #[.agg (hC (⟨4, 0, [], f, mu, 0⟩ : Hrd) none 0), .bool (er == 0)]) (by simp [hC, results, Try.results61, asAddr, loadVar, loadCells, Try.isAgg51, Try.sizeOf51, hload]) rfl ?_
    exact ⟨⟨none, 0, rfl, hB2 (bytes_nil _)⟩, hL2, hK2⟩
  rw [if_neg k4]
  by_cases k5 : mk = 5
  · subst k5
    rw [if_pos rfl]
    go_enter Try.func61, Try.ntmps61
    go_upto_region 1 with fail
    generalize World.alloc (World.alloc w _) _ = V0 at *
    have y9 := (hS).lk.lt
    have x0 := blk_cell (k := 0) (hS).box rfl
    have x1 := blk_cell (k := 1) (hS).box rfl
    have x2 := blk_cell (k := 2) (hS).box rfl
    have x3 := blk_cell (k := 3) (hS).box rfl
    have x4 := blk_cell (k := 4) (hS).box rfl
    have x5 := blk_cell (k := 5) (hS).box rfl
    have x6 := blk_cell (k := 6) (hS).box rfl
    have z0 := blk_free (hS).res 0
    have z1 := blk_free (hS).res 1
    have z2 := blk_free (hS).res 2
    have z3 := blk_free (hS).res 3
    have z4 := blk_free (hS).res 4
    have z5 := blk_free (hS).res 5
    have q0 := blk_cell (k := 0) (hS).res rfl
    have q1 := blk_cell (k := 1) (hS).res rfl
    have q2 := blk_cell (k := 2) (hS).res rfl
    have q3 := blk_cell (k := 3) (hS).res rfl
    have q4 := blk_cell (k := 4) (hS).res rfl
    have q5 := blk_cell (k := 5) (hS).res rfl
    have HS := hid hS
    clear hS
    go_wp2_with fail
    refine (lk_ack HS.out.lk _ ha).mono ?_
    rintro e V ⟨rfl, hL, hK⟩
    have hS := HS.out.next H.out hab hL hK
    clear HS hL hK x0 x1 x2 x3 x4 x5 x6 y9 q0 q1 q2 q3 q4 q5 z0 z1 z2 z3 z4 z5
    have y9 := (hS).lk.lt
    have x0 := blk_cell (k := 0) (hS).box rfl
    have x1 := blk_cell (k := 1) (hS).box rfl
    have x2 := blk_cell (k := 2) (hS).box rfl
    have x3 := blk_cell (k := 3) (hS).box rfl
    have x4 := blk_cell (k := 4) (hS).box rfl
    have x5 := blk_cell (k := 5) (hS).box rfl
    have x6 := blk_cell (k := 6) (hS).box rfl
    have z0 := blk_free (hS).res 0
    have z1 := blk_free (hS).res 1
    have z2 := blk_free (hS).res 2
    have z3 := blk_free (hS).res 3
    have z4 := blk_free (hS).res 4
    have z5 := blk_free (hS).res 5
    have q0 := blk_cell (k := 0) (hS).res rfl
    have q1 := blk_cell (k := 1) (hS).res rfl
    have q2 := blk_cell (k := 2) (hS).res rfl
    have q3 := blk_cell (k := 3) (hS).res rfl
    have q4 := blk_cell (k := 4) (hS).res rfl
    have q5 := blk_cell (k := 5) (hS).res rfl
    have HS := hid hS
    clear hS
    go_wp2_with fail
    have hF := BoxSt.fin (HS.out) H.out (.int .i64 ((⟨5, 0, [], 0, 0, 0⟩ : Hrd)).kind) (.int .i64 ((⟨5, 0, [], 0, 0, 0⟩ : Hrd)).frm) (.slice none ((⟨5, 0, [], 0, 0, 0⟩ : Hrd)).ins.length 0) (.int .i64 ((⟨5, 0, [], 0, 0, 0⟩ : Hrd)).frame) (.int .u32 ((⟨5, 0, [], 0, 0, 0⟩ : Hrd)).sum) (.int .i64 ((⟨5, 0, [], 0, 0, 0⟩ : Hrd)).lead)
    simp only at hF
    generalize World.setCell _ ⟨w.heap.size + 1, 5, none⟩ _ = FW at *
    obtain ⟨hR2, hL2, hK2, hB2⟩ := hF
    have hload := box_load _ _ _ _ hR2 6 rfl
    refine bodyPost_ret (v := .tuple #[.agg (hC (⟨5, 0, [], 0, 0, 0⟩ : Hrd) none 0), .bool true]) (by simp [hC, results, Try.results61, asAddr, loadVar, loadCells, Try.isAgg51, Try.sizeOf51, hload]) rfl ?_
    exact ⟨⟨none, 0, rfl, hB2 (bytes_nil _)⟩, hL2, hK2⟩
  rw [if_neg k5]
  by_cases k6 : mk = 6
  · subst k6
    rw [if_pos rfl]
    go_enter Try.func61, Try.ntmps61
    go_upto_region 1 with fail
    generalize World.alloc (World.alloc w _) _ = V0 at *
    have y9 := (hS).lk.lt
    have x0 := blk_cell (k := 0) (hS).box rfl
    have x1 := blk_cell (k := 1) (hS).box rfl
    have x2 := blk_cell (k := 2) (hS).box rfl
    have x3 := blk_cell (k := 3) (hS).box rfl
    have x4 := blk_cell (k := 4) (hS).box rfl
    have x5 := blk_cell (k := 5) (hS).box rfl
    have x6 := blk_cell (k := 6) (hS).box rfl
    have z0 := blk_free (hS).res 0
    have z1 := blk_free (hS).res 1
    have z2 := blk_free (hS).res 2
    have z3 := blk_free (hS).res 3
    have z4 := blk_free (hS).res 4
    have z5 := blk_free (hS).res 5
    have q0 := blk_cell (k := 0) (hS).res rfl
    have q1 := blk_cell (k := 1) (hS).res rfl
    have q2 := blk_cell (k := 2) (hS).res rfl
    have q3 := blk_cell (k := 3) (hS).res rfl
    have q4 := blk_cell (k := 4) (hS).res rfl
    have q5 := blk_cell (k := 5) (hS).res rfl
    have HS := hid hS
    clear hS
    go_wp2_with fail
    have hF := BoxSt.fin (HS.out) H.out (.int .i64 ((⟨6, 0, [], 0, 0, ml⟩ : Hrd)).kind) (.int .i64 ((⟨6, 0, [], 0, 0, ml⟩ : Hrd)).frm) (.slice none ((⟨6, 0, [], 0, 0, ml⟩ : Hrd)).ins.length 0) (.int .i64 ((⟨6, 0, [], 0, 0, ml⟩ : Hrd)).frame) (.int .u32 ((⟨6, 0, [], 0, 0, ml⟩ : Hrd)).sum) (.int .i64 ((⟨6, 0, [], 0, 0, ml⟩ : Hrd)).lead)
    simp only at hF
    generalize World.setCell _ ⟨w.heap.size + 1, 5, none⟩ _ = FW at *
    obtain ⟨hR2, hL2, hK2, hB2⟩ := hF
    have hload := box_load _ _ _ _ hR2 6 rfl
    refine bodyPost_ret (v := .tuple #[.agg (hC (⟨6, 0, [], 0, 0, ml⟩ : Hrd) none 0), .bool true]) (by simp [hC, results, Try.results61, asAddr, loadVar, loadCells, Try.isAgg51, Try.sizeOf51, hload]) rfl ?_
    exact ⟨⟨none, 0, rfl, hB2 (bytes_nil _)⟩, hL2, hK2⟩
  rw [if_neg k6]
  have d3 : (mk == 3) = false := by simpa using k3
  have d4 : (mk == 4) = false := by simpa using k4
  have d5 : (mk == 5) = false := by simpa using k5
  have d6 : (mk == 6) = false := by simpa using k6
  go_enter Try.func61, Try.ntmps61
  go_upto_region 1 with fail
  generalize World.alloc (World.alloc w _) _ = V0 at *
  have y9 := (hS).lk.lt
  have x0 := blk_cell (k := 0) (hS).box rfl
  have x1 := blk_cell (k := 1) (hS).box rfl
  have x2 := blk_cell (k := 2) (hS).box rfl
  have x3 := blk_cell (k := 3) (hS).box rfl
  have x4 := blk_cell (k := 4) (hS).box rfl
  have x5 := blk_cell (k := 5) (hS).box rfl
  have x6 := blk_cell (k := 6) (hS).box rfl
  have z0 := blk_free (hS).res 0
  have z1 := blk_free (hS).res 1
  have z2 := blk_free (hS).res 2
  have z3 := blk_free (hS).res 3
  have z4 := blk_free (hS).res 4
  have z5 := blk_free (hS).res 5
  have q0 := blk_cell (k := 0) (hS).res rfl
  have q1 := blk_cell (k := 1) (hS).res rfl
  have q2 := blk_cell (k := 2) (hS).res rfl
  have q3 := blk_cell (k := 3) (hS).res rfl
  have q4 := blk_cell (k := 4) (hS).res rfl
  have q5 := blk_cell (k := 5) (hS).res rfl
  have HS := hid hS
  clear hS
  go_wp2_with fail
  have hF := BoxSt.fin (HS.out) H.out (.int .i64 ((⟨mk, 0, [], 0, 0, 0⟩ : Hrd)).kind) (.int .i64 ((⟨mk, 0, [], 0, 0, 0⟩ : Hrd)).frm) (.slice none ((⟨mk, 0, [], 0, 0, 0⟩ : Hrd)).ins.length 0) (.int .i64 ((⟨mk, 0, [], 0, 0, 0⟩ : Hrd)).frame) (.int .u32 ((⟨mk, 0, [], 0, 0, 0⟩ : Hrd)).sum) (.int .i64 ((⟨mk, 0, [], 0, 0, 0⟩ : Hrd)).lead)
  simp only at hF
  generalize World.setCell _ ⟨w.heap.size + 1, 5, none⟩ _ = FW at *
  obtain ⟨hR2, hL2, hK2, hB2⟩ := hF
  have hload := box_load _ _ _ _ hR2 6 rfl
  refine bodyPost_ret (v := .tuple #[.agg (hC (⟨mk, 0, [], 0, 0, 0⟩ : Hrd) none 0), .bool true]) (by simp [hC, results, Try.results61, asAddr, loadVar, loadCells, Try.isAgg51, Try.sizeOf51, hload]) rfl ?_
  exact ⟨⟨none, 0, rfl, hB2 (bytes_nil _)⟩, hL2, hK2⟩
end Go.Proofs.Ytaobhbfhbmenfaa
/- link: a datagram. -/
namespace Go.Proofs.Ytaobhbfhbmenfaa
open Go.RowKit
set_option maxRecDepth 10000
variable {w : World} {B : LB} {l : Lk}
theorem BoxSt.next0 {V V' : World} {m : Msg} {a : Option Addr} {c : Nat} (h : BoxSt w V B l m a c) (hk : Keeps (fun _ => False) V V') : BoxSt w V' B l m a c :=
  ⟨hk.heap h.box id, hk.heap h.res id, h.lk.keeps hk fun _ _ => id, h.kp.trans (hk.mono fun _ _ h => h.elim), h.ins.keeps hk fun _ _ _ => id⟩
def takesF (l : Lk) (m : Msg) : Hrd × Bool × Lk :=
  if m.kind = 1 then (⟨1, 0, [], 0, 0, 0⟩, true, if l.out.length = 8 then l else { l with out := l.out ++ [⟨2, m.nonce, 0, 0, [], 0, 0⟩] }) else
  if m.kind = 2 then (if m.nonce = l.nonce then (⟨2, 0, [], 0, 0, 0⟩, true, { l with state := 1 }) else (Hrd.zero, false, l)) else
  if m.kind = 7 then (⟨7, 0, [], 0, 0, 0⟩, true, { l with state := 2 }) else
  if l.state = 1 then openF l m else (Hrd.zero, false, l)
set_option maxHeartbeats 1000000 in
theorem lk_takes (h : IsLink w B l) (m : Msg) {a : Option Addr} {c : Nat} (hb : IsBytes w a c m.ins) (hab : ∀ x, a = some x → ¬ B.S x.block) (hn : 0 ≤ l.next ∧ l.next ≤ 1073741824) (ha : 0 ≤ l.acked ∧ l.acked ≤ 1073741824) (hm : m.ins.length ≤ 1000000) :
    Calls Try.prog 38 #[.pointer (some ⟨B.p, 0, none⟩), (.agg #[.int .i64 m.kind, .int .u32 m.nonce, .int .u16 m.serial, .int .u16 m.ack, .slice a m.ins.length c, .int .u32 m.sum, .int .i64 m.lead])] w (HrdPost w B (takesF l m).1 (.bool (takesF l m).2.1) (takesF l m).2.2) := by
  have hS := BoxSt.start h m hb
  simp only [hC, Hrd.zero, List.length_nil] at hS
  have h9 := h.lt
  obtain ⟨mk, mn, ms, ma, mi, mu, ml⟩ := m
  simp only at *
  have H := hid h
  clear h
  unfold takesF
  by_cases k1 : mk = 1
  · subst k1
    rw [if_pos rfl]
    by_cases h8 : l.out.length = 8
    · simp only [if_pos h8]
      go_enter Try.func38, Try.ntmps38
      go_upto_region 1 with fail
      generalize World.alloc (World.alloc w _) _ = V0 at *
      have hlt0 := blk_lt hS.box
      have x0 := blk_cell (k := 0) hS.box rfl
      go_upto_region 2 with fail
      clear x0
      have hh0 := blk_new V0 (.cells (hC ⟨1, 0, [], 0, 0, 0⟩ none 0) 51)
      simp only [hC, List.length_nil] at hh0
      have hS := hS.next0 ((Keeps.refl (fun _ => False) V0).alloc (.cells (hC ⟨1, 0, [], 0, 0, 0⟩ none 0) 51))
      simp only [hC, List.length_nil] at hS
      generalize World.alloc V0 _ = V1 at *
      have y9 := (hS).lk.lt
      have x0 := blk_cell (k := 0) (hS).box rfl
      have x1 := blk_cell (k := 1) (hS).box rfl
      have x2 := blk_cell (k := 2) (hS).box rfl
      have x3 := blk_cell (k := 3) (hS).box rfl
      have x4 := blk_cell (k := 4) (hS).box rfl
      have x5 := blk_cell (k := 5) (hS).box rfl
      have x6 := blk_cell (k := 6) (hS).box rfl
      have z0 := blk_free (hS).res 0
      have z1 := blk_free (hS).res 1
      have z2 := blk_free (hS).res 2
      have z3 := blk_free (hS).res 3
      have z4 := blk_free (hS).res 4
      have z5 := blk_free (hS).res 5
      have q0 := blk_cell (k := 0) (hS).res rfl
      have q1 := blk_cell (k := 1) (hS).res rfl
      have q2 := blk_cell (k := 2) (hS).res rfl
      have q3 := blk_cell (k := 3) (hS).res rfl
      have q4 := blk_cell (k := 4) (hS).res rfl
      have q5 := blk_cell (k := 5) (hS).res rfl
      have hh0lt := blk_lt hh0
      have hp0 := blk_cell (k := 0) hh0 rfl
      have hp1 := blk_cell (k := 1) hh0 rfl
      have hp2 := blk_cell (k := 2) hh0 rfl
      have hp3 := blk_cell (k := 3) hh0 rfl
      have hp4 := blk_cell (k := 4) hh0 rfl
      have hp5 := blk_cell (k := 5) hh0 rfl
      have c9 := hS.lk.c9
      have HS := hid hS
      have Hh := hid hh0
      clear hS hh0
      go_wp2_with fail
      refine wp_region_taild 7 (by kernel_rfl) (by kernel_rfl) ?_
      simp only [List.take_succ_cons, List.take_zero, List.drop_succ_cons, List.drop_zero]
      repeat (go_big_quiet_step ((fail)))
      refine wpQuiet_nil ?_
      intro _ hw'
      obtain ⟨nq, hw''⟩ := hw'
      subst hw''
      go_wp2_with fail
      refine ((ms_Push_full (HS.out.drew nq).lk.out h8 ⟨2, mn, 0, 0, [], 0, 0⟩)).mono ?_
      rintro e V2 ⟨rfl, hR, hk⟩
      have hS := (HS.out.drew nq).next (l' := l) H.out hab ((HS.out.drew nq).lk.outd hR hk rfl rfl rfl) (hk.mono fun b _ h => h.elim (fun e => .inr (.inr (.inr (.inl e)))) (fun e => .inr (.inr (.inr (.inr e)))))
      have hh0 := (((Keeps.refl (fun b => b = B.h2 ∨ b = B.d2) V1).drewN nq).trans hk).heap Hh.out (by omega)
      clear HS Hh hR hk x0 x1 x2 x3 x4 x5 x6 y9 q0 q1 q2 q3 q4 q5 z0 z1 z2 z3 z4 z5 hp0 hp1 hp2 hp3 hp4 hp5 hh0lt c9
      have y9 := (hS).lk.lt
      have x0 := blk_cell (k := 0) (hS).box rfl
      have x1 := blk_cell (k := 1) (hS).box rfl
      have x2 := blk_cell (k := 2) (hS).box rfl
      have x3 := blk_cell (k := 3) (hS).box rfl
      have x4 := blk_cell (k := 4) (hS).box rfl
      have x5 := blk_cell (k := 5) (hS).box rfl
      have x6 := blk_cell (k := 6) (hS).box rfl
      have z0 := blk_free (hS).res 0
      have z1 := blk_free (hS).res 1
      have z2 := blk_free (hS).res 2
      have z3 := blk_free (hS).res 3
      have z4 := blk_free (hS).res 4
      have z5 := blk_free (hS).res 5
      have q0 := blk_cell (k := 0) (hS).res rfl
      have q1 := blk_cell (k := 1) (hS).res rfl
      have q2 := blk_cell (k := 2) (hS).res rfl
      have q3 := blk_cell (k := 3) (hS).res rfl
      have q4 := blk_cell (k := 4) (hS).res rfl
      have q5 := blk_cell (k := 5) (hS).res rfl
      have hh0lt := blk_lt hh0
      have hp0 := blk_cell (k := 0) hh0 rfl
      have hp1 := blk_cell (k := 1) hh0 rfl
      have hp2 := blk_cell (k := 2) hh0 rfl
      have hp3 := blk_cell (k := 3) hh0 rfl
      have hp4 := blk_cell (k := 4) hh0 rfl
      have hp5 := blk_cell (k := 5) hh0 rfl
      have HS := hid hS
      clear hS hh0
      go_wp2_with fail
      have hF := BoxSt.fin (HS.out) H.out (.int .i64 ((⟨1, 0, [], 0, 0, 0⟩ : Hrd)).kind) (.int .i64 ((⟨1, 0, [], 0, 0, 0⟩ : Hrd)).frm) (.slice none ((⟨1, 0, [], 0, 0, 0⟩ : Hrd)).ins.length 0) (.int .i64 ((⟨1, 0, [], 0, 0, 0⟩ : Hrd)).frame) (.int .u32 ((⟨1, 0, [], 0, 0, 0⟩ : Hrd)).sum) (.int .i64 ((⟨1, 0, [], 0, 0, 0⟩ : Hrd)).lead)
      simp only at hF
      generalize World.setCell _ ⟨w.heap.size + 1, 5, none⟩ _ = FW at *
      obtain ⟨hR2, hL2, hK2, hB2⟩ := hF
      have hload := box_load _ _ _ _ hR2 6 rfl
      refine bodyPost_ret (v := .tuple #[.agg (hC (⟨1, 0, [], 0, 0, 0⟩ : Hrd) none 0), .bool true]) (by simp [hC, results, Try.results38, asAddr, loadVar, loadCells, Try.isAgg51, Try.sizeOf51, hload]) rfl ?_
      exact ⟨⟨none, 0, rfl, hB2 (bytes_nil _)⟩, hL2, hK2⟩
    · simp only [if_neg h8]
      have h8' : l.out.length < 8 := by have := H.out.out.le.1; omega
      go_enter Try.func38, Try.ntmps38
      go_upto_region 1 with fail
      generalize World.alloc (World.alloc w _) _ = V0 at *
      have hlt0 := blk_lt hS.box
      have x0 := blk_cell (k := 0) hS.box rfl
      go_upto_region 2 with fail
      clear x0
      have hh0 := blk_new V0 (.cells (hC ⟨1, 0, [], 0, 0, 0⟩ none 0) 51)
      simp only [hC, List.length_nil] at hh0
      have hS := hS.next0 ((Keeps.refl (fun _ => False) V0).alloc (.cells (hC ⟨1, 0, [], 0, 0, 0⟩ none 0) 51))
      simp only [hC, List.length_nil] at hS
      generalize World.alloc V0 _ = V1 at *
      have y9 := (hS).lk.lt
      have x0 := blk_cell (k := 0) (hS).box rfl
      have x1 := blk_cell (k := 1) (hS).box rfl
      have x2 := blk_cell (k := 2) (hS).box rfl
      have x3 := blk_cell (k := 3) (hS).box rfl
      have x4 := blk_cell (k := 4) (hS).box rfl
      have x5 := blk_cell (k := 5) (hS).box rfl
      have x6 := blk_cell (k := 6) (hS).box rfl
      have z0 := blk_free (hS).res 0
      have z1 := blk_free (hS).res 1
      have z2 := blk_free (hS).res 2
      have z3 := blk_free (hS).res 3
      have z4 := blk_free (hS).res 4
      have z5 := blk_free (hS).res 5
      have q0 := blk_cell (k := 0) (hS).res rfl
      have q1 := blk_cell (k := 1) (hS).res rfl
      have q2 := blk_cell (k := 2) (hS).res rfl
      have q3 := blk_cell (k := 3) (hS).res rfl
      have q4 := blk_cell (k := 4) (hS).res rfl
      have q5 := blk_cell (k := 5) (hS).res rfl
      have hh0lt := blk_lt hh0
      have hp0 := blk_cell (k := 0) hh0 rfl
      have hp1 := blk_cell (k := 1) hh0 rfl
      have hp2 := blk_cell (k := 2) hh0 rfl
      have hp3 := blk_cell (k := 3) hh0 rfl
      have hp4 := blk_cell (k := 4) hh0 rfl
      have hp5 := blk_cell (k := 5) hh0 rfl
      have c9 := hS.lk.c9
      have HS := hid hS
      have Hh := hid hh0
      clear hS hh0
      go_wp2_with fail
      refine wp_region_taild 7 (by kernel_rfl) (by kernel_rfl) ?_
      simp only [List.take_succ_cons, List.take_zero, List.drop_succ_cons, List.drop_zero]
      repeat (go_big_quiet_step ((fail)))
      refine wpQuiet_nil ?_
      intro _ hw'
      obtain ⟨nq, hw''⟩ := hw'
      subst hw''
      go_wp2_with fail
      refine ((ms_Push (HS.out.drew nq).lk.out h8' ⟨2, mn, 0, 0, [], 0, 0⟩)).mono ?_
      rintro e V2 ⟨rfl, hR, hk⟩
      have hS := (HS.out.drew nq).next (l' := { l with out := l.out ++ [⟨2, mn, 0, 0, [], 0, 0⟩] }) H.out hab ((HS.out.drew nq).lk.outd hR hk rfl rfl rfl) (hk.mono fun b _ h => h.elim (fun e => .inr (.inr (.inr (.inl e)))) (fun e => .inr (.inr (.inr (.inr e)))))
      have hh0 := (((Keeps.refl (fun b => b = B.h2 ∨ b = B.d2) V1).drewN nq).trans hk).heap Hh.out (by omega)
      clear HS Hh hR hk x0 x1 x2 x3 x4 x5 x6 y9 q0 q1 q2 q3 q4 q5 z0 z1 z2 z3 z4 z5 hp0 hp1 hp2 hp3 hp4 hp5 hh0lt c9
      have y9 := (hS).lk.lt
      have x0 := blk_cell (k := 0) (hS).box rfl
      have x1 := blk_cell (k := 1) (hS).box rfl
      have x2 := blk_cell (k := 2) (hS).box rfl
      have x3 := blk_cell (k := 3) (hS).box rfl
      have x4 := blk_cell (k := 4) (hS).box rfl
      have x5 := blk_cell (k := 5) (hS).box rfl
      have x6 := blk_cell (k := 6) (hS).box rfl
      have z0 := blk_free (hS).res 0
      have z1 := blk_free (hS).res 1
      have z2 := blk_free (hS).res 2
      have z3 := blk_free (hS).res 3
      have z4 := blk_free (hS).res 4
      have z5 := blk_free (hS).res 5
      have q0 := blk_cell (k := 0) (hS).res rfl
      have q1 := blk_cell (k := 1) (hS).res rfl
      have q2 := blk_cell (k := 2) (hS).res rfl
      have q3 := blk_cell (k := 3) (hS).res rfl
      have q4 := blk_cell (k := 4) (hS).res rfl
      have q5 := blk_cell (k := 5) (hS).res rfl
      have hh0lt := blk_lt hh0
      have hp0 := blk_cell (k := 0) hh0 rfl
      have hp1 := blk_cell (k := 1) hh0 rfl
      have hp2 := blk_cell (k := 2) hh0 rfl
      have hp3 := blk_cell (k := 3) hh0 rfl
      have hp4 := blk_cell (k := 4) hh0 rfl
      have hp5 := blk_cell (k := 5) hh0 rfl
      have HS := hid hS
      clear hS hh0
      go_wp2_with fail
      have hF := BoxSt.fin (HS.out) H.out (.int .i64 ((⟨1, 0, [], 0, 0, 0⟩ : Hrd)).kind) (.int .i64 ((⟨1, 0, [], 0, 0, 0⟩ : Hrd)).frm) (.slice none ((⟨1, 0, [], 0, 0, 0⟩ : Hrd)).ins.length 0) (.int .i64 ((⟨1, 0, [], 0, 0, 0⟩ : Hrd)).frame) (.int .u32 ((⟨1, 0, [], 0, 0, 0⟩ : Hrd)).sum) (.int .i64 ((⟨1, 0, [], 0, 0, 0⟩ : Hrd)).lead)
      simp only at hF
      generalize World.setCell _ ⟨w.heap.size + 1, 5, none⟩ _ = FW at *
      obtain ⟨hR2, hL2, hK2, hB2⟩ := hF
      have hload := box_load _ _ _ _ hR2 6 rfl
      refine bodyPost_ret (v := .tuple #[.agg (hC (⟨1, 0, [], 0, 0, 0⟩ : Hrd) none 0), .bool true]) (by simp [hC, results, Try.results38, asAddr, loadVar, loadCells, Try.isAgg51, Try.sizeOf51, hload]) rfl ?_
      exact ⟨⟨none, 0, rfl, hB2 (bytes_nil _)⟩, hL2, hK2⟩
  rw [if_neg k1]
  by_cases k2 : mk = 2
  · subst k2
    rw [if_pos rfl]
    by_cases hnn : mn = l.nonce
    · rw [if_pos hnn]
      subst hnn
      go_enter Try.func38, Try.ntmps38
      go_upto_region 1 with fail
      generalize World.alloc (World.alloc w _) _ = V0 at *
      have hlt0 := blk_lt hS.box
      have x0 := blk_cell (k := 0) hS.box rfl
      go_upto_region 2 with fail
      clear x0
      have hh0 := blk_new V0 (.cells (hC ⟨2, 0, [], 0, 0, 0⟩ none 0) 51)
      simp only [hC, List.length_nil] at hh0
      have hS := hS.next0 ((Keeps.refl (fun _ => False) V0).alloc (.cells (hC ⟨2, 0, [], 0, 0, 0⟩ none 0) 51))
      simp only [hC, List.length_nil] at hS
      generalize World.alloc V0 _ = V1 at *
      have y9 := (hS).lk.lt
      have x0 := blk_cell (k := 0) (hS).box rfl
      have x1 := blk_cell (k := 1) (hS).box rfl
      have x2 := blk_cell (k := 2) (hS).box rfl
      have x3 := blk_cell (k := 3) (hS).box rfl
      have x4 := blk_cell (k := 4) (hS).box rfl
      have x5 := blk_cell (k := 5) (hS).box rfl
      have x6 := blk_cell (k := 6) (hS).box rfl
      have z0 := blk_free (hS).res 0
      have z1 := blk_free (hS).res 1
      have z2 := blk_free (hS).res 2
      have z3 := blk_free (hS).res 3
      have z4 := blk_free (hS).res 4
      have z5 := blk_free (hS).res 5
      have q0 := blk_cell (k := 0) (hS).res rfl
      have q1 := blk_cell (k := 1) (hS).res rfl
      have q2 := blk_cell (k := 2) (hS).res rfl
      have q3 := blk_cell (k := 3) (hS).res rfl
      have q4 := blk_cell (k := 4) (hS).res rfl
      have q5 := blk_cell (k := 5) (hS).res rfl
      have hh0lt := blk_lt hh0
      have hp0 := blk_cell (k := 0) hh0 rfl
      have hp1 := blk_cell (k := 1) hh0 rfl
      have hp2 := blk_cell (k := 2) hh0 rfl
      have hp3 := blk_cell (k := 3) hh0 rfl
      have hp4 := blk_cell (k := 4) hh0 rfl
      have hp5 := blk_cell (k := 5) hh0 rfl
      have c0 := hS.lk.c0
      have f2 := hS.lk.free 2
      have c2 := hS.lk.c2
      have HS := hid hS
      have Hh := hid hh0
      clear hS hh0
      go_wp2_with fail
      go_quiet (fail)
      go_wp2_with fail
      have hD := HS.out.drew nq
      have HS := hid (hD.next (V' := (V1.drewN nq).setCell ⟨B.p, 2, none⟩ (.int .i64 1)) (l' := { l with state := 1 }) H.out hab (hD.lk.set 2 (.int .i64 1) _ rfl rfl rfl) (Keeps.setCell (Keeps.refl _ _) (.inl rfl) _))
      have hF := BoxSt.fin (HS.out) H.out (.int .i64 ((⟨2, 0, [], 0, 0, 0⟩ : Hrd)).kind) (.int .i64 ((⟨2, 0, [], 0, 0, 0⟩ : Hrd)).frm) (.slice none ((⟨2, 0, [], 0, 0, 0⟩ : Hrd)).ins.length 0) (.int .i64 ((⟨2, 0, [], 0, 0, 0⟩ : Hrd)).frame) (.int .u32 ((⟨2, 0, [], 0, 0, 0⟩ : Hrd)).sum) (.int .i64 ((⟨2, 0, [], 0, 0, 0⟩ : Hrd)).lead)
      simp only at hF
      generalize World.setCell _ ⟨w.heap.size + 1, 5, none⟩ _ = FW at *
      obtain ⟨hR2, hL2, hK2, hB2⟩ := hF
      have hload := box_load _ _ _ _ hR2 6 rfl
      refine bodyPost_ret (v := .tuple #[.agg (hC (⟨2, 0, [], 0, 0, 0⟩ : Hrd) none 0), .bool true]) (by simp [hC, results, Try.results38, asAddr, loadVar, loadCells, Try.isAgg51, Try.sizeOf51, hload]) rfl ?_
      exact ⟨⟨none, 0, rfl, hB2 (bytes_nil _)⟩, hL2, hK2⟩
    · rw [if_neg hnn]
      have hnn' : (mn != l.nonce) = true := by simpa using hnn
      go_enter Try.func38, Try.ntmps38
      go_upto_region 1 with fail
      generalize World.alloc (World.alloc w _) _ = V0 at *
      have hlt0 := blk_lt hS.box
      have x0 := blk_cell (k := 0) hS.box rfl
      go_upto_region 2 with fail
      clear x0
      have hh0 := blk_new V0 (.cells (hC ⟨2, 0, [], 0, 0, 0⟩ none 0) 51)
      simp only [hC, List.length_nil] at hh0
      have hS := hS.next0 ((Keeps.refl (fun _ => False) V0).alloc (.cells (hC ⟨2, 0, [], 0, 0, 0⟩ none 0) 51))
      simp only [hC, List.length_nil] at hS
      generalize World.alloc V0 _ = V1 at *
      have y9 := (hS).lk.lt
      have x0 := blk_cell (k := 0) (hS).box rfl
      have x1 := blk_cell (k := 1) (hS).box rfl
      have x2 := blk_cell (k := 2) (hS).box rfl
      have x3 := blk_cell (k := 3) (hS).box rfl
      have x4 := blk_cell (k := 4) (hS).box rfl
      have x5 := blk_cell (k := 5) (hS).box rfl
      have x6 := blk_cell (k := 6) (hS).box rfl
      have z0 := blk_free (hS).res 0
      have z1 := blk_free (hS).res 1
      have z2 := blk_free (hS).res 2
      have z3 := blk_free (hS).res 3
      have z4 := blk_free (hS).res 4
      have z5 := blk_free (hS).res 5
      have q0 := blk_cell (k := 0) (hS).res rfl
      have q1 := blk_cell (k := 1) (hS).res rfl
      have q2 := blk_cell (k := 2) (hS).res rfl
      have q3 := blk_cell (k := 3) (hS).res rfl
      have q4 := blk_cell (k := 4) (hS).res rfl
      have q5 := blk_cell (k := 5) (hS).res rfl
      have c0 := hS.lk.c0
      have HS := hid hS
      clear hS hh0
      go_wp2_with fail
      go_quiet (fail)
      go_wp2_with fail
      have HS := hid (HS.out.drew nq)
      have hF := BoxSt.fin (HS.out) H.out (.int .i64 ((⟨0, 0, [], 0, 0, 0⟩ : Hrd)).kind) (.int .i64 ((⟨0, 0, [], 0, 0, 0⟩ : Hrd)).frm) (.slice none ((⟨0, 0, [], 0, 0, 0⟩ : Hrd)).ins.length 0) (.int .i64 ((⟨0, 0, [], 0, 0, 0⟩ : Hrd)).frame) (.int .u32 ((⟨0, 0, [], 0, 0, 0⟩ : Hrd)).sum) (.int .i64 ((⟨0, 0, [], 0, 0, 0⟩ : Hrd)).lead)
      simp only at hF
      generalize World.setCell _ ⟨w.heap.size + 1, 5, none⟩ _ = FW at *
      obtain ⟨hR2, hL2, hK2, hB2⟩ := hF
      have hload := box_load _ _ _ _ hR2 6 rfl
      refine bodyPost_ret (v := .tuple #[.agg (hC (⟨0, 0, [], 0, 0, 0⟩ : Hrd) none 0), .bool false]) (by simp [hC, results, Try.results38, asAddr, loadVar, loadCells, Try.isAgg51, Try.sizeOf51, hload]) rfl ?_
      exact ⟨⟨none, 0, rfl, hB2 (bytes_nil _)⟩, hL2, hK2⟩
  rw [if_neg k2]
  by_cases k7 : mk = 7
  · subst k7
    rw [if_pos rfl]
    go_enter Try.func38, Try.ntmps38
    go_upto_region 1 with fail
    generalize World.alloc (World.alloc w _) _ = V0 at *
    have hlt0 := blk_lt hS.box
    have x0 := blk_cell (k := 0) hS.box rfl
    go_upto_region 2 with fail
    clear x0
    have hh0 := blk_new V0 (.cells (hC ⟨7, 0, [], 0, 0, 0⟩ none 0) 51)
    simp only [hC, List.length_nil] at hh0
    have hS := hS.next0 ((Keeps.refl (fun _ => False) V0).alloc (.cells (hC ⟨7, 0, [], 0, 0, 0⟩ none 0) 51))
    simp only [hC, List.length_nil] at hS
    generalize World.alloc V0 _ = V1 at *
    have y9 := (hS).lk.lt
    have x0 := blk_cell (k := 0) (hS).box rfl
    have x1 := blk_cell (k := 1) (hS).box rfl
    have x2 := blk_cell (k := 2) (hS).box rfl
    have x3 := blk_cell (k := 3) (hS).box rfl
    have x4 := blk_cell (k := 4) (hS).box rfl
    have x5 := blk_cell (k := 5) (hS).box rfl
    have x6 := blk_cell (k := 6) (hS).box rfl
    have z0 := blk_free (hS).res 0
    have z1 := blk_free (hS).res 1
    have z2 := blk_free (hS).res 2
    have z3 := blk_free (hS).res 3
    have z4 := blk_free (hS).res 4
    have z5 := blk_free (hS).res 5
    have q0 := blk_cell (k := 0) (hS).res rfl
    have q1 := blk_cell (k := 1) (hS).res rfl
    have q2 := blk_cell (k := 2) (hS).res rfl
    have q3 := blk_cell (k := 3) (hS).res rfl
    have q4 := blk_cell (k := 4) (hS).res rfl
    have q5 := blk_cell (k := 5) (hS).res rfl
    have hh0lt := blk_lt hh0
    have hp0 := blk_cell (k := 0) hh0 rfl
    have hp1 := blk_cell (k := 1) hh0 rfl
    have hp2 := blk_cell (k := 2) hh0 rfl
    have hp3 := blk_cell (k := 3) hh0 rfl
    have hp4 := blk_cell (k := 4) hh0 rfl
    have hp5 := blk_cell (k := 5) hh0 rfl
    have f2 := hS.lk.free 2
    have c2 := hS.lk.c2
    have HS := hid hS
    have Hh := hid hh0
    clear hS hh0
    go_wp2_with fail
    have hD := HS.out
    have HS := hid (hD.next (V' := V1.setCell ⟨B.p, 2, none⟩ (.int .i64 2)) (l' := { l with state := 2 }) H.out hab (hD.lk.set 2 (.int .i64 2) _ rfl rfl rfl) (Keeps.setCell (Keeps.refl _ _) (.inl rfl) _))
    have hF := BoxSt.fin (HS.out) H.out (.int .i64 ((⟨7, 0, [], 0, 0, 0⟩ : Hrd)).kind) (.int .i64 ((⟨7, 0, [], 0, 0, 0⟩ : Hrd)).frm) (.slice none ((⟨7, 0, [], 0, 0, 0⟩ : Hrd)).ins.length 0) (.int .i64 ((⟨7, 0, [], 0, 0, 0⟩ : Hrd)).frame) (.int .u32 ((⟨7, 0, [], 0, 0, 0⟩ : Hrd)).sum) (.int .i64 ((⟨7, 0, [], 0, 0, 0⟩ : Hrd)).lead)
    simp only at hF
    generalize World.setCell _ ⟨w.heap.size + 1, 5, none⟩ _ = FW at *
    obtain ⟨hR2, hL2, hK2, hB2⟩ := hF
    have hload := box_load _ _ _ _ hR2 6 rfl
    refine bodyPost_ret (v := .tuple #[.agg (hC (⟨7, 0, [], 0, 0, 0⟩ : Hrd) none 0), .bool true]) (by simp [hC, results, Try.results38, asAddr, loadVar, loadCells, Try.isAgg51, Try.sizeOf51, hload]) rfl ?_
    exact ⟨⟨none, 0, rfl, hB2 (bytes_nil _)⟩, hL2, hK2⟩
  rw [if_neg k7]
  have d1 : (mk == 1) = false := by simpa using k1
  have d2 : (mk == 2) = false := by simpa using k2
  have d7 : (mk == 7) = false := by simpa using k7
  by_cases hs1 : l.state = 1
  · rw [if_pos hs1]
    go_enter Try.func38, Try.ntmps38
    go_upto_region 1 with fail
    generalize World.alloc (World.alloc w _) _ = V0 at *
    have hlt0 := blk_lt hS.box
    have x0 := blk_cell (k := 0) hS.box rfl
    go_upto_region 2 with fail
    clear x0
    have hh0 := blk_new V0 (.cells (hC ⟨mk, 0, [], 0, 0, 0⟩ none 0) 51)
    simp only [hC, List.length_nil] at hh0
    have hS := hS.next0 ((Keeps.refl (fun _ => False) V0).alloc (.cells (hC ⟨mk, 0, [], 0, 0, 0⟩ none 0) 51))
    simp only [hC, List.length_nil] at hS
    generalize World.alloc V0 _ = V1 at *
    have y9 := (hS).lk.lt
    have x0 := blk_cell (k := 0) (hS).box rfl
    have x1 := blk_cell (k := 1) (hS).box rfl
    have x2 := blk_cell (k := 2) (hS).box rfl
    have x3 := blk_cell (k := 3) (hS).box rfl
    have x4 := blk_cell (k := 4) (hS).box rfl
    have x5 := blk_cell (k := 5) (hS).box rfl
    have x6 := blk_cell (k := 6) (hS).box rfl
    have z0 := blk_free (hS).res 0
    have z1 := blk_free (hS).res 1
    have z2 := blk_free (hS).res 2
    have z3 := blk_free (hS).res 3
    have z4 := blk_free (hS).res 4
    have z5 := blk_free (hS).res 5
    have q0 := blk_cell (k := 0) (hS).res rfl
    have q1 := blk_cell (k := 1) (hS).res rfl
    have q2 := blk_cell (k := 2) (hS).res rfl
    have q3 := blk_cell (k := 3) (hS).res rfl
    have q4 := blk_cell (k := 4) (hS).res rfl
    have q5 := blk_cell (k := 5) (hS).res rfl
    have c2 := hS.lk.c2
    rw [hs1] at c2
    have HS := hid hS
    clear hS hh0
    go_wp2_with fail
    refine (lk_open HS.out.lk ⟨mk, mn, ms, ma, mi, mu, ml⟩ HS.out.ins hab hn ha hm).mono ?_
    rintro e V2 ⟨⟨a2, c2, rfl, hb2⟩, hL, hK⟩
    have hS := HS.out.next H.out hab hL hK
    clear HS hL hK x0 x1 x2 x3 x4 x5 x6 y9 q0 q1 q2 q3 q4 q5 z0 z1 z2 z3 z4 z5
    generalize openF l ⟨mk, mn, ms, ma, mi, mu, ml⟩ = R at *
    obtain ⟨R, ok, l2⟩ := R
    simp only at *
    have y9 := (hS).lk.lt
    have x0 := blk_cell (k := 0) (hS).box rfl
    have x1 := blk_cell (k := 1) (hS).box rfl
    have x2 := blk_cell (k := 2) (hS).box rfl
    have x3 := blk_cell (k := 3) (hS).box rfl
    have x4 := blk_cell (k := 4) (hS).box rfl
    have x5 := blk_cell (k := 5) (hS).box rfl
    have x6 := blk_cell (k := 6) (hS).box rfl
    have z0 := blk_free (hS).res 0
    have z1 := blk_free (hS).res 1
    have z2 := blk_free (hS).res 2
    have z3 := blk_free (hS).res 3
    have z4 := blk_free (hS).res 4
    have z5 := blk_free (hS).res 5
    have q0 := blk_cell (k := 0) (hS).res rfl
    have q1 := blk_cell (k := 1) (hS).res rfl
    have q2 := blk_cell (k := 2) (hS).res rfl
    have q3 := blk_cell (k := 3) (hS).res rfl
    have q4 := blk_cell (k := 4) (hS).res rfl
    have q5 := blk_cell (k := 5) (hS).res rfl
    have HS := hid hS
    have Hb2 := hid hb2
    clear hS hb2
    unfold hC
    go_wp2_with fail
    have hF := BoxSt.fin (HS.out) H.out (.int .i64 (R).kind) (.int .i64 (R).frm) (.slice a2 (R).ins.length c2) (.int .i64 (R).frame) (.int .u32 (R).sum) (.int .i64 (R).lead)
    simp only at hF
    generalize World.setCell _ ⟨w.heap.size + 1, 5, none⟩ _ = FW at *
    obtain ⟨hR2, hL2, hK2, hB2⟩ := hF
    have hload := box_load _ _ _ _ hR2 6 rfl
    refine bodyPost_ret (v := .tuple #[.agg (hC R a2 c2), .bool ok]) (by simp [hC, results, Try.results38, asAddr, loadVar, loadCells, Try.isAgg51, Try.sizeOf51, hload]) rfl ?_
    exact ⟨⟨a2, c2, rfl, hB2 Hb2.out⟩, hL2, hK2⟩
  · rw [if_neg hs1]
    have d9 : (l.state != 1) = true := by simpa using hs1
    go_enter Try.func38, Try.ntmps38
    go_upto_region 1 with fail
    generalize World.alloc (World.alloc w _) _ = V0 at *
    have hlt0 := blk_lt hS.box
    have x0 := blk_cell (k := 0) hS.box rfl
    go_upto_region 2 with fail
    clear x0
    have hh0 := blk_new V0 (.cells (hC ⟨mk, 0, [], 0, 0, 0⟩ none 0) 51)
    simp only [hC, List.length_nil] at hh0
    have hS := hS.next0 ((Keeps.refl (fun _ => False) V0).alloc (.cells (hC ⟨mk, 0, [], 0, 0, 0⟩ none 0) 51))
    simp only [hC, List.length_nil] at hS
    generalize World.alloc V0 _ = V1 at *
    have y9 := (hS).lk.lt
    have x0 := blk_cell (k := 0) (hS).box rfl
    have x1 := blk_cell (k := 1) (hS).box rfl
    have x2 := blk_cell (k := 2) (hS).box rfl
    have x3 := blk_cell (k := 3) (hS).box rfl
    have x4 := blk_cell (k := 4) (hS).box rfl
    have x5 := blk_cell (k := 5) (hS).box rfl
    have x6 := blk_cell (k := 6) (hS).box rfl
    have z0 := blk_free (hS).res 0
    have z1 := blk_free (hS).res 1
    have z2 := blk_free (hS).res 2
    have z3 := blk_free (hS).res 3
    have z4 := blk_free (hS).res 4
    have z5 := blk_free (hS).res 5
    have q0 := blk_cell (k := 0) (hS).res rfl
    have q1 := blk_cell (k := 1) (hS).res rfl
    have q2 := blk_cell (k := 2) (hS).res rfl
    have q3 := blk_cell (k := 3) (hS).res rfl
    have q4 := blk_cell (k := 4) (hS).res rfl
    have q5 := blk_cell (k := 5) (hS).res rfl
    have c2 := hS.lk.c2
    have HS := hid hS
    clear hS hh0
    go_wp2_with fail
    have hF := BoxSt.fin (HS.out) H.out (.int .i64 ((⟨0, 0, [], 0, 0, 0⟩ : Hrd)).kind) (.int .i64 ((⟨0, 0, [], 0, 0, 0⟩ : Hrd)).frm) (.slice none ((⟨0, 0, [], 0, 0, 0⟩ : Hrd)).ins.length 0) (.int .i64 ((⟨0, 0, [], 0, 0, 0⟩ : Hrd)).frame) (.int .u32 ((⟨0, 0, [], 0, 0, 0⟩ : Hrd)).sum) (.int .i64 ((⟨0, 0, [], 0, 0, 0⟩ : Hrd)).lead)
    simp only at hF
    generalize World.setCell _ ⟨w.heap.size + 1, 5, none⟩ _ = FW at *
    obtain ⟨hR2, hL2, hK2, hB2⟩ := hF
    have hload := box_load _ _ _ _ hR2 6 rfl
    refine bodyPost_ret (v := .tuple #[.agg (hC (⟨0, 0, [], 0, 0, 0⟩ : Hrd) none 0), .bool false]) (by simp [hC, results, Try.results38, asAddr, loadVar, loadCells, Try.isAgg51, Try.sizeOf51, hload]) rfl ?_
    exact ⟨⟨none, 0, rfl, hB2 (bytes_nil _)⟩, hL2, hK2⟩
end Go.Proofs.Ytaobhbfhbmenfaa
/- link: Hear. -/
namespace Go.Proofs.Ytaobhbfhbmenfaa
open Go.RowKit
set_option maxRecDepth 10000
variable {w : World} {B : LB} {l : Lk}
/-- the result lies at r -/
structure ResSt (w V : World) (r : Nat) (B : LB) (l : Lk) : Prop where
  res : V.heap[r]? = some (.cells (hC Hrd.zero none 0) 51 (0, 0))
  rb : w.heap.size ≤ r
  lk : IsLink V B l
  kp : Keeps B.S w V
theorem ResSt.start (h : IsLink w B l) : ResSt w (w.alloc (.cells (hC Hrd.zero none 0) 51)) w.heap.size B l := by
  have hk := (Keeps.refl (fun _ => False) w).alloc (.cells (hC Hrd.zero none 0) 51)
  exact ⟨blk_new w _, Nat.le_refl _, h.keeps hk (fun _ _ => id), hk.mono fun _ _ h => h.elim⟩
theorem ResSt.next {V V' : World} {r : Nat} {l' l0 : Lk} (h : ResSt w V r B l) (h0 : IsLink w B l0) (hl : IsLink V' B l') (hk : Keeps B.S V V') : ResSt w V' r B l' := by
  have h9 := h0.lt
  have hs : ∀ b, B.S b → b < w.heap.size := fun b hb => by rcases hb with e | e | e | e | e <;> omega
  exact ⟨hk.heap h.res (fun x => by have := hs _ x; have := h.rb; omega), h.rb, hl, h.kp.trans hk⟩
theorem ResSt.next0 {V V' : World} {r : Nat} (h : ResSt w V r B l) (hk : Keeps (fun _ => False) V V') : ResSt w V' r B l :=
  ⟨hk.heap h.res id, h.rb, h.lk.keeps hk fun _ _ => id, h.kp.trans (hk.mono fun _ _ h => h.elim)⟩
theorem ResSt.fin {l0 : Lk} {V : World} {r : Nat} (h : ResSt w V r B l) (h0 : IsLink w B l0) (v0 v1 v2 v3 v4 v5 : Value) :
    let FW := ((((((V.setCell ⟨r, 0, none⟩ v0).setCell ⟨r, 1, none⟩ v1).setCell ⟨r, 2, none⟩ v2).setCell ⟨r, 3, none⟩ v3).setCell ⟨r, 4, none⟩ v4).setCell ⟨r, 5, none⟩ v5)
    FW.heap[r]? = some (.cells #[v0, v1, v2, v3, v4, v5] 51 (0, 0)) ∧ IsLink FW B l ∧ Keeps B.S w FW ∧ (∀ {a' : Option Addr} {c' : Nat} {L : List UInt8}, IsBytes V a' c' L → IsBytes FW a' c' L) := by
  have h9 := h0.lt
  have hk := hset_in (S := fun b => b = r) (b := r) (Keeps.refl _ V) rfl v0 v1 v2 v3 v4 v5
  have hr := h.rb
  refine ⟨hset h.res rfl v0 v1 v2 v3 v4 v5, h.lk.keeps hk (fun b hb => ?_), hset_keeps h.kp h.rb v0 v1 v2 v3 v4 v5, fun hb => hb.keeps hk fun hne x e => bytes_not hb h.res (by simp [hC, Hrd.zero]) hne x e⟩
  rcases hb with e | e | e | e | e <;> omega
def hearF (l : Lk) (s : List UInt8) : Hrd × Int × Lk :=
  if l.state = 2 then (Hrd.zero, 12, l) else
  if (unpM s).2 ≠ 0 then (Hrd.zero, (unpM s).2, { l with bad := l.bad + 1 }) else
  if (takesF { l with heard := l.ticks } (unpM s).1).2.1 then ((takesF { l with heard := l.ticks } (unpM s).1).1, 0, { (takesF { l with heard := l.ticks } (unpM s).1).2.2 with good := (takesF { l with heard := l.ticks } (unpM s).1).2.2.good + 1 })
  else (Hrd.zero, 0, { (takesF { l with heard := l.ticks } (unpM s).1).2.2 with stale := (takesF { l with heard := l.ticks } (unpM s).1).2.2.stale + 1 })
theorem ackL_same (l : Lk) (s : Int) : (ackL l s).nonce = l.nonce ∧ (ackL l s).patience = l.patience ∧ (ackL l s).bye = l.bye ∧ (ackL l s).ticks = l.ticks ∧ (ackL l s).heard = l.heard ∧ (ackL l s).good = l.good ∧ (ackL l s).bad = l.bad ∧ (ackL l s).stale = l.stale := by
  unfold ackL
  simp only []
  split <;> exact ⟨rfl, rfl, rfl, rfl, rfl, rfl, rfl, rfl⟩
theorem inpF_same (l : Lk) (m : Msg) : (inpF l m).2.2.nonce = l.nonce ∧ (inpF l m).2.2.patience = l.patience ∧ (inpF l m).2.2.bye = l.bye ∧ (inpF l m).2.2.ticks = l.ticks ∧ (inpF l m).2.2.heard = l.heard ∧ (inpF l m).2.2.good = l.good ∧ (inpF l m).2.2.bad = l.bad ∧ (inpF l m).2.2.stale = l.stale := by
  unfold inpF
  simp only []
  split <;> exact ⟨rfl, rfl, rfl, rfl, rfl, rfl, rfl, rfl⟩
theorem takesF_same (l : Lk) (m : Msg) : (takesF l m).2.2.nonce = l.nonce ∧ (takesF l m).2.2.patience = l.patience ∧ (takesF l m).2.2.bye = l.bye ∧ (takesF l m).2.2.ticks = l.ticks ∧ (takesF l m).2.2.heard = l.heard ∧ (takesF l m).2.2.good = l.good ∧ (takesF l m).2.2.bad = l.bad ∧ (takesF l m).2.2.stale = l.stale := by
  have h1 := ackL_same l m.ack
  have h2 := inpF_same (ackL l m.ack) m
  have h3 : (openF l m).2.2.nonce = l.nonce ∧ (openF l m).2.2.patience = l.patience ∧ (openF l m).2.2.bye = l.bye ∧ (openF l m).2.2.ticks = l.ticks ∧ (openF l m).2.2.heard = l.heard ∧ (openF l m).2.2.good = l.good ∧ (openF l m).2.2.bad = l.bad ∧ (openF l m).2.2.stale = l.stale := by
    unfold openF
    split
    · exact ⟨h2.1.trans h1.1, h2.2.1.trans h1.2.1, h2.2.2.1.trans h1.2.2.1, h2.2.2.2.1.trans h1.2.2.2.1, h2.2.2.2.2.1.trans h1.2.2.2.2.1, h2.2.2.2.2.2.1.trans h1.2.2.2.2.2.1, h2.2.2.2.2.2.2.1.trans h1.2.2.2.2.2.2.1, h2.2.2.2.2.2.2.2.trans h1.2.2.2.2.2.2.2⟩
    split
    · exact ⟨rfl, rfl, rfl, rfl, rfl, rfl, rfl, rfl⟩
    split
    · exact h1
    split <;> exact ⟨rfl, rfl, rfl, rfl, rfl, rfl, rfl, rfl⟩
  unfold takesF
  split
  · simp only []
    split <;> exact ⟨rfl, rfl, rfl, rfl, rfl, rfl, rfl, rfl⟩
  split
  · split <;> exact ⟨rfl, rfl, rfl, rfl, rfl, rfl, rfl, rfl⟩
  split
  · exact ⟨rfl, rfl, rfl, rfl, rfl, rfl, rfl, rfl⟩
  split
  · exact h3
  · exact ⟨rfl, rfl, rfl, rfl, rfl, rfl, rfl, rfl⟩
theorem unp_short (l : List UInt8) (h : (unpM l).2 = 0) : (unpM l).1.ins.length ≤ 1000000 := by
  unfold unpM at *
  split at h
  · rename_i h0
    rw [if_pos h0]
    unfold unpT at *
    split at h
    · cases h
    · rename_i h1
      rw [if_neg h1]
      have h2 : RightP (parseT (opened l).1).1 := Decidable.byContradiction fun hc => h1 (.inr (.inr hc))
      have h3 := h2.2.1
      unfold fits at h3
      simp only [Bool.and_eq_true, decide_eq_true_eq] at h3
      exact Nat.le_trans h3.2 (by decide)
  · rename_i h0
    exact absurd h h0
set_option maxHeartbeats 1000000 in
theorem lk_Hear (h : IsLink w B l) (s : ByteArray) (hs : s.size ≤ 100000) (hn : 0 ≤ l.next ∧ l.next ≤ 1073741824) (ha : 0 ≤ l.acked ∧ l.acked ≤ 1073741824) (hg : 0 ≤ l.good ∧ l.good ≤ 1000000) (hb : 0 ≤ l.bad ∧ l.bad ≤ 1000000) (ht : 0 ≤ l.stale ∧ l.stale ≤ 1000000) :
    Calls Try.prog 19 #[.pointer (some ⟨B.p, 0, none⟩), .string s] w (HrdPost w B (hearF l s.data.toList).1 (.int .i64 (hearF l s.data.toList).2.1) (hearF l s.data.toList).2.2) := by
  have hS := ResSt.start h
  simp only [hC, Hrd.zero, List.length_nil] at hS
  have h9 := h.lt
  have H := hid h
  clear h
  unfold hearF
  by_cases k2 : l.state = 2
  · rw [if_pos k2]
    go_enter Try.func19, Try.ntmps19
    go_upto_region 3 with fail
    generalize World.alloc w _ = V0 at *
    have y9 := (hS).lk.lt
    have yr := blk_lt (hS).res
    have z0 := blk_free (hS).res 0
    have z1 := blk_free (hS).res 1
    have z2 := blk_free (hS).res 2
    have z3 := blk_free (hS).res 3
    have z4 := blk_free (hS).res 4
    have z5 := blk_free (hS).res 5
    have q0 := blk_cell (k := 0) (hS).res rfl
    have q1 := blk_cell (k := 1) (hS).res rfl
    have q2 := blk_cell (k := 2) (hS).res rfl
    have q3 := blk_cell (k := 3) (hS).res rfl
    have q4 := blk_cell (k := 4) (hS).res rfl
    have q5 := blk_cell (k := 5) (hS).res rfl
    have f2 := hS.lk.free 2
    have c2 := hS.lk.c2
    rw [k2] at c2
    have HS := hid hS
    clear hS
    go_wp2_with fail
    have hF := ResSt.fin (HS.out) H.out (.int .i64 ((⟨0, 0, [], 0, 0, 0⟩ : Hrd)).kind) (.int .i64 ((⟨0, 0, [], 0, 0, 0⟩ : Hrd)).frm) (.slice none ((⟨0, 0, [], 0, 0, 0⟩ : Hrd)).ins.length 0) (.int .i64 ((⟨0, 0, [], 0, 0, 0⟩ : Hrd)).frame) (.int .u32 ((⟨0, 0, [], 0, 0, 0⟩ : Hrd)).sum) (.int .i64 ((⟨0, 0, [], 0, 0, 0⟩ : Hrd)).lead)
    simp only at hF
    generalize World.setCell _ ⟨w.heap.size, 5, none⟩ _ = FW at *
    obtain ⟨hR2, hL2, hK2, hB2⟩ := hF
    have hload := box_load _ _ _ _ hR2 6 rfl
    refine bodyPost_ret (v := .tuple #[.agg (hC (⟨0, 0, [], 0, 0, 0⟩ : Hrd) none 0), .int .i64 12]) (by simp [hC, results, Try.results19, asAddr, loadVar, loadCells, Try.isAgg51, Try.sizeOf51, hload]) rfl ?_
    exact ⟨⟨none, 0, rfl, hB2 (bytes_nil _)⟩, hL2, hK2⟩
  rw [if_neg k2]
  have d2 : (l.state == 2) = false := by simpa using k2
  have hU := fun W => wire_UnpackN (w := W) s hs
  have hmr := unp_short s.data.toList
  generalize unpM s.data.toList = u at *
  obtain ⟨m, er⟩ := u
  simp only at *
  have HU := hid hU
  clear hU
  by_cases k3 : er ≠ 0
  · rw [if_pos k3]
    have d3 : (er != 0) = true := by simpa using k3
    go_enter Try.func19, Try.ntmps19
    go_upto_region 3 with fail
    generalize World.alloc w _ = V0 at *
    have y9 := (hS).lk.lt
    have yr := blk_lt (hS).res
    have z0 := blk_free (hS).res 0
    have z1 := blk_free (hS).res 1
    have z2 := blk_free (hS).res 2
    have z3 := blk_free (hS).res 3
    have z4 := blk_free (hS).res 4
    have z5 := blk_free (hS).res 5
    have q0 := blk_cell (k := 0) (hS).res rfl
    have q1 := blk_cell (k := 1) (hS).res rfl
    have q2 := blk_cell (k := 2) (hS).res rfl
    have q3 := blk_cell (k := 3) (hS).res rfl
    have q4 := blk_cell (k := 4) (hS).res rfl
    have q5 := blk_cell (k := 5) (hS).res rfl
    have f2 := hS.lk.free 2
    have c2 := hS.lk.c2
    have HS := hid hS
    clear hS
    go_wp2_with fail
    refine (HU.out _).mono ?_
    rintro e V1 ⟨a, c, rfl, hb1, hbe, hnew⟩
    have hS := HS.out.next0 (Keeps.of_below hbe (fun k h1 h2 => by omega))
    clear HS hbe c2 f2 q0 q1 q2 q3 q4 q5 z0 z1 z2 z3 z4 z5
    go_upto_region 6 with fail
    have ylt := hS.lk.lt.1
    have hm0 := blk_new V1 (.cells #[.int .i64 m.kind, .int .u32 m.nonce, .int .u16 m.serial, .int .u16 m.ack, .slice a m.ins.length c, .int .u32 m.sum, .int .i64 m.lead] 49)
    have hS := hS.next0 ((Keeps.refl (fun _ => False) V1).alloc (.cells #[.int .i64 m.kind, .int .u32 m.nonce, .int .u16 m.serial, .int .u16 m.ack, .slice a m.ins.length c, .int .u32 m.sum, .int .i64 m.lead] 49))
    have hb1 := hb1.keeps ((Keeps.refl (fun _ => False) V1).alloc (.cells #[.int .i64 m.kind, .int .u32 m.nonce, .int .u16 m.serial, .int .u16 m.ack, .slice a m.ins.length c, .int .u32 m.sum, .int .i64 m.lead] 49)) (fun _ _ _ => id)
    have hnew : ∀ x, a = some x → w.heap.size ≤ x.block := fun x hx => by have := hnew x hx; omega
    clear y9 yr
    generalize World.alloc V1 _ = V2 at *
    have y9 := (hS).lk.lt
    have yr := blk_lt (hS).res
    have z0 := blk_free (hS).res 0
    have z1 := blk_free (hS).res 1
    have z2 := blk_free (hS).res 2
    have z3 := blk_free (hS).res 3
    have z4 := blk_free (hS).res 4
    have z5 := blk_free (hS).res 5
    have q0 := blk_cell (k := 0) (hS).res rfl
    have q1 := blk_cell (k := 1) (hS).res rfl
    have q2 := blk_cell (k := 2) (hS).res rfl
    have q3 := blk_cell (k := 3) (hS).res rfl
    have q4 := blk_cell (k := 4) (hS).res rfl
    have q5 := blk_cell (k := 5) (hS).res rfl
    have c11 := hS.lk.c11
    have f11 := hS.lk.free 11
    have HS := hid hS
    clear hS
    go_wp2_with fail
    have HS := hid (HS.out.next (V' := V2.setCell ⟨B.p, 11, none⟩ (.int .i64 (l.bad + 1))) (l' := { l with bad := l.bad + 1 }) H.out (HS.out.lk.set 11 (.int .i64 (l.bad + 1)) _ rfl rfl rfl) (Keeps.setCell (Keeps.refl _ _) (.inl rfl) _))
    have hF := ResSt.fin (HS.out) H.out (.int .i64 ((⟨0, 0, [], 0, 0, 0⟩ : Hrd)).kind) (.int .i64 ((⟨0, 0, [], 0, 0, 0⟩ : Hrd)).frm) (.slice none ((⟨0, 0, [], 0, 0, 0⟩ : Hrd)).ins.length 0) (.int .i64 ((⟨0, 0, [], 0, 0, 0⟩ : Hrd)).frame) (.int .u32 ((⟨0, 0, [], 0, 0, 0⟩ : Hrd)).sum) (.int .i64 ((⟨0, 0, [], 0, 0, 0⟩ : Hrd)).lead)
    simp only at hF
    generalize World.setCell _ ⟨w.heap.size, 5, none⟩ _ = FW at *
    obtain ⟨hR2, hL2, hK2, hB2⟩ := hF
    have hload := box_load _ _ _ _ hR2 6 rfl
    refine bodyPost_ret (v := .tuple #[.agg (hC (⟨0, 0, [], 0, 0, 0⟩ : Hrd) none 0), .int .i64 er]) (by simp [hC, results, Try.results19, asAddr, loadVar, loadCells, Try.isAgg51, Try.sizeOf51, hload]) rfl ?_
    exact ⟨⟨none, 0, rfl, hB2 (bytes_nil _)⟩, hL2, hK2⟩
  rw [if_neg k3]
  obtain rfl : er = 0 := by omega
  clear k3
  have hm := (hmr rfl)
  have hT := fun (W : World) (a : Option Addr) (c : Nat) (h : IsLink W B { l with heard := l.ticks }) (hb : IsBytes W a c m.ins) (hab : ∀ x, a = some x → ¬ B.S x.block) => lk_takes h m hb hab hn ha hm
  have hsm := takesF_same { l with heard := l.ticks } m
  generalize takesF { l with heard := l.ticks } m = T at *
  obtain ⟨R, ok, l2⟩ := T
  simp only at *
  obtain ⟨n2, p2, st2, by2, tk2, hd2, ow2, ak2, nx2, ou2, gd2, bd2, sl2⟩ := l2
  simp only at hsm
  obtain ⟨rfl, rfl, rfl, rfl, rfl, rfl, rfl, rfl⟩ := hsm
  have HT := hid hT
  clear hT
  cases ok with
  | true =>
    simp only [if_true]
    go_enter Try.func19, Try.ntmps19
    go_upto_region 3 with fail
    generalize World.alloc w _ = V0 at *
    have y9 := (hS).lk.lt
    have yr := blk_lt (hS).res
    have z0 := blk_free (hS).res 0
    have z1 := blk_free (hS).res 1
    have z2 := blk_free (hS).res 2
    have z3 := blk_free (hS).res 3
    have z4 := blk_free (hS).res 4
    have z5 := blk_free (hS).res 5
    have q0 := blk_cell (k := 0) (hS).res rfl
    have q1 := blk_cell (k := 1) (hS).res rfl
    have q2 := blk_cell (k := 2) (hS).res rfl
    have q3 := blk_cell (k := 3) (hS).res rfl
    have q4 := blk_cell (k := 4) (hS).res rfl
    have q5 := blk_cell (k := 5) (hS).res rfl
    have f2 := hS.lk.free 2
    have c2 := hS.lk.c2
    have HS := hid hS
    clear hS
    go_wp2_with fail
    refine (HU.out _).mono ?_
    rintro e V1 ⟨a, c, rfl, hb1, hbe, hnew⟩
    have hS := HS.out.next0 (Keeps.of_below hbe (fun k h1 h2 => by omega))
    clear HS hbe c2 f2 q0 q1 q2 q3 q4 q5 z0 z1 z2 z3 z4 z5
    go_upto_region 6 with fail
    have ylt := hS.lk.lt.1
    have hm0 := blk_new V1 (.cells #[.int .i64 m.kind, .int .u32 m.nonce, .int .u16 m.serial, .int .u16 m.ack, .slice a m.ins.length c, .int .u32 m.sum, .int .i64 m.lead] 49)
    have hS := hS.next0 ((Keeps.refl (fun _ => False) V1).alloc (.cells #[.int .i64 m.kind, .int .u32 m.nonce, .int .u16 m.serial, .int .u16 m.ack, .slice a m.ins.length c, .int .u32 m.sum, .int .i64 m.lead] 49))
    have hb1 := hb1.keeps ((Keeps.refl (fun _ => False) V1).alloc (.cells #[.int .i64 m.kind, .int .u32 m.nonce, .int .u16 m.serial, .int .u16 m.ack, .slice a m.ins.length c, .int .u32 m.sum, .int .i64 m.lead] 49)) (fun _ _ _ => id)
    have hnew : ∀ x, a = some x → w.heap.size ≤ x.block := fun x hx => by have := hnew x hx; omega
    clear y9 yr
    generalize World.alloc V1 _ = V2 at *
    have y9 := (hS).lk.lt
    have yr := blk_lt (hS).res
    have z0 := blk_free (hS).res 0
    have z1 := blk_free (hS).res 1
    have z2 := blk_free (hS).res 2
    have z3 := blk_free (hS).res 3
    have z4 := blk_free (hS).res 4
    have z5 := blk_free (hS).res 5
    have q0 := blk_cell (k := 0) (hS).res rfl
    have q1 := blk_cell (k := 1) (hS).res rfl
    have q2 := blk_cell (k := 2) (hS).res rfl
    have q3 := blk_cell (k := 3) (hS).res rfl
    have q4 := blk_cell (k := 4) (hS).res rfl
    have q5 := blk_cell (k := 5) (hS).res rfl
    have c4 := hS.lk.c4
    have c5 := hS.lk.c5
    have f5 := hS.lk.free 5
    have x0 := blk_cell (k := 0) hm0 rfl
    have x1 := blk_cell (k := 1) hm0 rfl
    have x2 := blk_cell (k := 2) hm0 rfl
    have x3 := blk_cell (k := 3) hm0 rfl
    have x4 := blk_cell (k := 4) hm0 rfl
    have x5 := blk_cell (k := 5) hm0 rfl
    have x6 := blk_cell (k := 6) hm0 rfl
    have xl := blk_lt hm0
    have HS := hid hS
    have Hb1 := hid hb1
    clear hS hb1
    go_wp2_with fail
    have hS := HS.out.next (V' := V2.setCell ⟨B.p, 5, none⟩ (.int .i64 l.ticks)) (l' := { l with heard := l.ticks }) H.out (HS.out.lk.set 5 (.int .i64 l.ticks) _ rfl rfl rfl) (Keeps.setCell (Keeps.refl _ _) (.inl rfl) _)
    have hb1 := Hb1.out.keeps (Keeps.setCell (S := fun b => b = B.p) (Keeps.refl _ _) (p := ⟨B.p, 5, none⟩) rfl (.int .i64 l.ticks)) (fun _ x hx e => by have := hnew x hx; omega)
    refine (HT.out _ a c hS.lk hb1 (fun x hx hc => by have := hnew x hx; rcases hc with e | e | e | e | e <;> omega)).mono ?_
    rintro e V3 ⟨⟨a2, c2, rfl, hb2⟩, hL, hK⟩
    have hS := hS.next H.out hL hK
    clear HS Hb1 hb1 hL hK x0 x1 x2 x3 x4 x5 x6 xl c4 c5 f5 y9 yr q0 q1 q2 q3 q4 q5 z0 z1 z2 z3 z4 z5 hm0
    unfold hC
    go_upto_region 11 with fail
    have ylt3 := hS.lk.lt.1
    have hh0 := blk_new V3 (.cells (hC R a2 c2) 51)
    have hS := hS.next0 ((Keeps.refl (fun _ => False) V3).alloc (.cells (hC R a2 c2) 51))
    have hb2 := hb2.keeps ((Keeps.refl (fun _ => False) V3).alloc (.cells (hC R a2 c2) 51)) (fun _ _ _ => id)
    simp only [hC] at hh0 hS hb2
    generalize World.alloc V3 _ = V4 at *
    have xh0 := blk_cell (k := 0) hh0 rfl
    have xh1 := blk_cell (k := 1) hh0 rfl
    have xh2 := blk_cell (k := 2) hh0 rfl
    have xh3 := blk_cell (k := 3) hh0 rfl
    have xh4 := blk_cell (k := 4) hh0 rfl
    have xh5 := blk_cell (k := 5) hh0 rfl
    have xhl := blk_lt hh0
    have y9 := (hS).lk.lt
    have yr := blk_lt (hS).res
    have z0 := blk_free (hS).res 0
    have z1 := blk_free (hS).res 1
    have z2 := blk_free (hS).res 2
    have z3 := blk_free (hS).res 3
    have z4 := blk_free (hS).res 4
    have z5 := blk_free (hS).res 5
    have q0 := blk_cell (k := 0) (hS).res rfl
    have q1 := blk_cell (k := 1) (hS).res rfl
    have q2 := blk_cell (k := 2) (hS).res rfl
    have q3 := blk_cell (k := 3) (hS).res rfl
    have q4 := blk_cell (k := 4) (hS).res rfl
    have q5 := blk_cell (k := 5) (hS).res rfl
    have c10 := hS.lk.c10
    have f10 := hS.lk.free 10
    have HS := hid hS
    have Hb2 := hid hb2
    clear hS hb2
    go_wp2_with fail
    have hb3 := Hb2.out.keeps (Keeps.setCell (S := fun b => b = B.p) (Keeps.refl _ _) (p := ⟨B.p, 10, none⟩) rfl (.int .i64 (l.good + 1))) (fun hne x e => bytes_off Hb2.out HS.out.lk.blk hne x e)
    have HS := hid (HS.out.next (V' := V4.setCell ⟨B.p, 10, none⟩ (.int .i64 (l.good + 1))) (l' := ⟨l.nonce, l.patience, st2, l.bye, l.ticks, l.ticks, ow2, ak2, nx2, ou2, l.good + 1, l.bad, l.stale⟩) H.out (HS.out.lk.set 10 (.int .i64 (l.good + 1)) _ rfl rfl rfl) (Keeps.setCell (Keeps.refl _ _) (.inl rfl) _))
    have hF := ResSt.fin (HS.out) H.out (.int .i64 (R).kind) (.int .i64 (R).frm) (.slice a2 (R).ins.length c2) (.int .i64 (R).frame) (.int .u32 (R).sum) (.int .i64 (R).lead)
    simp only at hF
    generalize World.setCell _ ⟨w.heap.size, 5, none⟩ _ = FW at *
    obtain ⟨hR2, hL2, hK2, hB2⟩ := hF
    have hload := box_load _ _ _ _ hR2 6 rfl
    refine bodyPost_ret (v := .tuple #[.agg (hC R a2 c2), .int .i64 0]) (by simp [hC, results, Try.results19, asAddr, loadVar, loadCells, Try.isAgg51, Try.sizeOf51, hload]) rfl ?_
    exact ⟨⟨a2, c2, rfl, hB2 hb3⟩, hL2, hK2⟩
  | false =>
    simp only [Bool.false_eq_true, if_false]
    go_enter Try.func19, Try.ntmps19
    go_upto_region 3 with fail
    generalize World.alloc w _ = V0 at *
    have y9 := (hS).lk.lt
    have yr := blk_lt (hS).res
    have z0 := blk_free (hS).res 0
    have z1 := blk_free (hS).res 1
    have z2 := blk_free (hS).res 2
    have z3 := blk_free (hS).res 3
    have z4 := blk_free (hS).res 4
    have z5 := blk_free (hS).res 5
    have q0 := blk_cell (k := 0) (hS).res rfl
    have q1 := blk_cell (k := 1) (hS).res rfl
    have q2 := blk_cell (k := 2) (hS).res rfl
    have q3 := blk_cell (k := 3) (hS).res rfl
    have q4 := blk_cell (k := 4) (hS).res rfl
    have q5 := blk_cell (k := 5) (hS).res rfl
    have f2 := hS.lk.free 2
    have c2 := hS.lk.c2
    have HS := hid hS
    clear hS
    go_wp2_with fail
    refine (HU.out _).mono ?_
    rintro e V1 ⟨a, c, rfl, hb1, hbe, hnew⟩
    have hS := HS.out.next0 (Keeps.of_below hbe (fun k h1 h2 => by omega))
    clear HS hbe c2 f2 q0 q1 q2 q3 q4 q5 z0 z1 z2 z3 z4 z5
    go_upto_region 6 with fail
    have ylt := hS.lk.lt.1
    have hm0 := blk_new V1 (.cells #[.int .i64 m.kind, .int .u32 m.nonce, .int .u16 m.serial, .int .u16 m.ack, .slice a m.ins.length c, .int .u32 m.sum, .int .i64 m.lead] 49)
    have hS := hS.next0 ((Keeps.refl (fun _ => False) V1).alloc (.cells #[.int .i64 m.kind, .int .u32 m.nonce, .int .u16 m.serial, .int .u16 m.ack, .slice a m.ins.length c, .int .u32 m.sum, .int .i64 m.lead] 49))
    have hb1 := hb1.keeps ((Keeps.refl (fun _ => False) V1).alloc (.cells #[.int .i64 m.kind, .int .u32 m.nonce, .int .u16 m.serial, .int .u16 m.ack, .slice a m.ins.length c, .int .u32 m.sum, .int .i64 m.lead] 49)) (fun _ _ _ => id)
    have hnew : ∀ x, a = some x → w.heap.size ≤ x.block := fun x hx => by have := hnew x hx; omega
    clear y9 yr
    generalize World.alloc V1 _ = V2 at *
    have y9 := (hS).lk.lt
    have yr := blk_lt (hS).res
    have z0 := blk_free (hS).res 0
    have z1 := blk_free (hS).res 1
    have z2 := blk_free (hS).res 2
    have z3 := blk_free (hS).res 3
    have z4 := blk_free (hS).res 4
    have z5 := blk_free (hS).res 5
    have q0 := blk_cell (k := 0) (hS).res rfl
    have q1 := blk_cell (k := 1) (hS).res rfl
    have q2 := blk_cell (k := 2) (hS).res rfl
    have q3 := blk_cell (k := 3) (hS).res rfl
    have q4 := blk_cell (k := 4) (hS).res rfl
    have q5 := blk_cell (k := 5) (hS).res rfl
    have c4 := hS.lk.c4
    have c5 := hS.lk.c5
    have f5 := hS.lk.free 5
    have x0 := blk_cell (k := 0) hm0 rfl
    have x1 := blk_cell (k := 1) hm0 rfl
    have x2 := blk_cell (k := 2) hm0 rfl
    have x3 := blk_cell (k := 3) hm0 rfl
    have x4 := blk_cell (k := 4) hm0 rfl
    have x5 := blk_cell (k := 5) hm0 rfl
    have x6 := blk_cell (k := 6) hm0 rfl
    have xl := blk_lt hm0
    have HS := hid hS
    have Hb1 := hid hb1
    clear hS hb1
    go_wp2_with fail
    have hS := HS.out.next (V' := V2.setCell ⟨B.p, 5, none⟩ (.int .i64 l.ticks)) (l' := { l with heard := l.ticks }) H.out (HS.out.lk.set 5 (.int .i64 l.ticks) _ rfl rfl rfl) (Keeps.setCell (Keeps.refl _ _) (.inl rfl) _)
    have hb1 := Hb1.out.keeps (Keeps.setCell (S := fun b => b = B.p) (Keeps.refl _ _) (p := ⟨B.p, 5, none⟩) rfl (.int .i64 l.ticks)) (fun _ x hx e => by have := hnew x hx; omega)
    refine (HT.out _ a c hS.lk hb1 (fun x hx hc => by have := hnew x hx; rcases hc with e | e | e | e | e <;> omega)).mono ?_
    rintro e V3 ⟨⟨a2, c2, rfl, hb2⟩, hL, hK⟩
    have hS := hS.next H.out hL hK
    clear HS Hb1 hb1 hL hK x0 x1 x2 x3 x4 x5 x6 xl c4 c5 f5 y9 yr q0 q1 q2 q3 q4 q5 z0 z1 z2 z3 z4 z5 hm0
    unfold hC
    go_upto_region 11 with fail
    have ylt3 := hS.lk.lt.1
    have hh0 := blk_new V3 (.cells (hC R a2 c2) 51)
    have hS := hS.next0 ((Keeps.refl (fun _ => False) V3).alloc (.cells (hC R a2 c2) 51))
    have hb2 := hb2.keeps ((Keeps.refl (fun _ => False) V3).alloc (.cells (hC R a2 c2) 51)) (fun _ _ _ => id)
    simp only [hC] at hh0 hS hb2
    generalize World.alloc V3 _ = V4 at *
    have xh0 := blk_cell (k := 0) hh0 rfl
    have xh1 := blk_cell (k := 1) hh0 rfl
    have xh2 := blk_cell (k := 2) hh0 rfl
    have xh3 := blk_cell (k := 3) hh0 rfl
    have xh4 := blk_cell (k := 4) hh0 rfl
    have xh5 := blk_cell (k := 5) hh0 rfl
    have xhl := blk_lt hh0
    have y9 := (hS).lk.lt
    have yr := blk_lt (hS).res
    have z0 := blk_free (hS).res 0
    have z1 := blk_free (hS).res 1
    have z2 := blk_free (hS).res 2
    have z3 := blk_free (hS).res 3
    have z4 := blk_free (hS).res 4
    have z5 := blk_free (hS).res 5
    have q0 := blk_cell (k := 0) (hS).res rfl
    have q1 := blk_cell (k := 1) (hS).res rfl
    have q2 := blk_cell (k := 2) (hS).res rfl
    have q3 := blk_cell (k := 3) (hS).res rfl
    have q4 := blk_cell (k := 4) (hS).res rfl
    have q5 := blk_cell (k := 5) (hS).res rfl
    have c12 := hS.lk.c12
    have f12 := hS.lk.free 12
    have HS := hid hS
    clear hS hb2
    go_wp2_with fail
    have HS := hid (HS.out.next (V' := V4.setCell ⟨B.p, 12, none⟩ (.int .i64 (l.stale + 1))) (l' := ⟨l.nonce, l.patience, st2, l.bye, l.ticks, l.ticks, ow2, ak2, nx2, ou2, l.good, l.bad, l.stale + 1⟩) H.out (HS.out.lk.set 12 (.int .i64 (l.stale + 1)) _ rfl rfl rfl) (Keeps.setCell (Keeps.refl _ _) (.inl rfl) _))
    have hF := ResSt.fin (HS.out) H.out (.int .i64 ((⟨0, 0, [], 0, 0, 0⟩ : Hrd)).kind) (.int .i64 ((⟨0, 0, [], 0, 0, 0⟩ : Hrd)).frm) (.slice none ((⟨0, 0, [], 0, 0, 0⟩ : Hrd)).ins.length 0) (.int .i64 ((⟨0, 0, [], 0, 0, 0⟩ : Hrd)).frame) (.int .u32 ((⟨0, 0, [], 0, 0, 0⟩ : Hrd)).sum) (.int .i64 ((⟨0, 0, [], 0, 0, 0⟩ : Hrd)).lead)
    simp only at hF
    generalize World.setCell _ ⟨w.heap.size, 5, none⟩ _ = FW at *
    obtain ⟨hR2, hL2, hK2, hB2⟩ := hF
    have hload := box_load _ _ _ _ hR2 6 rfl
    refine bodyPost_ret (v := .tuple #[.agg (hC (⟨0, 0, [], 0, 0, 0⟩ : Hrd) none 0), .int .i64 0]) (by simp [hC, results, Try.results19, asAddr, loadVar, loadCells, Try.isAgg51, Try.sizeOf51, hload]) rfl ?_
    exact ⟨⟨none, 0, rfl, hB2 (bytes_nil _)⟩, hL2, hK2⟩
end Go.Proofs.Ytaobhbfhbmenfaa
/- link: the law on patience. -/
namespace Go.Proofs.Ytaobhbfhbmenfaa
open Go.RowKit
set_option maxRecDepth 10000
variable {w : World}
def lkA (n i : Nat) : Lk := { Lk.new 5 n 0 with ticks := i }
def lkB (n q i : Nat) : Lk := { Lk.new 5 n 0 with ticks := q + i, heard := q, out := if i = 0 then [⟨2, 6, 0, 0, [], 0, 0⟩] else [], good := 1 }
theorem sz_of (l : List UInt8) : (⟨l.toArray⟩ : ByteArray).size = l.length := by simp [ByteArray.size]
theorem wf5 : Msg.wf ⟨1, 5, 0, 0, [], 0, 0⟩ := ⟨by decide, by decide, by decide, by decide, by decide, by decide⟩
theorem wf6 : Msg.wf ⟨2, 6, 0, 0, [], 0, 0⟩ := ⟨by decide, by decide, by decide, by decide, by decide, by decide⟩
theorem wf7 : Msg.wf byeM := ⟨by decide, by decide, by decide, by decide, by decide, by decide⟩
theorem hear_out (l : Lk) (s : List UInt8) (h : l.state = 2) : hearF l s = (Hrd.zero, 12, l) := by unfold hearF; rw [if_pos h]
def lkZ (n q : Nat) : Lk := { lkB n q n with ticks := q + n + 1, state := 2 }
def lkO (n : Nat) : Lk := byeL (Lk.new 6 n 0)
theorem tick_on (l : Lk) (lead : Int) (h : l.ticks + 1 - l.heard ≤ l.patience) : tickF l lead = saysF (upL l) lead := by
  unfold tickF endL
  rw [if_neg (show ¬ (upL l).patience < (upL l).ticks - (upL l).heard by simp only [upL]; omega)]
theorem tick_off (l : Lk) (lead : Int) (h : l.patience < l.ticks + 1 - l.heard) : tickF l lead = saysF { upL l with state := 2 } lead := by
  unfold tickF endL
  rw [if_pos (show (upL l).patience < (upL l).ticks - (upL l).heard by simp only [upL]; omega)]
theorem says_greet (l : Lk) (lead : Int) (h : l.state = 0) : saysF l lead = (l.out ++ [helloM l], { l with out := [] }) := by
  unfold saysF
  rw [if_neg (by omega), if_pos h]
theorem says_out (l : Lk) (lead : Int) (h : l.state = 2) (hb : l.bye = false) : saysF l lead = ([], l) := by
  unfold saysF
  rw [if_pos h, hb]
  rfl
theorem tick_A (n i : Nat) (h : i + 1 ≤ n) : tickF (lkA n i) 0 = ([⟨1, 5, 0, 0, [], 0, 0⟩], lkA n (i + 1)) := by
  rw [tick_on _ _ (by simp [lkA, Lk.new]; omega), says_greet _ _ rfl]
  rfl
theorem tick_B (n q i : Nat) (h : i + 1 ≤ n) : tickF (lkB n q i) 0 = ((lkB n q i).out ++ [⟨1, 5, 0, 0, [], 0, 0⟩], lkB n q (i + 1)) := by
  rw [tick_on _ _ (by simp [lkB, Lk.new]; omega), says_greet _ _ rfl]
  simp [lkB, Lk.new, upL, helloM]
  omega
theorem tick_end (n q : Nat) : tickF (lkB n q n) 0 = ([], { lkB n q n with ticks := q + n + 1, state := 2 }) := by
  rw [tick_off _ _ (by simp [lkB, Lk.new]; omega), says_out _ _ rfl rfl]
  simp [lkB, Lk.new, upL]
theorem tick_o1 (n : Nat) (h : 1 ≤ n) : tickF (lkO n) 0 = ([byeM], { Lk.new 6 n 0 with ticks := 1, state := 2 }) := by
  rw [tick_on _ _ (by simp [lkO, byeL, Lk.new]; omega)]
  simp [lkO, byeL, Lk.new, saysF, upL]
theorem tick_o2 (n : Nat) : tickF { Lk.new 6 n 0 with ticks := 1, state := 2 } 0 = ([], { Lk.new 6 n 0 with ticks := 2, state := 2 }) := by
  by_cases h : n = 1
  · rw [tick_off _ _ (by simp [Lk.new, h]), says_out _ _ rfl rfl]
    simp [Lk.new, upL]
  · rcases Nat.lt_or_ge n 2 with h2 | h2
    · rw [tick_off _ _ (by simp [Lk.new]; omega), says_out _ _ rfl rfl]
      simp [Lk.new, upL]
    · rw [tick_on _ _ (by simp [Lk.new]; omega), says_out _ _ rfl rfl]
      simp [Lk.new, upL]
theorem hear_bye (n : Nat) : hearF (Lk.new 7 n 0) (packM byeM) = (⟨7, 0, [], 0, 0, 0⟩, 0, { Lk.new 7 n 0 with state := 2, good := 1 }) := by
  have hu := unpM_pack byeM (by decide) wf7
  unfold hearF
  rw [hu]
  simp [Lk.new, takesF, byeM]
theorem hear_A (n q : Nat) : hearF (lkA n q) (packM ⟨1, 6, 0, 0, [], 0, 0⟩) = (⟨1, 0, [], 0, 0, 0⟩, 0, lkB n q 0) := by
  have hu := unpM_pack ⟨1, 6, 0, 0, [], 0, 0⟩ (by decide) ⟨by decide, by decide, by decide, by decide, by decide, by decide⟩
  unfold hearF
  rw [hu]
  simp [lkA, lkB, Lk.new, takesF]
/-- a new link, wherever it lies -/
theorem lk_NewB (nonce patience first : Int) (hp : 1 ≤ patience ∧ patience ≤ 10000) (hf : 0 ≤ first ∧ first ≤ 1073741824) (w : World) :
    Calls Try.prog 16 #[.int .u32 nonce, .int .i64 patience, .int .i64 first] w fun e w' =>
      ∃ B : LB, e = .returned (.tuple #[.pointer (some ⟨B.p, 0, none⟩), .int .i64 0]) ∧ IsLink w' B (Lk.new nonce patience first) ∧ Below w.heap.size w w' ∧ ∀ k, B.S k → w.heap.size ≤ k ∧ k < w'.heap.size := by
  refine (lk_New nonce patience first hp hf w).mono ?_
  rintro e w' ⟨rfl, hL, hb⟩
  refine ⟨_, rfl, hL, hb, fun k hk => ?_⟩
  have h9 := hL.lt
  simp only [LB.S] at hk h9
  omega
theorem bk {w A C : World} {S : Nat → Prop} (h : Below w.heap.size w A) (hk : Keeps S A C) (hs : ∀ k, S k → w.heap.size ≤ k) : Below w.heap.size w C :=
  h.trans (hk.below h.size fun k h1 h2 => by have := hs k h2; omega)
theorem law_LinkWaits (a b : Int) (ha : (Lit.int .u8 a).wf = true) (hb : (Lit.int .u8 b).wf = true) (w : World) :
    Calls Try.prog 5 #[.int .u8 a, .int .u8 b] w fun e w' => e = .returned (.bool true) ∧ Below w.heap.size w w' := by
  obtain ⟨n, hn1, hn2, hnv⟩ : ∃ n : Nat, 1 ≤ n ∧ n ≤ 200 ∧ wrap64 (1 + (wrap64 a).tmod 200) = (n : Int) := by
    have h1 := wf_u8 ha
    have h2 : wrap64 a = a := by unfold wrap64; omega
    rw [h2, Int.tmod_eq_emod_of_nonneg h1.1]
    refine ⟨(1 + a % 200).toNat, by omega, by omega, ?_⟩
    unfold wrap64
    omega
  obtain ⟨q, hq, hqv⟩ : ∃ q : Nat, q < n ∧ (wrap64 b).tmod n = (q : Int) := by
    have h1 := wf_u8 hb
    have h2 : wrap64 b = b := by unfold wrap64; omega
    rw [h2, Int.tmod_eq_emod_of_nonneg h1.1]
    have h3 := Int.emod_nonneg b (b := (n : Int)) (by omega)
    have h4 := Int.emod_lt_of_pos b (b := (n : Int)) (by omega)
    exact ⟨(b % n).toNat, by omega, by omega⟩
  go_enter Try.func5, Try.ntmps5
  go_wp2_with fail
  refine (awake16 _).mono ?_
  rintro e w1 ⟨rfl, hb1⟩
  go_wp2_with fail
  rw [hnv]
  refine (lk_NewB 5 n 0 (by omega) (by omega) w1).mono ?_
  rintro e w2 ⟨B1, rfl, hA, hb2, hB1⟩
  go_wp2_with fail
  refine (lk_NewB 6 n 0 (by omega) (by omega) w2).mono ?_
  rintro e w3 ⟨B2, rfl, hO, hb3, hB2⟩
  have hA : IsLink w3 B1 (lkA n 0) := hA.keeps (S := fun _ => False) (Keeps.of_below hb3 (fun k h1 h2 => by omega)) (fun _ _ => id)
  have hd : ∀ k, B1.S k → ¬ B2.S k := fun k h1 h2 => by
    have := hB1 k h1
    have := hB2 k h2
    omega
  have hs1 := hb1.size
  have hs2 := hb2.size
  have hw1 : ∀ k, B1.S k → w.heap.size ≤ k := fun k h1 => by have := hB1 k h1; omega
  have hw2 : ∀ k, B2.S k → w.heap.size ≤ k := fun k h1 => by have := hB2 k h1; omega
  have hbe : Below w.heap.size w w3 := (hb1.trans (hb2.mono hs1)).trans (hb3.mono (Nat.le_trans hs1 hs2))
  clear hb1 hb2 hb3 hB1 hB2 hs1 hs2
  have Hd := hid hd
  have Hw1 := hid hw1
  have Hw2 := hid hw2
  have Hbe := hid hbe
  have HA := hid hA
  have HO := hid hO
  clear hd hw1 hw2 hbe hA hO
  go_wp2_with fail
  go_loopg [11] q (fun g i wr => ∃ k : Nat, g = q - k ∧ k ≤ q ∧ i = .int .i64 k ∧ IsLink wr B1 (lkA n k) ∧ Keeps B1.S w3 wr)
  case atStart => exact ⟨0, by omega, by omega, rfl, HA.out, Keeps.refl _ _⟩
  case round =>
    obtain ⟨k, hg, hk, rfl, hL, hkr⟩ := hrel
    clear HA
    by_cases hlt : k < q
    · have hT := lk_Tick hL 0 (by simp [lkA]; omega) (by simp [lkA, Lk.new]) (by simp [lkA, Lk.new]) (by rw [tick_A n k (by omega)]; simp; exact ⟨wf5, by decide⟩) (by rw [tick_A n k (by omega)]; simp)
      have HT := hid hT
      have Hkr := hid hkr
      clear hT hL hkr
      go_wp2_with fail
      refine HT.out.mono ?_
      rintro e w4 ⟨⟨A, cap, rfl, _⟩, hL2, hk2⟩
      rw [tick_A n k (by omega)] at hL2
      have HL2 := hid hL2
      have Hk2 := hid (Hkr.out.trans hk2)
      clear hL2 hk2
      go_wp2_with fail
      go_roundg (q - (k + 1))
      case rel => exact ⟨k + 1, by omega, by omega, by go_num, HL2.out, Hk2.out⟩
      case measure => omega
    · obtain rfl : k = q := by omega
      have HL := hid hL
      have Hkr := hid hkr
      clear hL hkr
      have hP := fun W => ref_Pack (w := W) (a := none) (c := 0) ⟨1, 6, 0, 0, [], 0, 0⟩ (bytes_nil _) ⟨by decide, by decide, by decide, by decide, by decide, by decide⟩ (by decide)
      go_wp2_with fail
      refine (hP _).mono ?_
      rintro e w4 ⟨rfl, hb4⟩
      have hpl := pack_len ⟨1, 6, 0, 0, [], 0, 0⟩ (by decide)
      have hL4 := HL.out.below hb4
      have hK4 := Hkr.out.then_below hb4
      clear HL Hkr hb4 hP
      generalize hpk : packM ⟨1, 6, 0, 0, [], 0, 0⟩ = pk at *
      have hH := lk_Hear hL4 ⟨pk.toArray⟩ (by rw [sz_of]; omega) (by simp [lkA, Lk.new]) (by simp [lkA, Lk.new]) (by simp [lkA, Lk.new]) (by simp [lkA, Lk.new]) (by simp [lkA, Lk.new])
      rw [show (ByteArray.mk pk.toArray).data.toList = packM ⟨1, 6, 0, 0, [], 0, 0⟩ by rw [hpk], hear_A] at hH
      have HH := hid hH
      have HK4 := hid hK4
      have Hpk := hid hpk
      clear hH hK4 hL4 hpk
      go_wp2_with fail
      refine HH.out.mono ?_
      rintro e w5 ⟨⟨a5, c5, rfl, _⟩, hL5, hk5⟩
      have HL5 := hid hL5
      have HK5 := hid (HK4.out.trans hk5)
      clear HH HK4 hL5 hk5
      have hal5 := (Keeps.refl (fun _ => False) w5).alloc (.cells (hC ⟨1, 0, [], 0, 0, 0⟩ a5 c5) 51)
      have HL5 := hid (HL5.out.keeps hal5 (fun _ _ => id))
      have HK5 := hid (HK5.out.trans (hal5.mono (fun _ _ h => h.elim)))
      clear hal5
      unfold hC at *
      go_upto_region 15 with fail
      generalize World.alloc w5 _ = w6 at *
      go_wp2_with fail
      go_loopg [15] n (fun g i wr => ∃ k2 : Nat, g = n - k2 ∧ k2 ≤ n ∧ i = .int .i64 k2 ∧ IsLink wr B1 (lkB n k k2) ∧ Keeps B1.S w6 wr)
      case atStart => exact ⟨0, rfl, by omega, rfl, HL5.out, Keeps.refl _ _⟩
      case round =>
        obtain ⟨k2, hg, hk, rfl, hL, hkr⟩ := hrel
        clear HL5
        by_cases hlt2 : k2 < n
        · have hT := lk_Tick hL 0 (by simp [lkB]; omega) (by simp [lkB]; omega) (by simp only [lkB]; split <;> simp) (by rw [tick_B n k k2 (by omega)]; simp only [lkB]; split <;> simp <;> first | exact ⟨⟨wf6, by decide⟩, wf5, by decide⟩ | exact ⟨wf5, by decide⟩) (by rw [tick_B n k k2 (by omega)]; simp only [lkB]; split <;> simp)
          have HT := hid hT
          have Hkr := hid hkr
          clear hT hL hkr
          go_wp2_with fail
          refine HT.out.mono ?_
          rintro e w4 ⟨⟨A, cap, rfl, _⟩, hL2, hk2⟩
          rw [tick_B n k k2 (by omega)] at hL2 ⊢
          have hne : ((((lkB n k k2).out ++ [(⟨1, 5, 0, 0, [], 0, 0⟩ : Msg)]).length : Nat) : Int) ≠ 0 := by simp; omega
          have hst := fun W (h : IsLink W B1 (lkB n k (k2 + 1))) => lk_State h
          simp only at *
          generalize ((lkB n k k2).out ++ [(⟨1, 5, 0, 0, [], 0, 0⟩ : Msg)]).length = ln at *
          have HL2 := hid hL2
          have Hk2 := hid (Hkr.out.trans hk2)
          clear hL2 hk2
          go_wp2_with fail
          refine (hst w4 HL2.out).mono ?_
          rintro e _ ⟨rfl, rfl⟩
          simp only [lkB, Lk.new]
          go_wp2_with fail
          go_roundg (n - (k2 + 1))
          case rel => exact ⟨k2 + 1, by omega, by omega, by go_num, HL2.out, Hk2.out⟩
          case measure => omega
        · obtain rfl : n = k2 := by omega
          have hT := lk_Tick hL 0 (by simp [lkB]; omega) (by simp [lkB]; omega) (by simp only [lkB]; split <;> simp) (by rw [tick_end]; simp) (by rw [tick_end]; simp)
          have HT := hid hT
          have Hkr := hid hkr
          clear hT hL hkr
          go_wp2_with fail
          refine HT.out.mono ?_
          rintro e w7 ⟨⟨A, cap, rfl, _⟩, hL7, hk7⟩
          rw [tick_end] at hL7 ⊢
          have hH := lk_Hear hL7 ⟨pk.toArray⟩ (by rw [sz_of]; omega) (by simp [lkB, Lk.new]) (by simp [lkB, Lk.new]) (by simp [lkB, Lk.new]) (by simp [lkB, Lk.new]) (by simp [lkB, Lk.new])
          rw [hear_out _ _ (by rfl)] at hH
          have HH := hid hH
          have hk67 := (HK5.out.trans Hkr.out).trans hk7
          have HK7 := hid hk67
          clear HT hH hL7 hk7 hk67 Hkr HK5
          go_wp2_with fail
          refine HH.out.mono ?_
          rintro e w8 ⟨⟨a8, c8, rfl, _⟩, hL8, hk8⟩
          have hal8 := (Keeps.refl (fun _ => False) w8).alloc (.cells (hC Hrd.zero a8 c8) 51)
          have HL8 := hid (hL8.keeps hal8 (fun _ _ => id))
          have HK8 := hid ((HK7.out.trans hk8).trans (hal8.mono (fun _ _ h => h.elim)))
          clear hal8 hL8 hk8 HK7 HH
          unfold hC Hrd.zero at *
          go_upto_region 22 with fail
          generalize World.alloc w8 _ = w9 at *
          have hO9 := HO.out.keeps HK8.out (fun b h2 h1 => Hd.out b h1 h2)
          have hb9 := bk Hbe.out HK8.out Hw1.out
          have HB := hid (lk_Bye hO9)
          have HB9 := hid hb9
          clear hO9 hb9 HO Hbe HK8
          go_wp2_with fail
          refine HB.out.mono ?_
          rintro e w10 ⟨rfl, hO10, hk10⟩
          have hL10 := HL8.out.keeps hk10 (fun b h1 h2 => Hd.out b h1 h2)
          have hb10 := bk HB9.out hk10 Hw2.out
          have HL10 := hid hL10
          have HB10 := hid hb10
          have hO10lt := hO10.lt
          have hT := lk_Tick (l := lkO n) hO10 0 (by simp [lkO, byeL, Lk.new]) (by simp [lkO, byeL, Lk.new]) (by simp [lkO, byeL, Lk.new]) (by rw [tick_o1 n hn1]; simp; exact ⟨wf7, by decide⟩) (by rw [tick_o1 n hn1]; simp)
          have HT := hid hT
          clear hT hL10 hb10 HB9 HL8 hO10 hk10 HB
          go_wp2_with fail
          refine HT.out.mono ?_
          rintro e w11 ⟨⟨A11, cap11, rfl, hV11, hn11⟩, hO11, hk11⟩
          rw [tick_o1 n hn1] at hO11 hV11 ⊢
          have HL11 := hid (HL10.out.keeps hk11 (fun b h1 h2 => Hd.out b h1 h2))
          have HB11 := hid (bk HB10.out hk11 Hw2.out)
          have hT := lk_Tick hO11 0 (by simp) (by simp [Lk.new]) (by simp [Lk.new]) (by rw [tick_o2]; simp) (by rw [tick_o2]; simp)
          have HT := hid hT
          obtain ⟨b11, o11, rfl, hc11⟩ := hV11.at' (by simp)
          have d11 : w11.cell? ⟨b11, o11, none⟩ = some (.string ⟨(packM byeM).toArray⟩) := hc11 0 _ rfl
          have hn11 : w10.heap.size ≤ b11 := hn11 _ rfl
          have h9 := hO10lt
          have hb11 : ¬ B2.S b11 := fun hc => by rcases hc with e | e | e | e | e <;> omega
          have D11 := hid d11
          have hpl7 := pack_len byeM (by decide)
          clear hV11 hc11 hO11 hk11 HL10 HB10 d11 h9
          go_wp2_with fail
          refine HT.out.mono ?_
          rintro e w12 ⟨⟨A12, cap12, rfl, _⟩, hO12, hk12⟩
          rw [tick_o2] at ⊢
          have d12 := hk12.cell D11.out hb11
          have HL12 := hid (HL11.out.keeps hk12 (fun b h1 h2 => Hd.out b h1 h2))
          have HB12 := hid (bk HB11.out hk12 Hw2.out)
          clear HT hO12 hk12 HL11 HB11 D11
          go_wp2_with fail
          refine (lk_NewB 7 n 0 (by omega) (by omega) w12).mono ?_
          rintro e w13 ⟨B3, rfl, hP, hb13, hB3⟩
          have hk13 := Keeps.of_below (S := fun _ => False) hb13 (fun k h1 h2 => by omega)
          have d13 := hk13.cell d12 id
          have hL13 := HL12.out.keeps hk13 (fun _ _ => id)
          have hd3 : ∀ k, B1.S k → ¬ B3.S k := fun k h1 h2 => by
            have := hB3 k h2
            have h9 := HL12.out.lt
            rcases h1 with e | e | e | e | e <;> omega
          have hw3 : ∀ k, B3.S k → w.heap.size ≤ k := fun k h1 => by
            have := hB3 k h1
            have := HB12.out.size
            omega
          have hb13 := HB12.out.trans (hb13.mono HB12.out.size)
          have hH := lk_Hear hP ⟨(packM byeM).toArray⟩ (by rw [sz_of]; omega) (by simp [Lk.new]) (by simp [Lk.new]) (by simp [Lk.new]) (by simp [Lk.new]) (by simp [Lk.new])
          rw [show (ByteArray.mk (packM byeM).toArray).data.toList = packM byeM by simp, hear_bye] at hH
          generalize packM byeM = pb at *
          have HH := hid hH
          have HL13 := hid hL13
          have HB13 := hid hb13
          have Hd3 := hid hd3
          have Hw3 := hid hw3
          clear hH hL13 hb13 hd3 hw3 hB3 HL12 HB12 d12 hk13 hP
          go_wp2_with fail
          refine HH.out.mono ?_
          rintro e w14 ⟨⟨a14, c14, rfl, _⟩, hP14, hk14⟩
          have HL14 := hid (HL13.out.keeps hk14 (fun b h1 h2 => Hd3.out b h1 h2))
          have HB14 := hid (bk HB13.out hk14 Hw3.out)
          have hS1 := lk_State HL14.out
          have hS3 := lk_State hP14
          have hOw := lk_Own hP14 0 0 (by simp [Lk.new])
          have hE : ownE { Lk.new 7 n 0 with state := 2, good := 1 } 0 0 = 12 := rfl
          have hEL : ownL { Lk.new 7 n 0 with state := 2, good := 1 } 0 0 = { Lk.new 7 n 0 with state := 2, good := 1 } := rfl
          rw [hE, hEL] at hOw
          have hRp := fun W (h : IsLink W B3 { Lk.new 7 n 0 with state := 2, good := 1 }) => lk_Report h 0 0
          have hE : repE { Lk.new 7 n 0 with state := 2, good := 1 } 0 = 12 := rfl
          rw [hE] at hRp
          have HS1 := hid hS1
          have HS3 := hid hS3
          have HOw := hid hOw
          have HRp := hid hRp
          clear hS1 hS3 hOw hRp HH HL13 HB13 hk14 hP14 hE hEL d13
          unfold hC
          go_wp2_with fail
          refine HS1.out.mono ?_
          rintro e _ ⟨rfl, rfl⟩
          simp only
          go_wp2_with fail
          refine HS3.out.mono ?_
          rintro e _ ⟨rfl, rfl⟩
          simp only
          go_wp2_with fail
          refine HOw.out.mono ?_
          rintro e w15 ⟨rfl, hP15, hk15⟩
          have HB15 := hid (bk HB14.out hk15 Hw3.out)
          have HP15 := hid hP15
          clear hP15 hk15
          go_wp2_with fail
          refine (HRp.out w15 HP15.out).mono ?_
          rintro e w16 ⟨rfl, _, hk16⟩
          have HB16 := hid (bk HB15.out hk16 Hw3.out)
          clear hk16
          go_wp2_with fail
          go_ret
          exact ⟨rfl, HB16.out⟩
end Go.Proofs.Ytaobhbfhbmenfaa
