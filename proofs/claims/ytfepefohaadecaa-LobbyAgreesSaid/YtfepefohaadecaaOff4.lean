/- lobby.Unpack, all ways. -/
import Derived.Test.YtfepefohaadecaaOff3
import Derived.Test.YtfepefohaadecaaTree
namespace Go.Proofs.Ytfepefohaadecaa
open Go.RowKit
set_option maxRecDepth 10000
variable {w : World}
theorem info_pi : (Try.prog.info? 107).map (fun i => (i.zero, i.size, i.bytes)) = some (some (.pointer none), 1, 8) := by kernel_rfl
theorem own_blk {w : World} {base g n : Nat} {cur : Array Value} {e : TypeId} (hb : base ≤ g) (h : w.heap[g]? = some (.cells cur e (0, 0))) (hn : cur.size = n) (hm : n ≤ maxLen) :
    w.ownsRow base e 1 (.slice (some ⟨g, 0, none⟩) n n) n cur.toList :=
  ⟨by simp [hn], .inr ⟨g, n, cur, rfl, hb, h, Nat.le_refl _, hm, by simp [hn], by rw [List.take_of_length_le (by simp [hn])]⟩⟩
theorem vals_blk {w : World} {g n : Nat} {cur : Array Value} {e : TypeId} (h : w.heap[g]? = some (.cells cur e (0, 0))) (hn : cur.size = n) (hm : n ≤ maxLen) :
    Vals w 1 (some ⟨g, 0, none⟩) n n cur.toList :=
  ⟨by simp [hn], Nat.le_refl _, hm, fun _ => ⟨g, 0, rfl, fun j u hu => by rw [Nat.zero_add]; exact blk_cell h (by simpa using hu)⟩⟩
/-- the cells of an offer under way: its seed stands elsewhere -/
def oC (o : Offer) : Array Value := #[.int .i64 o.r, .int .u32 0, .int .i64 o.ld, .int .i64 o.md, .int .i64 o.lw, .int .i64 o.mw]
structure IsO (w : World) (Bo Bs : Nat) (vs : List Nat) : Prop where
  off : w.heap[Bo]? = some (.cells (oC (ofNums vs)) 63 (0, 0))
  seed : w.heap[Bs]? = some (.cells #[.int .i64 (ofNums vs).s] 3 (0, 0))
  ne : Bo ≠ Bs
theorem IsO.keeps {S : Nat → Prop} {w w' : World} {Bo Bs : Nat} {vs : List Nat} (h : IsO w Bo Bs vs) (hk : Keeps S w w') (h1 : ¬ S Bo) (h2 : ¬ S Bs) : IsO w' Bo Bs vs := ⟨hk.heap h.off h1, hk.heap h.seed h2, h.ne⟩
def sixP (Bo Bs : Nat) : List Value := [.pointer (some ⟨Bo, 0, none⟩), .pointer (some ⟨Bs, 0, none⟩), .pointer (some ⟨Bo, 2, none⟩), .pointer (some ⟨Bo, 3, none⟩), .pointer (some ⟨Bo, 4, none⟩), .pointer (some ⟨Bo, 5, none⟩)]
/-- the pointer of a round, and what a store through it leaves -/
structure Step (w : World) (Bo Bs : Nat) (vs : List Nat) (k pb po : Nat) (v : Value) : Prop where
  ptr : (sixP Bo Bs)[k]? = some (.pointer (some ⟨pb, po, none⟩))
  cell : w.cell? ⟨pb, po, none⟩ = some v
  free : w.frozen? ⟨pb, po, none⟩ = false
  next : ∀ x : Nat, IsO (w.setCell ⟨pb, po, none⟩ (.int .i64 (x : Nat))) Bo Bs (vs ++ [x])
  at_ : pb = Bo ∨ pb = Bs
theorem isO_step {w : World} {Bo Bs : Nat} {vs : List Nat} (h : IsO w Bo Bs vs) (k : Nat) (hk : vs.length = k) (h6 : k < 6) : ∃ pb po v, Step w Bo Bs vs k pb po v := by
  obtain ⟨h1, h2, h3⟩ := h
  have step : ∀ (j : Nat) (x : Nat) (u : Value), (oC (ofNums vs))[j]? = some u → (oC (ofNums vs)).setIfInBounds j (.int .i64 (x : Nat)) = oC (ofNums (vs ++ [x])) → (ofNums (vs ++ [x])).s = (ofNums vs).s → IsO (w.setCell ⟨Bo, j, none⟩ (.int .i64 (x : Nat))) Bo Bs (vs ++ [x]) :=
    fun j x u hu he hs => ⟨by have := blk_set h1 j (.int .i64 (x : Nat)); rw [he] at this; exact this, by rw [hs]; exact blk_other h2 (Ne.symm h3) _, h3⟩
  match vs, k, hk, h6 with
  | [], 0, _, _ => exact ⟨Bo, 0, _, rfl, blk_cell h1 rfl, blk_free h1 0, fun x => step 0 x _ rfl rfl rfl, .inl rfl⟩
  | [a], 1, _, _ =>
    refine ⟨Bs, 0, _, rfl, blk_cell h2 rfl, blk_free h2 0, fun x => ⟨blk_other h1 h3 _, ?_, h3⟩, .inr rfl⟩
    have := blk_set h2 0 (.int .i64 (x : Nat))
    simpa [ofNums] using this
  | [a, b], 2, _, _ => exact ⟨Bo, 2, _, rfl, blk_cell h1 rfl, blk_free h1 2, fun x => step 2 x _ rfl rfl rfl, .inl rfl⟩
  | [a, b, c], 3, _, _ => exact ⟨Bo, 3, _, rfl, blk_cell h1 rfl, blk_free h1 3, fun x => step 3 x _ rfl rfl rfl, .inl rfl⟩
  | [a, b, c, d], 4, _, _ => exact ⟨Bo, 4, _, rfl, blk_cell h1 rfl, blk_free h1 4, fun x => step 4 x _ rfl rfl rfl, .inl rfl⟩
  | [a, b, c, d, f], 5, _, _ => exact ⟨Bo, 5, _, rfl, blk_cell h1 rfl, blk_free h1 5, fun x => step 5 x _ rfl rfl rfl, .inl rfl⟩
theorem lob_unp_form (s : ByteArray) (hs : s.size ≤ maxLen) (t : List UInt8) (hop : opened s.data.toList = (t, 0)) (ht : t.take 1 ≠ [79]) :
    Calls Try.prog 31 #[.string s] w (UnpO w (Offer.zero, 4)) := by
  have hO := sum_Open s hs (w.alloc (.cells zeroO 63))
  rw [hop] at hO
  have HO := hid hO
  clear hO hop hs
  cases t with
  | nil =>
    clear ht
    go_enter Try.func31, Try.ntmps31
    go_wp2_with fail
    refine HO.out.mono ?_
    rintro e w1 ⟨rfl, hb1⟩
    have hres := (Keeps.of_below (S := fun _ => False) hb1 (fun k h1 h2 => by omega)).heap (blk_new w (.cells zeroO 63)) id
    have hW : Below w.heap.size w w1 := ((Below.refl _ w).alloc (Nat.le_refl _) _).trans (hb1.mono (by simp))
    unfold zeroO at hres
    clear hb1
    have f0 := blk_free hres 0
    have e0 := blk_cell hres (k := 0) rfl
    have f1 := blk_free hres 1
    have e1 := blk_cell hres (k := 1) rfl
    have f2 := blk_free hres 2
    have e2 := blk_cell hres (k := 2) rfl
    have f3 := blk_free hres 3
    have e3 := blk_cell hres (k := 3) rfl
    have f4 := blk_free hres 4
    have e4 := blk_cell hres (k := 4) rfl
    have f5 := blk_free hres 5
    have e5 := blk_cell hres (k := 5) rfl
    go_wp2_with fail
    have hf := blk_store6 hres (.int .i64 0) (.int .u32 0) (.int .i64 0) (.int .i64 0) (.int .i64 0) (.int .i64 0)
    have d0 := blk_cell hf (k := 0) rfl
    have d1 := blk_cell hf (k := 1) rfl
    have d2 := blk_cell hf (k := 2) rfl
    have d3 := blk_cell hf (k := 3) rfl
    have d4 := blk_cell hf (k := 4) rfl
    have d5 := blk_cell hf (k := 5) rfl
    have hbl := below_store6 hW (Nat.le_refl _) (.int .i64 0) (.int .u32 0) (.int .i64 0) (.int .i64 0) (.int .i64 0) (.int .i64 0)
    refine bodyPost_ret (v := .tuple #[.agg #[.int .i64 0, .int .u32 0, .int .i64 0, .int .i64 0, .int .i64 0, .int .i64 0], .int .i64 4]) (by simp [results, Try.results31, go_sem, d0, d1, d2, d3, d4, d5]) rfl ?_
    exact ⟨rfl, hbl⟩
  | cons c r =>
    have hc : c ≠ 79 := by rintro rfl; exact ht rfl
    have hq : ((c.toNat : Int) != 79) = true := by
      simp only [bne_iff_ne, ne_eq]
      intro h
      exact hc (UInt8.toNat_inj.1 (by show c.toNat = 79; omega))
    clear ht hc
    obtain ⟨T, hT⟩ : ∃ T : ByteArray, (⟨(c :: r).toArray⟩ : ByteArray) = T := ⟨_, rfl⟩
    rw [hT] at HO
    have hsz : 0 < T.size := by rw [← hT]; show 0 < (c :: r).toArray.size; simp
    have hne : T.toList.isEmpty = false := by rw [← hT, ByteArray.toList_eq]; rfl
    have hne2 : ¬ T.toList = [] := by rw [← hT, ByteArray.toList_eq]; simp
    have hix : T[0]'hsz = c := by subst hT; rfl
    rw [← hix] at hq
    clear hix hT
    go_enter Try.func31, Try.ntmps31
    go_wp2_with fail
    refine HO.out.mono ?_
    rintro e w1 ⟨rfl, hb1⟩
    have hres := (Keeps.of_below (S := fun _ => False) hb1 (fun k h1 h2 => by omega)).heap (blk_new w (.cells zeroO 63)) id
    have hW : Below w.heap.size w w1 := ((Below.refl _ w).alloc (Nat.le_refl _) _).trans (hb1.mono (by simp))
    unfold zeroO at hres
    clear hb1
    have f0 := blk_free hres 0
    have e0 := blk_cell hres (k := 0) rfl
    have f1 := blk_free hres 1
    have e1 := blk_cell hres (k := 1) rfl
    have f2 := blk_free hres 2
    have e2 := blk_cell hres (k := 2) rfl
    have f3 := blk_free hres 3
    have e3 := blk_cell hres (k := 3) rfl
    have f4 := blk_free hres 4
    have e4 := blk_cell hres (k := 4) rfl
    have f5 := blk_free hres 5
    have e5 := blk_cell hres (k := 5) rfl
    go_wp2_with fail
    have hf := blk_store6 hres (.int .i64 0) (.int .u32 0) (.int .i64 0) (.int .i64 0) (.int .i64 0) (.int .i64 0)
    have d0 := blk_cell hf (k := 0) rfl
    have d1 := blk_cell hf (k := 1) rfl
    have d2 := blk_cell hf (k := 2) rfl
    have d3 := blk_cell hf (k := 3) rfl
    have d4 := blk_cell hf (k := 4) rfl
    have d5 := blk_cell hf (k := 5) rfl
    have hbl := below_store6 hW (Nat.le_refl _) (.int .i64 0) (.int .u32 0) (.int .i64 0) (.int .i64 0) (.int .i64 0) (.int .i64 0)
    refine bodyPost_ret (v := .tuple #[.agg #[.int .i64 0, .int .u32 0, .int .i64 0, .int .i64 0, .int .i64 0, .int .i64 0], .int .i64 4]) (by simp [results, Try.results31, go_sem, d0, d1, d2, d3, d4, d5]) rfl ?_
    exact ⟨rfl, hbl⟩
def BehR (r : List UInt8) (vs : List Nat) (k : Nat) (R : ByteArray) : Prop := behind vs (readNs (6 - k) R.data.toList) = readNs 6 r
theorem beh_no {r : List UInt8} {vs : List Nat} {k : Nat} {R : ByteArray} (h : BehR r vs k R) (hk : k < 6) (hn : ¬ ((rdNum R.data.toList).2.2 = 0 ∧ (rdNum R.data.toList).1 ≤ 4294967295)) : readQ r = (Offer.zero, 4) := by
  unfold BehR at h
  obtain ⟨f, hf⟩ : ∃ f, 6 - k = f + 1 := ⟨5 - k, by omega⟩
  rw [hf, behind_none vs f _ hn] at h
  unfold readQ
  rw [← h]
theorem beh_yes {r : List UInt8} {vs : List Nat} {k : Nat} {R : ByteArray} (h : BehR r vs k R) (hk : k < 6) (hn : (rdNum R.data.toList).2.2 = 0 ∧ (rdNum R.data.toList).1 ≤ 4294967295) (Q : ByteArray) (hQ : Q.data.toList = R.data.toList.drop (rdNum R.data.toList).2.1) :
    BehR r (vs ++ [(rdNum R.data.toList).1]) (k + 1) Q := by
  unfold BehR at *
  obtain ⟨f, hf⟩ : ∃ f, 6 - k = f + 1 := ⟨5 - k, by omega⟩
  rw [show 6 - (k + 1) = f by omega, hQ, ← behind_step vs f _ hn, ← hf]
  exact h
theorem beh_end {r : List UInt8} {vs : List Nat} {R : ByteArray} (h : BehR r vs 6 R) : readQ r = if R.data.toList = [] ∧ RightO (ofNums vs) then (ofNums vs, 0) else (Offer.zero, 4) := by
  unfold BehR at h
  rw [show 6 - 6 = 0 from rfl, behind_end] at h
  unfold readQ
  rw [← h]
theorem ofNums_in (vs : List Nat) (h : ∀ v ∈ vs, v ≤ 4294967295) : 0 ≤ (ofNums vs).s ∧ (ofNums vs).s ≤ 4294967295 := by
  simp only [ofNums]
  have : vs.getD 1 0 ≤ 4294967295 := by
    rw [List.getD_eq_getElem?_getD]
    cases h1 : vs[1]? with
    | none => simp
    | some x => exact h x (List.mem_of_getElem? h1)
  omega
set_option maxHeartbeats 4000000 in
theorem lob_unp_main (s : ByteArray) (hs : s.size ≤ maxLen) (r : List UInt8) (hop : opened s.data.toList = (79 :: r, 0)) (hr : r.length ≤ 100000) :
    Calls Try.prog 31 #[.string s] w (UnpO w (readQ r)) := by
  have hO := sum_Open s hs (w.alloc (.cells zeroO 63))
  rw [hop] at hO
  obtain ⟨i0, hi, hz0, hz1, hz2⟩ := info_parts info_pi
  have Hi := hid hi
  obtain ⟨T, hT⟩ : ∃ T : ByteArray, (⟨(79 :: r).toArray⟩ : ByteArray) = T := ⟨_, rfl⟩
  have HO : Hid (Calls Try.prog 58 #[.string s] (w.alloc (.cells zeroO 63)) fun e w' => e = .returned (.tuple #[.string T, .int .i64 0]) ∧ Below (w.alloc (.cells zeroO 63)).heap.size (w.alloc (.cells zeroO 63)) w') := by rw [← hT]; exact hO
  have hsz : 0 < T.size := by rw [← hT]; show 0 < (79 :: r).toArray.size; simp
  have hne : T.toList.isEmpty = false := by rw [← hT, ByteArray.toList_eq]; rfl
  have hne2 : ¬ T.toList = [] := by rw [← hT, ByteArray.toList_eq]; simp
  have hq : (((T[0]'hsz).toNat : Int) != 79) = false := by subst hT; rfl
  have hR : (T.extract 1 T.size).data.toList = r := by rw [extract_end, ← hT]; rfl
  have hB0 : BehR r [] 0 (T.extract 1 T.size) := by unfold BehR; rw [hR, behind_nil]
  have hRs : (T.extract 1 T.size).size ≤ 100000 := by have : (T.extract 1 T.size).data.toList.length ≤ 100000 := by rw [hR]; exact hr
                                                      simpa using this
  have HB0 := hid hB0
  have HRs := hid hRs
  clear hO hop hs hT hR hB0 hRs hr hi
  go_enter Try.func31, Try.ntmps31
  go_wp2_with fail
  refine HO.out.mono ?_
  rintro e w1 ⟨rfl, hb1⟩
  have hres := (Keeps.of_below (S := fun _ => False) hb1 (fun k h1 h2 => by omega)).heap (blk_new w (.cells zeroO 63)) id
  have hW : Below w.heap.size w w1 := ((Below.refl _ w).alloc (Nat.le_refl _) _).trans (hb1.mono (by simp))
  have hl1 : w.heap.size < w1.heap.size := by have := hb1.size; simp at this; omega
  unfold zeroO at hres
  clear hb1
  go_wp2_with fail
  obtain ⟨w2, hw2⟩ : ∃ w2, ((w1.alloc (.cells zeroO 63)).alloc (.cells #[.int .i64 0] 3)).alloc (.cells #[.pointer (some ⟨w1.heap.size, 0, none⟩), .pointer (some ⟨w1.heap.size + 1, 0, none⟩)] 107) = w2 := ⟨_, rfl⟩
  have hIs : IsO w2 w1.heap.size (w1.heap.size + 1) [] := by
    rw [← hw2]
    refine ⟨blk_alloc (blk_alloc (blk_new w1 _) _) _, ?_, by omega⟩
    have := blk_alloc (blk_new (w1.alloc (.cells zeroO 63)) (.cells #[.int .i64 0] 3)) (.cells #[.pointer (some ⟨w1.heap.size, 0, none⟩), .pointer (some ⟨w1.heap.size + 1, 0, none⟩)] 107)
    rw [World.size_alloc] at this
    exact this
  have hPt : w2.heap[w1.heap.size + 2]? = some (.cells #[.pointer (some ⟨w1.heap.size, 0, none⟩), .pointer (some ⟨w1.heap.size + 1, 0, none⟩)] 107 (0, 0)) := by
    rw [← hw2]
    have := blk_new ((w1.alloc (.cells zeroO 63)).alloc (.cells #[.int .i64 0] 3)) (.cells #[.pointer (some ⟨w1.heap.size, 0, none⟩), .pointer (some ⟨w1.heap.size + 1, 0, none⟩)] 107)
    rw [World.size_alloc, World.size_alloc] at this
    exact this
  have hk12 : Keeps (fun _ => False) w1 w2 := by rw [← hw2]; exact (((Keeps.refl _ w1).alloc _).alloc _).alloc _
  have hs2 : w2.heap.size = w1.heap.size + 3 := by rw [← hw2]; simp
  have hres2 := hk12.heap hres id
  have hW2 := hW.trans (hk12.below hW.size (fun k h1 h2 => h2))
  unfold zeroO at hw2
  have Hs2 := hid hs2
  rw [hw2]
  clear hw2 hres hW hk12 hs2
  have hF := hid (lob_fields w1.heap.size (oC (ofNums [])) hIs.off rfl)
  refine hF.out.mono ?_
  rintro e w3 ⟨rfl, q, hw3⟩
  have hk23 : Keeps (fun _ => False) w2 w3 := by rw [hw3]; exact ((Keeps.refl _ w2).alloc _).drewN q
  have hP4 : w3.heap[w2.heap.size]? = some (.cells (fourP w1.heap.size).toArray 107 (0, 0)) := by rw [hw3, drewN_heap]; exact blk_new w2 _
  have hIs3 := hIs.keeps hk23 id id
  have hPt3 := hk23.heap hPt id
  have hres3 := hk23.heap hres2 id
  have hW3 := hW2.trans (hk23.below hW2.size (fun k h1 h2 => h2))
  have hs3 : w1.heap.size + 3 ≤ w3.heap.size := by have := hk23.size; have := Hs2.out; omega
  have hv4 := vals_blk hP4 (by rfl) (by unfold maxLen; decide) (n := 4)
  have ho2 := own_blk (base := w1.heap.size + 2) (n := 2) (Nat.le_refl _) hPt3 (by rfl) (by unfold maxLen; decide)
  have H4 := hid hv4
  have O2 := hid ho2
  have Hres3 := hid hres3
  have HI3 := hid hIs3
  clear hw3 hP4 hPt3 hPt hres2 hW2 hIs hF hk23 hv4 ho2 hres3 hIs3
  go_wp2_with (at_builtin; refine wpList_append_vals _ rfl (.tmp 34) (.tmp 35) _ rfl (w1.heap.size + 2) 107 i0 _ 1 8 Try.underlying104 Hi.out hz0 hz1 hz2 rfl (by omega) _ 2 _ rfl O2.out _ 4 4 (fourP w1.heap.size).toArray.toList rfl H4.out (by intro u hu; simp [fourP] at hu; rcases hu with rfl | rfl | rfl | rfl <;> rfl) (by unfold maxLen; decide) (by decide) (by omega) ?_)
  intro v4 w4 hown4 hg4 _
  have hown : w4.ownsRow (w1.heap.size + 2) 107 1 v4 6 (sixP w1.heap.size (w1.heap.size + 1)) := hown4
  have hk34 : Keeps (fun b => b = w1.heap.size + 2) w3 w4 := (Keeps.refl _ w3).grown hg4 (fun k hk => .inl (by cases hk; rfl))
  have hI4 := HI3.out.keeps hk34 (by omega) (by omega)
  have hres4 := hk34.heap Hres3.out (by omega)
  have hW4 := hW3.trans (hk34.below hW3.size (fun k h1 h2 => by omega))
  obtain ⟨A, cap, rfl, hv6, hb6⟩ := vals_of_own hown
  have Hres4 := hid hres4
  clear hown hown4 hg4 hk34 HI3 Hres3 hres4 hW3 O2 H4 hs3
  go_wp2_with fail
  go_loopw [8, 38] (fun rv iv wr => ∃ (k : Nat) (vs : List Nat) (R : ByteArray), k ≤ 6 ∧ iv = .int .i64 k ∧ rv = .string R ∧ R.size ≤ 100000 ∧ Hid (vs.length = k) ∧ Hid (∀ v ∈ vs, v ≤ 4294967295) ∧ Hid (BehR r vs k R) ∧ IsO wr w1.heap.size (w1.heap.size + 1) vs ∧ Keeps (fun b => b = w1.heap.size ∨ b = w1.heap.size + 1) w4 wr) (fun _ iv _ => 6 - (intOf iv).toNat)
  case atStart => exact ⟨0, [], _, by omega, rfl, rfl, HRs.out, rfl, (fun v hv => by cases hv), HB0.out, hI4, Keeps.refl _ _⟩
  case round =>
    obtain ⟨k, vs, R, hk, rfl, rfl, hRs, hvl, hvin, hbeh, hI, hkr⟩ := hrel
    have hres := hkr.heap Hres4.out (by omega)
    have hW := hW4.trans (hkr.below hW4.size (fun k h1 h2 => by omega))
    by_cases hlt : k < 6
    · obtain ⟨pb, po, v, hst⟩ := isO_step hI k hvl.out hlt
      obtain ⟨b, o, rfl, hc⟩ := (hv6.keeps hkr (fun _ x hx h => by have := (hb6 x hx).1; omega)).at' (by omega)
      have hpk : wr.cell? ⟨b, o + k, none⟩ = some (.pointer (some ⟨pb, po, none⟩)) := hc k _ hst.ptr
      have hcell := hst.cell
      have hfree := hst.free
      have hnext := hid hst.next
      have hat := hid hst.at_
      have hrd := pack_ReadNumber R (by unfold maxLen; omega) wr
      obtain ⟨h1, h2, h3⟩ := rd_in R.data.toList
      have hno := hid (beh_no hbeh.out hlt)
      have hyes := hid (beh_yes hbeh.out hlt)
      have hll : R.data.toList.length = R.size := by simp
      rw [hll] at h2
      clear hc hst hll hbeh
      generalize rdNum R.data.toList = q at *
      obtain ⟨x, n, er⟩ := q
      simp only at *
      have hrd2 := hid hrd
      unfold two64 at h1
      clear hrd
      by_cases he : er = 0
      · subst he
        by_cases hx : x ≤ 4294967295
        · have hwx : IntKind.i64.wrap (x : Int) = (x : Int) := IntWalk.i64_in _ (by omega)
          have hB := hid (hyes.out ⟨rfl, hx⟩ (R.extract n R.size) (by rw [extract_end]))
          have hsz2 : (R.extract n R.size).size ≤ 100000 := by simp; omega
          have Hx := hid hx
          have hxi : (x : Int) ≤ 4294967295 := by omega
          clear hno hyes hres
          go_wp2_with fail
          refine hrd2.out.mono ?_
          rintro e w5 ⟨rfl, rfl⟩
          go_wp2_with fail
          refine stages_start (by kernel_rfl) 9 rfl ?_
          refine stagek (fun _ => True) [0, 1, 2, 3, 4, 5] [6, 7, 8] 0 rfl #[true, true, true, true, true, true, true, true, true] (by kernel_rfl) (by kernel_rfl) (fun _ _ _ d _ h => by cases d <;> exact h) ?_
          simp only [opsAt, List.map_cons, List.map_nil, List.getElem?_toArray, List.getElem?_cons_zero, List.getElem?_cons_succ, Option.getD_some]
          repeat (go_big_quiet_step (fail))
          refine wpQuiet_nil ?_
          refine links_cons (by first | rfl | simp [go_sem]) (fun K hK => ?_)
          go_simp
          refine hK _ _ (keptS (Keeps.refl _ _)) ?_
          clear hK K
          try refine links_nil ?_
          refine links_cons (by first | rfl | simp [go_sem]) (fun K hK => ?_)
          go_simp
          refine hK _ _ (keptS ((Keeps.refl _ _).setCell (p := ⟨pb, po, none⟩) trivial _)) ?_
          clear hK K
          try refine links_nil ?_
          refine links_cons (by first | rfl | simp [go_sem]) (fun K hK => ?_)
          go_simp
          refine hK _ _ (keptS ((Keeps.refl _ _).setCell (p := ⟨pb, po, none⟩) trivial _)) ?_
          clear hK K
          try refine links_nil ?_
          refine stages_end (by kernel_rfl) ?_
          go_wp2_with fail
          go_roundw
          case rel => exact ⟨k + 1, vs ++ [x], R.extract n R.size, by omega, by go_num, rfl, hsz2, by rw [List.length_append, hvl.out]; rfl, (fun v hv => by
            rcases List.mem_append.1 hv with h | h
            · exact hvin.out v h
            · simp at h; subst h; exact Hx.out), hB, (hnext.out x).keeps ((Keeps.refl (fun _ => False) _).drewN _) id id, (hkr.setCell (p := ⟨pb, po, none⟩) hat.out _).drewN _⟩
          case measure => simp [intOf]; omega
        · have hQ := hid (hno.out (fun h => hx h.2))
          have hxi : (4294967295 : Int) < x := by omega
          have f0 := blk_free hres 0
          have e0 := blk_cell hres (k := 0) rfl
          have f1 := blk_free hres 1
          have e1 := blk_cell hres (k := 1) rfl
          have f2 := blk_free hres 2
          have e2 := blk_cell hres (k := 2) rfl
          have f3 := blk_free hres 3
          have e3 := blk_cell hres (k := 3) rfl
          have f4 := blk_free hres 4
          have e4 := blk_cell hres (k := 4) rfl
          have f5 := blk_free hres 5
          have e5 := blk_cell hres (k := 5) rfl
          clear hno hyes hcell hfree
          go_wp2_with fail
          refine hrd2.out.mono ?_
          rintro e w5 ⟨rfl, rfl⟩
          go_wp2_with fail
          have hf := blk_store6 hres (.int .i64 0) (.int .u32 0) (.int .i64 0) (.int .i64 0) (.int .i64 0) (.int .i64 0)
          have d0 := blk_cell hf (k := 0) rfl
          have d1 := blk_cell hf (k := 1) rfl
          have d2 := blk_cell hf (k := 2) rfl
          have d3 := blk_cell hf (k := 3) rfl
          have d4 := blk_cell hf (k := 4) rfl
          have d5 := blk_cell hf (k := 5) rfl
          have hbl := below_store6 hW (Nat.le_refl _) (.int .i64 0) (.int .u32 0) (.int .i64 0) (.int .i64 0) (.int .i64 0) (.int .i64 0)
          refine bodyPost_ret (v := .tuple #[.agg #[.int .i64 0, .int .u32 0, .int .i64 0, .int .i64 0, .int .i64 0, .int .i64 0], .int .i64 4]) (by simp [results, Try.results31, go_sem, d0, d1, d2, d3, d4, d5]) rfl ?_
          exact ⟨by rw [hQ.out]; rfl, hbl⟩
      · have hQ := hid (hno.out (fun h => he h.1))
        have hq0 : (er != 0) = true := by simp [he]
        have f0 := blk_free hres 0
        have e0 := blk_cell hres (k := 0) rfl
        have f1 := blk_free hres 1
        have e1 := blk_cell hres (k := 1) rfl
        have f2 := blk_free hres 2
        have e2 := blk_cell hres (k := 2) rfl
        have f3 := blk_free hres 3
        have e3 := blk_cell hres (k := 3) rfl
        have f4 := blk_free hres 4
        have e4 := blk_cell hres (k := 4) rfl
        have f5 := blk_free hres 5
        have e5 := blk_cell hres (k := 5) rfl
        clear hno hyes hcell hfree he
        go_wp2_with fail
        refine hrd2.out.mono ?_
        rintro e w5 ⟨rfl, rfl⟩
        go_wp2_with fail
        have hf := blk_store6 hres (.int .i64 0) (.int .u32 0) (.int .i64 0) (.int .i64 0) (.int .i64 0) (.int .i64 0)
        have d0 := blk_cell hf (k := 0) rfl
        have d1 := blk_cell hf (k := 1) rfl
        have d2 := blk_cell hf (k := 2) rfl
        have d3 := blk_cell hf (k := 3) rfl
        have d4 := blk_cell hf (k := 4) rfl
        have d5 := blk_cell hf (k := 5) rfl
        have hbl := below_store6 hW (Nat.le_refl _) (.int .i64 0) (.int .u32 0) (.int .i64 0) (.int .i64 0) (.int .i64 0) (.int .i64 0)
        refine bodyPost_ret (v := .tuple #[.agg #[.int .i64 0, .int .u32 0, .int .i64 0, .int .i64 0, .int .i64 0, .int .i64 0], .int .i64 4]) (by simp [results, Try.results31, go_sem, d0, d1, d2, d3, d4, d5]) rfl ?_
        exact ⟨by rw [hQ.out]; rfl, hbl⟩
    · obtain rfl : k = 6 := by omega
      have hE := beh_end hbeh.out
      have hin := ofNums_in vs hvin.out
      obtain ⟨h1, h2, h3⟩ := hI
      unfold oC at h1
      generalize ofNums vs = o at *
      have hl2 : w1.heap.size < wr.heap.size := blk_lt h1
      have hl3 : w.heap.size < wr.heap.size := blk_lt hres
      have hws : IntKind.u32.wrap o.s = o.s := by rw [wrap_u32]; omega
      have s0 := blk_cell h2 (k := 0) rfl
      have g0 := blk_cell h1 (k := 0) rfl
      have g1 := blk_cell h1 (k := 1) rfl
      have g2 := blk_cell h1 (k := 2) rfl
      have g3 := blk_cell h1 (k := 3) rfl
      have g4 := blk_cell h1 (k := 4) rfl
      have g5 := blk_cell h1 (k := 5) rfl
      have k1 := blk_free h1 1
      have hres0 := hres
      have hres := blk_other hres0 (p := ⟨w1.heap.size, 1, none⟩) (by simp; omega) (.int .u32 o.s)
      have hW0 := hW
      have hW := hW0.setCell (p := ⟨w1.heap.size, 1, none⟩) (by show w.heap.size ≤ w1.heap.size; omega) (.int .u32 o.s)
      have HE := hid hE
      clear hbeh hvl hvin hkr hv6 hb6 hE
      by_cases hR0 : R.data.toList = []
      · have hR1 : R.toList = [] := by rw [ByteArray.toList_eq]; exact hR0
        have hR2 : (!R.toList.isEmpty) = false := by rw [hR1]; rfl
        have hRt := fun W => lob_Right o W
        have hres1 := blk_alloc hres (.cells #[.int .i64 o.r, .int .u32 o.s, .int .i64 o.ld, .int .i64 o.md, .int .i64 o.lw, .int .i64 o.mw] 63)
        have hW1 := hW.alloc hW.size (.cells #[.int .i64 o.r, .int .u32 o.s, .int .i64 o.ld, .int .i64 o.md, .int .i64 o.lw, .int .i64 o.mw] 63)
        by_cases hro : RightO o
        · rw [decide_eq_true hro] at hRt
          have HRt := hid hRt
          have hQ := HE.out
          rw [if_pos ⟨hR0, hro⟩] at hQ
          have HQ := hid hQ
          clear hRt hR0 hQ HE hro
          have f0 := blk_free hres0 0
          have e0 := blk_cell hres0 (k := 0) rfl
          have f1 := blk_free hres0 1
          have e1 := blk_cell hres0 (k := 1) rfl
          have f2 := blk_free hres0 2
          have e2 := blk_cell hres0 (k := 2) rfl
          have f3 := blk_free hres0 3
          have e3 := blk_cell hres0 (k := 3) rfl
          have f4 := blk_free hres0 4
          have e4 := blk_cell hres0 (k := 4) rfl
          have f5 := blk_free hres0 5
          have e5 := blk_cell hres0 (k := 5) rfl
          go_wp2_with fail
          refine (HRt.out _).mono ?_
          rintro e w5 ⟨rfl, rfl⟩
          clear hres1 hW1 f0 f1 f2 f3 f4 f5 e0 e1 e2 e3 e4 e5
          have f0 := blk_free hres0 0
          have e0 := blk_cell hres0 (k := 0) rfl
          have f1 := blk_free hres0 1
          have e1 := blk_cell hres0 (k := 1) rfl
          have f2 := blk_free hres0 2
          have e2 := blk_cell hres0 (k := 2) rfl
          have f3 := blk_free hres0 3
          have e3 := blk_cell hres0 (k := 3) rfl
          have f4 := blk_free hres0 4
          have e4 := blk_cell hres0 (k := 4) rfl
          have f5 := blk_free hres0 5
          have e5 := blk_cell hres0 (k := 5) rfl
          go_wp2_with fail
          have hf := blk_alloc (blk_store6 hres (.int .i64 o.r) (.int .u32 o.s) (.int .i64 o.ld) (.int .i64 o.md) (.int .i64 o.lw) (.int .i64 o.mw)) (.cells #[.int .i64 o.r, .int .u32 o.s, .int .i64 o.ld, .int .i64 o.md, .int .i64 o.lw, .int .i64 o.mw] 63)
          have d0 := blk_cell hf (k := 0) rfl
          have d1 := blk_cell hf (k := 1) rfl
          have d2 := blk_cell hf (k := 2) rfl
          have d3 := blk_cell hf (k := 3) rfl
          have d4 := blk_cell hf (k := 4) rfl
          have d5 := blk_cell hf (k := 5) rfl
          have hbl := (below_store6 hW (Nat.le_refl _) (.int .i64 o.r) (.int .u32 o.s) (.int .i64 o.ld) (.int .i64 o.md) (.int .i64 o.lw) (.int .i64 o.mw)).alloc (below_store6 hW (Nat.le_refl _) (.int .i64 o.r) (.int .u32 o.s) (.int .i64 o.ld) (.int .i64 o.md) (.int .i64 o.lw) (.int .i64 o.mw)).size (.cells #[.int .i64 o.r, .int .u32 o.s, .int .i64 o.ld, .int .i64 o.md, .int .i64 o.lw, .int .i64 o.mw] 63)
          refine bodyPost_ret (v := .tuple #[.agg #[.int .i64 o.r, .int .u32 o.s, .int .i64 o.ld, .int .i64 o.md, .int .i64 o.lw, .int .i64 o.mw], .int .i64 0]) (by simp [results, Try.results31, go_sem, d0, d1, d2, d3, d4, d5]) rfl ?_
          exact ⟨by rw [HQ.out], hbl⟩
        · rw [decide_eq_false hro] at hRt
          have HRt := hid hRt
          have hQ := HE.out
          rw [if_neg (fun h => hro h.2)] at hQ
          have HQ := hid hQ
          clear hRt hR0 hQ HE hro
          have f0 := blk_free hres0 0
          have e0 := blk_cell hres0 (k := 0) rfl
          have f1 := blk_free hres0 1
          have e1 := blk_cell hres0 (k := 1) rfl
          have f2 := blk_free hres0 2
          have e2 := blk_cell hres0 (k := 2) rfl
          have f3 := blk_free hres0 3
          have e3 := blk_cell hres0 (k := 3) rfl
          have f4 := blk_free hres0 4
          have e4 := blk_cell hres0 (k := 4) rfl
          have f5 := blk_free hres0 5
          have e5 := blk_cell hres0 (k := 5) rfl
          go_wp2_with fail
          refine (HRt.out _).mono ?_
          rintro e w5 ⟨rfl, rfl⟩
          clear hres1 hW1
          go_wp2_with fail
          have hf := blk_alloc (blk_store6 hres (.int .i64 0) (.int .u32 0) (.int .i64 0) (.int .i64 0) (.int .i64 0) (.int .i64 0)) (.cells #[.int .i64 o.r, .int .u32 o.s, .int .i64 o.ld, .int .i64 o.md, .int .i64 o.lw, .int .i64 o.mw] 63)
          have d0 := blk_cell hf (k := 0) rfl
          have d1 := blk_cell hf (k := 1) rfl
          have d2 := blk_cell hf (k := 2) rfl
          have d3 := blk_cell hf (k := 3) rfl
          have d4 := blk_cell hf (k := 4) rfl
          have d5 := blk_cell hf (k := 5) rfl
          have hbl := (below_store6 hW (Nat.le_refl _) (.int .i64 0) (.int .u32 0) (.int .i64 0) (.int .i64 0) (.int .i64 0) (.int .i64 0)).alloc (below_store6 hW (Nat.le_refl _) (.int .i64 0) (.int .u32 0) (.int .i64 0) (.int .i64 0) (.int .i64 0) (.int .i64 0)).size (.cells #[.int .i64 o.r, .int .u32 o.s, .int .i64 o.ld, .int .i64 o.md, .int .i64 o.lw, .int .i64 o.mw] 63)
          refine bodyPost_ret (v := .tuple #[.agg #[.int .i64 0, .int .u32 0, .int .i64 0, .int .i64 0, .int .i64 0, .int .i64 0], .int .i64 4]) (by simp [results, Try.results31, go_sem, d0, d1, d2, d3, d4, d5]) rfl ?_
          exact ⟨by rw [HQ.out]; rfl, hbl⟩
      · have hR1 : ¬ R.toList = [] := by rw [ByteArray.toList_eq]; exact hR0
        have hR2 : (!R.toList.isEmpty) = true := by simpa using hR1
        have hR3 : R.toList.isEmpty = false := by simpa using hR1
        have hQ := HE.out
        rw [if_neg (fun h => hR0 h.1)] at hQ
        have HQ := hid hQ
        clear hR0 hQ HE
        have f0 := blk_free hres0 0
        have e0 := blk_cell hres0 (k := 0) rfl
        have f1 := blk_free hres0 1
        have e1 := blk_cell hres0 (k := 1) rfl
        have f2 := blk_free hres0 2
        have e2 := blk_cell hres0 (k := 2) rfl
        have f3 := blk_free hres0 3
        have e3 := blk_cell hres0 (k := 3) rfl
        have f4 := blk_free hres0 4
        have e4 := blk_cell hres0 (k := 4) rfl
        have f5 := blk_free hres0 5
        have e5 := blk_cell hres0 (k := 5) rfl
        go_wp2_with fail
        have hf := blk_store6 hres (.int .i64 0) (.int .u32 0) (.int .i64 0) (.int .i64 0) (.int .i64 0) (.int .i64 0)
        have d0 := blk_cell hf (k := 0) rfl
        have d1 := blk_cell hf (k := 1) rfl
        have d2 := blk_cell hf (k := 2) rfl
        have d3 := blk_cell hf (k := 3) rfl
        have d4 := blk_cell hf (k := 4) rfl
        have d5 := blk_cell hf (k := 5) rfl
        have hbl := below_store6 hW (Nat.le_refl _) (.int .i64 0) (.int .u32 0) (.int .i64 0) (.int .i64 0) (.int .i64 0) (.int .i64 0)
        refine bodyPost_ret (v := .tuple #[.agg #[.int .i64 0, .int .u32 0, .int .i64 0, .int .i64 0, .int .i64 0, .int .i64 0], .int .i64 4]) (by simp [results, Try.results31, go_sem, d0, d1, d2, d3, d4, d5]) rfl ?_
        exact ⟨by rw [HQ.out]; rfl, hbl⟩
theorem lob_Unpack (s : ByteArray) (hs : s.size ≤ 100000) : Calls Try.prog 31 #[.string s] w (UnpO w (unpO s.data.toList)) := by
  have hm : s.size ≤ maxLen := by unfold maxLen; omega
  obtain ⟨⟨t, er⟩, hop⟩ : ∃ q, opened s.data.toList = q := ⟨_, rfl⟩
  have hlen : t.length ≤ s.size := by
    have h : (opened s.data.toList).1 = t := congrArg Prod.fst hop
    rw [← h]
    unfold opened
    split
    · simp
    · split
      · simp
      · simp
  unfold unpO
  rw [hop]
  simp only
  by_cases he : er = 0
  · subst he
    rw [if_pos rfl]
    unfold readO
    by_cases ht : t.take 1 = [79]
    · rw [if_pos ht]
      cases t with
      | nil => cases ht
      | cons c r =>
        obtain rfl : c = 79 := by simpa using ht
        exact lob_unp_main s hm r hop (by simp at hlen; show r.length ≤ 100000; omega)
    · rw [if_neg ht]
      exact lob_unp_form s hm t hop ht
  · rw [if_neg he]
    exact lob_unp_err s hm t er hop he
end Go.Proofs.Ytfepefohaadecaa
