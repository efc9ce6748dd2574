/- A feed in memory; what its methods return, and leave. -/
import Derived.Test.YtdgbmnefpempaaaWin7
namespace Go.Proofs.Ytdgbmnefpempaaa
open Go.RowKit
/-- a feed: the known window in the blocks D + 1 and D, the used one in D + 3 and D + 2, the feed itself in D + 4 -/
structure IsFeed (w : World) (D first next : Nat) (last : Int) (K U : List (Nat × Int)) : Prop where
  head : w.heap[D + 4]? = some (.cells #[.pointer (some ⟨D + 1, 0, none⟩), .pointer (some ⟨D + 3, 0, none⟩), .int .i64 next, .int .u8 last] 74 (0, 0))
  known : IsWin w (D + 1) D 64 first K
  used : IsWin w (D + 3) (D + 2) 64 first U
def Feeds (D b : Nat) : Prop := D ≤ b ∧ b ≤ D + 4
variable {w w' : World} {D first next : Nat} {last : Int} {K U : List (Nat × Int)}
namespace IsFeed
theorem keeps {S : Nat → Prop} (h : IsFeed w D first next last K U) (hk : Keeps S w w') (hs : ∀ b, D ≤ b → b ≤ D + 4 → ¬ S b) : IsFeed w' D first next last K U :=
  ⟨hk.heap h.head (hs _ (by omega) (by omega)), h.known.keeps hk (hs _ (by omega) (by omega)) (hs _ (by omega) (by omega)), h.used.keeps hk (hs _ (by omega) (by omega)) (hs _ (by omega) (by omega))⟩
theorem keep (h : IsFeed w D first next last K U) (hk : Keeps (fun _ => False) w w') : IsFeed w' D first next last K U := h.keeps hk (fun _ _ _ => id)
theorem drew (h : IsFeed w D first next last K U) (n : Nat) : IsFeed (w.drewN n) D first next last K U := h.keep ((Keeps.refl _ w).drewN n)
theorem c0 (h : IsFeed w D first next last K U) : w.cell? ⟨D + 4, 0, none⟩ = some (.pointer (some ⟨D + 1, 0, none⟩)) := blk_cell h.head rfl
theorem c1 (h : IsFeed w D first next last K U) : w.cell? ⟨D + 4, 1, none⟩ = some (.pointer (some ⟨D + 3, 0, none⟩)) := blk_cell h.head rfl
theorem c2 (h : IsFeed w D first next last K U) : w.cell? ⟨D + 4, 2, none⟩ = some (.int .i64 next) := blk_cell h.head rfl
theorem c3 (h : IsFeed w D first next last K U) : w.cell? ⟨D + 4, 3, none⟩ = some (.int .u8 last) := blk_cell h.head rfl
theorem lt (h : IsFeed w D first next last K U) : D + 4 < w.heap.size := blk_lt h.head
end IsFeed
theorem win_empty {w : World} {r B : Nat} (h : WinAt w r B 64 0 (List.replicate 64 ((0 : Int), false))) : IsWin w r B 64 0 [] :=
  ⟨_, h, by simp, by omega, .nil, (fun p hp => by cases hp), (fun f x h => by cases h), fun f h1 h2 h3 _ => ⟨0, by rw [List.getElem?_replicate, if_pos (Nat.mod_lt _ (by omega))]⟩⟩
theorem feed_New (w : World) :
    Calls Try.prog 20 #[] w fun e w' => e = .returned (.pointer (some ⟨w.heap.size + 4, 0, none⟩)) ∧ IsFeed w' w.heap.size 0 0 0 [] [] ∧ Below w.heap.size w w' := by
  go_enter Try.func20, Try.ntmps20
  go_wp2_with fail
  refine (win_Open 64 0 (by omega) (by omega) (by omega) w).mono ?_
  rintro e w1 ⟨rfl, h1, hb1, hs1⟩
  have Hs1 := hid hs1
  clear hs1
  go_wp2_with fail
  refine (win_Open 64 0 (by omega) (by omega) (by omega) w1).mono ?_
  rintro e w2 ⟨rfl, h2, hb2, hs2⟩
  rw [Hs1.out] at h2 hs2 hb2
  have h3 := h1.keeps (Keeps.of_below hb2 (fun k h1 h2 => by have := Hs1.out; omega) : Keeps (fun _ => False) w1 w2) id id
  have Hs2 := hid hs2
  simp only [Hs1.out]
  clear hs2
  go_wp2_with fail
  go_ret
  have hk : Keeps (fun _ => False) w2 (w2.alloc (.cells #[.pointer (some ⟨w.heap.size + 1, 0, none⟩), .pointer (some ⟨w.heap.size + 3, 0, none⟩), .int .i64 0, .int .u8 0] 74)) := (Keeps.refl _ w2).alloc _
  have hn := blk_new w2 (.cells #[.pointer (some ⟨w.heap.size + 1, 0, none⟩), .pointer (some ⟨w.heap.size + 3, 0, none⟩), .int .i64 0, .int .u8 0] 74)
  have e2 : w2.heap.size = w.heap.size + 4 := by rw [Hs2.out]
  rw [e2] at hn ⊢
  exact ⟨rfl, ⟨hn, (win_empty h3).keeps hk id id, (win_empty h2).keeps hk id id⟩, (hb1.trans (hb2.mono (by omega))).alloc (by omega) _⟩
theorem _root_.Go.Proofs.Ytdgbmnefpempaaa.IsWin.most' {r B size : Nat} {L : List (Nat × Int)} (h : IsWin w r B size first L) : ∀ p ∈ L, p.1 ≤ 1073741824 := by
  obtain ⟨S, _, h⟩ := h
  exact fun p hp => (h.isin p hp).2.2
theorem feed_Known (h : IsFeed w D first next last K U) (f : Int) (hr : -9223372036854775808 ≤ f ∧ f ≤ 9223372036854775807) :
    Calls Try.prog 25 #[.pointer (some ⟨D + 4, 0, none⟩), .int .i64 f] w fun e w' => e = .returned (.tuple #[.int .u8 ((lookI K f).getD 0), .bool (lookI K f).isSome]) ∧ ∃ q, w' = w.drewN q := by
  have c0 := h.c0
  have hG := hid (is_Get h.known f hr)
  go_enter Try.func25, Try.ntmps25
  go_wp2_with fail
  refine hG.out.mono ?_
  rintro e w' ⟨rfl, q, rfl⟩
  go_wp2_with fail
  go_ret2
  exact ⟨rfl, q, rfl⟩
theorem feed_First (h : IsFeed w D first next last K U) : Calls Try.prog 26 #[.pointer (some ⟨D + 4, 0, none⟩)] w fun e w' => e = .returned (.int .i64 first) ∧ w = w' := by
  have c0 := h.c0
  have hG := hid (is_First h.known)
  go_enter Try.func26, Try.ntmps26
  go_wp2_with fail
  refine hG.out.mono ?_
  rintro e w' ⟨rfl, rfl⟩
  go_wp2_with fail
  go_ret
  exact ⟨rfl, rfl⟩
theorem feed_Next (h : IsFeed w D first next last K U) : Calls Try.prog 27 #[.pointer (some ⟨D + 4, 0, none⟩)] w fun e w' => e = .returned (.int .i64 next) ∧ w = w' := by
  have c2 := h.c2
  go_enter Try.func27, Try.ntmps27
  go_wp2_with fail
  go_ret
  exact ⟨rfl, rfl⟩
/-- what a feed's block holds behind a Put -/
theorem IsFeed.put {w1 : World} {K' : List (Nat × Int)} (h : IsFeed w D first next last K U) (hk : Keeps (fun b => b = D) w w1) (hK : IsWin w1 (D + 1) D 64 first K') (n : Nat) (x : Int) :
    IsFeed ((w1.setCell ⟨D + 4, 2, none⟩ (.int .i64 n)).setCell ⟨D + 4, 3, none⟩ (.int .u8 x)) D first n x K' U := by
  have h1 := hk.heap h.head (by omega)
  have hu := h.used.keeps hk (by omega) (by omega)
  have hk2 : Keeps (fun b => b = D + 4) w1 ((w1.setCell ⟨D + 4, 2, none⟩ (.int .i64 n)).setCell ⟨D + 4, 3, none⟩ (.int .u8 x)) := ((Keeps.refl (fun b => b = D + 4) w1).setCell (p := ⟨D + 4, 2, none⟩) rfl _).setCell (p := ⟨D + 4, 3, none⟩) rfl _
  exact ⟨by simpa using blk_set (blk_set h1 2 (.int .i64 (n : Int))) 3 (.int .u8 x), hK.keeps hk2 (by omega) (by omega), hu.keeps hk2 (by omega) (by omega)⟩
theorem feed_Put (h : IsFeed w D first next last K U) (x : Int) (hx : x ≤ 63) (f : Int) (hf : f = next) (hn : next ≤ 1073741824) (hw : first ≤ next ∧ next < first + 64) :
    Calls Try.prog 21 #[.pointer (some ⟨D + 4, 0, none⟩), .int .i64 f, .int .u8 x] w fun e w' => e = .returned (.int .i64 0) ∧ IsFeed w' D first (next + 1) x (putL K next x) U ∧ Keeps (fun b => Feeds D b) w w' := by
  have c0 := h.c0
  have c2 := h.c2
  have hP := hid (is_Put h.known next f hf (by unfold inW; omega) x)
  have hh : ∀ w1 : World, Keeps (fun b => b = D) w w1 → w1.frozen? ⟨D + 4, 2, none⟩ = false ∧ w1.frozen? ⟨D + 4, 3, none⟩ = false ∧ w1.cell? ⟨D + 4, 2, none⟩ = some (.int .i64 next) ∧ w1.cell? ⟨D + 4, 3, none⟩ = some (.int .u8 last) := fun w1 hk => by
    have := hk.heap h.head (by omega)
    exact ⟨blk_free this 2, blk_free this 3, blk_cell this rfl, blk_cell this rfl⟩
  have Hh := hid hh
  have Hf := hid hf
  have e0 : 0 ≤ f := by omega
  have e1 : f ≤ 1073741824 := by omega
  have e2 : (next : Int) ≤ f := by omega
  have e3 : f ≤ (next : Int) := by omega
  clear hh hf
  go_enter Try.func21, Try.ntmps21
  go_wp2_with fail
  refine hP.out.mono ?_
  rintro e w1 ⟨rfl, h1, hk1⟩
  obtain ⟨g2, g3, d2, d3⟩ := Hh.out _ hk1
  have hfin := h.put hk1 h1 (next + 1) x
  rw [show ((next + 1 : Nat) : Int) = f + 1 by have := Hf.out; omega] at hfin
  have hkk : Keeps (fun b => Feeds D b) w ((w1.setCell ⟨D + 4, 2, none⟩ (.int .i64 (f + 1))).setCell ⟨D + 4, 3, none⟩ (.int .u8 x)) :=
    ((hk1.mono (fun b _ e => by unfold Feeds; omega)).setCell (p := ⟨D + 4, 2, none⟩) (by unfold Feeds; simp) _).setCell (p := ⟨D + 4, 3, none⟩) (by unfold Feeds; simp) _
  clear h1 hk1 h
  go_wp2_with fail
  go_ret
  exact ⟨rfl, hfin, hkk⟩
/-- some number was returned -/
def SomeNum (e : Ending) : Prop := ∃ c : Int, e = .returned (.int .i64 c)
theorem feed_Put_no (h : IsFeed w D first next last K U) (x f : Int) (hr : -9223372036854775808 ≤ f ∧ f ≤ 9223372036854775807) (hno : 63 < x ∨ f ≠ next ∨ 1073741824 < next ∨ next < first ∨ first + 64 ≤ next) :
    Calls Try.prog 21 #[.pointer (some ⟨D + 4, 0, none⟩), .int .i64 f, .int .u8 x] w fun e w' => SomeNum e ∧ ∃ q, w' = w.drewN q := by
  have c0 := h.c0
  have c2 := h.c2
  by_cases h1 : 63 < x
  · clear hno
    go_enter Try.func21, Try.ntmps21
    go_wp2_with fail
    go_ret
    exact ⟨⟨_, rfl⟩, 0, rfl⟩
  by_cases h2 : f < 0
  · clear hno
    go_enter Try.func21, Try.ntmps21
    go_wp2_with fail
    go_ret
    exact ⟨⟨_, rfl⟩, 0, rfl⟩
  by_cases h3 : 1073741824 < f
  · clear hno
    go_enter Try.func21, Try.ntmps21
    go_wp2_with fail
    go_ret
    exact ⟨⟨_, rfl⟩, 0, rfl⟩
  by_cases h4 : f < next
  · clear hno
    go_enter Try.func21, Try.ntmps21
    go_wp2_with fail
    go_ret
    exact ⟨⟨_, rfl⟩, 0, rfl⟩
  by_cases h5 : next < f
  · clear hno
    go_enter Try.func21, Try.ntmps21
    go_wp2_with fail
    go_ret
    exact ⟨⟨_, rfl⟩, 0, rfl⟩
  have hni : ¬ inW first 64 f := by unfold inW; omega
  have hP := hid (is_Put_no h.known f hni hr x)
  have hq : ((if f < (first : Int) then (10 : Int) else 8) == 0) = false := by split <;> rfl
  have hq2 : ((if f < (first : Int) then (10 : Int) else 8) != 0) = true := by split <;> rfl
  generalize (if f < (first : Int) then (10 : Int) else 8) = cd at *
  clear hno hni
  go_enter Try.func21, Try.ntmps21
  go_wp2_with fail
  refine hP.out.mono ?_
  rintro e w1 ⟨rfl, q, rfl⟩
  go_wp2_with fail
  go_ret
  exact ⟨⟨_, rfl⟩, q, rfl⟩
/-- what taking a frame's input notes -/
def takeU (first : Nat) (U : List (Nat × Int)) (n : Nat) (x : Int) : List (Nat × Int) := if n < first + 64 then putL U n x else U
def takeV (K : List (Nat × Int)) (n : Nat) (last : Int) : Int := (lookL K n).getD last
theorem IsFeed.take {w1 : World} {U' : List (Nat × Int)} (h : IsFeed w D first next last K U) (hk : Keeps (fun b => b = D + 2) w w1) (hU : IsWin w1 (D + 3) (D + 2) 64 first U') : IsFeed w1 D first next last K U' :=
  ⟨hk.heap h.head (by omega), h.known.keeps hk (by omega) (by omega), hU⟩
theorem feed_Take_no (h : IsFeed w D first next last K U) (f : Int) (hf : f < first ∨ 1073741824 < f) :
    Calls Try.prog 22 #[.pointer (some ⟨D + 4, 0, none⟩), .int .i64 f] w fun e w' => e = .returned (.tuple #[.int .u8 0, .bool false]) ∧ w = w' := by
  have hG := hid (feed_First h)
  by_cases h1 : f < first
  · clear hf
    go_enter Try.func22, Try.ntmps22
    go_wp2_with fail
    refine hG.out.mono ?_
    rintro e w' ⟨rfl, rfl⟩
    go_wp2_with fail
    go_ret2
    exact ⟨rfl, rfl⟩
  · have h2 : 1073741824 < f := by omega
    have h3 : (first : Int) ≤ f := by omega
    clear hf h1
    go_enter Try.func22, Try.ntmps22
    go_wp2_with fail
    refine hG.out.mono ?_
    rintro e w' ⟨rfl, rfl⟩
    go_wp2_with fail
    go_ret2
    exact ⟨rfl, rfl⟩
theorem feed_Take (h : IsFeed w D first next last K U) (n : Nat) (f : Int) (hf : f = n) (hn : first ≤ n ∧ n ≤ 1073741824) :
    Calls Try.prog 22 #[.pointer (some ⟨D + 4, 0, none⟩), .int .i64 f] w fun e w' => e = .returned (.tuple #[.int .u8 (takeV K n last), .bool (lookL K n).isSome]) ∧ IsFeed w' D first next last K (takeU first U n (takeV K n last)) ∧ Keeps (fun b => Feeds D b) w w' := by
  have hG := hid (feed_First h)
  have hK := feed_Known h f (by omega)
  rw [hf, lookI_nat, ← hf] at hK
  have HK := hid hK
  have h2 : f ≤ 1073741824 := by omega
  have h3 : (first : Int) ≤ f := by omega
  have hP : ∀ (q : Nat) (x : Int), Calls Try.prog 40 #[.pointer (some ⟨D + 3, 0, none⟩), .int .i64 f, .int .u8 x] (w.drewN q) fun e w' => SomeNum e ∧ IsFeed w' D first next last K (takeU first U n x) ∧ Keeps (fun b => Feeds D b) w w' := by
    intro q x
    unfold takeU
    by_cases hi : n < first + 64
    · rw [if_pos hi]
      refine (is_Put (h.drew q).used n f hf (by unfold inW; omega) x).mono ?_
      rintro e w' ⟨rfl, h1, h2⟩
      exact ⟨⟨_, rfl⟩, (h.drew q).take h2 h1, ((Keeps.refl _ w).drewN q).trans (h2.mono (fun b _ e => by unfold Feeds; omega))⟩
    · rw [if_neg hi]
      refine (is_Put_no (h.drew q).used f (by unfold inW; omega) (by omega) x).mono ?_
      rintro e w' ⟨rfl, q2, rfl⟩
      exact ⟨⟨_, rfl⟩, (h.drew q).drew q2, ((Keeps.refl _ w).drewN q).drewN q2⟩
  have HP := hid hP
  have hc : ∀ q, (w.drewN q).cell? ⟨D + 4, 1, none⟩ = some (.pointer (some ⟨D + 3, 0, none⟩)) ∧ (w.drewN q).cell? ⟨D + 4, 3, none⟩ = some (.int .u8 last) := fun q => ⟨(h.drew q).c1, (h.drew q).c3⟩
  have Hc := hid hc
  unfold takeV at *
  have Hf := hid hf
  clear hP hK hc hf h
  cases hl : lookL K n with
  | some x =>
    rw [hl] at HK
    simp only [Option.getD_some, Option.isSome_some] at HK ⊢
    clear hl
    go_enter Try.func22, Try.ntmps22
    go_wp2_with fail
    refine hG.out.mono ?_
    rintro e w' ⟨rfl, rfl⟩
    go_wp2_with fail
    refine HK.out.mono ?_
    rintro e w' ⟨rfl, q, rfl⟩
    obtain ⟨d1, d3⟩ := Hc.out q
    go_wp2_with fail
    refine (HP.out q x).mono ?_
    rintro e w' ⟨⟨c, rfl⟩, h1, h2⟩
    go_wp2_with fail
    go_ret2
    exact ⟨rfl, h1, h2⟩
  | none =>
    rw [hl] at HK
    simp only [Option.getD_none, Option.isSome_none] at HK ⊢
    clear hl
    go_enter Try.func22, Try.ntmps22
    go_wp2_with fail
    refine hG.out.mono ?_
    rintro e w' ⟨rfl, rfl⟩
    go_wp2_with fail
    refine HK.out.mono ?_
    rintro e w' ⟨rfl, q, rfl⟩
    obtain ⟨d1, d3⟩ := Hc.out q
    go_wp2_with fail
    refine (HP.out q last).mono ?_
    rintro e w' ⟨⟨c, rfl⟩, h1, h2⟩
    go_wp2_with fail
    go_ret2
    exact ⟨rfl, h1, h2⟩
end Go.Proofs.Ytdgbmnefpempaaa
