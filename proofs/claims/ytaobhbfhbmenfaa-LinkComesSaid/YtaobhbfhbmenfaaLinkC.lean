/- PairP · PairQ · PairR · PairS · PairC · PairD · PairM · Pair1 · Pair2 · Pair3 · Pair4 · Pair5 · Pair6 · Acts5 · Pair7 · Pair8 · Pair9 · Pair10, in one text. -/
import Derived.Test.YtaobhbfhbmenfaaLinkB
import Derived.Test.YtaobhbfhbmenfaaLinkA
import Derived.Test.YtaobhbfhbmenfaaStage
import Derived.Laws.BitsLemmas
import Derived.Test.YtaobhbfhbmenfaaSumP
import Derived.Test.YtaobhbfhbmenfaaBytes
import Derived.Laws.BitsAllLaws
import Derived.Test.YtaobhbfhbmenfaaOpen
/- Two links: what holds of them at every step (no program in sight). -/
namespace Go.Proofs.Ytaobhbfhbmenfaa
open Go.RowKit
def setK {α : Type} (f : Nat → α) (k : Nat) (v : α) : Nat → α := fun j => if j = k then v else f j
theorem setK_same {α : Type} (f : Nat → α) (k : Nat) (v : α) : setK f k v k = v := by simp [setK]
theorem setK_ne {α : Type} (f : Nat → α) {j k : Nat} (v : α) (h : j ≠ k) : setK f k v j = f j := by simp [setK, h]
/-- two links, what flies to each, what each has of its own, what each was told -/
structure Pr where
  l : Nat → Lk
  f : Nat → List (List UInt8)
  o : Nat → List UInt8
  t : Nat → List UInt8
/-- a datagram that may fly to k -/
def OkM (first : Nat) (p : Pr) (k : Nat) (m : Msg) : Prop :=
  m = ⟨1, 11 + ((1 - k : Nat) : Int), 0, 0, [], 0, 0⟩ ∨ m = ⟨2, 11 + (k : Int), 0, 0, [], 0, 0⟩ ∨
  (∃ a n t : Nat, 0 < n ∧ n ≤ 64 ∧ a + n ≤ (p.o (1 - k)).length ∧ t ≤ (p.t (1 - k)).length ∧ m = ⟨3, 0, ((first + a : Nat) : Int) % 65536, ((first + t : Nat) : Int) % 65536, ((p.o (1 - k)).drop a).take n, 0, 0⟩) ∨
  (∃ t : Nat, t ≤ (p.t (1 - k)).length ∧ m = ⟨5, 0, 0, ((first + t : Nat) : Int) % 65536, [], 0, 0⟩) ∨
  (∃ t : Nat, m = ⟨6, 0, ((first + t : Nat) : Int) % 65536, 0, [], 0, 0⟩)
structure LInv (first n : Nat) (p : Pr) (k : Nat) : Prop where
  nonce : (p.l k).nonce = 11 + (k : Int)
  pat : (p.l k).patience = 10000
  st : (p.l k).state = 0 ∨ (p.l k).state = 1
  tk : 0 ≤ (p.l k).ticks ∧ (p.l k).ticks ≤ n
  hd : 0 ≤ (p.l k).heard ∧ (p.l k).heard ≤ n
  good : 0 ≤ (p.l k).good ∧ (p.l k).good ≤ n
  bad : 0 ≤ (p.l k).bad ∧ (p.l k).bad ≤ n
  stale : 0 ≤ (p.l k).stale ∧ (p.l k).stale ≤ n
  ow : ∃ a : Nat, (p.l k).acked = ((first + a : Nat) : Int) ∧ (p.l k).own = (p.o k).drop a ∧ a ≤ (p.t (1 - k)).length
  nx : (p.l k).next = ((first + (p.t k).length : Nat) : Int)
  tp : p.t k = (p.o (1 - k)).take (p.t k).length
  tl : (p.t k).length ≤ (p.o (1 - k)).length
  ol : (p.o k).length ≤ n
  wl : (p.l k).own.length ≤ 64
  ob : ∀ x ∈ p.o k, x.toNat ≤ 63
  ou : ∀ m ∈ (p.l k).out, m = ⟨2, 11 + ((1 - k : Nat) : Int), 0, 0, [], 0, 0⟩
  oul : (p.l k).out.length ≤ 8
  fl : ∀ s ∈ p.f k, ∃ m, OkM first p k m ∧ s = packM m
  fln : (p.f k).length ≤ 30
def Inv (first n : Nat) (p : Pr) : Prop := ∀ k, k < 2 → LInv first n p k
theorem okM_mono {first k : Nat} {p q : Pr} {m : Msg} (h : OkM first p k m) (ho : p.o (1 - k) <+: q.o (1 - k)) (ht : (p.t (1 - k)).length ≤ (q.t (1 - k)).length) : OkM first q k m := by
  rcases h with h | h | ⟨a, n, t, h1, h2, h3, h4, h⟩ | ⟨t, h4, h⟩ | ⟨t, h⟩
  · exact .inl h
  · exact .inr (.inl h)
  · refine .inr (.inr (.inl ⟨a, n, t, h1, h2, ?_, by omega, ?_⟩))
    · have := ho.length_le
      omega
    · obtain ⟨e, he⟩ := ho
      rw [h, ← he]
      congr 1
      rw [List.drop_append_of_le_length (by omega), List.take_append_of_le_length (by simp; omega)]
  · exact .inr (.inr (.inr (.inl ⟨t, by omega, h⟩)))
  · exact .inr (.inr (.inr (.inr ⟨t, h⟩)))
theorem okM_right {first k : Nat} {p : Pr} {m : Msg} (h : OkM first p k m) (hk : k < 2) (hob : ∀ x ∈ p.o (1 - k), x.toNat ≤ 63) : m.wf ∧ RightP m := by
  have hx : ((1 - k : Nat) : Int) ≤ 1 := by omega
  rcases h with rfl | rfl | ⟨a, n, t, h1, h2, h3, h4, rfl⟩ | ⟨t, h4, rfl⟩ | ⟨t, rfl⟩
  · exact ⟨⟨by simp, by simp; omega, by simp, by simp, by simp, by simp⟩, by simp, rfl, by simp, by simp, by simp, by simp, by simp, by simp, by simp⟩
  · exact ⟨⟨by simp, by simp; omega, by simp, by simp, by simp, by simp⟩, by simp, rfl, by simp, by simp, by simp, by simp, by simp, by simp, by simp⟩
  · have hl : (((p.o (1 - k)).drop a).take n).length = n := by simp; omega
    refine ⟨⟨by simp, by simp, by simp only; omega, by simp only; omega, by simp, by simp⟩, by simp, ?_, by simp, by simp, by simp, by simp, ?_, by simp, by simp⟩
    · unfold fits
      rw [Bool.and_eq_true, List.all_eq_true]
      exact ⟨fun x hx => decide_eq_true (hob x (List.mem_of_mem_drop (List.mem_of_mem_take hx))), decide_eq_true (by simp only [hl]; omega)⟩
    · simp only [hl]
      exact ⟨fun _ => trivial, fun _ => h1⟩
  · exact ⟨⟨by simp, by simp, by simp, by simp only; omega, by simp, by simp⟩, by simp, rfl, by simp, by simp, by simp, by simp, by simp, by simp, by simp⟩
  · exact ⟨⟨by simp, by simp, by simp only; omega, by simp, by simp, by simp⟩, by simp, rfl, by simp, by simp, by simp, by simp, by simp, by simp, by simp⟩
/-- two frames that are near one another -/
theorem frm_near (first a b : Nat) (hf : first ≤ 65535) (ha : a ≤ 1000) (hb : b ≤ 1000) : frm ((first + a : Nat) : Int) (((first + b : Nat) : Int) % 65536) = (((first + b : Nat) : Int), 0) := by
  have hs : stp (((first + a : Nat) : Int) % 65536) (((first + b : Nat) : Int) % 65536) = (b : Int) - a := by
    unfold stp
    omega
  unfold frm
  rw [if_neg (by omega), hs]
  simp only []
  rw [if_neg (by omega)]
  congr 1
  omega
theorem ack_ok (first a t : Nat) (l : Lk) (o : List UInt8) (hf : first ≤ 65535) (ha : a ≤ o.length) (ht : t ≤ o.length) (ho : o.length ≤ 1000) (h1 : l.acked = ((first + a : Nat) : Int)) (h2 : l.own = o.drop a) :
    ∃ a' : Nat, ackL l (((first + t : Nat) : Int) % 65536) = { l with acked := ((first + a' : Nat) : Int), own := o.drop a' } ∧ a ≤ a' ∧ t ≤ a' ∧ (a' = a ∨ a' = t) := by
  have hq : min l.acked 1073741824 = ((first + a : Nat) : Int) := by rw [h1]; omega
  have hol : l.own.length = o.length - a := by rw [h2]; simp
  unfold ackL
  rw [hq, frm_near first a t hf (by omega) (by omega)]
  simp only
  by_cases hlt : t < a
  · rw [if_pos (.inr (.inl (by rw [h1]; omega)))]
    refine ⟨a, ?_, by omega, by omega, .inl rfl⟩
    rw [← h1, ← h2]
  · rw [if_neg (by rw [h1, hol]; omega)]
    refine ⟨t, ?_, by omega, by omega, .inr rfl⟩
    rw [show (((first + t : Nat) : Int) - l.acked).toNat = t - a by rw [h1]; omega, h2, List.drop_drop, show a + (t - a) = t by omega]
theorem inp_tell (first a n : Nat) (l : Lk) (o t : List UInt8) (hf : first ≤ 65535) (hn : a + n ≤ o.length) (ho : o.length ≤ 1000) (ht : t = o.take t.length) (htl : t.length ≤ o.length) (hnx : l.next = ((first + t.length : Nat) : Int)) (ak : Int) :
    (inpF l ⟨3, 0, ((first + a : Nat) : Int) % 65536, ak, (o.drop a).take n, 0, 0⟩ = (Hrd.zero, false, l) ∧ (t.length < a ∨ a + n ≤ t.length)) ∨
    (∃ e : List UInt8, inpF l ⟨3, 0, ((first + a : Nat) : Int) % 65536, ak, (o.drop a).take n, 0, 0⟩ = (⟨3, ((first + t.length : Nat) : Int), e, 0, 0, 0⟩, true, { l with next := ((first + (a + n) : Nat) : Int) }) ∧ a ≤ t.length ∧ t.length < a + n ∧ t ++ e = o.take (a + n)) := by
  have hq : min l.next 1073741824 = ((first + t.length : Nat) : Int) := by rw [hnx]; omega
  have hl : ((o.drop a).take n).length = n := by simp; omega
  unfold inpF
  rw [hq, frm_near first t.length a hf (by omega) (by omega)]
  simp only [hl]
  by_cases hc : t.length < a ∨ a + n ≤ t.length
  · rw [if_pos (by rw [hnx]; omega)]
    exact .inl ⟨rfl, hc⟩
  · rw [if_neg (by rw [hnx]; omega)]
    refine .inr ⟨((o.drop a).take n).drop (t.length - a), ?_, by omega, by omega, ?_⟩
    · rw [show (l.next - ((first + a : Nat) : Int)).toNat = t.length - a by rw [hnx]; omega, hnx]
      congr 3
      omega
    · rw [List.drop_take, List.drop_drop, show a + (t.length - a) = t.length by omega, show n - (t.length - a) = a + n - t.length by omega]
      conv => lhs; lhs; rw [ht]
      rw [show a + n = t.length + (a + n - t.length) by omega, List.take_add, show t.length + (a + n - t.length) - t.length = a + n - t.length by omega]
end Go.Proofs.Ytaobhbfhbmenfaa
/- Two links: each step keeps what holds (no program in sight). -/
namespace Go.Proofs.Ytaobhbfhbmenfaa
open Go.RowKit
variable {first n : Nat} {p : Pr}
theorem ot {k : Nat} (h : k < 2) : 1 - k < 2 ∧ 1 - (1 - k) = k ∧ 1 - k ≠ k := by omega
/-- an end of which nothing has changed but what the other one has, and was told -/
theorem LInv.far {q : Pr} {k : Nat} (h : LInv first n p k) (hl : q.l k = p.l k) (ho : q.o k = p.o k) (ht : q.t k = p.t k) (hf : ∀ s ∈ q.f k, s ∈ p.f k) (hfl : (q.f k).length ≤ 30) (hp : p.o (1 - k) <+: q.o (1 - k)) (hs : (p.t (1 - k)).length ≤ (q.t (1 - k)).length) : LInv first (n + 1) q k := by
  have hpl := hp.length_le
  refine ⟨by rw [hl]; exact h.nonce, by rw [hl]; exact h.pat, by rw [hl]; exact h.st, by rw [hl]; have := h.tk; omega, by rw [hl]; have := h.hd; omega, by rw [hl]; have := h.good; omega, by rw [hl]; have := h.bad; omega, by rw [hl]; have := h.stale; omega, ?_, by rw [hl, ht]; exact h.nx, ?_, by rw [ht]; have := h.tl; omega, by rw [ho]; have := h.ol; omega, by rw [hl]; exact h.wl, by rw [ho]; exact h.ob, by rw [hl]; exact h.ou, by rw [hl]; exact h.oul, ?_, hfl⟩
  · obtain ⟨a, h1, h2, h3⟩ := h.ow
    exact ⟨a, by rw [hl]; exact h1, by rw [hl, ho]; exact h2, by omega⟩
  · rw [ht]
    obtain ⟨e, he⟩ := hp
    rw [← he, List.take_append_of_le_length h.tl]
    exact h.tp
  · intro s hs'
    obtain ⟨m, h1, h2⟩ := h.fl s (hf s hs')
    exact ⟨m, okM_mono h1 hp hs, h2⟩
theorem LInv.up {k : Nat} (h : LInv first n p k) : LInv first (n + 1) p k := h.far rfl rfl rfl (fun _ x => x) h.fln (List.prefix_refl _) (Nat.le_refl _)
theorem Inv.up (h : Inv first n p) : Inv first (n + 1) p := fun k hk => (h k hk).up
/-- an input of its own -/
def ownP (first : Nat) (p : Pr) (k : Nat) (x : UInt8) : Pr :=
  { p with l := setK p.l k (ownL (p.l k) ((first + (p.o k).length : Nat) : Int) x), o := if ownE (p.l k) ((first + (p.o k).length : Nat) : Int) x = 0 then setK p.o k (p.o k ++ [x]) else p.o }
theorem own_inv (h : Inv first n p) {k : Nat} (hk : k < 2) (x : UInt8) (hx : x.toNat ≤ 63) : Inv first (n + 1) (ownP first p k x) := by
  obtain ⟨k1, k2, k3⟩ := ot hk
  have H := h k hk
  have J := h (1 - k) k1
  by_cases hE : ownE (p.l k) ((first + (p.o k).length : Nat) : Int) x = 0
  · have hq : ownP first p k x = { p with l := setK p.l k { p.l k with own := (p.l k).own ++ [x] }, o := setK p.o k (p.o k ++ [x]) } := by
      unfold ownP ownL
      rw [if_pos hE, if_pos hE]
    rw [hq]
    have hwl : (p.l k).own.length < 64 := by
      have := H.wl
      unfold ownE at hE
      split at hE
      · omega
      split at hE
      · omega
      split at hE
      · omega
      split at hE
      · omega
      · omega
    intro j hj
    by_cases hjk : j = k
    · subst hjk
      obtain ⟨a, h1, h2, h3⟩ := H.ow
      have hal : a ≤ (p.o j).length := by have := J.tl; rw [k2] at this; omega
      constructor <;> simp only [setK_same]
      · exact H.nonce
      · exact H.pat
      · exact H.st
      · have := H.tk; omega
      · have := H.hd; omega
      · have := H.good; omega
      · have := H.bad; omega
      · have := H.stale; omega
      · exact ⟨a, h1, by rw [h2, List.drop_append_of_le_length hal], h3⟩
      · exact H.nx
      · rw [setK_ne _ _ k3]; exact H.tp
      · rw [setK_ne _ _ k3]; exact H.tl
      · have := H.ol; simp; omega
      · simp; omega
      · intro y hy
        rcases List.mem_append.1 hy with hy | hy
        · exact H.ob y hy
        · simp at hy; subst hy; exact hx
      · exact H.ou
      · exact H.oul
      · intro s hs
        obtain ⟨m, m1, m2⟩ := H.fl s hs
        exact ⟨m, okM_mono m1 (show p.o (1 - j) <+: setK p.o j _ (1 - j) by rw [setK_ne _ _ k3]; exact List.prefix_refl _) (Nat.le_refl _), m2⟩
      · exact H.fln
    · obtain rfl : j = 1 - k := by omega
      refine (J.far (q := { p with l := setK p.l k { p.l k with own := (p.l k).own ++ [x] }, o := setK p.o k (p.o k ++ [x]) }) (setK_ne _ _ k3) (setK_ne _ _ k3) rfl (fun _ z => z) J.fln ?_ ?_)
      · show p.o (1 - (1 - k)) <+: setK p.o k _ (1 - (1 - k))
        rw [k2, setK_same]; exact List.prefix_append _ _
      · exact Nat.le_refl _
  · have hq : ownP first p k x = p := by
      unfold ownP ownL
      rw [if_neg hE, if_neg hE]
      have : setK p.l k (p.l k) = p.l := by funext j; unfold setK; split <;> simp_all
      rw [this]
    rw [hq]
    exact h.up
/-- an end whose link has turned, and which may have been told more -/
theorem LInv.near {q : Pr} {k : Nat} (h : LInv first n p k) {l' : Lk} {t' : List UInt8} (hl : q.l k = l') (ho : ∀ j, q.o j = p.o j) (ht : q.t k = t') (ht2 : q.t (1 - k) = p.t (1 - k)) (hf : ∀ s ∈ q.f k, s ∈ p.f k) (hfl : (q.f k).length ≤ 30)
    (e0 : l'.nonce = (p.l k).nonce) (e1 : l'.patience = (p.l k).patience) (e2 : l'.state = 0 ∨ l'.state = 1) (e3 : 0 ≤ l'.ticks ∧ l'.ticks ≤ (n + 1 : Nat)) (e4 : 0 ≤ l'.heard ∧ l'.heard ≤ (n + 1 : Nat)) (e5 : 0 ≤ l'.good ∧ l'.good ≤ (n + 1 : Nat)) (e6 : 0 ≤ l'.bad ∧ l'.bad ≤ (n + 1 : Nat)) (e7 : 0 ≤ l'.stale ∧ l'.stale ≤ (n + 1 : Nat))
    (e8 : ∃ a : Nat, l'.acked = ((first + a : Nat) : Int) ∧ l'.own = (p.o k).drop a ∧ a ≤ (p.t (1 - k)).length) (e9 : l'.next = ((first + t'.length : Nat) : Int)) (e10 : t' = (p.o (1 - k)).take t'.length) (e11 : t'.length ≤ (p.o (1 - k)).length) (e12 : l'.own.length ≤ 64)
    (e13 : ∀ m ∈ l'.out, m = ⟨2, 11 + ((1 - k : Nat) : Int), 0, 0, [], 0, 0⟩) (e14 : l'.out.length ≤ 8) : LInv first (n + 1) q k := by
  refine ⟨by rw [hl, e0]; exact h.nonce, by rw [hl, e1]; exact h.pat, by rw [hl]; exact e2, by rw [hl]; exact e3, by rw [hl]; exact e4, by rw [hl]; exact e5, by rw [hl]; exact e6, by rw [hl]; exact e7, by rw [hl, ho, ht2]; exact e8, by rw [hl, ht]; exact e9, by rw [ho, ht]; exact e10, by rw [ho, ht]; exact e11, by rw [ho]; have := h.ol; omega, by rw [hl]; exact e12, by rw [ho]; exact h.ob, by rw [hl]; exact e13, by rw [hl]; exact e14, ?_, hfl⟩
  intro s hs
  obtain ⟨m, h1, h2⟩ := h.fl s (hf s hs)
  exact ⟨m, okM_mono h1 (by rw [ho]; exact List.prefix_refl _) (by rw [ht2]; exact Nat.le_refl _), h2⟩
/-- a tick -/
def tickP (p : Pr) (k : Nat) : Pr :=
  { p with l := setK p.l k (tickF (p.l k) 0).2, f := setK p.f (1 - k) ((p.f (1 - k) ++ (tickF (p.l k) 0).1.map packM).take 30) }
theorem tick_is (h : Inv first n p) (hn : n ≤ 1000) {k : Nat} (hk : k < 2) : tickF (p.l k) 0 = ((p.l k).out ++ (if (p.l k).state = 0 then [helloM (p.l k)] else talkF (upL (p.l k)) 0), { upL (p.l k) with out := [] }) := by
  have H := h k hk
  rw [tick_on _ _ (by have := H.tk; have := H.hd; have := H.pat; omega)]
  unfold saysF
  rw [if_neg (show ¬ (upL (p.l k)).state = 2 by have := H.st; simp only [upL]; omega)]
  rfl
theorem tick_ok (h : Inv first n p) (hn : n ≤ 1000) {k : Nat} (hk : k < 2) : ∀ m ∈ (tickF (p.l k) 0).1, OkM first p (1 - k) m := by
  obtain ⟨k1, k2, k3⟩ := ot hk
  have H := h k hk
  have J := h (1 - k) k1
  rw [tick_is h hn hk]
  intro m hm
  rcases List.mem_append.1 hm with hm | hm
  · rw [H.ou m hm]
    exact .inr (.inl rfl)
  split at hm
  · simp only [List.mem_singleton] at hm
    subst hm
    refine .inl ?_
    rw [k2]
    unfold helloM
    rw [H.nonce]
  · have ht : talkM (upL (p.l k)) = m ∨ qualM (upL (p.l k)) 0 = m := by
      unfold talkF at hm
      split at hm
      · simp only [List.mem_cons, List.not_mem_nil, or_false] at hm
        rcases hm with hm | hm
        · exact .inl hm.symm
        · exact .inr hm.symm
      · simp only [List.mem_cons, List.not_mem_nil, or_false] at hm
        exact .inl hm.symm
    rcases ht with rfl | rfl
    · unfold talkM
      have hnx : (upL (p.l k)).next = ((first + (p.t k).length : Nat) : Int) := H.nx
      obtain ⟨a, h1, h2, h3⟩ := H.ow
      have hal : a ≤ (p.o k).length := by have := J.tl; rw [k2] at this; omega
      split
      · refine .inr (.inr (.inr (.inl ⟨(p.t k).length, by rw [k2]; exact Nat.le_refl _, ?_⟩)))
        rw [hnx]
      · rename_i hne
        have hne : (p.l k).own ≠ [] := hne
        have hlen : (p.l k).own.length = (p.o k).length - a := by rw [h2]; simp
        have hpos := List.length_pos_iff.2 hne
        have h64 := H.wl
        refine .inr (.inr (.inl ⟨a, (p.o k).length - a, (p.t k).length, by omega, by omega, by rw [k2]; omega, by rw [k2]; exact Nat.le_refl _, ?_⟩))
        rw [hnx, k2]
        show (⟨3, 0, (p.l k).acked % 65536, _, (p.l k).own, 0, 0⟩ : Msg) = _
        rw [h1, h2, List.take_of_length_le (by simp)]
    · refine .inr (.inr (.inr (.inr ⟨(p.t k).length, ?_⟩)))
      unfold qualM
      rw [show (upL (p.l k)).next = ((first + (p.t k).length : Nat) : Int) from H.nx]
      rfl
theorem tick_inv (h : Inv first n p) (hn : n ≤ 1000) {k : Nat} (hk : k < 2) : Inv first (n + 1) (tickP p k) := by
  obtain ⟨k1, k2, k3⟩ := ot hk
  have H := h k hk
  have J := h (1 - k) k1
  have hok := tick_ok h hn hk
  have ht := tick_is h hn hk
  intro j hj
  by_cases hjk : j = k
  · subst hjk
    refine H.near (l' := { upL (p.l j) with out := [] }) (t' := p.t j) (by unfold tickP; rw [ht]; exact setK_same _ _ _) (fun _ => rfl) rfl rfl (fun s hs => ?_) ?_ rfl rfl H.st ?_ ?_ ?_ ?_ ?_ H.ow H.nx H.tp H.tl H.wl (fun m hm => by simp at hm) (by simp)
    · have : (tickP p j).f j = p.f j := setK_ne _ _ (by omega)
      rw [this] at hs
      exact hs
    · have : (tickP p j).f j = p.f j := setK_ne _ _ (by omega)
      rw [this]
      exact H.fln
    · have := H.tk; simp only [upL]; omega
    · have := H.hd; simp only [upL]; omega
    · have := H.good; simp only [upL]; omega
    · have := H.bad; simp only [upL]; omega
    · have := H.stale; simp only [upL]; omega
  · obtain rfl : j = 1 - k := by omega
    have hf : (tickP p k).f (1 - k) = (p.f (1 - k) ++ (tickF (p.l k) 0).1.map packM).take 30 := setK_same _ _ _
    have B := J.far (q := { tickP p k with f := p.f }) (setK_ne _ _ k3) rfl rfl (fun _ x => x) J.fln (List.prefix_refl _) (Nat.le_refl _)
    refine ⟨B.nonce, B.pat, B.st, B.tk, B.hd, B.good, B.bad, B.stale, B.ow, B.nx, B.tp, B.tl, B.ol, B.wl, B.ob, B.ou, B.oul, ?_, by rw [hf]; simp; omega⟩
    intro s hs
    rw [hf] at hs
    rcases List.mem_append.1 (List.mem_of_mem_take hs) with hs | hs
    · obtain ⟨m, h1, h2⟩ := J.fl s hs
      exact ⟨m, okM_mono h1 (List.prefix_refl _) (Nat.le_refl _), h2⟩
    · obtain ⟨m, h1, rfl⟩ := List.mem_map.1 hs
      exact ⟨m, okM_mono (hok m h1) (List.prefix_refl _) (Nat.le_refl _), rfl⟩
end Go.Proofs.Ytaobhbfhbmenfaa
/- Two links: hearing (no program in sight). -/
namespace Go.Proofs.Ytaobhbfhbmenfaa
open Go.RowKit
variable {first n : Nat} {p : Pr}
/-- what a heard datagram turns -/
structure HearTo (first : Nat) (p : Pr) (k : Nat) (r : Hrd) (l' : Lk) : Prop where
  told : r.ins ≠ [] → r.frm = ((first + (p.t k).length : Nat) : Int)
  nonce : l'.nonce = (p.l k).nonce
  pat : l'.patience = (p.l k).patience
  st : l'.state = (p.l k).state ∨ l'.state = 1
  tk : l'.ticks = (p.l k).ticks
  hd : l'.heard = (p.l k).ticks ∨ l'.heard = (p.l k).heard
  good : (p.l k).good ≤ l'.good ∧ l'.good ≤ (p.l k).good + 1
  bad : (p.l k).bad ≤ l'.bad ∧ l'.bad ≤ (p.l k).bad + 1
  stale : (p.l k).stale ≤ l'.stale ∧ l'.stale ≤ (p.l k).stale + 1
  ow : ∃ a a' : Nat, (p.l k).acked = ((first + a : Nat) : Int) ∧ l'.acked = ((first + a' : Nat) : Int) ∧ l'.own = (p.o k).drop a' ∧ a ≤ a' ∧ a' ≤ (p.t (1 - k)).length
  nx : l'.next = ((first + (p.t k ++ r.ins).length : Nat) : Int)
  tp : p.t k ++ r.ins = (p.o (1 - k)).take (p.t k ++ r.ins).length
  tl : (p.t k ++ r.ins).length ≤ (p.o (1 - k)).length
  ou : l'.out = (p.l k).out ∨ ((p.l k).out.length < 8 ∧ l'.out = (p.l k).out ++ [⟨2, 11 + ((1 - k : Nat) : Int), 0, 0, [], 0, 0⟩])
theorem hear_pack (h : Inv first n p) {k : Nat} (hk : k < 2) {m : Msg} (ok : OkM first p k m) (T : Hrd × Bool × Lk) (hT : takesF { p.l k with heard := (p.l k).ticks } m = T) :
    hearF (p.l k) (packM m) = if T.2.1 then (T.1, 0, { T.2.2 with good := T.2.2.good + 1 }) else (Hrd.zero, 0, { T.2.2 with stale := T.2.2.stale + 1 }) := by
  obtain ⟨k1, k2, k3⟩ := ot hk
  have H := h k hk
  have J := h (1 - k) k1
  obtain ⟨wf, rp⟩ := okM_right ok hk J.ob
  unfold hearF
  rw [if_neg (by have := H.st; omega), unpM_pack m rp wf]
  simp only [hT]
  rfl
/-- nothing turns but the counts -/
theorem hear_none (h : Inv first n p) {k : Nat} (hk : k < 2) (r : Hrd) (hr : r.ins = []) (l' : Lk) (hl : ∃ s hd g b t, l' = { p.l k with state := s, heard := hd, good := g, bad := b, stale := t } ∧ (s = (p.l k).state ∨ s = 1) ∧ (hd = (p.l k).ticks ∨ hd = (p.l k).heard) ∧ ((p.l k).good ≤ g ∧ g ≤ (p.l k).good + 1) ∧ ((p.l k).bad ≤ b ∧ b ≤ (p.l k).bad + 1) ∧ (p.l k).stale ≤ t ∧ t ≤ (p.l k).stale + 1) : HearTo first p k r l' := by
  have H := h k hk
  obtain ⟨s, hd, g, b, t, rfl, h1, h2, h3, h4, h5⟩ := hl
  obtain ⟨a, a1, a2, a3⟩ := H.ow
  exact ⟨fun hc => absurd hr hc, rfl, rfl, h1, rfl, h2, h3, h4, h5, ⟨a, a, a1, a1, a2, Nat.le_refl _, a3⟩, by rw [hr, List.append_nil]; exact H.nx, by rw [hr, List.append_nil]; exact H.tp, by rw [hr, List.append_nil]; exact H.tl, .inl rfl⟩
theorem hear_hello (h : Inv first n p) {k : Nat} (hk : k < 2) :
    ∃ r e l', hearF (p.l k) (packM ⟨1, 11 + ((1 - k : Nat) : Int), 0, 0, [], 0, 0⟩) = (r, e, l') ∧ HearTo first p k r l' ∧ l'.out ≠ [] ∧ l'.state = (p.l k).state := by
  have H := h k hk
  obtain ⟨a, a1, a2, a3⟩ := H.ow
  have hp := hear_pack h hk (.inl rfl) _ rfl
  rw [hp]
  simp only [takesF, if_true]
  refine ⟨_, _, _, rfl, ?_, ?_, ?_⟩
  · by_cases h8 : (p.l k).out.length = 8
    · simp only [if_pos h8]
      exact hear_none h hk _ rfl _ ⟨(p.l k).state, (p.l k).ticks, (p.l k).good + 1, (p.l k).bad, (p.l k).stale, rfl, .inl rfl, .inl rfl, by omega, by omega, by omega⟩
    · simp only [if_neg h8]
      exact ⟨fun hc => absurd rfl hc, rfl, rfl, .inl rfl, rfl, .inl rfl, by simp only; omega, by simp only; omega, by simp only; omega, ⟨a, a, a1, a1, a2, Nat.le_refl _, a3⟩, by rw [List.append_nil]; exact H.nx, by rw [List.append_nil]; exact H.tp, by rw [List.append_nil]; exact H.tl, .inr ⟨by have := H.oul; omega, rfl⟩⟩
  · by_cases h8 : (p.l k).out.length = 8
    · simp only [if_pos h8]
      intro hc
      rw [hc] at h8
      cases h8
    · simp only [if_neg h8]
      simp
  · simp only
    split <;> rfl
theorem hear_welcome (h : Inv first n p) {k : Nat} (hk : k < 2) :
    ∃ r e l', hearF (p.l k) (packM ⟨2, 11 + (k : Int), 0, 0, [], 0, 0⟩) = (r, e, l') ∧ HearTo first p k r l' ∧ l'.out = (p.l k).out ∧ l'.state = 1 := by
  have H := h k hk
  have hp := hear_pack h hk (.inr (.inl rfl)) _ rfl
  rw [hp]
  have hnn : (11 + (k : Int)) = (p.l k).nonce := H.nonce.symm
  simp only [takesF, if_pos hnn]
  exact ⟨_, _, _, rfl, hear_none h hk _ rfl _ ⟨1, (p.l k).ticks, (p.l k).good + 1, (p.l k).bad, (p.l k).stale, rfl, .inr rfl, .inl rfl, by omega, by omega, by omega⟩, rfl, rfl⟩
/-- while it greets the talk is stale -/
theorem hear_early (h : Inv first n p) {k : Nat} (hk : k < 2) {m : Msg} (ok : OkM first p k m) (hs : (p.l k).state = 0) (h1 : m.kind ≠ 1) (h2 : m.kind ≠ 2) (h7 : m.kind ≠ 7) :
    ∃ r e l', hearF (p.l k) (packM m) = (r, e, l') ∧ HearTo first p k r l' ∧ l'.out = (p.l k).out ∧ l'.state = (p.l k).state := by
  have hp := hear_pack h hk ok (Hrd.zero, false, { p.l k with heard := (p.l k).ticks }) (by unfold takesF; rw [if_neg h1, if_neg h2, if_neg h7, if_neg (by simp only; omega)])
  rw [hp]
  simp only [Bool.false_eq_true, if_false]
  exact ⟨_, _, _, rfl, hear_none h hk _ rfl _ ⟨(p.l k).state, (p.l k).ticks, (p.l k).good, (p.l k).bad, (p.l k).stale + 1, rfl, .inl rfl, .inl rfl, by omega, by omega, by omega⟩, rfl, rfl⟩
theorem hear_quality (h : Inv first n p) {k : Nat} (hk : k < 2) (hs : (p.l k).state = 1) (t : Nat) :
    ∃ r e l', hearF (p.l k) (packM ⟨6, 0, ((first + t : Nat) : Int) % 65536, 0, [], 0, 0⟩) = (r, e, l') ∧ HearTo first p k r l' ∧ l'.out = (p.l k).out ∧ l'.state = (p.l k).state := by
  have hp := hear_pack h hk (.inr (.inr (.inr (.inr ⟨t, rfl⟩)))) (⟨6, 0, [], 0, 0, 0⟩, true, { p.l k with heard := (p.l k).ticks }) (by
    unfold takesF openF
    rw [if_neg (by simp), if_neg (by simp), if_neg (by simp), if_pos hs, if_neg (by simp), if_neg (by simp), if_neg (by simp), if_pos rfl])
  rw [hp]
  simp only [if_true]
  exact ⟨_, _, _, rfl, hear_none h hk _ rfl _ ⟨(p.l k).state, (p.l k).ticks, (p.l k).good + 1, (p.l k).bad, (p.l k).stale, rfl, .inl rfl, .inl rfl, by omega, by omega, by omega⟩, rfl, rfl⟩
theorem hear_alive (h : Inv first n p) (hf : first ≤ 65535) (hn : n ≤ 1000) {k : Nat} (hk : k < 2) (hs : (p.l k).state = 1) (t : Nat) (ht : t ≤ (p.t (1 - k)).length) :
    ∃ r e l', hearF (p.l k) (packM ⟨5, 0, 0, ((first + t : Nat) : Int) % 65536, [], 0, 0⟩) = (r, e, l') ∧ HearTo first p k r l' ∧ l'.out = (p.l k).out ∧ l'.state = (p.l k).state ∧ ((first + t : Nat) : Int) ≤ l'.acked := by
  obtain ⟨k1, k2, k3⟩ := ot hk
  have H := h k hk
  have J := h (1 - k) k1
  have hJ := J.tl
  rw [k2] at hJ
  obtain ⟨a, a1, a2, a3⟩ := H.ow
  obtain ⟨a', b1, b2, b3, b4⟩ := ack_ok first a t { p.l k with heard := (p.l k).ticks } (p.o k) hf (by omega) (by omega) (by have := H.ol; omega) a1 a2
  have hp := hear_pack h hk (.inr (.inr (.inr (.inl ⟨t, ht, rfl⟩)))) (⟨5, 0, [], 0, 0, 0⟩, true, { p.l k with heard := (p.l k).ticks, acked := ((first + a' : Nat) : Int), own := (p.o k).drop a' }) (by
    unfold takesF openF
    rw [if_neg (by simp), if_neg (by simp), if_neg (by simp), if_pos hs, if_neg (by simp), if_neg (by simp), if_pos rfl]
    simp only [b1])
  rw [hp]
  simp only [if_true]
  refine ⟨_, _, _, rfl, ⟨fun hc => absurd rfl hc, rfl, rfl, .inl rfl, rfl, .inl rfl, by simp only; omega, by simp only; omega, by simp only; omega, ⟨a, a', a1, rfl, rfl, b2, by omega⟩, by rw [List.append_nil]; exact H.nx, by rw [List.append_nil]; exact H.tp, by rw [List.append_nil]; exact H.tl, .inl rfl⟩, rfl, rfl, ?_⟩
  simp only
  omega
theorem hear_inputs (h : Inv first n p) (hf : first ≤ 65535) (hn : n ≤ 1000) {k : Nat} (hk : k < 2) (hs : (p.l k).state = 1) (b c t : Nat) (hc : 0 < c) (hc2 : c ≤ 64) (hbc : b + c ≤ (p.o (1 - k)).length) (ht : t ≤ (p.t (1 - k)).length) :
    ∃ r e l', hearF (p.l k) (packM ⟨3, 0, ((first + b : Nat) : Int) % 65536, ((first + t : Nat) : Int) % 65536, ((p.o (1 - k)).drop b).take c, 0, 0⟩) = (r, e, l') ∧ HearTo first p k r l' ∧ l'.out = (p.l k).out ∧ l'.state = (p.l k).state ∧ ((first + t : Nat) : Int) ≤ l'.acked ∧ (b ≤ (p.t k).length → b + c ≤ (p.t k ++ r.ins).length) := by
  obtain ⟨k1, k2, k3⟩ := ot hk
  have H := h k hk
  have J := h (1 - k) k1
  have hJ := J.tl
  rw [k2] at hJ
  obtain ⟨a, a1, a2, a3⟩ := H.ow
  obtain ⟨a', b1, b2, b3, b4⟩ := ack_ok first a t { p.l k with heard := (p.l k).ticks } (p.o k) hf (by omega) (by omega) (by have := H.ol; omega) a1 a2
  have hp := hear_pack h hk (.inr (.inr (.inl ⟨b, c, t, hc, hc2, hbc, ht, rfl⟩))) (inpF { p.l k with heard := (p.l k).ticks, acked := ((first + a' : Nat) : Int), own := (p.o k).drop a' } ⟨3, 0, ((first + b : Nat) : Int) % 65536, ((first + t : Nat) : Int) % 65536, ((p.o (1 - k)).drop b).take c, 0, 0⟩) (by
    unfold takesF openF
    rw [if_neg (by simp), if_neg (by simp), if_neg (by simp), if_pos hs, if_pos rfl]
    simp only [b1])
  rw [hp]
  have hi := inp_tell first b c { p.l k with heard := (p.l k).ticks, acked := ((first + a' : Nat) : Int), own := (p.o k).drop a' } (p.o (1 - k)) (p.t k) hf hbc (by have := J.ol; omega) H.tp H.tl H.nx (((first + t : Nat) : Int) % 65536)
  rcases hi with ⟨hi, hi2⟩ | ⟨e, hi, hi2, hi3, hi4⟩
  · simp only [hi, Bool.false_eq_true, if_false]
    refine ⟨_, _, _, rfl, ⟨fun hc => absurd rfl hc, rfl, rfl, .inl rfl, rfl, .inl rfl, by simp only; omega, by simp only; omega, by simp only; omega, ⟨a, a', a1, rfl, rfl, b2, by omega⟩, ?_, ?_, ?_, .inl rfl⟩, rfl, rfl, ?_, ?_⟩
    · simp [Hrd.zero]; exact H.nx
    · simp [Hrd.zero]; exact H.tp
    · simp [Hrd.zero]; exact H.tl
    · simp only; omega
    · simp [Hrd.zero]; omega
  · simp only [hi, if_true]
    have hel : (p.t k ++ e).length = b + c := by rw [hi4]; simp; omega
    refine ⟨_, _, _, rfl, ⟨fun _ => rfl, rfl, rfl, .inl rfl, rfl, .inl rfl, by simp only; omega, by simp only; omega, by simp only; omega, ⟨a, a', a1, rfl, rfl, b2, by omega⟩, ?_, ?_, ?_, .inl rfl⟩, rfl, rfl, ?_, ?_⟩
    · simp only [hel]
    · simp only [hel]; exact hi4
    · simp only [hel]; exact hbc
    · simp only; omega
    · intro _; simp only [hel]; exact Nat.le_refl _
end Go.Proofs.Ytaobhbfhbmenfaa
/- Two links: hearing keeps what holds (no program in sight). -/
namespace Go.Proofs.Ytaobhbfhbmenfaa
open Go.RowKit
variable {first n : Nat} {p : Pr}
theorem okM_kind {k : Nat} {m : Msg} (h : OkM first p k m) : m.kind = 1 ∨ m.kind = 2 ∨ m.kind = 3 ∨ m.kind = 5 ∨ m.kind = 6 := by
  rcases h with rfl | rfl | ⟨a, n, t, h1, h2, h3, h4, rfl⟩ | ⟨t, h4, rfl⟩ | ⟨t, rfl⟩ <;> simp
theorem hear_any (h : Inv first n p) (hf : first ≤ 65535) (hn : n ≤ 1000) {k : Nat} (hk : k < 2) {m : Msg} (ok : OkM first p k m) : ∃ r e l', hearF (p.l k) (packM m) = (r, e, l') ∧ HearTo first p k r l' := by
  have H := h k hk
  have hok := ok
  rcases ok with rfl | rfl | ⟨a, n, t, h1, h2, h3, h4, rfl⟩ | ⟨t, h4, rfl⟩ | ⟨t, rfl⟩
  · obtain ⟨r, e, l', x, y, _⟩ := hear_hello h hk
    exact ⟨r, e, l', x, y⟩
  · obtain ⟨r, e, l', x, y, _⟩ := hear_welcome h hk
    exact ⟨r, e, l', x, y⟩
  · rcases H.st with hs | hs
    · obtain ⟨r, e, l', x, y, _⟩ := hear_early h hk hok hs (by simp) (by simp) (by simp)
      exact ⟨r, e, l', x, y⟩
    · obtain ⟨r, e, l', x, y, _⟩ := hear_inputs h hf hn hk hs a n t h1 h2 h3 h4
      exact ⟨r, e, l', x, y⟩
  · rcases H.st with hs | hs
    · obtain ⟨r, e, l', x, y, _⟩ := hear_early h hk hok hs (by simp) (by simp) (by simp)
      exact ⟨r, e, l', x, y⟩
    · obtain ⟨r, e, l', x, y, _⟩ := hear_alive h hf hn hk hs t h4
      exact ⟨r, e, l', x, y⟩
  · rcases H.st with hs | hs
    · obtain ⟨r, e, l', x, y, _⟩ := hear_early h hk hok hs (by simp) (by simp) (by simp)
      exact ⟨r, e, l', x, y⟩
    · obtain ⟨r, e, l', x, y, _⟩ := hear_quality h hk hs t
      exact ⟨r, e, l', x, y⟩
/-- a datagram is heard, and of what flies F is left -/
def hearQ (p : Pr) (k : Nat) (s : List UInt8) (F : List (List UInt8)) : Pr :=
  { p with l := setK p.l k (hearF (p.l k) s).2.2, t := setK p.t k (p.t k ++ (hearF (p.l k) s).1.ins), f := setK p.f k F }
theorem hear_inv (h : Inv first n p) {k : Nat} (hk : k < 2) (s : List UInt8) (hh : HearTo first p k (hearF (p.l k) s).1 (hearF (p.l k) s).2.2) (F : List (List UInt8)) (hF : ∀ x ∈ F, x ∈ p.f k) (hFl : F.length ≤ 30) : Inv first (n + 1) (hearQ p k s F) := by
  obtain ⟨k1, k2, k3⟩ := ot hk
  have H := h k hk
  have J := h (1 - k) k1
  have hq1 : (hearQ p k s F).l k = (hearF (p.l k) s).2.2 := setK_same _ _ _
  have hq2 : (hearQ p k s F).t k = p.t k ++ (hearF (p.l k) s).1.ins := setK_same _ _ _
  have hq3 : (hearQ p k s F).f k = F := setK_same _ _ _
  have hq4 : (hearQ p k s F).l (1 - k) = p.l (1 - k) := setK_ne _ _ k3
  have hq5 : (hearQ p k s F).t (1 - k) = p.t (1 - k) := setK_ne _ _ k3
  have hq6 : (hearQ p k s F).f (1 - k) = p.f (1 - k) := setK_ne _ _ k3
  generalize hearF (p.l k) s = R at *
  obtain ⟨r, e, l'⟩ := R
  simp only at *
  intro j hj
  by_cases hjk : j = k
  · subst hjk
    obtain ⟨a, a', a1, a2, a3, a4, a5⟩ := hh.ow
    obtain ⟨b, b1, b2, b3⟩ := H.ow
    refine H.near hq1 (fun _ => rfl) hq2 hq5 (by rw [hq3]; exact hF) (by rw [hq3]; exact hFl) hh.nonce hh.pat ?_ ?_ ?_ ?_ ?_ ?_ ⟨a', a2, a3, a5⟩ hh.nx hh.tp hh.tl ?_ ?_ ?_
    · rcases hh.st with e | e
      · rw [e]; exact H.st
      · exact .inr e
    · rw [hh.tk]; have := H.tk; omega
    · have := H.tk; have := H.hd; rcases hh.hd with e | e <;> rw [e] <;> omega
    · have := H.good; have := hh.good; omega
    · have := H.bad; have := hh.bad; omega
    · have := H.stale; have := hh.stale; omega
    · rw [a3, List.length_drop]
      have hw := H.wl
      rw [b2, List.length_drop] at hw
      have : b ≤ a' := by omega
      omega
    · rcases hh.ou with e | ⟨_, e⟩
      · rw [e]; exact H.ou
      · rw [e]
        intro m hm
        rcases List.mem_append.1 hm with hm | hm
        · exact H.ou m hm
        · simpa using hm
    · rcases hh.ou with e | ⟨e1, e⟩
      · rw [e]; exact H.oul
      · rw [e]; simp; omega
  · obtain rfl : j = 1 - k := by omega
    refine J.far hq4 rfl hq5 (by rw [hq6]; exact fun _ x => x) (by rw [hq6]; exact J.fln) (List.prefix_refl _) ?_
    rw [k2, hq2]
    simp
theorem hear_ok (h : Inv first n p) (hf : first ≤ 65535) (hn : n ≤ 1000) {k : Nat} (hk : k < 2) {s : List UInt8} (hs : s ∈ p.f k) : HearTo first p k (hearF (p.l k) s).1 (hearF (p.l k) s).2.2 := by
  obtain ⟨m, ok, rfl⟩ := (h k hk).fl s hs
  obtain ⟨r, e, l', h1, h2⟩ := hear_any h hf hn hk ok
  rw [h1]
  exact h2
theorem hear_turned (h : Inv first n p) {k : Nat} (hk : k < 2) {s : List UInt8} (hs : (unpM s).2 ≠ 0) : HearTo first p k (hearF (p.l k) s).1 (hearF (p.l k) s).2.2 := by
  have H := h k hk
  unfold hearF
  rw [if_neg (by have := H.st; omega), if_pos hs]
  exact hear_none h hk _ rfl _ ⟨(p.l k).state, (p.l k).heard, (p.l k).good, (p.l k).bad + 1, (p.l k).stale, rfl, .inl rfl, .inr rfl, by omega, by omega, by omega⟩
theorem drop_inv (h : Inv first n p) {k : Nat} (hk : k < 2) (F : List (List UInt8)) (hF : ∀ x ∈ F, x ∈ p.f k) (hFl : F.length ≤ 30) : Inv first (n + 1) { p with f := setK p.f k F } := by
  intro j hj
  by_cases hjk : j = k
  · subst hjk
    exact (h j hj).far rfl rfl rfl (by show ∀ s ∈ setK p.f j F j, _; rw [setK_same]; exact hF) (by show (setK p.f j F j).length ≤ 30; rw [setK_same]; exact hFl) (List.prefix_refl _) (Nat.le_refl _)
  · exact (h j hj).far rfl rfl rfl (by show ∀ s ∈ setK p.f k F j, _; rw [setK_ne _ _ hjk]; exact fun _ x => x) (by show (setK p.f k F j).length ≤ 30; rw [setK_ne _ _ hjk]; exact (h j hj).fln) (List.prefix_refl _) (Nat.le_refl _)
theorem fresh_inv (h : Inv first n p) : Inv first (n + 1) { p with f := fun _ => [] } :=
  fun j hj => (h j hj).far rfl rfl rfl (fun s hs => by simp at hs) (by simp) (List.prefix_refl _) (Nat.le_refl _)
theorem begin_inv : Inv first 0 ⟨fun k => Lk.new (11 + (k : Int)) 10000 first, fun _ => [], fun _ => [], fun _ => []⟩ := by
  intro k hk
  constructor <;> simp [Lk.new]
end Go.Proofs.Ytaobhbfhbmenfaa
/- Two links: all comes at last (no program in sight). -/
namespace Go.Proofs.Ytaobhbfhbmenfaa
open Go.RowKit
variable {first n : Nat} {p : Pr}
/-- what the hearing of k leaves, and what it never takes back -/
structure Mono (k : Nat) (p q : Pr) : Prop where
  o : q.o = p.o
  l : q.l (1 - k) = p.l (1 - k)
  t : q.t (1 - k) = p.t (1 - k)
  f : q.f (1 - k) = p.f (1 - k)
  st : (p.l k).state = 1 → (q.l k).state = 1
  tl : (p.t k).length ≤ (q.t k).length
  ak : (p.l k).acked ≤ (q.l k).acked
  ou : (p.l k).out ≠ [] → (q.l k).out ≠ []
theorem Mono.refl (k : Nat) (p : Pr) : Mono k p p := ⟨rfl, rfl, rfl, rfl, id, Nat.le_refl _, Int.le_refl _, id⟩
theorem Mono.trans {k : Nat} {a b c : Pr} (h : Mono k a b) (g : Mono k b c) : Mono k a c :=
  ⟨g.o.trans h.o, g.l.trans h.l, g.t.trans h.t, g.f.trans h.f, fun x => g.st (h.st x), Nat.le_trans h.tl g.tl, Int.le_trans h.ak g.ak, fun x => g.ou (h.ou x)⟩
theorem okM_same {k : Nat} {p q : Pr} {m : Msg} (h : OkM first p k m) (ho : q.o = p.o) (ht : q.t (1 - k) = p.t (1 - k)) : OkM first q k m :=
  okM_mono h (by rw [ho]; exact List.prefix_refl _) (by rw [ht]; exact Nat.le_refl _)
theorem hearTo_mono {k : Nat} (hk : k < 2) {s : List UInt8} (hh : HearTo first p k (hearF (p.l k) s).1 (hearF (p.l k) s).2.2) (F : List (List UInt8)) : Mono k p (hearQ p k s F) := by
  obtain ⟨k1, k2, k3⟩ := ot hk
  have hq1 : (hearQ p k s F).l k = (hearF (p.l k) s).2.2 := setK_same _ _ _
  have hq2 : (hearQ p k s F).t k = p.t k ++ (hearF (p.l k) s).1.ins := setK_same _ _ _
  refine ⟨rfl, setK_ne _ _ k3, setK_ne _ _ k3, setK_ne _ _ k3, ?_, ?_, ?_, ?_⟩
  · rw [hq1]
    intro h
    rcases hh.st with e | e
    · rw [e]; exact h
    · exact e
  · rw [hq2]; simp
  · rw [hq1]
    obtain ⟨a, a', a1, a2, a3, a4, a5⟩ := hh.ow
    rw [a1, a2]; omega
  · rw [hq1]
    intro h
    rcases hh.ou with e | ⟨_, e⟩
    · rw [e]; exact h
    · rw [e]; simp
/-- one datagram -/
theorem hear_one (h : Inv first n p) (hf : first ≤ 65535) (hn : n ≤ 1000) {k : Nat} (hk : k < 2) {m : Msg} (ok : OkM first p k m) (F : List (List UInt8)) (hF : ∀ x ∈ F, x ∈ p.f k) (hFl : F.length ≤ 30) :
    Inv first (n + 1) (hearQ p k (packM m) F) ∧ Mono k p (hearQ p k (packM m) F) ∧ (m.kind = 2 → ((hearQ p k (packM m) F).l k).state = 1) ∧ (m.kind = 1 → ((hearQ p k (packM m) F).l k).out ≠ []) := by
  have hh : HearTo first p k (hearF (p.l k) (packM m)).1 (hearF (p.l k) (packM m)).2.2 := by
    obtain ⟨r, e, l', h1, h2⟩ := hear_any h hf hn hk ok
    rw [h1]
    exact h2
  have hq1 : (hearQ p k (packM m) F).l k = (hearF (p.l k) (packM m)).2.2 := setK_same _ _ _
  refine ⟨hear_inv h hk _ hh F hF hFl, hearTo_mono hk hh F, ?_, ?_⟩
  · intro h2
    rw [hq1]
    rcases ok with rfl | rfl | ⟨a, n, t, _, _, _, _, rfl⟩ | ⟨t, _, rfl⟩ | ⟨t, rfl⟩
    · simp at h2
    · obtain ⟨r, e, l', x, _, _, y⟩ := hear_welcome h hk
      rw [x]
      exact y
    · simp at h2
    · simp at h2
    · simp at h2
  · intro h2
    rw [hq1]
    rcases ok with rfl | rfl | ⟨a, n, t, _, _, _, _, rfl⟩ | ⟨t, _, rfl⟩ | ⟨t, rfl⟩
    · obtain ⟨r, e, l', x, _, y, _⟩ := hear_hello h hk
      rw [x]
      exact y
    · simp at h2
    · simp at h2
    · simp at h2
    · simp at h2
/-- all that flies to k is heard, in order -/
def drain (k : Nat) : List (List UInt8) → Pr → Pr
  | [], p => p
  | s :: F, p => drain k F (hearQ p k s F)
theorem drain_all (hf : first ≤ 65535) {k : Nat} (hk : k < 2) : ∀ (ms : List Msg) (n : Nat) (p : Pr), Inv first n p → n + ms.length ≤ 1000 → (∀ m ∈ ms, OkM first p k m) → p.f k = ms.map packM →
    Inv first (n + ms.length) (drain k (ms.map packM) p) ∧ Mono k p (drain k (ms.map packM) p) ∧ (drain k (ms.map packM) p).f k = [] ∧ ((∃ m ∈ ms, m.kind = 2) → ((drain k (ms.map packM) p).l k).state = 1) ∧ ((∃ m ∈ ms, m.kind = 1) → ((drain k (ms.map packM) p).l k).out ≠ [])
  | [], n, p, h, _, _, hfk => ⟨h, Mono.refl _ _, hfk, fun ⟨m, hm, _⟩ => by simp at hm, fun ⟨m, hm, _⟩ => by simp at hm⟩
  | m :: ms, n, p, h, hn, hok, hfk => by
    simp only [List.length_cons] at hn
    have hl30 := (h k hk).fln
    rw [hfk] at hl30
    simp only [List.map_cons, List.length_cons, List.length_map] at hl30
    obtain ⟨h1, h2, h3, h4⟩ := hear_one h hf (by omega) hk (hok m (by simp)) (ms.map packM) (fun x hx => by rw [hfk]; simp only [List.map_cons, List.mem_cons]; exact .inr hx) (by simp; omega)
    have hq : (hearQ p k (packM m) (ms.map packM)).f k = ms.map packM := setK_same _ _ _
    obtain ⟨g1, g2, g3, g4, g5⟩ := drain_all hf hk ms (n + 1) (hearQ p k (packM m) (ms.map packM)) h1 (by omega) (fun x hx => okM_same (hok x (by simp [hx])) h2.o h2.t) hq
    simp only [List.map_cons, drain]
    refine ⟨by rw [List.length_cons, show n + (ms.length + 1) = n + 1 + ms.length by omega]; exact g1, h2.trans g2, g3, ?_, ?_⟩
    · rintro ⟨x, hx, hx2⟩
      rcases List.mem_cons.1 hx with rfl | hx
      · exact g2.st (h3 hx2)
      · exact g4 ⟨x, hx, hx2⟩
    · rintro ⟨x, hx, hx2⟩
      rcases List.mem_cons.1 hx with rfl | hx
      · exact g2.ou (h4 hx2)
      · exact g5 ⟨x, hx, hx2⟩
/-- the talk behind the welcomes tells all, and acknowledges all -/
theorem drain_talk (hf : first ≤ 65535) {k : Nat} (hk : k < 2) (x : Msg) (rest : List Msg) (N t : Nat) : ∀ (A : List Msg) (n : Nat) (p : Pr), Inv first n p → n + (A ++ x :: rest).length ≤ 1000 → (∀ m ∈ A ++ x :: rest, OkM first p k m) → p.f k = (A ++ x :: rest).map packM →
    ((p.l k).state = 1 ∨ ∃ m ∈ A, m.kind = 2) → t ≤ (p.t (1 - k)).length →
    ((x = ⟨5, 0, 0, ((first + t : Nat) : Int) % 65536, [], 0, 0⟩ ∧ N ≤ (p.t k).length) ∨ (∃ b c : Nat, 0 < c ∧ c ≤ 64 ∧ b + c ≤ (p.o (1 - k)).length ∧ b ≤ (p.t k).length ∧ N ≤ b + c ∧ x = ⟨3, 0, ((first + b : Nat) : Int) % 65536, ((first + t : Nat) : Int) % 65536, ((p.o (1 - k)).drop b).take c, 0, 0⟩)) →
    N ≤ ((drain k ((A ++ x :: rest).map packM) p).t k).length ∧ ((first + t : Nat) : Int) ≤ ((drain k ((A ++ x :: rest).map packM) p).l k).acked
  | [], n, p, h, hn, hok, hfk, hs, ht, hx => by
    simp only [List.nil_append, List.length_cons] at hn hok hfk ⊢
    have hl30 := (h k hk).fln
    rw [hfk] at hl30
    simp only [List.map_cons, List.length_cons, List.length_map] at hl30
    have hs1 : (p.l k).state = 1 := hs.resolve_right fun ⟨m, hm, _⟩ => by simp at hm
    obtain ⟨h1, h2, _, _⟩ := hear_one h hf (by omega) hk (hok x (by simp)) (rest.map packM) (fun y hy => by rw [hfk]; simp only [List.map_cons, List.mem_cons]; exact .inr hy) (by simp; omega)
    have hq : (hearQ p k (packM x) (rest.map packM)).f k = rest.map packM := setK_same _ _ _
    obtain ⟨_, g2, _⟩ := drain_all hf hk rest (n + 1) _ h1 (by omega) (fun y hy => okM_same (hok y (by simp [hy])) h2.o h2.t) hq
    have hq1 : (hearQ p k (packM x) (rest.map packM)).l k = (hearF (p.l k) (packM x)).2.2 := setK_same _ _ _
    have hq2 : (hearQ p k (packM x) (rest.map packM)).t k = p.t k ++ (hearF (p.l k) (packM x)).1.ins := setK_same _ _ _
    simp only [List.map_cons, drain]
    have e1 := g2.tl
    have e2 := g2.ak
    rcases hx with ⟨rfl, hN⟩ | ⟨b, c, hc, hc2, hbc, hb, hN, rfl⟩
    · obtain ⟨r, e, l', x1, x2, x3, x4, x5⟩ := hear_alive h hf (by omega) hk hs1 t ht
      rw [hq1, x1] at e2
      have := h2.tl
      exact ⟨by omega, Int.le_trans x5 e2⟩
    · obtain ⟨r, e, l', x1, x2, x3, x4, x5, x6⟩ := hear_inputs h hf (by omega) hk hs1 b c t hc hc2 hbc ht
      rw [hq1, x1] at e2
      rw [hq2, x1] at e1
      have := x6 hb
      simp only at e1
      exact ⟨by omega, Int.le_trans x5 e2⟩
  | m :: A, n, p, h, hn, hok, hfk, hs, ht, hx => by
    simp only [List.cons_append, List.length_cons] at hn
    have hl30 := (h k hk).fln
    rw [hfk] at hl30
    simp only [List.cons_append, List.map_cons, List.length_cons, List.length_map] at hl30
    obtain ⟨h1, h2, h3, h4⟩ := hear_one h hf (by omega) hk (hok m (by simp)) ((A ++ x :: rest).map packM) (fun y hy => by rw [hfk]; simp only [List.cons_append, List.map_cons, List.mem_cons]; exact .inr hy) (by simp at hl30 ⊢; omega)
    have hq : (hearQ p k (packM m) ((A ++ x :: rest).map packM)).f k = (A ++ x :: rest).map packM := setK_same _ _ _
    have hd := h2.tl
    have := drain_talk hf hk x rest N t A (n + 1) _ h1 (by omega) (fun y hy => okM_same (hok y (by simp only [List.cons_append, List.mem_cons]; exact .inr hy)) h2.o h2.t) hq ?_ (by rw [h2.t]; exact ht) ?_
    · simp only [List.cons_append, List.map_cons, drain]
      exact this
    · rcases hs with hs | ⟨y, hy, hy2⟩
      · exact .inl (h2.st hs)
      · rcases List.mem_cons.1 hy with rfl | hy
        · exact .inl (h3 hy2)
        · exact .inr ⟨y, hy, hy2⟩
    · rcases hx with ⟨e, hN⟩ | ⟨b, c, hc, hc2, hbc, hb, hN, e⟩
      · exact .inl ⟨e, by omega⟩
      · exact .inr ⟨b, c, hc, hc2, by rw [h2.o]; exact hbc, by omega, hN, by rw [h2.o]; exact e⟩
end Go.Proofs.Ytaobhbfhbmenfaa
/- Two links: six rounds (no program in sight). -/
namespace Go.Proofs.Ytaobhbfhbmenfaa
open Go.RowKit
variable {first n : Nat} {p : Pr}
/-- j ticks, the other one hears all -/
def half (p : Pr) (j : Nat) : Pr := drain (1 - j) ((tickP p j).f (1 - j)) (tickP p j)
structure Half (first : Nat) (j : Nat) (p q : Pr) : Prop where
  o : q.o = p.o
  l : (q.l j).state = (p.l j).state ∧ (q.l j).acked = (p.l j).acked
  t : q.t j = p.t j
  f : q.f j = p.f j
  fe : q.f (1 - j) = []
  st : (p.l (1 - j)).state = 1 → (q.l (1 - j)).state = 1
  tl : (p.t (1 - j)).length ≤ (q.t (1 - j)).length
  ak : (p.l (1 - j)).acked ≤ (q.l (1 - j)).acked
  hello : (p.l j).state = 0 → (q.l (1 - j)).out ≠ []
  welc : (p.l j).out ≠ [] → (q.l (1 - j)).state = 1
  talk : (p.l j).state = 1 → ((p.l (1 - j)).state = 1 ∨ (p.l j).out ≠ []) → (p.o j).length ≤ (q.t (1 - j)).length ∧ ((first + (p.t j).length : Nat) : Int) ≤ (q.l (1 - j)).acked
theorem talk_len (l : Lk) (lead : Int) : (talkF l lead).length ≤ 2 := by
  unfold talkF
  split <;> simp
theorem tick_len (h : Inv first n p) (hn : n ≤ 900) {j : Nat} (hj : j < 2) : (tickF (p.l j) 0).1.length ≤ 10 := by
  have H := (h j hj).oul
  rw [tick_is h (by omega) hj]
  simp only [List.length_append]
  split
  · simp; omega
  · have := talk_len (upL (p.l j)) 0
    omega
theorem half_is (h : Inv first n p) (hf : first ≤ 65535) (hn : n ≤ 900) {j : Nat} (hj : j < 2) (hfe : p.f (1 - j) = []) : Inv first (n + 11) (half p j) ∧ Half first j p (half p j) := by
  obtain ⟨j1, j2, j3⟩ := ot hj
  have hT := tick_inv h (by omega) hj
  have hok := tick_ok h (by omega) hj
  have hlen := tick_len h hn hj
  have hti := tick_is h (by omega) hj
  have hfk : (tickP p j).f (1 - j) = (tickF (p.l j) 0).1.map packM := by
    have : (tickP p j).f (1 - j) = (p.f (1 - j) ++ (tickF (p.l j) 0).1.map packM).take 30 := setK_same _ _ _
    rw [this, hfe, List.nil_append, List.take_of_length_le (by simp; omega)]
  have hlj : (tickP p j).l j = { upL (p.l j) with out := [] } := by
    have : (tickP p j).l j = (tickF (p.l j) 0).2 := setK_same _ _ _
    rw [this, hti]
  have hlk : (tickP p j).l (1 - j) = p.l (1 - j) := setK_ne _ _ j3
  have hfj : (tickP p j).f j = p.f j := setK_ne _ _ (Ne.symm j3)
  have hoT : (tickP p j).o = p.o := rfl
  have htT : (tickP p j).t = p.t := rfl
  obtain ⟨d1, d2, d3, d4, d5⟩ := drain_all hf j1 (tickF (p.l j) 0).1 (n + 1) (tickP p j) hT (by omega) (fun m hm => okM_same (hok m hm) rfl rfl) hfk
  have hh : half p j = drain (1 - j) ((tickF (p.l j) 0).1.map packM) (tickP p j) := by
    unfold half
    rw [hfk]
  rw [hh]
  have hI : Inv first (n + 11) (drain (1 - j) ((tickF (p.l j) 0).1.map packM) (tickP p j)) := by
    have : ∀ (i a : Nat) (q : Pr), Inv first a q → Inv first (a + i) q := fun i => by
      induction i with
      | zero => exact fun _ _ h => h
      | succ i ih => exact fun a q h => (ih a q h).up
    have h2 := this (10 - (tickF (p.l j) 0).1.length) _ _ d1
    rwa [show n + 1 + (tickF (p.l j) 0).1.length + (10 - (tickF (p.l j) 0).1.length) = n + 11 by omega] at h2
  refine ⟨hI, ⟨d2.o, ?_, ?_, ?_, d3, ?_, ?_, ?_, ?_, ?_, ?_⟩⟩
  · have := d2.l
    rw [j2, hlj] at this
    rw [this]
    exact ⟨rfl, rfl⟩
  · have := d2.t
    rw [j2] at this
    exact this
  · have := d2.f
    rw [j2, hfj] at this
    exact this
  · have := d2.st
    rw [hlk] at this
    exact this
  · exact d2.tl
  · have := d2.ak
    rw [hlk] at this
    exact this
  · intro hs
    refine d5 ⟨helloM (p.l j), ?_, rfl⟩
    rw [hti, if_pos hs]
    simp
  · intro ho
    obtain ⟨m, hm⟩ := List.exists_mem_of_ne_nil _ ho
    refine d4 ⟨m, ?_, by rw [(h j hj).ou m hm]⟩
    rw [hti]
    simp [hm]
  · intro hs hk
    have H := h j hj
    have J := h (1 - j) j1
    obtain ⟨a, a1, a2, a3⟩ := H.ow
    have hJt := J.tl
    rw [j2] at hJt
    obtain ⟨x, rest, hx1, hx2⟩ : ∃ x rest, talkF (upL (p.l j)) 0 = x :: rest ∧ x = talkM (upL (p.l j)) := by
      unfold talkF
      split
      · exact ⟨_, _, rfl, rfl⟩
      · exact ⟨_, _, rfl, rfl⟩
    have hms : (tickF (p.l j) 0).1 = (p.l j).out ++ x :: rest := by
      rw [hti, if_neg (by omega), hx1]
    rw [hms] at hfk hok hlen ⊢
    have hD := drain_talk hf j1 x rest (p.o j).length (p.t j).length (p.l j).out (n + 1) (tickP p j) hT (by omega) (fun m hm => okM_same (hok m hm) rfl rfl) hfk ?_ (by rw [htT, j2]; exact Nat.le_refl _) ?_
    · exact hD
    · rcases hk with hk | hk
      · exact .inl (by rw [hlk]; exact hk)
      · obtain ⟨m, hm⟩ := List.exists_mem_of_ne_nil _ hk
        exact .inr ⟨m, hm, by rw [H.ou m hm]⟩
    · rw [hx2]
      have hnx : (upL (p.l j)).next = ((first + (p.t j).length : Nat) : Int) := H.nx
      unfold talkM
      split
      · rename_i he
        have he : (p.l j).own = [] := he
        left
        refine ⟨by rw [hnx], ?_⟩
        rw [a2] at he
        have := List.drop_eq_nil_iff.1 he
        show _ ≤ (p.t (1 - j)).length
        omega
      · rename_i he
        have he : (p.l j).own ≠ [] := he
        have hpos := List.length_pos_iff.2 he
        have hol : (p.l j).own.length = (p.o j).length - a := by rw [a2]; simp
        have h64 := H.wl
        refine .inr ⟨a, (p.o j).length - a, by omega, by omega, by rw [hoT, j2]; omega, a3, by omega, ?_⟩
        rw [hnx, hoT, j2]
        show (⟨3, 0, (p.l j).acked % 65536, _, (p.l j).own, 0, 0⟩ : Msg) = _
        rw [a1, a2, List.take_of_length_le (by simp)]
/-- all is told, and acknowledged -/
def Done (first : Nat) (p : Pr) : Prop := ∀ k, k < 2 → (p.l k).state = 1 ∧ (p.o (1 - k)).length ≤ (p.t k).length ∧ ((first + (p.o k).length : Nat) : Int) ≤ (p.l k).acked
theorem done_half (h : Inv first n p) (hf : first ≤ 65535) (hn : n ≤ 900) {j : Nat} (hj : j < 2) (hfe : p.f (1 - j) = []) (hd : Done first p) : Done first (half p j) := by
  obtain ⟨j1, j2, j3⟩ := ot hj
  obtain ⟨_, H⟩ := half_is h hf hn hj hfe
  intro k hk
  obtain ⟨e1, e2, e3⟩ := hd k hk
  by_cases hjk : k = j
  · subst hjk
    rw [H.o, H.t, H.l.1, H.l.2]
    exact ⟨e1, e2, e3⟩
  · obtain rfl : k = 1 - j := by omega
    rw [H.o]
    exact ⟨H.st e1, Nat.le_trans e2 H.tl, Int.le_trans e3 H.ak⟩
/-- the first five halves -/
theorem done_five (h : Inv first n p) (hf : first ≤ 65535) (hn : n ≤ 800) (h0 : p.f 0 = []) (h1 : p.f 1 = []) : Done first (half (half (half (half (half p 0) 1) 0) 1) 0) := by
  obtain ⟨iA, A⟩ := half_is h hf (by omega) (j := 0) (by omega) h1
  obtain ⟨iB, B⟩ := half_is iA hf (by omega) (j := 1) (by omega) (A.f.trans h0)
  have hB1 : (half (half p 0) 1).f 1 = [] := B.f.trans A.fe
  obtain ⟨iC, C⟩ := half_is iB hf (by omega) (j := 0) (by omega) hB1
  have hC0 : (half (half (half p 0) 1) 0).f 0 = [] := C.f.trans B.fe
  obtain ⟨iD, D⟩ := half_is iC hf (by omega) (j := 1) (by omega) hC0
  have hD1 : (half (half (half (half p 0) 1) 0) 1).f 1 = [] := D.f.trans C.fe
  obtain ⟨iE, E⟩ := half_is iD hf (by omega) (j := 0) (by omega) hD1
  have s0 := (h 0 (by omega)).st
  have sA := (iA 1 (by omega)).st
  clear iA iB iC iD iE hB1 hC0 hD1
  generalize half (half (half (half (half p 0) 1) 0) 1) 0 = qE at *
  generalize half (half (half (half p 0) 1) 0) 1 = qD at *
  generalize half (half (half p 0) 1) 0 = qC at *
  generalize half (half p 0) 1 = qB at *
  generalize half p 0 = qA at *
  have a1 : (p.l 0).state = 1 ∨ (qA.l 1).out ≠ [] := by
    rcases s0 with s | s
    · exact .inr (A.hello s)
    · exact .inl s
  have b1 : (qB.l 0).state = 1 := by
    rcases a1 with s | s
    · exact B.st (A.l.1.trans s)
    · exact B.welc s
  have b3 : (qB.l 1).state = 1 ∨ (qB.l 0).out ≠ [] := by
    rcases sA with s | s
    · exact .inr (B.hello s)
    · exact .inl (B.l.1.trans s)
  have c1 : (qC.l 1).state = 1 := by
    rcases b3 with s | s
    · exact C.st s
    · exact C.welc s
  have c0 : (qC.l 0).state = 1 := C.l.1.trans b1
  have c2 : (qB.o 0).length ≤ (qC.t 1).length := (C.talk b1 b3).1
  have d0 : (qD.l 0).state = 1 := D.st c0
  have d1 : (qD.l 1).state = 1 := D.l.1.trans c1
  have d2 : (qC.o 1).length ≤ (qD.t 0).length := (D.talk c1 (.inl c0)).1
  have d3 : ((first + (qC.t 1).length : Nat) : Int) ≤ (qD.l 0).acked := (D.talk c1 (.inl c0)).2
  have e2 : ((first + (qD.t 0).length : Nat) : Int) ≤ (qE.l 1).acked := (E.talk d0 (.inl d1)).2
  have e3 : (qE.l 1).state = 1 := E.st d1
  have e4 : (qE.l 0).state = 1 := E.l.1.trans d0
  have e5 : (qE.l 0).acked = (qD.l 0).acked := E.l.2
  have e6 : qE.t 0 = qD.t 0 := E.t
  have e7 : (qD.t 1).length ≤ (qE.t 1).length := E.tl
  have e8 : qD.t 1 = qC.t 1 := D.t
  have o1 : qE.o = qB.o := E.o.trans (D.o.trans C.o)
  have o2 : qC.o = qB.o := C.o
  rw [o2] at d2
  rw [e8] at e7
  intro k hk
  have hk' : k = 0 ∨ k = 1 := by omega
  rcases hk' with rfl | rfl
  · refine ⟨e4, ?_, ?_⟩
    · rw [o1, e6]; exact d2
    · rw [o1, e5]; omega
  · refine ⟨e3, ?_, ?_⟩
    · rw [o1]; exact Nat.le_trans c2 e7
    · rw [o1]; omega
/-- what is done is done -/
theorem done_all (h : Inv first n p) (hd : Done first p) {k : Nat} (hk : k < 2) : (p.l k).state = 1 ∧ (p.l k).own = [] ∧ p.t k = p.o (1 - k) := by
  obtain ⟨k1, k2, k3⟩ := ot hk
  have H := h k hk
  have J := (h (1 - k) k1).tl
  rw [k2] at J
  obtain ⟨e1, e2, e3⟩ := hd k hk
  obtain ⟨a, a1, a2, a3⟩ := H.ow
  refine ⟨e1, ?_, ?_⟩
  · rw [a2]
    exact List.drop_eq_nil_of_le (by omega)
  · rw [H.tp]
    exact List.take_of_length_le e2
end Go.Proofs.Ytaobhbfhbmenfaa
/- Two links in memory. -/
namespace Go.Proofs.Ytaobhbfhbmenfaa
open Go.RowKit
set_option maxRecDepth 10000
variable {w w' : World} {lo b : Nat} {c : Nat → Nat} {B : Nat → LB} {p : Pr} {fv ov tv : Nat → Value}
def strL (F : List (List UInt8)) : List Value := F.map fun s => Value.string ⟨s.toArray⟩
def bytL (L : List UInt8) : List Value := L.map byteV
def ptrV (B : Nat → LB) (k : Nat) : Value := .pointer (some ⟨(B k).p, 0, none⟩)
/-- the pair lies at b; each block has a colour -/
structure PSt (w : World) (lo b : Nat) (c : Nat → Nat) (B : Nat → LB) (p : Pr) (fv ov tv : Nat → Value) : Prop where
  blk : w.heap[b]? = some (.cells #[ptrV B 0, ptrV B 1, fv 0, fv 1, ov 0, ov 1, tv 0, tv 1] 38 (0, 0))
  lk : ∀ k, k < 2 → IsLink w (B k) (p.l k)
  fr : ∀ k, k < 2 → w.ownsRow 0 9 1 (fv k) (p.f k).length (strL (p.f k))
  orr : ∀ k, k < 2 → w.ownsRow 0 5 1 (ov k) (p.o k).length (bytL (p.o k))
  tr : ∀ k, k < 2 → w.ownsRow 0 5 1 (tv k) (p.t k).length (bytL (p.t k))
  cb : c b = 1
  cl : ∀ k, k < 2 → ∀ j, (B k).S j → c j = 2 + k
  cf : ∀ k, k < 2 → ∀ j, (fv k).ownBlock = some j → c j = 4 + k
  co : ∀ k, k < 2 → ∀ j, (ov k).ownBlock = some j → c j = 6 + k
  ct : ∀ k, k < 2 → ∀ j, (tv k).ownBlock = some j → c j = 8 + k
  lo : ∀ j, c j ≠ 0 → lo ≤ j
theorem LB.lt {k : Nat} {l : Lk} (h : IsLink w (B k) l) {j : Nat} (hj : (B k).S j) : j < w.heap.size := by
  have := h.lt
  rcases hj with e | e | e | e | e <;> omega
namespace PSt
theorem cellL (h : PSt w lo b c B p fv ov tv) {k : Nat} (hk : k < 2) : w.cell? ⟨b, k, none⟩ = some (ptrV B k) := by
  have : k = 0 ∨ k = 1 := by omega
  rcases this with rfl | rfl <;> exact blk_cell h.blk rfl
theorem cellF (h : PSt w lo b c B p fv ov tv) {k : Nat} (hk : k < 2) : w.cell? ⟨b, 2 + k, none⟩ = some (fv k) := by
  have : k = 0 ∨ k = 1 := by omega
  rcases this with rfl | rfl <;> exact blk_cell h.blk rfl
theorem cellO (h : PSt w lo b c B p fv ov tv) {k : Nat} (hk : k < 2) : w.cell? ⟨b, 4 + k, none⟩ = some (ov k) := by
  have : k = 0 ∨ k = 1 := by omega
  rcases this with rfl | rfl <;> exact blk_cell h.blk rfl
theorem cellT (h : PSt w lo b c B p fv ov tv) {k : Nat} (hk : k < 2) : w.cell? ⟨b, 6 + k, none⟩ = some (tv k) := by
  have : k = 0 ∨ k = 1 := by omega
  rcases this with rfl | rfl <;> exact blk_cell h.blk rfl
theorem free (h : PSt w lo b c B p fv ov tv) (k : Nat) : w.frozen? ⟨b, k, none⟩ = false := blk_free h.blk k
theorem size (h : PSt w lo b c B p fv ov tv) : lo ≤ b ∧ b < w.heap.size := ⟨h.lo b (by rw [h.cb]; omega), blk_lt h.blk⟩
/-- a step that touches only the blocks of one colour, or of none -/
theorem keeps {S : Nat → Prop} (h : PSt w lo b c B p fv ov tv) (hk : Keeps S w w') (hs : ∀ j, j < w.heap.size → S j → c j = 0) : PSt w' lo b c B p fv ov tv := by
  have hz := h.size
  refine ⟨hk.heap h.blk (fun x => by have := hs b hz.2 x; rw [h.cb] at this; omega), fun k hk2 => (h.lk k hk2).keeps hk (fun j hj x => by have := hs j (LB.lt (h.lk k hk2) hj) x; rw [h.cl k hk2 j hj] at this; omega), fun k hk2 => own_keeps (h.fr k hk2) hk (fun j hj x => ?_), fun k hk2 => own_keeps (h.orr k hk2) hk (fun j hj x => ?_), fun k hk2 => own_keeps (h.tr k hk2) hk (fun j hj x => ?_), h.cb, h.cl, h.cf, h.co, h.ct, h.lo⟩
  · have := hs j ((h.fr k hk2).lt j hj).2 x; rw [h.cf k hk2 j hj] at this; omega
  · have := hs j ((h.orr k hk2).lt j hj).2 x; rw [h.co k hk2 j hj] at this; omega
  · have := hs j ((h.tr k hk2).lt j hj).2 x; rw [h.ct k hk2 j hj] at this; omega
theorem drew (h : PSt w lo b c B p fv ov tv) (n : Nat) : PSt (w.drewN n) lo b c B p fv ov tv := h.keeps (S := fun _ => False) ((Keeps.refl _ w).drewN n) (fun _ _ x => x.elim)
theorem alloc (h : PSt w lo b c B p fv ov tv) (o : Obj) : PSt (w.alloc o) lo b c B p fv ov tv := h.keeps (S := fun _ => False) ((Keeps.refl _ w).alloc o) (fun _ _ x => x.elim)
theorem below (h : PSt w lo b c B p fv ov tv) (hb : Below w.heap.size w w') : PSt w' lo b c B p fv ov tv := h.keeps (S := fun _ => False) (Keeps.of_below hb (fun k h1 h2 => by omega)) (fun _ _ x => x.elim)
/-- link k has turned -/
theorem link (h : PSt w lo b c B p fv ov tv) {k : Nat} (hk2 : k < 2) {l' : Lk} (hl : IsLink w' (B k) l') (hk : Keeps (B k).S w w') : PSt w' lo b c B { p with l := setK p.l k l' } fv ov tv := by
  have hs : ∀ j, (B k).S j → c j = 2 + k := h.cl k hk2
  refine ⟨hk.heap h.blk (fun x => by have := hs b x; rw [h.cb] at this; omega), fun i hi => ?_, fun i hi => own_keeps (h.fr i hi) hk (fun j hj x => ?_), fun i hi => own_keeps (h.orr i hi) hk (fun j hj x => ?_), fun i hi => own_keeps (h.tr i hi) hk (fun j hj x => ?_), h.cb, h.cl, h.cf, h.co, h.ct, h.lo⟩
  · by_cases e : i = k
    · subst e
      show IsLink w' (B i) (setK p.l i l' i)
      rw [setK_same]
      exact hl
    · show IsLink w' (B i) (setK p.l k l' i)
      rw [setK_ne _ _ e]
      exact (h.lk i hi).keeps hk (fun j hj x => by have h1 := hs j x; have h2 := h.cl i hi j hj; omega)
  · have h1 := hs j x; have h2 := h.cf i hi j hj; omega
  · have h1 := hs j x; have h2 := h.co i hi j hj; omega
  · have h1 := hs j x; have h2 := h.ct i hi j hj; omega
end PSt
/-- the colours behind a step that made new blocks of colour d -/
def recol (c : Nat → Nat) (n d : Nat) : Nat → Nat := fun j => if n ≤ j then d else c j
theorem recol_lt {n d j : Nat} (h : j < n) : recol c n d j = c j := by unfold recol; rw [if_neg (by omega)]
theorem recol_ge {n d j : Nat} (h : n ≤ j) : recol c n d j = d := by unfold recol; rw [if_pos h]
theorem PSt.recol (h : PSt w lo b c B p fv ov tv) (d : Nat) : PSt w lo b (recol c w.heap.size d) B p fv ov tv := by
  have hz := h.size
  refine ⟨h.blk, h.lk, h.fr, h.orr, h.tr, by rw [recol_lt hz.2]; exact h.cb, fun k hk j hj => by rw [recol_lt (LB.lt (h.lk k hk) hj)]; exact h.cl k hk j hj, fun k hk j hj => by rw [recol_lt ((h.fr k hk).lt j hj).2]; exact h.cf k hk j hj, fun k hk j hj => by rw [recol_lt ((h.orr k hk).lt j hj).2]; exact h.co k hk j hj, fun k hk j hj => by rw [recol_lt ((h.tr k hk).lt j hj).2]; exact h.ct k hk j hj, fun j hj => ?_⟩
  by_cases e : w.heap.size ≤ j
  · omega
  · rw [recol_lt (by omega)] at hj
    exact h.lo j hj
/-- row F of k is another one -/
theorem PSt.rowF (h : PSt w lo b c B p fv ov tv) {k : Nat} (hk : k < 2) {w1 : World} {v1 : Value} {L : List (List UInt8)} (hk1 : Keeps (fun j => (fv k).ownBlock = some j) w w1) (hown : w1.ownsRow 0 9 1 v1 L.length (strL L)) (hat : ∀ j, v1.ownBlock = some j → (fv k).ownBlock = some j ∨ w.heap.size ≤ j) :
    PSt (w1.setCell ⟨b, 2 + k, none⟩ v1) lo b (Go.Proofs.Ytaobhbfhbmenfaa.recol c w.heap.size (4 + k)) B { p with f := setK p.f k L } (setK fv k v1) ov tv := by
  have hz := h.size
  have hb1 : ¬ (fv k).ownBlock = some b := fun e => by have := h.cf k hk b e; rw [h.cb] at this; omega
  have g := h.recol (4 + k)
  have hsk : Keeps (fun j => j = b) w1 (w1.setCell ⟨b, 2 + k, none⟩ v1) := Keeps.setCell (S := fun j => j = b) (Keeps.refl _ _) (p := ⟨b, 2 + k, none⟩) rfl v1
  have hvb : ∀ j, v1.ownBlock = some j → j ≠ b ∧ Go.Proofs.Ytaobhbfhbmenfaa.recol c w.heap.size (4 + k) j = 4 + k := by
    intro j hj
    rcases hat j hj with e | e
    · refine ⟨fun x => hb1 (x ▸ e), ?_⟩
      rw [recol_lt ((h.fr k hk).lt j e).2]
      exact h.cf k hk j e
    · exact ⟨by omega, recol_ge e⟩
  have other : ∀ {T : TypeId} {n : Nat} {xs : List Value} {v : Value} {d : Nat}, w.ownsRow 0 T 1 v n xs → (∀ j, v.ownBlock = some j → c j = d) → d ≠ 1 → d ≠ 4 + k → (w1.setCell ⟨b, 2 + k, none⟩ v1).ownsRow 0 T 1 v n xs := by
    intro T n xs v d ho hc h1 h4
    refine own_keeps (own_keeps ho hk1 (fun j hj x => ?_)) hsk (fun j hj x => ?_)
    · have e1 := hc j hj
      have e2 := h.cf k hk j x
      omega
    · have e1 := hc j hj
      rw [x, h.cb] at e1
      omega
  have hblk := hk1.heap h.blk hb1
  have h1 : (w1.setCell ⟨b, 2 + k, none⟩ v1).heap[b]? = some (.cells #[ptrV B 0, ptrV B 1, setK fv k v1 0, setK fv k v1 1, ov 0, ov 1, tv 0, tv 1] 38 (0, 0)) := by
    have : k = 0 ∨ k = 1 := by omega
    rcases this with rfl | rfl <;> (rw [blk_set hblk]; simp [setK])
  refine ⟨h1, fun i hi => ?_, fun i hi => ?_, fun i hi => ?_, fun i hi => ?_, g.cb, g.cl, fun i hi j hj => ?_, fun i hi j hj => ?_, fun i hi j hj => ?_, g.lo⟩
  · refine ((h.lk i hi).keeps hk1 (fun j hj x => ?_)).keeps hsk (fun j hj x => ?_)
    · have e1 := h.cl i hi j hj
      have e2 := h.cf k hk j x
      omega
    · have e1 := h.cl i hi j hj
      rw [x, h.cb] at e1
      omega
  · by_cases e : i = k
    · subst e
      show World.ownsRow _ _ _ _ (setK fv i v1 i) (setK p.f i L i).length (strL (setK p.f i L i))
      rw [setK_same, setK_same]
      exact own_keeps hown hsk (fun j hj x => (hvb j hj).1 x)
    · show World.ownsRow _ _ _ _ (setK fv k v1 i) (setK p.f k L i).length (strL (setK p.f k L i))
      rw [setK_ne _ _ e, setK_ne _ _ e]
      exact other (h.fr i hi) (h.cf i hi) (by omega) (by omega)
  · exact other (h.orr i hi) (h.co i hi) (by omega) (by omega)
  · exact other (h.tr i hi) (h.ct i hi) (by omega) (by omega)
  · by_cases e : i = k
    · subst e
      rw [setK_same] at hj
      exact (hvb j hj).2
    · rw [setK_ne _ _ e] at hj
      exact g.cf i hi j hj
  · exact g.co i hi j hj
  · exact g.ct i hi j hj
/-- row O of k is another one -/
theorem PSt.rowO (h : PSt w lo b c B p fv ov tv) {k : Nat} (hk : k < 2) {w1 : World} {v1 : Value} {L : List UInt8} (hk1 : Keeps (fun j => (ov k).ownBlock = some j) w w1) (hown : w1.ownsRow 0 5 1 v1 L.length (bytL L)) (hat : ∀ j, v1.ownBlock = some j → (ov k).ownBlock = some j ∨ w.heap.size ≤ j) :
    PSt (w1.setCell ⟨b, 4 + k, none⟩ v1) lo b (Go.Proofs.Ytaobhbfhbmenfaa.recol c w.heap.size (6 + k)) B { p with o := setK p.o k L } fv (setK ov k v1) tv := by
  have hz := h.size
  have hb1 : ¬ (ov k).ownBlock = some b := fun e => by have := h.co k hk b e; rw [h.cb] at this; omega
  have g := h.recol (6 + k)
  have hsk : Keeps (fun j => j = b) w1 (w1.setCell ⟨b, 4 + k, none⟩ v1) := Keeps.setCell (S := fun j => j = b) (Keeps.refl _ _) (p := ⟨b, 4 + k, none⟩) rfl v1
  have hvb : ∀ j, v1.ownBlock = some j → j ≠ b ∧ Go.Proofs.Ytaobhbfhbmenfaa.recol c w.heap.size (6 + k) j = 6 + k := by
    intro j hj
    rcases hat j hj with e | e
    · refine ⟨fun x => hb1 (x ▸ e), ?_⟩
      rw [recol_lt ((h.orr k hk).lt j e).2]
      exact h.co k hk j e
    · exact ⟨by omega, recol_ge e⟩
  have other : ∀ {T : TypeId} {n : Nat} {xs : List Value} {v : Value} {d : Nat}, w.ownsRow 0 T 1 v n xs → (∀ j, v.ownBlock = some j → c j = d) → d ≠ 1 → d ≠ 6 + k → (w1.setCell ⟨b, 4 + k, none⟩ v1).ownsRow 0 T 1 v n xs := by
    intro T n xs v d ho hc h1 h4
    refine own_keeps (own_keeps ho hk1 (fun j hj x => ?_)) hsk (fun j hj x => ?_)
    · have e1 := hc j hj
      have e2 := h.co k hk j x
      omega
    · have e1 := hc j hj
      rw [x, h.cb] at e1
      omega
  have hblk := hk1.heap h.blk hb1
  have h1 : (w1.setCell ⟨b, 4 + k, none⟩ v1).heap[b]? = some (.cells #[ptrV B 0, ptrV B 1, fv 0, fv 1, setK ov k v1 0, setK ov k v1 1, tv 0, tv 1] 38 (0, 0)) := by
    have : k = 0 ∨ k = 1 := by omega
    rcases this with rfl | rfl <;> (rw [blk_set hblk]; simp [setK])
  refine ⟨h1, fun i hi => ?_, fun i hi => ?_, fun i hi => ?_, fun i hi => ?_, g.cb, g.cl, fun i hi j hj => ?_, fun i hi j hj => ?_, fun i hi j hj => ?_, g.lo⟩
  · refine ((h.lk i hi).keeps hk1 (fun j hj x => ?_)).keeps hsk (fun j hj x => ?_)
    · have e1 := h.cl i hi j hj
      have e2 := h.co k hk j x
      omega
    · have e1 := h.cl i hi j hj
      rw [x, h.cb] at e1
      omega
  · exact other (h.fr i hi) (h.cf i hi) (by omega) (by omega)
  · by_cases e : i = k
    · subst e
      show World.ownsRow _ _ _ _ (setK ov i v1 i) (setK p.o i L i).length (bytL (setK p.o i L i))
      rw [setK_same, setK_same]
      exact own_keeps hown hsk (fun j hj x => (hvb j hj).1 x)
    · show World.ownsRow _ _ _ _ (setK ov k v1 i) (setK p.o k L i).length (bytL (setK p.o k L i))
      rw [setK_ne _ _ e, setK_ne _ _ e]
      exact other (h.orr i hi) (h.co i hi) (by omega) (by omega)
  · exact other (h.tr i hi) (h.ct i hi) (by omega) (by omega)
  · exact g.cf i hi j hj
  · by_cases e : i = k
    · subst e
      rw [setK_same] at hj
      exact (hvb j hj).2
    · rw [setK_ne _ _ e] at hj
      exact g.co i hi j hj
  · exact g.ct i hi j hj
/-- row T of k is another one -/
theorem PSt.rowT (h : PSt w lo b c B p fv ov tv) {k : Nat} (hk : k < 2) {w1 : World} {v1 : Value} {L : List UInt8} (hk1 : Keeps (fun j => (tv k).ownBlock = some j) w w1) (hown : w1.ownsRow 0 5 1 v1 L.length (bytL L)) (hat : ∀ j, v1.ownBlock = some j → (tv k).ownBlock = some j ∨ w.heap.size ≤ j) :
    PSt (w1.setCell ⟨b, 6 + k, none⟩ v1) lo b (Go.Proofs.Ytaobhbfhbmenfaa.recol c w.heap.size (8 + k)) B { p with t := setK p.t k L } fv ov (setK tv k v1) := by
  have hz := h.size
  have hb1 : ¬ (tv k).ownBlock = some b := fun e => by have := h.ct k hk b e; rw [h.cb] at this; omega
  have g := h.recol (8 + k)
  have hsk : Keeps (fun j => j = b) w1 (w1.setCell ⟨b, 6 + k, none⟩ v1) := Keeps.setCell (S := fun j => j = b) (Keeps.refl _ _) (p := ⟨b, 6 + k, none⟩) rfl v1
  have hvb : ∀ j, v1.ownBlock = some j → j ≠ b ∧ Go.Proofs.Ytaobhbfhbmenfaa.recol c w.heap.size (8 + k) j = 8 + k := by
    intro j hj
    rcases hat j hj with e | e
    · refine ⟨fun x => hb1 (x ▸ e), ?_⟩
      rw [recol_lt ((h.tr k hk).lt j e).2]
      exact h.ct k hk j e
    · exact ⟨by omega, recol_ge e⟩
  have other : ∀ {T : TypeId} {n : Nat} {xs : List Value} {v : Value} {d : Nat}, w.ownsRow 0 T 1 v n xs → (∀ j, v.ownBlock = some j → c j = d) → d ≠ 1 → d ≠ 8 + k → (w1.setCell ⟨b, 6 + k, none⟩ v1).ownsRow 0 T 1 v n xs := by
    intro T n xs v d ho hc h1 h4
    refine own_keeps (own_keeps ho hk1 (fun j hj x => ?_)) hsk (fun j hj x => ?_)
    · have e1 := hc j hj
      have e2 := h.ct k hk j x
      omega
    · have e1 := hc j hj
      rw [x, h.cb] at e1
      omega
  have hblk := hk1.heap h.blk hb1
  have h1 : (w1.setCell ⟨b, 6 + k, none⟩ v1).heap[b]? = some (.cells #[ptrV B 0, ptrV B 1, fv 0, fv 1, ov 0, ov 1, setK tv k v1 0, setK tv k v1 1] 38 (0, 0)) := by
    have : k = 0 ∨ k = 1 := by omega
    rcases this with rfl | rfl <;> (rw [blk_set hblk]; simp [setK])
  refine ⟨h1, fun i hi => ?_, fun i hi => ?_, fun i hi => ?_, fun i hi => ?_, g.cb, g.cl, fun i hi j hj => ?_, fun i hi j hj => ?_, fun i hi j hj => ?_, g.lo⟩
  · refine ((h.lk i hi).keeps hk1 (fun j hj x => ?_)).keeps hsk (fun j hj x => ?_)
    · have e1 := h.cl i hi j hj
      have e2 := h.ct k hk j x
      omega
    · have e1 := h.cl i hi j hj
      rw [x, h.cb] at e1
      omega
  · exact other (h.fr i hi) (h.cf i hi) (by omega) (by omega)
  · exact other (h.orr i hi) (h.co i hi) (by omega) (by omega)
  · by_cases e : i = k
    · subst e
      show World.ownsRow _ _ _ _ (setK tv i v1 i) (setK p.t i L i).length (bytL (setK p.t i L i))
      rw [setK_same, setK_same]
      exact own_keeps hown hsk (fun j hj x => (hvb j hj).1 x)
    · show World.ownsRow _ _ _ _ (setK tv k v1 i) (setK p.t k L i).length (bytL (setK p.t k L i))
      rw [setK_ne _ _ e, setK_ne _ _ e]
      exact other (h.tr i hi) (h.ct i hi) (by omega) (by omega)
  · exact g.cf i hi j hj
  · exact g.co i hi j hj
  · by_cases e : i = k
    · subst e
      rw [setK_same] at hj
      exact (hvb j hj).2
    · rw [setK_ne _ _ e] at hj
      exact g.ct i hi j hj
end Go.Proofs.Ytaobhbfhbmenfaa
/- Two links: a datagram is heard (the program). -/
namespace Go.Proofs.Ytaobhbfhbmenfaa
open Go.RowKit
set_option maxRecDepth 10000
variable {w w' : World} {lo b : Nat} {B : Nat → LB} {p : Pr}
def IsPair (w : World) (lo b : Nat) (B : Nat → LB) (p : Pr) : Prop := ∃ c fv ov tv, PSt w lo b c B p fv ov tv
def hearL (p : Pr) (k : Nat) (s : List UInt8) : Pr := { p with l := setK p.l k (hearF (p.l k) s).2.2, t := setK p.t k (p.t k ++ (hearF (p.l k) s).1.ins) }
theorem vals_of_bytes {a : Option Addr} {c : Nat} {L : List UInt8} (h : IsBytes w a c L) : Vals w 1 a L.length c (bytL L) := by
  obtain ⟨h1, h2, h3⟩ := h
  refine ⟨by simp [bytL], h1, h2, fun hn => ?_⟩
  obtain ⟨b, o, rfl, hc⟩ := h3.resolve_left (fun e => by rw [e] at hn; simp at hn)
  refine ⟨b, o, rfl, fun j u hu => ?_⟩
  obtain ⟨hj, rfl⟩ := List.getElem?_eq_some_iff.1 hu
  have hj' : j < L.length := by simpa [bytL] using hj
  rw [hc j hj']
  simp [bytL]
theorem bytL_one (L : List UInt8) : ∀ u ∈ bytL L, u.oneCell' = true := by
  intro u hu
  obtain ⟨x, _, rfl⟩ := List.mem_map.1 hu
  rfl
set_option maxHeartbeats 1000000 in
theorem pr_hear (h : IsPair w lo b B p) {k : Nat} (hk : k < 2) (s : ByteArray) (hs : s.size ≤ 100000) (first : Nat) (hf : first ≤ 65535) (hn : 0 ≤ (p.l k).next ∧ (p.l k).next ≤ 1073741824) (ha : 0 ≤ (p.l k).acked ∧ (p.l k).acked ≤ 1073741824) (hg : 0 ≤ (p.l k).good ∧ (p.l k).good ≤ 1000000) (hb : 0 ≤ (p.l k).bad ∧ (p.l k).bad ≤ 1000000) (ht : 0 ≤ (p.l k).stale ∧ (p.l k).stale ≤ 1000000)
    (htl : (p.t k).length ≤ 100000) (hil : (hearF (p.l k) s.data.toList).1.ins.length ≤ 100000) (told : (hearF (p.l k) s.data.toList).1.ins ≠ [] → (hearF (p.l k) s.data.toList).1.frm = ((first + (p.t k).length : Nat) : Int)) :
    Calls Try.prog 27 #[.pointer (some ⟨b, 0, none⟩), .int .i64 k, .string s, .int .i64 first] w fun e w' => e = .returned (.bool true) ∧ IsPair w' lo b B (hearL p k s.data.toList) ∧ Below lo w w' := by
  obtain ⟨i0, hi, hz0, hz1', hz2⟩ : ∃ i, Try.prog.info? 5 = some i ∧ i.zero = some (.int .u8 0) ∧ i.size = 1 ∧ i.bytes = 1 := by
    have h := info_u8
    cases hh : Try.prog.info? 5 with
    | none => rw [hh] at h; cases h
    | some i => rw [hh] at h; simp only [Option.map_some, Option.some.injEq, Prod.mk.injEq] at h; exact ⟨i, rfl, h⟩
  obtain ⟨c, fv, ov, tv, h⟩ := h
  have hL := h.cellL hk
  unfold ptrV at hL
  have hz := h.size
  have hH := lk_Hear (h.lk k hk) s hs hn ha hg hb ht
  unfold hearL
  generalize hearF (p.l k) s.data.toList = R at *
  obtain ⟨r, er, l'⟩ := R
  simp only at *
  have HH := hid hH
  have H := hid h
  have Hi := hid hi
  have Told := hid told
  clear hH h hi told
  go_enter Try.func27, Try.ntmps27
  go_wp2_with fail
  refine HH.out.mono ?_
  rintro e w1 ⟨⟨a, cc, rfl, hb1⟩, hL1, hk1⟩
  have h1 := H.out.link hk hL1 hk1
  have hbe1 : Below lo w w1 := hk1.below (by omega) (fun j h1 h2 => by have e1 := H.out.cl k hk j h2; have e2 := H.out.lo j (by omega); omega)
  have h2 := h1.alloc (.cells (hC r a cc) 51)
  have hx := blk_new w1 (.cells (hC r a cc) 51)
  have hb2 := hb1.keeps ((Keeps.refl (fun _ => False) w1).alloc (.cells (hC r a cc) 51)) (fun _ _ _ => id)
  have hbe2 := hbe1.alloc (by have := h1.size; omega) (.cells (hC r a cc) 51)
  unfold hC at *
  go_upto_region 2 with fail
  have hz1 := h1.size
  have hsz1 := hk1.size
  clear hL1 hk1 hb1 hbe1 h1 HH hL
  generalize World.alloc w1 _ = w2 at *
  have x1 := blk_cell (k := 1) hx rfl
  have x2 := blk_cell (k := 2) hx rfl
  obtain ⟨A, cap, hA, hV, _⟩ := vals_of_own (h2.tr k hk)
  have hcT := h2.cellT hk
  rw [hA] at hcT
  have H2 := hid h2
  have Hb2 := hid hb2
  clear h2 hb2 hV
  have hxl := blk_lt hx
  by_cases hne : r.ins = []
  · go_quiet (fail)
    clear hne x1
    have H3 := H2.out.drew nq
    have hb3 := Hb2.out.keeps ((Keeps.refl (fun _ => False) w2).drewN nq) (fun _ _ _ => id)
    have hx3 : (w2.drewN nq).heap[w1.heap.size]? = some (.cells #[.int .i64 r.kind, .int .i64 r.frm, .slice a r.ins.length cc, .int .i64 r.frame, .int .u32 r.sum, .int .i64 r.lead] 51 (0, 0)) := hx
    have hA3 : Below lo w (w2.drewN nq) := below_drewN hbe2 nq
    clear x2 hx hbe2 hxl hcT
    generalize w2.drewN nq = w3 at *
    have hown3 : w3.ownsRow 0 5 1 (.slice A (p.t k).length cap) (p.t k).length (bytL (p.t k)) := hA ▸ H3.tr k hk
    have cT := H3.cellT hk
    rw [hA] at cT
    have fT := H3.free (6 + k)
    have x2 := blk_cell (k := 2) hx3 rfl
    have hv3 := vals_of_bytes hb3
    have q1 : ¬ (tv k).ownBlock = some b := fun e => by have := H3.ct k hk b e; rw [H3.cb] at this; omega
    have q2 : ¬ (tv k).ownBlock = some w1.heap.size := fun e => by have h8 := H.out.ct k hk _ e; have := (H.out.tr k hk).lt _ e; omega
    have H3 := hid H3
    have HA3 := hid hA3
    have Hown3 := hid hown3
    have Hv3 := hid hv3
    clear hb3 hx3 hA3 hown3 hv3
    have k0 := keptS_cell (S := fun j => (tv k).ownBlock = some j) (w := w3.drew) cT q1
    have k1 := keptS_cell (S := fun j => (tv k).ownBlock = some j) (w := w3.drew) x2 q2
    go_wp2_with fail
    refine stages_start (by kernel_rfl) 15 rfl ?_
    refine stagek (fun j => (tv k).ownBlock = some j) [0, 1, 2, 3, 4, 5, 6, 7, 8, 9, 11, 12] [10] 2 rfl #[true, true, true, true, true, true, true, true, true, true, true, true, true, false, false] (by kernel_rfl) (by kernel_rfl) (fun _ _ _ d _ h => by first | (cases d <;> exact h) | cases h.1) ?_
    simp only [opsAt, List.map_cons, List.map_nil, List.getElem?_toArray, List.getElem?_cons_zero, List.getElem?_cons_succ, Option.getD_some]
    repeat (go_big_quiet_step (fail))
    refine wpQuiet_nil ?_
    refine links_cons (by first | rfl | simp [go_sem]) (fun K hK => ?_)
    refine wp_append_vals _ (.tmp 47) (.tmp 49) _ rfl 0 5 i0 _ 1 1 Try.underlying35 Hi.out hz0 hz1' hz2 rfl (by omega) (.slice A (p.t k).length cap) (p.t k).length (bytL (p.t k)) rfl (own_keeps Hown3.out (Keeps.refl (fun _ => False) _).drew (fun _ _ => id)) a r.ins.length cc (bytL r.ins) rfl (Hv3.out.keeps (S := fun _ => False) (Keeps.refl _ _).drew (fun _ _ _ => id)) (bytL_one _) (by simp only [maxLen]; omega) (by omega) (Nat.zero_le _) ?_
    intro v9 w9 hown9 hg9 hat9
    have hk9 : Keeps (fun j => (tv k).ownBlock = some j) w3 w9 := ((Keeps.refl _ w3).drew).grown hg9 (fun j hj => .inl (by rw [hA]; exact hj))
    refine hK _ _ (keptS (keeps_drew hk9)) ?_
    clear hK K
    refine links_nil ?_
    have c9 := hk9.cell cT q1
    have f9 := (hk9.frozen (World.block_lt_of_cell? _ _ cT) q1).trans fT
    have hown9 : w9.ownsRow 0 5 1 v9 (p.t k ++ r.ins).length (bytL (p.t k ++ r.ins)) := by
      rw [List.length_append, bytL, List.map_append]; exact hown9
    have hfin := H3.out.rowT hk hk9 hown9 (fun j hj => hat9.elim (fun e => .inl (by rw [hA, ← e]; exact hj)) (fun e => .inr (by rw [e] at hj; cases hj; exact Nat.le_refl _)))
    have hkk := (hk9.mono (T := fun j => (tv k).ownBlock = some j ∨ j = b) fun _ _ h => .inl h).setCell (p := ⟨b, 6 + k, none⟩) (.inr rfl) v9
    have hbe9 := HA3.out.trans (hkk.below (B := lo) (by have := H3.out.size; omega) (fun j h1 h2 => by
      rcases h2 with h2 | h2
      · have e1 := H3.out.ct k hk j h2
        have e2 := H3.out.lo j (by omega)
        omega
      · omega))
    obtain ⟨A2, cap2, rfl, _, _⟩ := vals_of_own hown9
    clear hg9 hown9 hat9 k0 k1
    simp only [Act.put, List.setIfInBounds_toArray, List.set_cons_succ, List.set_cons_zero]
    refine stagek (fun _ => True) [13] [14] 0 rfl #[true, true, true, true, true, true, true, true, true, true, true, true, true, true, true] (by kernel_rfl) (by kernel_rfl) (fun _ _ _ d _ h => by first | (cases d <;> exact h) | cases h.1) ?_
    simp only [opsAt, List.map_cons, List.map_nil, List.getElem?_toArray, List.getElem?_cons_zero, List.getElem?_cons_succ, Option.getD_some]
    repeat (go_big_quiet_step (fail))
    refine wpQuiet_nil ?_
    refine links_cons (by first | rfl | simp [go_sem]) (fun K hK => ?_)
    go_simp
    refine hK _ _ (keptS ((Keeps.refl _ w9).setCell (p := ⟨b, 6 + k, none⟩) trivial _)) ?_
    clear hK K
    refine links_nil ?_
    refine stages_end (by kernel_rfl) ?_
    go_wp2_with fail
    go_ret
    simp only [List.length_append] at hfin hbe9
    exact ⟨rfl, ⟨_, _, _, _, hfin⟩, hbe9⟩
  · have hg : 0 < r.ins.length := List.length_pos_iff.2 hne
    have hfr := Told.out hne
    have x9 : w2.cell? ⟨w1.heap.size, 1, none⟩ = some (.int .i64 ((first : Int) + ((p.t k).length : Int))) := by rw [x1]; show some (Value.int .i64 r.frm) = _; rw [hfr]; rfl
    clear hne hfr x1
    go_quiet (fail)
    clear hg x9
    have H3 := H2.out.drew nq
    have hb3 := Hb2.out.keeps ((Keeps.refl (fun _ => False) w2).drewN nq) (fun _ _ _ => id)
    have hx3 : (w2.drewN nq).heap[w1.heap.size]? = some (.cells #[.int .i64 r.kind, .int .i64 r.frm, .slice a r.ins.length cc, .int .i64 r.frame, .int .u32 r.sum, .int .i64 r.lead] 51 (0, 0)) := hx
    have hA3 : Below lo w (w2.drewN nq) := below_drewN hbe2 nq
    clear x2 hx hbe2 hxl hcT
    generalize w2.drewN nq = w3 at *
    have hown3 : w3.ownsRow 0 5 1 (.slice A (p.t k).length cap) (p.t k).length (bytL (p.t k)) := hA ▸ H3.tr k hk
    have cT := H3.cellT hk
    rw [hA] at cT
    have fT := H3.free (6 + k)
    have x2 := blk_cell (k := 2) hx3 rfl
    have hv3 := vals_of_bytes hb3
    have q1 : ¬ (tv k).ownBlock = some b := fun e => by have := H3.ct k hk b e; rw [H3.cb] at this; omega
    have q2 : ¬ (tv k).ownBlock = some w1.heap.size := fun e => by have h8 := H.out.ct k hk _ e; have := (H.out.tr k hk).lt _ e; omega
    have H3 := hid H3
    have HA3 := hid hA3
    have Hown3 := hid hown3
    have Hv3 := hid hv3
    clear hb3 hx3 hA3 hown3 hv3
    have k0 := keptS_cell (S := fun j => (tv k).ownBlock = some j) (w := w3.drew) cT q1
    have k1 := keptS_cell (S := fun j => (tv k).ownBlock = some j) (w := w3.drew) x2 q2
    go_wp2_with fail
    refine stages_start (by kernel_rfl) 15 rfl ?_
    refine stagek (fun j => (tv k).ownBlock = some j) [0, 1, 2, 3, 4, 5, 6, 7, 8, 9, 11, 12] [10] 2 rfl #[true, true, true, true, true, true, true, true, true, true, true, true, true, false, false] (by kernel_rfl) (by kernel_rfl) (fun _ _ _ d _ h => by first | (cases d <;> exact h) | cases h.1) ?_
    simp only [opsAt, List.map_cons, List.map_nil, List.getElem?_toArray, List.getElem?_cons_zero, List.getElem?_cons_succ, Option.getD_some]
    repeat (go_big_quiet_step (fail))
    refine wpQuiet_nil ?_
    refine links_cons (by first | rfl | simp [go_sem]) (fun K hK => ?_)
    refine wp_append_vals _ (.tmp 47) (.tmp 49) _ rfl 0 5 i0 _ 1 1 Try.underlying35 Hi.out hz0 hz1' hz2 rfl (by omega) (.slice A (p.t k).length cap) (p.t k).length (bytL (p.t k)) rfl (own_keeps Hown3.out (Keeps.refl (fun _ => False) _).drew (fun _ _ => id)) a r.ins.length cc (bytL r.ins) rfl (Hv3.out.keeps (S := fun _ => False) (Keeps.refl _ _).drew (fun _ _ _ => id)) (bytL_one _) (by simp only [maxLen]; omega) (by omega) (Nat.zero_le _) ?_
    intro v9 w9 hown9 hg9 hat9
    have hk9 : Keeps (fun j => (tv k).ownBlock = some j) w3 w9 := ((Keeps.refl _ w3).drew).grown hg9 (fun j hj => .inl (by rw [hA]; exact hj))
    refine hK _ _ (keptS (keeps_drew hk9)) ?_
    clear hK K
    refine links_nil ?_
    have c9 := hk9.cell cT q1
    have f9 := (hk9.frozen (World.block_lt_of_cell? _ _ cT) q1).trans fT
    have hown9 : w9.ownsRow 0 5 1 v9 (p.t k ++ r.ins).length (bytL (p.t k ++ r.ins)) := by
      rw [List.length_append, bytL, List.map_append]; exact hown9
    have hfin := H3.out.rowT hk hk9 hown9 (fun j hj => hat9.elim (fun e => .inl (by rw [hA, ← e]; exact hj)) (fun e => .inr (by rw [e] at hj; cases hj; exact Nat.le_refl _)))
    have hkk := (hk9.mono (T := fun j => (tv k).ownBlock = some j ∨ j = b) fun _ _ h => .inl h).setCell (p := ⟨b, 6 + k, none⟩) (.inr rfl) v9
    have hbe9 := HA3.out.trans (hkk.below (B := lo) (by have := H3.out.size; omega) (fun j h1 h2 => by
      rcases h2 with h2 | h2
      · have e1 := H3.out.ct k hk j h2
        have e2 := H3.out.lo j (by omega)
        omega
      · omega))
    obtain ⟨A2, cap2, rfl, _, _⟩ := vals_of_own hown9
    clear hg9 hown9 hat9 k0 k1
    simp only [Act.put, List.setIfInBounds_toArray, List.set_cons_succ, List.set_cons_zero]
    refine stagek (fun _ => True) [13] [14] 0 rfl #[true, true, true, true, true, true, true, true, true, true, true, true, true, true, true] (by kernel_rfl) (by kernel_rfl) (fun _ _ _ d _ h => by first | (cases d <;> exact h) | cases h.1) ?_
    simp only [opsAt, List.map_cons, List.map_nil, List.getElem?_toArray, List.getElem?_cons_zero, List.getElem?_cons_succ, Option.getD_some]
    repeat (go_big_quiet_step (fail))
    refine wpQuiet_nil ?_
    refine links_cons (by first | rfl | simp [go_sem]) (fun K hK => ?_)
    go_simp
    refine hK _ _ (keptS ((Keeps.refl _ w9).setCell (p := ⟨b, 6 + k, none⟩) trivial _)) ?_
    clear hK K
    refine links_nil ?_
    refine stages_end (by kernel_rfl) ?_
    go_wp2_with fail
    go_ret
    simp only [List.length_append] at hfin hbe9
    exact ⟨rfl, ⟨_, _, _, _, hfin⟩, hbe9⟩
end Go.Proofs.Ytaobhbfhbmenfaa
/- Two links: an own input (the program). -/
namespace Go.Proofs.Ytaobhbfhbmenfaa
open Go.RowKit
set_option maxRecDepth 10000
variable {w w' : World} {lo b : Nat} {B : Nat → LB} {p : Pr}
theorem i64_and1 (n : Int) : bits .and .i64 n 1 = n % 2 := by
  have h1 : (BitVec.ofInt 64 1).toNat = 2 ^ 1 - 1 := by decide
  have key : (BitVec.ofInt 64 n &&& BitVec.ofInt 64 1).toNat = (n % ((2 ^ 64 : Nat) : Int)).toNat % 2 ^ 1 := by
    rw [BitVec.toNat_and, BitVec.toNat_ofInt, h1, Nat.and_two_pow_sub_one_eq_mod]
  show IntKind.i64.wrap ((BitVec.ofInt 64 n &&& BitVec.ofInt 64 1).toNat : Nat) = n % 2
  rw [key, IntKind.wrap_i64]
  omega
def in63 (x : Int) : UInt8 := UInt8.ofNat (x % 64).toNat
theorem in63_le (x : Int) : (in63 x).toNat ≤ 63 := by
  unfold in63
  simp
  omega
theorem in63_bits (x : Int) (hx : 0 ≤ x ∧ x ≤ 255) : bits .and .u8 x 63 = ((in63 x).toNat : Int) := by
  rw [u8_and63 x hx.1 (by omega)]
  unfold in63
  simp
  omega
theorem who_at (wh : Int) : ∃ k : Nat, k < 2 ∧ bits .and .i64 wh 1 = (k : Int) ∧ k = (wh % 2).toNat := ⟨(wh % 2).toNat, by omega, by rw [i64_and1]; omega, rfl⟩
set_option maxHeartbeats 1000000 in
theorem does_own (h : IsPair w lo b B p) (wh ii aa x : Int) (hx : 0 ≤ x ∧ x ≤ 255) (k : Nat) (hk : k < 2) (hkv : bits .and .i64 wh 1 = (k : Int)) (first : Nat) (hf : first ≤ 65535) (ha : 0 ≤ (p.l k).acked ∧ (p.l k).acked ≤ 1099511627776) (hol : (p.o k).length ≤ 100000) :
    Calls Try.prog 9 #[.pointer (some ⟨b, 0, none⟩), .agg #[.int .i64 1, .int .i64 wh, .int .i64 ii, .int .i64 aa, .int .u8 x], .int .i64 first] w fun e w' => e = .returned (.bool true) ∧ IsPair w' lo b B (ownP first p k (in63 x)) ∧ Below lo w w' := by
  obtain ⟨i0, hi, hz0, hz1', hz2⟩ : ∃ i, Try.prog.info? 5 = some i ∧ i.zero = some (.int .u8 0) ∧ i.size = 1 ∧ i.bytes = 1 := by
    have h := info_u8
    cases hh : Try.prog.info? 5 with
    | none => rw [hh] at h; cases h
    | some i => rw [hh] at h; simp only [Option.map_some, Option.some.injEq, Prod.mk.injEq] at h; exact ⟨i, rfl, h⟩
  obtain ⟨c, fv, ov, tv, h⟩ := h
  have Hi := hid hi
  clear hi
  have hxb := in63_bits x hx
  have hz := h.size
  have hO := fun (W : World) (hL : IsLink W (B k) (p.l k)) => lk_Own hL ((first + (p.o k).length : Nat) : Int) (in63 x) ha
  have HO := hid hO
  clear hO
  rw [show ((first + (p.o k).length : Nat) : Int) = (first : Int) + ((p.o k).length : Int) by omega] at HO
  unfold ownP
  rw [show ((first + (p.o k).length : Nat) : Int) = (first : Int) + ((p.o k).length : Int) by omega]
  generalize ownL (p.l k) ((first : Int) + ((p.o k).length : Int)) (in63 x) = lo' at *
  generalize ownE (p.l k) ((first : Int) + ((p.o k).length : Int)) (in63 x) = E at *
  by_cases hE : E = 0
  · rw [if_pos hE]
    subst hE
    go_enter Try.func9, Try.ntmps9
    go_upto_region 1 with fail
    have hX := blk_new w (.cells #[.int .i64 1, .int .i64 wh, .int .i64 ii, .int .i64 aa, .int .u8 x] 30)
    have h1 := h.alloc (.cells #[.int .i64 1, .int .i64 wh, .int .i64 ii, .int .i64 aa, .int .u8 x] 30)
    have hbe1 : Below lo w (w.alloc (.cells #[.int .i64 1, .int .i64 wh, .int .i64 ii, .int .i64 aa, .int .u8 x] 30)) := (Below.refl _ w).alloc (by have := h.size; omega) _
    have hw1 : w.heap.size < (w.alloc (.cells #[.int .i64 1, .int .i64 wh, .int .i64 ii, .int .i64 aa, .int .u8 x] 30)).heap.size := by simp
    generalize World.alloc w _ = w1 at *
    have x0 := blk_cell (k := 0) hX rfl
    have x1 := blk_cell (k := 1) hX rfl
    have x2 := blk_cell (k := 2) hX rfl
    have x3 := blk_cell (k := 3) hX rfl
    have x4 := blk_cell (k := 4) hX rfl
    obtain ⟨Af, cf, hAf, _, _⟩ := vals_of_own (h1.fr k hk)
    have cF := h1.cellF hk
    rw [hAf] at cF
    obtain ⟨Ao, co, hAo, _, _⟩ := vals_of_own (h1.orr k hk)
    have cO := h1.cellO hk
    rw [hAo] at cO
    have cL := h1.cellL hk
    unfold ptrV at cL
    have H1 := hid h1
    clear h1
    go_wp2_with fail
    refine wp_region_taild 18 (by kernel_rfl) (by kernel_rfl) ?_
    simp only [List.take_succ_cons, List.take_zero, List.drop_succ_cons, List.drop_zero]
    repeat (go_big_quiet_step ((fail)))
    refine wpQuiet_nil ?_
    intro _ hw'
    obtain ⟨nq, hw''⟩ := hw'
    subst hw''
    have hX2 : (w1.drewN nq).heap[w.heap.size]? = some (.cells #[.int .i64 1, .int .i64 wh, .int .i64 ii, .int .i64 aa, .int .u8 x] 30 (0, 0)) := hX
    go_wp2_with fail
    refine (HO.out _ ((H1.out.drew nq).lk k hk)).mono ?_
    rintro e w2 ⟨rfl, hL2, hk2⟩
    have h2 := (H1.out.drew nq).link hk hL2 hk2
    have hX2 := hk2.heap hX2 (fun hc => by have := LB.lt (h.lk k hk) hc; omega)
    have hbe2 : Below lo w w2 := (below_drewN hbe1 nq).trans (hk2.below (by have := hbe1.size; show lo ≤ w1.heap.size; omega) (fun j h1 h2 => by have e1 := h.cl k hk j h2; have e2 := h.lo j (by omega); omega))
    clear hL2 hk2 HO hX x0 x1 x2 x3 x4 cF cL
    have hsz2 : w.heap.size < w2.heap.size := blk_lt hX2
    have x4 := blk_cell (k := 4) hX2 rfl
    have cO := h2.cellO hk
    rw [hAo] at cO
    have fO := h2.free (4 + k)
    have q1 : ¬ (ov k).ownBlock = some b := fun e => by have := h2.co k hk b e; rw [h2.cb] at this; omega
    have q2 : ¬ (ov k).ownBlock = some w.heap.size := fun e => by have := (h.orr k hk).lt _ e; omega
    have hown2 : w2.ownsRow 0 5 1 (.slice Ao (p.o k).length co) (p.o k).length (bytL (p.o k)) := hAo ▸ h2.orr k hk
    have H2 := hid h2
    have Hown2 := hid hown2
    clear h2 hown2 hX2 h
    have k0 := keptS_cell (S := fun j => (ov k).ownBlock = some j) (w := w2.drew) cO q1
    have k1 := keptS_cell (S := fun j => (ov k).ownBlock = some j) (w := w2.drew) x4 q2
    go_wp2_with fail
    refine stages_start (by kernel_rfl) 17 rfl ?_
    refine stagek (fun j => (ov k).ownBlock = some j) [0, 1, 2, 3, 4, 5, 6, 7, 8, 9, 10, 13, 14] [11, 12] 2 rfl #[true, true, true, true, true, true, true, true, true, true, true, true, true, true, true, false, false] (by kernel_rfl) (by kernel_rfl) (fun _ _ _ d _ h => by first | (cases d <;> exact h) | cases h.1) ?_
    simp only [opsAt, List.map_cons, List.map_nil, List.getElem?_toArray, List.getElem?_cons_zero, List.getElem?_cons_succ, Option.getD_some]
    repeat (go_big_quiet_step (fail))
    refine wpQuiet_nil ?_
    refine links_cons (by first | rfl | simp [go_sem]) (fun K hK => ?_)
    go_simp
    refine hK _ _ (keptS (keeps_drew (((Keeps.refl _ w2).alloc _).drew))) ?_
    clear hK K
    refine links_cons (by first | rfl | simp [go_sem]) (fun K hK => ?_)
    have hkA : Keeps (fun _ => False) w2 (w2.alloc (.cells #[byteV (in63 x)] 5)).drew := ((Keeps.refl _ w2).alloc _).drew
    refine wp_append_vals _ (.tmp 55) (.tmp 59) _ rfl 0 5 i0 _ 1 1 Try.underlying35 Hi.out hz0 hz1' hz2 rfl (by omega) (.slice Ao (p.o k).length co) (p.o k).length (bytL (p.o k)) rfl (own_keeps Hown2.out hkA (fun _ _ => id)) (some ⟨w2.heap.size, 0, none⟩) 1 1 (bytL [in63 x]) rfl ((vals_one w2 (byteV (in63 x)) 5).keeps (S := fun _ => False) (Keeps.refl _ _).drew (fun _ _ _ => id)) (bytL_one _) (by simp only [maxLen]; omega) (by omega) (Nat.zero_le _) ?_
    intro v9 w9 hown9 hg9 hat9
    have hk9 : Keeps (fun j => (ov k).ownBlock = some j) w2 w9 := (((Keeps.refl _ w2).alloc _).drew).grown hg9 (fun j hj => .inl (by rw [hAo]; exact hj))
    refine hK _ _ (keptS (keeps_drew hk9)) ?_
    clear hK K
    refine links_nil ?_
    have c9 := hk9.cell cO q1
    have f9 := (hk9.frozen (World.block_lt_of_cell? _ _ cO) q1).trans fO
    have hown9 : w9.ownsRow 0 5 1 v9 (p.o k ++ [in63 x]).length (bytL (p.o k ++ [in63 x])) := by
      rw [List.length_append, bytL, List.map_append]; exact hown9
    have hfin := H2.out.rowO hk hk9 hown9 (fun j hj => hat9.elim (fun e => .inl (by rw [hAo, ← e]; exact hj)) (fun e => .inr (by rw [e] at hj; cases hj; exact hkA.size)))
    have hkk := (hk9.mono (T := fun j => (ov k).ownBlock = some j ∨ j = b) fun _ _ h => .inl h).setCell (p := ⟨b, 4 + k, none⟩) (.inr rfl) v9
    have hbe9 := hbe2.trans (hkk.below (B := lo) (by have := H2.out.size; omega) (fun j h1 h2 => by
      rcases h2 with h2 | h2
      · have e1 := H2.out.co k hk j h2
        have e2 := H2.out.lo j (by omega)
        omega
      · omega))
    obtain ⟨A2, cap2, rfl, _, _⟩ := vals_of_own hown9
    clear hg9 hown9 hat9 k0 k1 hkA
    simp only [Act.put, List.setIfInBounds_toArray, List.set_cons_succ, List.set_cons_zero]
    refine stagek (fun _ => True) [15] [16] 0 rfl #[true, true, true, true, true, true, true, true, true, true, true, true, true, true, true, true, true] (by kernel_rfl) (by kernel_rfl) (fun _ _ _ d _ h => by first | (cases d <;> exact h) | cases h.1) ?_
    simp only [opsAt, List.map_cons, List.map_nil, List.getElem?_toArray, List.getElem?_cons_zero, List.getElem?_cons_succ, Option.getD_some]
    repeat (go_big_quiet_step (fail))
    refine wpQuiet_nil ?_
    refine links_cons (by first | rfl | simp [go_sem]) (fun K hK => ?_)
    go_simp
    refine hK _ _ (keptS ((Keeps.refl _ w9).setCell (p := ⟨b, 4 + k, none⟩) trivial _)) ?_
    clear hK K
    refine links_nil ?_
    refine stages_end (by kernel_rfl) ?_
    go_wp2_with fail
    go_ret
    simp only [List.length_append] at hfin hbe9
    exact ⟨rfl, ⟨_, _, _, _, hfin⟩, hbe9⟩
  · rw [if_neg hE]
    have hE' : (E == 0) = false := by simpa using hE
    go_enter Try.func9, Try.ntmps9
    go_upto_region 1 with fail
    have hX := blk_new w (.cells #[.int .i64 1, .int .i64 wh, .int .i64 ii, .int .i64 aa, .int .u8 x] 30)
    have h1 := h.alloc (.cells #[.int .i64 1, .int .i64 wh, .int .i64 ii, .int .i64 aa, .int .u8 x] 30)
    have hbe1 : Below lo w (w.alloc (.cells #[.int .i64 1, .int .i64 wh, .int .i64 ii, .int .i64 aa, .int .u8 x] 30)) := (Below.refl _ w).alloc (by have := h.size; omega) _
    have hw1 : w.heap.size < (w.alloc (.cells #[.int .i64 1, .int .i64 wh, .int .i64 ii, .int .i64 aa, .int .u8 x] 30)).heap.size := by simp
    generalize World.alloc w _ = w1 at *
    have x0 := blk_cell (k := 0) hX rfl
    have x1 := blk_cell (k := 1) hX rfl
    have x2 := blk_cell (k := 2) hX rfl
    have x3 := blk_cell (k := 3) hX rfl
    have x4 := blk_cell (k := 4) hX rfl
    obtain ⟨Af, cf, hAf, _, _⟩ := vals_of_own (h1.fr k hk)
    have cF := h1.cellF hk
    rw [hAf] at cF
    obtain ⟨Ao, co, hAo, _, _⟩ := vals_of_own (h1.orr k hk)
    have cO := h1.cellO hk
    rw [hAo] at cO
    have cL := h1.cellL hk
    unfold ptrV at cL
    have H1 := hid h1
    clear h1
    go_wp2_with fail
    refine wp_region_taild 18 (by kernel_rfl) (by kernel_rfl) ?_
    simp only [List.take_succ_cons, List.take_zero, List.drop_succ_cons, List.drop_zero]
    repeat (go_big_quiet_step ((fail)))
    refine wpQuiet_nil ?_
    intro _ hw'
    obtain ⟨nq, hw''⟩ := hw'
    subst hw''
    have hX2 : (w1.drewN nq).heap[w.heap.size]? = some (.cells #[.int .i64 1, .int .i64 wh, .int .i64 ii, .int .i64 aa, .int .u8 x] 30 (0, 0)) := hX
    go_wp2_with fail
    refine (HO.out _ ((H1.out.drew nq).lk k hk)).mono ?_
    rintro e w2 ⟨rfl, hL2, hk2⟩
    have h2 := (H1.out.drew nq).link hk hL2 hk2
    have hX2 := hk2.heap hX2 (fun hc => by have := LB.lt (h.lk k hk) hc; omega)
    have hbe2 : Below lo w w2 := (below_drewN hbe1 nq).trans (hk2.below (by have := hbe1.size; show lo ≤ w1.heap.size; omega) (fun j h1 h2 => by have e1 := h.cl k hk j h2; have e2 := h.lo j (by omega); omega))
    clear hL2 hk2 HO hX x0 x1 x2 x3 x4 cF cL
    go_wp2_with fail
    go_ret
    exact ⟨rfl, ⟨_, _, _, _, h2⟩, hbe2⟩
end Go.Proofs.Ytaobhbfhbmenfaa
/- Two links: a tick (the program). -/
namespace Go.Proofs.Ytaobhbfhbmenfaa
open Go.RowKit
set_option maxRecDepth 10000
variable {w w' : World} {lo b : Nat} {B : Nat → LB} {p : Pr}
theorem setK_setK {α : Type} (f : Nat → α) (k : Nat) (u v : α) : setK (setK f k u) k v = setK f k v := by
  funext j
  unfold setK
  split <;> rfl
theorem setK_self {α : Type} (f : Nat → α) (k : Nat) : setK f k (f k) = f := by
  funext j
  unfold setK
  split
  · rename_i h; rw [h]
  · rfl
theorem take30_push {α : Type} (A : List α) (x : α) (h : (A.take 30).length < 30) : (A ++ [x]).take 30 = A.take 30 ++ [x] := by
  simp at h
  rw [List.take_of_length_le (by simp; omega), List.take_of_length_le (by omega)]
theorem take30_full {α : Type} (A : List α) (x : α) (h : ¬ (A.take 30).length < 30) : (A ++ [x]).take 30 = A.take 30 := by
  simp at h
  rw [List.take_append_of_le_length (by omega)]
theorem info_str2 : ∃ i, Try.prog.info? 9 = some i ∧ i.zero = some (.string ByteArray.empty) ∧ i.size = 1 ∧ i.bytes = 16 := by
  have h := info_str
  cases hh : Try.prog.info? 9 with
  | none => rw [hh] at h; cases h
  | some i => rw [hh] at h; simp only [Option.map_some, Option.some.injEq, Prod.mk.injEq] at h; exact ⟨i, rfl, h⟩
theorem strL_one (L : List (List UInt8)) : ∀ u ∈ strL L, u.oneCell' = true := by
  intro u hu
  obtain ⟨x, _, rfl⟩ := List.mem_map.1 hu
  rfl
set_option maxHeartbeats 1000000 in
theorem does_tick (h : IsPair w lo b B p) (wh ii aa x : Int) (k : Nat) (hk : k < 2) (hkv : bits .and .i64 wh 1 = (k : Int)) (fi : Int) (ht : 0 ≤ (p.l k).ticks ∧ (p.l k).ticks ≤ 1000000) (hh : 0 ≤ (p.l k).heard ∧ (p.l k).heard ≤ 1000000) (hout : ∀ m ∈ (p.l k).out, m.ins = []) (hm : ∀ m ∈ (tickF (p.l k) 0).1, m.wf ∧ RightP m) (hn : (tickF (p.l k) 0).1.length ≤ 100) (hfl : (p.f (1 - k)).length ≤ 30) :
    Calls Try.prog 9 #[.pointer (some ⟨b, 0, none⟩), .agg #[.int .i64 2, .int .i64 wh, .int .i64 ii, .int .i64 aa, .int .u8 x], .int .i64 fi] w fun e w' => e = .returned (.bool true) ∧ IsPair w' lo b B (tickP p k) ∧ Below lo w w' := by
  obtain ⟨i0, hi, hz0, hz1', hz2⟩ := info_str2
  obtain ⟨c, fv, ov, tv, h⟩ := h
  have h := h.recol 0
  have hc0 : ∀ j, w.heap.size ≤ j → recol c w.heap.size 0 j = 0 := fun j hj => recol_ge hj
  generalize recol c w.heap.size 0 = c at *
  have Hi := hid hi
  clear hi
  have hz := h.size
  obtain ⟨k', hk', hk1v⟩ : ∃ k' : Nat, k' = 1 - k ∧ (1 : Int) - (k : Int) = (k' : Int) := ⟨1 - k, rfl, by omega⟩
  have hk2 : k' < 2 := by omega
  have hT := fun (W : World) (hL : IsLink W (B k) (p.l k)) => lk_Tick hL 0 ht hh hout hm hn
  unfold tickP
  rw [← hk']
  rw [← hk'] at hfl
  have hkr : 1 - k = k' := hk'.symm
  clear hk'
  unfold TickPost at hT
  generalize tickF (p.l k) 0 = T at *
  obtain ⟨ms, l'⟩ := T
  simp only at *
  have HT := hid hT
  clear hT hm hout
  go_enter Try.func9, Try.ntmps9
  go_upto_region 1 with fail
  have hX := blk_new w (.cells #[.int .i64 2, .int .i64 wh, .int .i64 ii, .int .i64 aa, .int .u8 x] 30)
  have h1 := h.alloc (.cells #[.int .i64 2, .int .i64 wh, .int .i64 ii, .int .i64 aa, .int .u8 x] 30)
  have hbe1 : Below lo w (w.alloc (.cells #[.int .i64 2, .int .i64 wh, .int .i64 ii, .int .i64 aa, .int .u8 x] 30)) := (Below.refl _ w).alloc (by have := h.size; omega) _
  have hw1 : w.heap.size < (w.alloc (.cells #[.int .i64 2, .int .i64 wh, .int .i64 ii, .int .i64 aa, .int .u8 x] 30)).heap.size := by simp
  generalize World.alloc w _ = w1 at *
  have x0 := blk_cell (k := 0) hX rfl
  have x1 := blk_cell (k := 1) hX rfl
  have x2 := blk_cell (k := 2) hX rfl
  have x3 := blk_cell (k := 3) hX rfl
  have x4 := blk_cell (k := 4) hX rfl
  obtain ⟨Af, cf, hAf, _, _⟩ := vals_of_own (h1.fr k hk)
  have cF := h1.cellF hk
  rw [hAf] at cF
  have cL := h1.cellL hk
  unfold ptrV at cL
  have H1 := hid h1
  clear h1
  go_wp2_with fail
  refine (HT.out _ (H1.out.lk k hk)).mono ?_
  rintro e w2 ⟨⟨A, cap, rfl, hV, hnew⟩, hL2, hk2'⟩
  have h2 := H1.out.link hk hL2 hk2'
  have hbe2 : Below lo w w2 := hbe1.trans (hk2'.below (by have := hbe1.size; omega) (fun j h1 h2 => by have e1 := h.cl k hk j h2; have e2 := h.lo j (by omega); omega))
  have hcA : ∀ y, A = some y → c y.block = 0 := fun y hy => hc0 _ (by have := hnew y hy; omega)
  clear hL2 hk2' HT hX x0 x1 x2 x3 x4 cF cL H1 hnew
  have H2 := hid h2
  have Hbe2 := hid hbe2
  have HcA := hid hcA
  have HV := hid hV
  clear h2 hbe2 hcA hV hbe1
  have q0 : (p.f k' ++ (ms.take 0).map packM).take 30 = p.f k' := by rw [List.take_zero, List.map_nil, List.append_nil, List.take_of_length_le hfl]
  go_wp2_with fail
  go_loopg [10] ms.length (fun g i wr => ∃ (j : Nat) (c : Nat → Nat) (fv : Nat → Value), g = ms.length - j ∧ j ≤ ms.length ∧ i = .int .i64 j ∧ PSt wr lo b c B { p with l := setK p.l k l', f := setK p.f k' ((p.f k' ++ (ms.take j).map packM).take 30) } fv ov tv ∧ Vals wr 1 A ms.length cap (strsM ms) ∧ (∀ y, A = some y → c y.block = 0) ∧ Below lo w wr)
  case atStart => exact ⟨0, c, fv, rfl, Nat.zero_le _, rfl, by rw [q0, setK_self]; exact H2.out, HV.out, HcA.out, Hbe2.out⟩
  case round =>
    obtain ⟨j, c3, fv3, hg, hj, rfl, h3, hV3, hcA3, hbe3⟩ := hrel
    clear H2 HV HcA Hbe2
    by_cases hlt : j < ms.length
    · obtain ⟨bb, o, rfl, hc⟩ := hV3.at' (by omega)
      have y0 : wr.cell? ⟨bb, o + j, none⟩ = some (.string ⟨(packM ms[j]).toArray⟩) := hc j _ (by simp [strsM, hlt])
      have hsu : (p.f k' ++ (ms.take (j + 1)).map packM) = (p.f k' ++ (ms.take j).map packM) ++ [packM ms[j]] := by
        rw [List.take_succ_eq_append_getElem hlt, List.map_append, List.append_assoc]
        rfl
      have hbb : c3 bb = 0 := hcA3 _ rfl
      generalize hpx : packM ms[j] = px at *
      have hf3 := h3.fr k' hk2
      have cF := h3.cellF hk2
      have fF := h3.free (2 + k')
      have hcf := h3.cf k' hk2
      simp only [setK_same] at hf3
      by_cases hl30 : ((p.f k' ++ (ms.take j).map packM).take 30).length < 30
      · have hsu2 := take30_push _ px hl30
        rw [← hsu] at hsu2
        generalize (p.f k' ++ (ms.take j).map packM).take 30 = F at *
        obtain ⟨Af2, cf2, hAf2, _, _⟩ := vals_of_own hf3
        rw [hAf2] at cF
        have hown3 : wr.ownsRow 0 9 1 (.slice Af2 F.length cf2) F.length (strL F) := hAf2 ▸ hf3
        have q1 : ¬ (fv3 k').ownBlock = some b := fun e => by have := hcf b e; rw [h3.cb] at this; omega
        have q2 : ¬ (fv3 k').ownBlock = some bb := fun e => by have := hcf bb e; omega
        have hbb2 := World.block_lt_of_cell? _ _ y0
        have H3 := hid h3
        have Hbe3 := hid hbe3
        have HV3 := hid hV3
        have HcA3 := hid hcA3
        have Hown3 := hid hown3
        clear h3 hbe3 hV3 hcA3 hc hf3 hcf hown3
        have k0 := keptS_cell (S := fun j => (fv3 k').ownBlock = some j) (w := wr.drew) cF q1
        have k1 := keptS_cell (S := fun j => (fv3 k').ownBlock = some j) (w := wr.drew) y0 q2
        go_wp2_with fail
        refine stages_start (by kernel_rfl) 20 rfl ?_
        refine stagek (fun j => (fv3 k').ownBlock = some j) [0, 1, 2, 3, 4, 5, 6, 7, 8, 9, 10, 11, 12, 13, 16, 17] [14, 15] 2 rfl #[true, true, true, true, true, true, true, true, true, true, true, true, true, true, true, true, true, true, false, false] (by kernel_rfl) (by kernel_rfl) (fun _ _ _ d _ h => by first | (cases d <;> exact h) | cases h.1) ?_
        simp only [opsAt, List.map_cons, List.map_nil, List.getElem?_toArray, List.getElem?_cons_zero, List.getElem?_cons_succ, Option.getD_some]
        repeat (go_big_quiet_step (fail))
        refine wpQuiet_nil ?_
        refine links_cons (by first | rfl | simp [go_sem]) (fun K hK => ?_)
        go_simp
        refine hK _ _ (keptS (keeps_drew (((Keeps.refl _ wr).alloc _).drew))) ?_
        clear hK K
        refine links_cons (by first | rfl | simp [go_sem]) (fun K hK => ?_)
        have hkA : Keeps (fun _ => False) wr (wr.alloc (.cells #[.string ⟨px.toArray⟩] 9)).drew := ((Keeps.refl _ wr).alloc _).drew
        refine wp_append_vals _ (.tmp 98) (.tmp 103) _ rfl 0 9 i0 _ 1 16 Try.underlying33 Hi.out hz0 hz1' hz2 rfl (by omega) (.slice Af2 F.length cf2) F.length (strL F) rfl (own_keeps Hown3.out hkA (fun _ _ => id)) (some ⟨wr.heap.size, 0, none⟩) 1 1 (strL [px]) rfl ((vals_one wr (.string ⟨px.toArray⟩) 9).keeps (S := fun _ => False) (Keeps.refl _ _).drew (fun _ _ _ => id)) (strL_one _) (by simp only [maxLen]; omega) (by omega) (Nat.zero_le _) ?_
        intro v9 w9 hown9 hg9 hat9
        have hk9 : Keeps (fun j => (fv3 k').ownBlock = some j) wr w9 := (((Keeps.refl _ wr).alloc _).drew).grown hg9 (fun j hj => .inl (by rw [hAf2]; exact hj))
        refine hK _ _ (keptS (keeps_drew hk9)) ?_
        clear hK K
        refine links_nil ?_
        have c9 := hk9.cell cF q1
        have f9 := (hk9.frozen (World.block_lt_of_cell? _ _ cF) q1).trans fF
        have hown9 : w9.ownsRow 0 9 1 v9 (F ++ [px]).length (strL (F ++ [px])) := by
          rw [List.length_append, strL, List.map_append]; exact hown9
        have hfin := H3.out.rowF hk2 hk9 hown9 (fun j hj => hat9.elim (fun e => .inl (by rw [hAf2, ← e]; exact hj)) (fun e => .inr (by rw [e] at hj; cases hj; exact hkA.size)))
        have hkk := (hk9.mono (T := fun j => (fv3 k').ownBlock = some j ∨ j = b) fun _ _ h => .inl h).setCell (p := ⟨b, 2 + k', none⟩) (.inr rfl) v9
        have hbe9 := Hbe3.out.trans (hkk.below (B := lo) (by have := H3.out.size; omega) (fun j h1 h2 => by
          rcases h2 with h2 | h2
          · have e1 := H3.out.cf k' hk2 j h2
            have e2 := H3.out.lo j (by omega)
            omega
          · omega))
        have hV9 := HV3.out.keeps hkk (fun _ y hy hc => by
          have e1 := HcA3.out y hy
          rcases hc with hc | hc
          · have e2 := H3.out.cf k' hk2 _ hc
            omega
          · have e2 := H3.out.cb
            rw [hc] at e1
            omega)
        obtain ⟨A2, cap2, rfl, _, _⟩ := vals_of_own hown9
        have HcA9 : Hid (∀ y, (some (⟨bb, o, none⟩ : Addr)) = some y → recol c3 wr.heap.size (4 + k') y.block = 0) := fun y hy => by
          cases hy
          rw [recol_lt hbb2]
          exact hbb
        clear hg9 hown9 hat9 k0 k1 hkA HcA3 HV3 Hbe3
        simp only [Act.put, List.setIfInBounds_toArray, List.set_cons_succ, List.set_cons_zero]
        refine stagek (fun _ => True) [18] [19] 0 rfl #[true, true, true, true, true, true, true, true, true, true, true, true, true, true, true, true, true, true, true, true] (by kernel_rfl) (by kernel_rfl) (fun _ _ _ d _ h => by first | (cases d <;> exact h) | cases h.1) ?_
        simp only [opsAt, List.map_cons, List.map_nil, List.getElem?_toArray, List.getElem?_cons_zero, List.getElem?_cons_succ, Option.getD_some]
        repeat (go_big_quiet_step (fail))
        refine wpQuiet_nil ?_
        refine links_cons (by first | rfl | simp [go_sem]) (fun K hK => ?_)
        go_simp
        refine hK _ _ (keptS ((Keeps.refl _ w9).setCell (p := ⟨b, 2 + k', none⟩) trivial _)) ?_
        clear hK K
        refine links_nil ?_
        refine stages_end (by kernel_rfl) ?_
        simp only [List.length_append] at hfin hbe9 hV9
        rw [← hsu2, setK_setK] at hfin
        have Hfin := hid hfin
        have Hbe9 := hid hbe9
        have HV9 := hid hV9
        clear hfin hbe9 hV9
        go_wp2_with fail
        go_roundg (ms.length - (j + 1))
        case rel => exact ⟨j + 1, _, _, by omega, by omega, by go_num, Hfin.out, HV9.out, HcA9.out, Hbe9.out⟩
        case measure => omega
      · have hsu2 := take30_full _ px hl30
        rw [← hsu] at hsu2
        rw [← hsu2] at h3
        generalize (p.f k' ++ (ms.take j).map packM).take 30 = F at *
        obtain ⟨Af2, cf2, hAf2, _, _⟩ := vals_of_own hf3
        rw [hAf2] at cF
        have H3 := hid h3
        have Hbe3 := hid hbe3
        have HV3 := hid hV3
        have HcA3 := hid hcA3
        clear h3 hbe3 hV3 hcA3 hc hf3 hcf
        go_wp2_with fail
        go_roundg (ms.length - (j + 1))
        case rel => exact ⟨j + 1, c3, fv3, by omega, by omega, by go_num, H3.out, HV3.out, HcA3.out, Hbe3.out⟩
        case measure => omega
    · obtain rfl : j = ms.length := by omega
      rw [List.take_length] at h3
      have H3 := hid h3
      have Hbe3 := hid hbe3
      clear h3 hbe3 hV3 hcA3
      go_wp2_with fail
      go_ret
      exact ⟨rfl, ⟨_, _, _, _, H3.out⟩, Hbe3.out⟩
end Go.Proofs.Ytaobhbfhbmenfaa
/- Two links: a datagram is taken (the program). -/
namespace Go.Proofs.Ytaobhbfhbmenfaa
open Go.RowKit
set_option maxRecDepth 10000
variable {w w' : World} {lo b : Nat} {B : Nat → LB} {p : Pr}
structure Ready (p : Pr) (k : Nat) : Prop where
  next : 0 ≤ (p.l k).next ∧ (p.l k).next ≤ 1073741824
  acked : 0 ≤ (p.l k).acked ∧ (p.l k).acked ≤ 1073741824
  good : 0 ≤ (p.l k).good ∧ (p.l k).good ≤ 1000000
  bad : 0 ≤ (p.l k).bad ∧ (p.l k).bad ≤ 1000000
  stale : 0 ≤ (p.l k).stale ∧ (p.l k).stale ≤ 1000000
  tl : (p.t k).length ≤ 100000
  fl : (p.f k).length ≤ 30
structure Hearable (first : Nat) (p : Pr) (k : Nat) (s : List UInt8) : Prop where
  len : s.length ≤ 100000
  ins : (hearF (p.l k) s).1.ins.length ≤ 100000
  told : (hearF (p.l k) s).1.ins ≠ [] → (hearF (p.l k) s).1.frm = ((first + (p.t k).length : Nat) : Int)
theorem own_base0 {base : Nat} {e : TypeId} {sz n : Nat} {v : Value} {xs : List Value} (h : w.ownsRow base e sz v n xs) : w.ownsRow 0 e sz v n xs := by
  refine ⟨h.1, ?_⟩
  rcases h.2 with hn | ⟨g, cap, cur, h1, _, h2⟩
  · exact .inl hn
  · exact .inr ⟨g, cap, cur, h1, Nat.zero_le _, h2⟩
theorem strL_erase (L : List (List UInt8)) (i : Nat) : (strL L).take i ++ (strL L).drop (i + 1) = strL (L.eraseIdx i) := by
  rw [strL, strL, ← List.map_take, ← List.map_drop, ← List.map_append, List.eraseIdx_eq_take_drop_succ]
theorem pieces {o cap i n : Nat} {xs : List Value} (h2 : Vals w 1 (some ⟨b, o, none⟩) n cap xs) (hil : i < n) :
    (∃ q, (∀ w1 : World, (Instr.slice 33 (.slice (some ⟨b, o, none⟩) n cap) none (some (.int .i64 i)) none).run Try.prog w1 = .ok (.slice q i cap) w1) ∧ Vals w 1 q i cap (xs.take i)) ∧
    ∃ q, (∀ w1 : World, (Instr.slice 33 (.slice (some ⟨b, o, none⟩) n cap) (some (.int .i64 (i + 1))) none none).run Try.prog w1 = .ok (.slice q (n - (i + 1)) (cap - (i + 1))) w1) ∧ Vals w 1 q (n - (i + 1)) (cap - (i + 1)) (xs.drop (i + 1)) :=
  ⟨⟨_, fun w1 => by rw [run_slice_h w1 33 (some ⟨b, o, none⟩) n cap Try.underlying33 .i64 i (by omega) (by have := h2.2.1; omega)]; simp [go_sem, sliced], h2.take i (by omega)⟩,
   ⟨_, fun w1 => by rw [run_slice_l w1 33 (some ⟨b, o, none⟩) n cap Try.underlying33 .i64 (i + 1) (by omega) (by omega)]; simp [go_sem, sliced], h2.drop (i + 1) (by omega)⟩⟩
/-- nothing flies -/
theorem take_none (h : IsPair w lo b B p) (kd wh ii aa x : Int) (hkd : 3 ≤ kd) (k : Nat) (hk : k < 2) (hkv : bits .and .i64 wh 1 = (k : Int)) (fi : Int) (hf : p.f k = []) :
    Calls Try.prog 9 #[.pointer (some ⟨b, 0, none⟩), .agg #[.int .i64 kd, .int .i64 wh, .int .i64 ii, .int .i64 aa, .int .u8 x], .int .i64 fi] w fun e w' => e = .returned (.bool true) ∧ IsPair w' lo b B p ∧ Below lo w w' := by
  obtain ⟨c, fv, ov, tv, h⟩ := h
  have hz := h.size
  have d1 : (kd == 1) = false := by rw [beq_eq_false_iff_ne]; omega
  have d2 : (kd == 2) = false := by rw [beq_eq_false_iff_ne]; omega
  go_enter Try.func9, Try.ntmps9
  go_upto_region 1 with fail
  have hX := blk_new w (.cells #[.int .i64 kd, .int .i64 wh, .int .i64 ii, .int .i64 aa, .int .u8 x] 30)
  have h1 := h.alloc (.cells #[.int .i64 kd, .int .i64 wh, .int .i64 ii, .int .i64 aa, .int .u8 x] 30)
  have hbe1 : Below lo w (w.alloc (.cells #[.int .i64 kd, .int .i64 wh, .int .i64 ii, .int .i64 aa, .int .u8 x] 30)) := (Below.refl _ w).alloc (by have := h.size; omega) _
  have hw1 : w.heap.size < (w.alloc (.cells #[.int .i64 kd, .int .i64 wh, .int .i64 ii, .int .i64 aa, .int .u8 x] 30)).heap.size := by simp
  generalize World.alloc w _ = w1 at *
  have x0 := blk_cell (k := 0) hX rfl
  have x1 := blk_cell (k := 1) hX rfl
  have x2 := blk_cell (k := 2) hX rfl
  have x3 := blk_cell (k := 3) hX rfl
  have x4 := blk_cell (k := 4) hX rfl
  obtain ⟨Af, cf, hAf, _, _⟩ := vals_of_own (h1.fr k hk)
  have cF := h1.cellF hk
  rw [hAf, hf] at cF
  have H1 := hid h1
  clear h1
  go_wp2_with fail
  go_ret
  exact ⟨rfl, ⟨_, _, _, _, H1.out⟩, hbe1⟩
set_option maxHeartbeats 2000000 in
theorem take_lost (h : IsPair w lo b B p) (wh ii aa x : Int) (k : Nat) (hk : k < 2) (hkv : bits .and .i64 wh 1 = (k : Int)) (fi : Int) (hR : Ready p k) (i : Nat) (hi : i < (p.f k).length) (hiv : wrap64 ((IntKind.u64.wrap ii).tmod ((p.f k).length : Int)) = (i : Int)) (s : List UInt8) (hs : (p.f k)[i]? = some s) :
    Calls Try.prog 9 #[.pointer (some ⟨b, 0, none⟩), .agg #[.int .i64 4, .int .i64 wh, .int .i64 ii, .int .i64 aa, .int .u8 x], .int .i64 fi] w fun e w' => e = .returned (.bool true) ∧ IsPair w' lo b B { p with f := setK p.f k ((p.f k).eraseIdx i) } ∧ Below lo w w' := by
  obtain ⟨i0, hi0, hz0, hz1', hz2⟩ := info_str2
  obtain ⟨c, fv, ov, tv, h⟩ := h
  have hz := h.size
  have Hi := hid hi0
  clear hi0
  go_enter Try.func9, Try.ntmps9
  go_upto_region 1 with fail
  have hX := blk_new w (.cells #[.int .i64 4, .int .i64 wh, .int .i64 ii, .int .i64 aa, .int .u8 x] 30)
  have h1 := h.alloc (.cells #[.int .i64 4, .int .i64 wh, .int .i64 ii, .int .i64 aa, .int .u8 x] 30)
  have hbe1 : Below lo w (w.alloc (.cells #[.int .i64 4, .int .i64 wh, .int .i64 ii, .int .i64 aa, .int .u8 x] 30)) := (Below.refl _ w).alloc (by have := h.size; omega) _
  have hw1 : w.heap.size < (w.alloc (.cells #[.int .i64 4, .int .i64 wh, .int .i64 ii, .int .i64 aa, .int .u8 x] 30)).heap.size := by simp
  generalize World.alloc w _ = w1 at *
  have x0 := blk_cell (k := 0) hX rfl
  have x1 := blk_cell (k := 1) hX rfl
  have x2 := blk_cell (k := 2) hX rfl
  have x3 := blk_cell (k := 3) hX rfl
  have x4 := blk_cell (k := 4) hX rfl
  obtain ⟨Af, cf, hAf, hVf, _⟩ := vals_of_own (h1.fr k hk)
  have cF := h1.cellF hk
  rw [hAf] at cF
  obtain ⟨bb, o, hAe, hcf⟩ := hVf.at' (by omega)
  subst hAe
  have e0 : w1.cell? ⟨bb, o + i, none⟩ = some (.string ⟨s.toArray⟩) := hcf i _ (by simp [strL, hs])
  have h0n : ((((p.f k).length : Nat) : Int) == 0) = false := by rw [beq_eq_false_iff_ne]; omega
  have hpos : 0 < (p.f k).length := by omega
  have hl9 := hR.fl
  have huw : IntKind.u64.wrap ((p.f k).length : Int) = ((p.f k).length : Int) := by rw [wrap_u64]; omega
  have H1 := hid h1
  have HVf := hid hVf
  clear h1 hcf hVf
  go_wp2_with fail
  have q1 : ¬ (fv k).ownBlock = some b := fun e => by have := H1.out.cf k hk b e; rw [H1.out.cb] at this; omega
  have fF := H1.out.free (2 + k)
  obtain ⟨⟨p1, hq1, hv1⟩, ⟨p2, hq2, hv2⟩⟩ := pieces HVf.out hi
  have O1 := hid (fun u (hu : u ∈ (strL (p.f k)).take i) => strL_one (p.f k) u (List.mem_of_mem_take hu))
  have O2 := hid (fun u (hu : u ∈ (strL (p.f k)).drop (i + 1)) => strL_one (p.f k) u (List.mem_of_mem_drop hu))
  have hca := HVf.out.2.1
  have hcb := HVf.out.2.2.1
  have hfl := hR.fl
  have k0 := keptS_cell (S := fun _ => False) (w := w1.drew) cF id
  refine stages_start (by kernel_rfl) 26 rfl ?_
  refine stagek (fun _ => False) [0, 1, 3, 4, 5, 6, 7, 8, 9, 10, 12, 13, 14, 15, 16, 17, 18, 19, 20, 22, 23] [2, 11, 21] 2 rfl #[true, true, true, true, true, true, true, true, true, true, true, true, true, true, true, true, true, true, true, true, true, true, true, true, false, false] (by kernel_rfl) (by kernel_rfl) (fun _ _ _ d _ h => by first | (cases d <;> exact h) | cases h.1) ?_
  simp only [opsAt, List.map_cons, List.map_nil, List.getElem?_toArray, List.getElem?_cons_zero, List.getElem?_cons_succ, Option.getD_some]
  repeat (go_big_quiet_step (fail))
  refine wpQuiet_nil ?_
  refine links_cons (by first | rfl | simp [go_sem]) (fun K hK => ?_)
  go_simp
  refine hK _ _ (keptS (by first | exact (Keeps.refl _ w1.drew).alloc _ | exact (Keeps.trans ⟨rfl, rfl, rfl, Nat.le_refl _, fun _ _ _ => rfl⟩ ((Keeps.refl _ w1).alloc _).drew))) ?_
  clear hK K
  refine links_cons (by first | rfl | simp [go_sem]) (fun K hK => ?_)
  refine wp_append_vals _ (.tmp 141) (.tmp 149) _ rfl w1.heap.size 9 i0 _ 1 16 Try.underlying33 Hi.out hz0 hz1' hz2 rfl (by omega) (.slice (some ⟨w1.heap.size, 0, none⟩) 0 0) 0 [] rfl (own_empty (Nat.le_refl _) (blk_new w1 _)) p1 i cf ((strL (p.f k)).take i) rfl (hv1.keeps (S := fun _ => False) ((Keeps.refl _ w1).alloc _).drew (fun _ _ _ => id)) O1.out (by simp only [maxLen]; omega) (by omega) (by simp) ?_
  intro v1 w2 hown1 hg1 _
  have hk1 : Keeps (fun _ => False) w1 w2 := (((Keeps.refl _ w1).alloc _).drew).grown hg1 (fun k hk => .inr (by simp [Value.ownBlock] at hk; omega))
  refine hK _ _ (keptS (keeps_drew hk1)) ?_
  clear hK K
  refine links_cons (by first | rfl | simp [go_sem]) (fun K hK => ?_)
  refine wp_append_vals _ (.tmp 150) (.tmp 159) _ rfl w1.heap.size 9 i0 _ 1 16 Try.underlying33 Hi.out hz0 hz1' hz2 rfl (by omega) v1 (0 + i) ([] ++ (strL (p.f k)).take i) rfl hown1 p2 ((p.f k).length - (i + 1)) (cf - (i + 1)) ((strL (p.f k)).drop (i + 1)) rfl (hv2.keeps hk1 (fun _ _ _ => id)) O2.out (by simp only [maxLen]; omega) (by omega) hk1.size ?_
  intro v2 w3 hown2 hg2 _
  have hk2 : Keeps (fun _ => False) w1 w3 := hk1.grown hg2 (fun k hk => .inr ((hown1.lt k hk).1))
  refine hK _ _ (keptS (keeps_drew hk2)) ?_
  clear hK K
  refine links_nil ?_
  have hnn : 0 + i + ((p.f k).length - (i + 1)) = ((p.f k).eraseIdx i).length := by rw [List.length_eraseIdx_of_lt (by omega)]; omega
  rw [List.nil_append, strL_erase, hnn] at hown2
  have c3 := hk2.cell cF id
  have f3 := (hk2.frozen (World.block_lt_of_cell? _ _ cF) id).trans fF
  have hfin := H1.out.rowF hk (hk2.mono fun _ _ h => h.elim) (own_base0 hown2) (fun j hj => .inr (hown2.lt j hj).1)
  have hkk := (hk2.mono (T := fun j => j = b) fun _ _ h => h.elim).setCell (p := ⟨b, 2 + k, none⟩) rfl v2
  have hbe3 := hbe1.trans (hkk.below (B := lo) (by have := hbe1.size; omega) (fun j h1 h2 => by omega))
  have hX3 := hkk.heap hX (by omega)
  obtain ⟨A2, cap2, rfl, _, _⟩ := vals_of_own hown2
  clear hg2 hg1 hown1 hown2 hk1 k0 hq1 hq2 hnn O1 O2 hv1 hv2 hX x0 x1 x2 x3 x4
  simp only [Act.put, List.setIfInBounds_toArray, List.set_cons_succ, List.set_cons_zero]
  refine stagek (fun _ => True) [24] [25] 0 rfl #[true, true, true, true, true, true, true, true, true, true, true, true, true, true, true, true, true, true, true, true, true, true, true, true, true, true] (by kernel_rfl) (by kernel_rfl) (fun _ _ _ d _ h => by first | (cases d <;> exact h) | cases h.1) ?_
  simp only [opsAt, List.map_cons, List.map_nil, List.getElem?_toArray, List.getElem?_cons_zero, List.getElem?_cons_succ, Option.getD_some]
  repeat (go_big_quiet_step (fail))
  refine wpQuiet_nil ?_
  refine links_cons (by first | rfl | simp [go_sem]) (fun K hK => ?_)
  go_simp
  refine hK _ _ (keptS ((Keeps.refl _ w3).setCell (p := ⟨b, 2 + k, none⟩) trivial _)) ?_
  clear hK K
  refine links_nil ?_
  refine stages_end (by kernel_rfl) ?_
  generalize World.setCell w3 _ _ = w4 at *
  have x0 := blk_cell (k := 0) hX3 rfl
  have xl := blk_lt hX3
  go_wp2_with fail
  go_ret
  exact ⟨rfl, ⟨_, _, _, _, hfin⟩, hbe3⟩
set_option maxHeartbeats 2000000 in
theorem take_heard (h : IsPair w lo b B p) (wh ii aa x : Int) (k : Nat) (hk : k < 2) (hkv : bits .and .i64 wh 1 = (k : Int)) (first : Nat) (hf : first ≤ 65535) (hR : Ready p k) (i : Nat) (hi : i < (p.f k).length) (hiv : wrap64 ((IntKind.u64.wrap ii).tmod ((p.f k).length : Int)) = (i : Int)) (s : List UInt8) (hs : (p.f k)[i]? = some s) (hH : Hearable first p k s) :
    Calls Try.prog 9 #[.pointer (some ⟨b, 0, none⟩), .agg #[.int .i64 3, .int .i64 wh, .int .i64 ii, .int .i64 aa, .int .u8 x], .int .i64 first] w fun e w' => e = .returned (.bool true) ∧ IsPair w' lo b B (hearQ p k s ((p.f k).eraseIdx i)) ∧ Below lo w w' := by
  obtain ⟨i0, hi0, hz0, hz1', hz2⟩ := info_str2
  obtain ⟨c, fv, ov, tv, h⟩ := h
  have hz := h.size
  have Hi := hid hi0
  clear hi0
  have HH := hid hH
  clear hH
  go_enter Try.func9, Try.ntmps9
  go_upto_region 1 with fail
  have hX := blk_new w (.cells #[.int .i64 3, .int .i64 wh, .int .i64 ii, .int .i64 aa, .int .u8 x] 30)
  have h1 := h.alloc (.cells #[.int .i64 3, .int .i64 wh, .int .i64 ii, .int .i64 aa, .int .u8 x] 30)
  have hbe1 : Below lo w (w.alloc (.cells #[.int .i64 3, .int .i64 wh, .int .i64 ii, .int .i64 aa, .int .u8 x] 30)) := (Below.refl _ w).alloc (by have := h.size; omega) _
  have hw1 : w.heap.size < (w.alloc (.cells #[.int .i64 3, .int .i64 wh, .int .i64 ii, .int .i64 aa, .int .u8 x] 30)).heap.size := by simp
  generalize World.alloc w _ = w1 at *
  have x0 := blk_cell (k := 0) hX rfl
  have x1 := blk_cell (k := 1) hX rfl
  have x2 := blk_cell (k := 2) hX rfl
  have x3 := blk_cell (k := 3) hX rfl
  have x4 := blk_cell (k := 4) hX rfl
  obtain ⟨Af, cf, hAf, hVf, _⟩ := vals_of_own (h1.fr k hk)
  have cF := h1.cellF hk
  rw [hAf] at cF
  obtain ⟨bb, o, hAe, hcf⟩ := hVf.at' (by omega)
  subst hAe
  have e0 : w1.cell? ⟨bb, o + i, none⟩ = some (.string ⟨s.toArray⟩) := hcf i _ (by simp [strL, hs])
  have h0n : ((((p.f k).length : Nat) : Int) == 0) = false := by rw [beq_eq_false_iff_ne]; omega
  have hpos : 0 < (p.f k).length := by omega
  have hl9 := hR.fl
  have huw : IntKind.u64.wrap ((p.f k).length : Int) = ((p.f k).length : Int) := by rw [wrap_u64]; omega
  have H1 := hid h1
  have HVf := hid hVf
  clear h1 hcf hVf
  go_wp2_with fail
  have q1 : ¬ (fv k).ownBlock = some b := fun e => by have := H1.out.cf k hk b e; rw [H1.out.cb] at this; omega
  have fF := H1.out.free (2 + k)
  obtain ⟨⟨p1, hq1, hv1⟩, ⟨p2, hq2, hv2⟩⟩ := pieces HVf.out hi
  have O1 := hid (fun u (hu : u ∈ (strL (p.f k)).take i) => strL_one (p.f k) u (List.mem_of_mem_take hu))
  have O2 := hid (fun u (hu : u ∈ (strL (p.f k)).drop (i + 1)) => strL_one (p.f k) u (List.mem_of_mem_drop hu))
  have hca := HVf.out.2.1
  have hcb := HVf.out.2.2.1
  have hfl := hR.fl
  have k0 := keptS_cell (S := fun _ => False) (w := w1.drew) cF id
  refine stages_start (by kernel_rfl) 26 rfl ?_
  refine stagek (fun _ => False) [0, 1, 3, 4, 5, 6, 7, 8, 9, 10, 12, 13, 14, 15, 16, 17, 18, 19, 20, 22, 23] [2, 11, 21] 2 rfl #[true, true, true, true, true, true, true, true, true, true, true, true, true, true, true, true, true, true, true, true, true, true, true, true, false, false] (by kernel_rfl) (by kernel_rfl) (fun _ _ _ d _ h => by first | (cases d <;> exact h) | cases h.1) ?_
  simp only [opsAt, List.map_cons, List.map_nil, List.getElem?_toArray, List.getElem?_cons_zero, List.getElem?_cons_succ, Option.getD_some]
  repeat (go_big_quiet_step (fail))
  refine wpQuiet_nil ?_
  refine links_cons (by first | rfl | simp [go_sem]) (fun K hK => ?_)
  go_simp
  refine hK _ _ (keptS (by first | exact (Keeps.refl _ w1.drew).alloc _ | exact (Keeps.trans ⟨rfl, rfl, rfl, Nat.le_refl _, fun _ _ _ => rfl⟩ ((Keeps.refl _ w1).alloc _).drew))) ?_
  clear hK K
  refine links_cons (by first | rfl | simp [go_sem]) (fun K hK => ?_)
  refine wp_append_vals _ (.tmp 141) (.tmp 149) _ rfl w1.heap.size 9 i0 _ 1 16 Try.underlying33 Hi.out hz0 hz1' hz2 rfl (by omega) (.slice (some ⟨w1.heap.size, 0, none⟩) 0 0) 0 [] rfl (own_empty (Nat.le_refl _) (blk_new w1 _)) p1 i cf ((strL (p.f k)).take i) rfl (hv1.keeps (S := fun _ => False) ((Keeps.refl _ w1).alloc _).drew (fun _ _ _ => id)) O1.out (by simp only [maxLen]; omega) (by omega) (by simp) ?_
  intro v1 w2 hown1 hg1 _
  have hk1 : Keeps (fun _ => False) w1 w2 := (((Keeps.refl _ w1).alloc _).drew).grown hg1 (fun k hk => .inr (by simp [Value.ownBlock] at hk; omega))
  refine hK _ _ (keptS (keeps_drew hk1)) ?_
  clear hK K
  refine links_cons (by first | rfl | simp [go_sem]) (fun K hK => ?_)
  refine wp_append_vals _ (.tmp 150) (.tmp 159) _ rfl w1.heap.size 9 i0 _ 1 16 Try.underlying33 Hi.out hz0 hz1' hz2 rfl (by omega) v1 (0 + i) ([] ++ (strL (p.f k)).take i) rfl hown1 p2 ((p.f k).length - (i + 1)) (cf - (i + 1)) ((strL (p.f k)).drop (i + 1)) rfl (hv2.keeps hk1 (fun _ _ _ => id)) O2.out (by simp only [maxLen]; omega) (by omega) hk1.size ?_
  intro v2 w3 hown2 hg2 _
  have hk2 : Keeps (fun _ => False) w1 w3 := hk1.grown hg2 (fun k hk => .inr ((hown1.lt k hk).1))
  refine hK _ _ (keptS (keeps_drew hk2)) ?_
  clear hK K
  refine links_nil ?_
  have hnn : 0 + i + ((p.f k).length - (i + 1)) = ((p.f k).eraseIdx i).length := by rw [List.length_eraseIdx_of_lt (by omega)]; omega
  rw [List.nil_append, strL_erase, hnn] at hown2
  have c3 := hk2.cell cF id
  have f3 := (hk2.frozen (World.block_lt_of_cell? _ _ cF) id).trans fF
  have hfin := H1.out.rowF hk (hk2.mono fun _ _ h => h.elim) (own_base0 hown2) (fun j hj => .inr (hown2.lt j hj).1)
  have hkk := (hk2.mono (T := fun j => j = b) fun _ _ h => h.elim).setCell (p := ⟨b, 2 + k, none⟩) rfl v2
  have hbe3 := hbe1.trans (hkk.below (B := lo) (by have := hbe1.size; omega) (fun j h1 h2 => by omega))
  have hX3 := hkk.heap hX (by omega)
  obtain ⟨A2, cap2, rfl, _, _⟩ := vals_of_own hown2
  clear hg2 hg1 hown1 hown2 hk1 k0 hq1 hq2 hnn O1 O2 hv1 hv2 hX x0 x1 x2 x3 x4
  simp only [Act.put, List.setIfInBounds_toArray, List.set_cons_succ, List.set_cons_zero]
  refine stagek (fun _ => True) [24] [25] 0 rfl #[true, true, true, true, true, true, true, true, true, true, true, true, true, true, true, true, true, true, true, true, true, true, true, true, true, true] (by kernel_rfl) (by kernel_rfl) (fun _ _ _ d _ h => by first | (cases d <;> exact h) | cases h.1) ?_
  simp only [opsAt, List.map_cons, List.map_nil, List.getElem?_toArray, List.getElem?_cons_zero, List.getElem?_cons_succ, Option.getD_some]
  repeat (go_big_quiet_step (fail))
  refine wpQuiet_nil ?_
  refine links_cons (by first | rfl | simp [go_sem]) (fun K hK => ?_)
  go_simp
  refine hK _ _ (keptS ((Keeps.refl _ w3).setCell (p := ⟨b, 2 + k, none⟩) trivial _)) ?_
  clear hK K
  refine links_nil ?_
  refine stages_end (by kernel_rfl) ?_
  generalize World.setCell w3 _ _ = w4 at *
  have x0 := blk_cell (k := 0) hX3 rfl
  have xl := blk_lt hX3
  have hP := pr_hear ⟨_, _, _, _, hfin⟩ hk ⟨s.toArray⟩ (by rw [sz_of]; exact HH.out.len) first hf hR.next hR.acked hR.good hR.bad hR.stale hR.tl HH.out.ins HH.out.told
  have HP := hid hP
  clear hP hfin
  go_wp2_with fail
  refine HP.out.mono ?_
  rintro e w9 ⟨rfl, hI, hb9⟩
  have hb10 := hbe3.trans hb9
  have HI := hid hI
  clear hI hb9
  go_wp2_with fail
  go_ret
  exact ⟨rfl, HI.out, hb10⟩
set_option maxHeartbeats 2000000 in
theorem take_six (h : IsPair w lo b B p) (wh ii aa : Int) (k : Nat) (hk : k < 2) (hkv : bits .and .i64 wh 1 = (k : Int)) (first : Nat) (hf : first ≤ 65535) (hR : Ready p k) (i : Nat) (hi : i < (p.f k).length) (hiv : wrap64 ((IntKind.u64.wrap ii).tmod ((p.f k).length : Int)) = (i : Int)) (s : List UInt8) (hs : (p.f k)[i]? = some s) (hH : Hearable first p k s) :
    Calls Try.prog 9 #[.pointer (some ⟨b, 0, none⟩), .agg #[.int .i64 6, .int .i64 wh, .int .i64 ii, .int .i64 aa, .int .u8 0], .int .i64 first] w fun e w' => e = .returned (.bool true) ∧ IsPair w' lo b B (hearQ p k s ((p.f k).eraseIdx i)) ∧ Below lo w w' := by
  have hx : (0 : Int) ≤ 0 := by omega
  generalize hx0 : (0 : Int) = x at *
  obtain ⟨i0, hi0, hz0, hz1', hz2⟩ := info_str2
  obtain ⟨c, fv, ov, tv, h⟩ := h
  have hz := h.size
  have Hi := hid hi0
  clear hi0
  have HH := hid hH
  clear hH
  go_enter Try.func9, Try.ntmps9
  go_upto_region 1 with fail
  have hX := blk_new w (.cells #[.int .i64 6, .int .i64 wh, .int .i64 ii, .int .i64 aa, .int .u8 x] 30)
  have h1 := h.alloc (.cells #[.int .i64 6, .int .i64 wh, .int .i64 ii, .int .i64 aa, .int .u8 x] 30)
  have hbe1 : Below lo w (w.alloc (.cells #[.int .i64 6, .int .i64 wh, .int .i64 ii, .int .i64 aa, .int .u8 x] 30)) := (Below.refl _ w).alloc (by have := h.size; omega) _
  have hw1 : w.heap.size < (w.alloc (.cells #[.int .i64 6, .int .i64 wh, .int .i64 ii, .int .i64 aa, .int .u8 x] 30)).heap.size := by simp
  generalize World.alloc w _ = w1 at *
  have x0 := blk_cell (k := 0) hX rfl
  have x1 := blk_cell (k := 1) hX rfl
  have x2 := blk_cell (k := 2) hX rfl
  have x3 := blk_cell (k := 3) hX rfl
  have x4 := blk_cell (k := 4) hX rfl
  obtain ⟨Af, cf, hAf, hVf, _⟩ := vals_of_own (h1.fr k hk)
  have cF := h1.cellF hk
  rw [hAf] at cF
  obtain ⟨bb, o, hAe, hcf⟩ := hVf.at' (by omega)
  subst hAe
  have e0 : w1.cell? ⟨bb, o + i, none⟩ = some (.string ⟨s.toArray⟩) := hcf i _ (by simp [strL, hs])
  have h0n : ((((p.f k).length : Nat) : Int) == 0) = false := by rw [beq_eq_false_iff_ne]; omega
  have hpos : 0 < (p.f k).length := by omega
  have hl9 := hR.fl
  have huw : IntKind.u64.wrap ((p.f k).length : Int) = ((p.f k).length : Int) := by rw [wrap_u64]; omega
  have H1 := hid h1
  have HVf := hid hVf
  clear h1 hcf hVf
  go_wp2_with fail
  have q1 : ¬ (fv k).ownBlock = some b := fun e => by have := H1.out.cf k hk b e; rw [H1.out.cb] at this; omega
  have fF := H1.out.free (2 + k)
  obtain ⟨⟨p1, hq1, hv1⟩, ⟨p2, hq2, hv2⟩⟩ := pieces HVf.out hi
  have O1 := hid (fun u (hu : u ∈ (strL (p.f k)).take i) => strL_one (p.f k) u (List.mem_of_mem_take hu))
  have O2 := hid (fun u (hu : u ∈ (strL (p.f k)).drop (i + 1)) => strL_one (p.f k) u (List.mem_of_mem_drop hu))
  have hca := HVf.out.2.1
  have hcb := HVf.out.2.2.1
  have hfl := hR.fl
  have k0 := keptS_cell (S := fun _ => False) (w := w1.drew) cF id
  refine stages_start (by kernel_rfl) 26 rfl ?_
  refine stagek (fun _ => False) [0, 1, 3, 4, 5, 6, 7, 8, 9, 10, 12, 13, 14, 15, 16, 17, 18, 19, 20, 22, 23] [2, 11, 21] 2 rfl #[true, true, true, true, true, true, true, true, true, true, true, true, true, true, true, true, true, true, true, true, true, true, true, true, false, false] (by kernel_rfl) (by kernel_rfl) (fun _ _ _ d _ h => by first | (cases d <;> exact h) | cases h.1) ?_
  simp only [opsAt, List.map_cons, List.map_nil, List.getElem?_toArray, List.getElem?_cons_zero, List.getElem?_cons_succ, Option.getD_some]
  repeat (go_big_quiet_step (fail))
  refine wpQuiet_nil ?_
  refine links_cons (by first | rfl | simp [go_sem]) (fun K hK => ?_)
  go_simp
  refine hK _ _ (keptS (by first | exact (Keeps.refl _ w1.drew).alloc _ | exact (Keeps.trans ⟨rfl, rfl, rfl, Nat.le_refl _, fun _ _ _ => rfl⟩ ((Keeps.refl _ w1).alloc _).drew))) ?_
  clear hK K
  refine links_cons (by first | rfl | simp [go_sem]) (fun K hK => ?_)
  refine wp_append_vals _ (.tmp 141) (.tmp 149) _ rfl w1.heap.size 9 i0 _ 1 16 Try.underlying33 Hi.out hz0 hz1' hz2 rfl (by omega) (.slice (some ⟨w1.heap.size, 0, none⟩) 0 0) 0 [] rfl (own_empty (Nat.le_refl _) (blk_new w1 _)) p1 i cf ((strL (p.f k)).take i) rfl (hv1.keeps (S := fun _ => False) ((Keeps.refl _ w1).alloc _).drew (fun _ _ _ => id)) O1.out (by simp only [maxLen]; omega) (by omega) (by simp) ?_
  intro v1 w2 hown1 hg1 _
  have hk1 : Keeps (fun _ => False) w1 w2 := (((Keeps.refl _ w1).alloc _).drew).grown hg1 (fun k hk => .inr (by simp [Value.ownBlock] at hk; omega))
  refine hK _ _ (keptS (keeps_drew hk1)) ?_
  clear hK K
  refine links_cons (by first | rfl | simp [go_sem]) (fun K hK => ?_)
  refine wp_append_vals _ (.tmp 150) (.tmp 159) _ rfl w1.heap.size 9 i0 _ 1 16 Try.underlying33 Hi.out hz0 hz1' hz2 rfl (by omega) v1 (0 + i) ([] ++ (strL (p.f k)).take i) rfl hown1 p2 ((p.f k).length - (i + 1)) (cf - (i + 1)) ((strL (p.f k)).drop (i + 1)) rfl (hv2.keeps hk1 (fun _ _ _ => id)) O2.out (by simp only [maxLen]; omega) (by omega) hk1.size ?_
  intro v2 w3 hown2 hg2 _
  have hk2 : Keeps (fun _ => False) w1 w3 := hk1.grown hg2 (fun k hk => .inr ((hown1.lt k hk).1))
  refine hK _ _ (keptS (keeps_drew hk2)) ?_
  clear hK K
  refine links_nil ?_
  have hnn : 0 + i + ((p.f k).length - (i + 1)) = ((p.f k).eraseIdx i).length := by rw [List.length_eraseIdx_of_lt (by omega)]; omega
  rw [List.nil_append, strL_erase, hnn] at hown2
  have c3 := hk2.cell cF id
  have f3 := (hk2.frozen (World.block_lt_of_cell? _ _ cF) id).trans fF
  have hfin := H1.out.rowF hk (hk2.mono fun _ _ h => h.elim) (own_base0 hown2) (fun j hj => .inr (hown2.lt j hj).1)
  have hkk := (hk2.mono (T := fun j => j = b) fun _ _ h => h.elim).setCell (p := ⟨b, 2 + k, none⟩) rfl v2
  have hbe3 := hbe1.trans (hkk.below (B := lo) (by have := hbe1.size; omega) (fun j h1 h2 => by omega))
  have hX3 := hkk.heap hX (by omega)
  obtain ⟨A2, cap2, rfl, _, _⟩ := vals_of_own hown2
  clear hg2 hg1 hown1 hown2 hk1 k0 hq1 hq2 hnn O1 O2 hv1 hv2 hX x0 x1 x2 x3 x4
  simp only [Act.put, List.setIfInBounds_toArray, List.set_cons_succ, List.set_cons_zero]
  refine stagek (fun _ => True) [24] [25] 0 rfl #[true, true, true, true, true, true, true, true, true, true, true, true, true, true, true, true, true, true, true, true, true, true, true, true, true, true] (by kernel_rfl) (by kernel_rfl) (fun _ _ _ d _ h => by first | (cases d <;> exact h) | cases h.1) ?_
  simp only [opsAt, List.map_cons, List.map_nil, List.getElem?_toArray, List.getElem?_cons_zero, List.getElem?_cons_succ, Option.getD_some]
  repeat (go_big_quiet_step (fail))
  refine wpQuiet_nil ?_
  refine links_cons (by first | rfl | simp [go_sem]) (fun K hK => ?_)
  go_simp
  refine hK _ _ (keptS ((Keeps.refl _ w3).setCell (p := ⟨b, 2 + k, none⟩) trivial _)) ?_
  clear hK K
  refine links_nil ?_
  refine stages_end (by kernel_rfl) ?_
  generalize World.setCell w3 _ _ = w4 at *
  have x0 := blk_cell (k := 0) hX3 rfl
  have x4 := blk_cell (k := 4) hX3 rfl
  have xl := blk_lt hX3
  subst hx0
  have hP := pr_hear ⟨_, _, _, _, hfin⟩ hk ⟨s.toArray⟩ (by rw [sz_of]; exact HH.out.len) first hf hR.next hR.acked hR.good hR.bad hR.stale hR.tl HH.out.ins HH.out.told
  have HP := hid hP
  clear hP hfin
  go_wp2_with fail
  refine HP.out.mono ?_
  rintro e w9 ⟨rfl, hI, hb9⟩
  have hb10 := hbe3.trans hb9
  have HI := hid hI
  clear hI hb9
  go_wp2_with fail
  go_ret
  exact ⟨rfl, HI.out, hb10⟩
set_option maxHeartbeats 2000000 in
theorem take_kept (h : IsPair w lo b B p) (wh ii aa x : Int) (k : Nat) (hk : k < 2) (hkv : bits .and .i64 wh 1 = (k : Int)) (first : Nat) (hf : first ≤ 65535) (hR : Ready p k) (i : Nat) (hi : i < (p.f k).length) (hiv : wrap64 ((IntKind.u64.wrap ii).tmod ((p.f k).length : Int)) = (i : Int)) (s : List UInt8) (hs : (p.f k)[i]? = some s) (hH : Hearable first p k s) :
    Calls Try.prog 9 #[.pointer (some ⟨b, 0, none⟩), .agg #[.int .i64 5, .int .i64 wh, .int .i64 ii, .int .i64 aa, .int .u8 x], .int .i64 first] w fun e w' => e = .returned (.bool true) ∧ IsPair w' lo b B (hearQ p k s (p.f k)) ∧ Below lo w w' := by
  have hq : hearQ p k s (p.f k) = hearL p k s := by unfold hearQ hearL; rw [setK_self]
  rw [hq]
  obtain ⟨i0, hi0, hz0, hz1', hz2⟩ := info_str2
  obtain ⟨c, fv, ov, tv, h⟩ := h
  have hz := h.size
  have Hi := hid hi0
  clear hi0
  have HH := hid hH
  clear hH
  go_enter Try.func9, Try.ntmps9
  go_upto_region 1 with fail
  have hX := blk_new w (.cells #[.int .i64 5, .int .i64 wh, .int .i64 ii, .int .i64 aa, .int .u8 x] 30)
  have h1 := h.alloc (.cells #[.int .i64 5, .int .i64 wh, .int .i64 ii, .int .i64 aa, .int .u8 x] 30)
  have hbe1 : Below lo w (w.alloc (.cells #[.int .i64 5, .int .i64 wh, .int .i64 ii, .int .i64 aa, .int .u8 x] 30)) := (Below.refl _ w).alloc (by have := h.size; omega) _
  have hw1 : w.heap.size < (w.alloc (.cells #[.int .i64 5, .int .i64 wh, .int .i64 ii, .int .i64 aa, .int .u8 x] 30)).heap.size := by simp
  generalize World.alloc w _ = w1 at *
  have x0 := blk_cell (k := 0) hX rfl
  have x1 := blk_cell (k := 1) hX rfl
  have x2 := blk_cell (k := 2) hX rfl
  have x3 := blk_cell (k := 3) hX rfl
  have x4 := blk_cell (k := 4) hX rfl
  obtain ⟨Af, cf, hAf, hVf, _⟩ := vals_of_own (h1.fr k hk)
  have cF := h1.cellF hk
  rw [hAf] at cF
  obtain ⟨bb, o, hAe, hcf⟩ := hVf.at' (by omega)
  subst hAe
  have e0 : w1.cell? ⟨bb, o + i, none⟩ = some (.string ⟨s.toArray⟩) := hcf i _ (by simp [strL, hs])
  have h0n : ((((p.f k).length : Nat) : Int) == 0) = false := by rw [beq_eq_false_iff_ne]; omega
  have hpos : 0 < (p.f k).length := by omega
  have hl9 := hR.fl
  have huw : IntKind.u64.wrap ((p.f k).length : Int) = ((p.f k).length : Int) := by rw [wrap_u64]; omega
  have H1 := hid h1
  have HVf := hid hVf
  clear h1 hcf hVf
  go_wp2_with fail
  have hfin := H1.out
  have hbe3 := hbe1
  have hP := pr_hear ⟨_, _, _, _, hfin⟩ hk ⟨s.toArray⟩ (by rw [sz_of]; exact HH.out.len) first hf hR.next hR.acked hR.good hR.bad hR.stale hR.tl HH.out.ins HH.out.told
  have HP := hid hP
  clear hP hfin
  go_wp2_with fail
  refine HP.out.mono ?_
  rintro e w9 ⟨rfl, hI, hb9⟩
  have hb10 := hbe3.trans hb9
  have HI := hid hI
  clear hI hb9
  go_wp2_with fail
  go_ret
  exact ⟨rfl, HI.out, hb10⟩
end Go.Proofs.Ytaobhbfhbmenfaa
/- Two links: a datagram is taken with one byte turned (the program). -/
namespace Go.Proofs.Ytaobhbfhbmenfaa
open Go.RowKit
set_option maxRecDepth 10000
theorem xor_ne (x by' : Nat) (hx : x < 256) (hb : by' < 256) (h0 : by' ≠ 0) : ∃ c : UInt8, bits .xor .u8 (x : Int) (by' : Int) = (c.toNat : Int) ∧ c ≠ UInt8.ofNat x := by
  have hlt : x ^^^ by' < 256 := Nat.xor_lt_two_pow (n := 8) hx hb
  refine ⟨UInt8.ofNat (x ^^^ by'), ?_, ?_⟩
  · rw [u8_xor_nat x by' hx hb]
    simp [Nat.mod_eq_of_lt hx, Nat.mod_eq_of_lt hb]
  · intro h
    have := congrArg UInt8.toNat h
    simp [Nat.mod_eq_of_lt hb, Nat.mod_eq_of_lt hx] at this
    have h2 : x ^^^ (x ^^^ by') = x ^^^ x := congrArg (fun z => x ^^^ z) this
    rw [← Nat.xor_assoc, Nat.xor_self, Nat.zero_xor] at h2
    exact h0 h2
/-- the bytes behind one store, and what opening says of them -/
theorem opened_turned (l : List UInt8) (k : Nat) (c : UInt8) (hk : k < (sealed l).length) (hc : c ≠ (sealed l)[k]) : opened ((sealed l).set k c) = ([], 15) := by
  have hlen : ((sealed l).set k c).length = l.length + 4 := by simp [sealed, tail4_length]
  unfold opened
  rw [if_neg (by omega), if_neg]
  intro h
  have hn : ((sealed l).set k c).length - 4 = l.length := by omega
  rw [hn] at h
  refine turned l k c hk hc (((sealed l).set k c).take l.length) (((sealed l).set k c).drop l.length) (List.take_append_drop _ _) (by simp [sealed, tail4_length]) ?_
  have := congrArg (List.drop l.length) h
  rw [← this, sealed]
  exact (List.drop_left' (by simp)).symm
/-- a byte stored into a row of bytes, and the row read as a string -/
theorem conv_back (w : World) (b cap : Nat) (l : List UInt8) (k : Nat) (c : UInt8) (hk : k < l.length)
    (hcell : ∀ i (h : i < l.length), w.cell? ⟨b, i, none⟩ = some (.int .u8 l[i].toNat)) :
    (convert 35 9 (.slice (some ⟨b, 0, none⟩) l.length cap)).run Try.prog (w.setCell ⟨b, k, none⟩ (.int .u8 c.toNat)) = .ok (.string ⟨(l.set k c).toArray⟩) (w.setCell ⟨b, k, none⟩ (.int .u8 c.toNat)) := by
  have h := run_convert_bytes_back (P := Try.prog) (w.setCell ⟨b, k, none⟩ (.int .u8 c.toNat)) 35 9 5 ⟨b, 0, none⟩ cap (l.set k c) Try.underlying35 Try.underlying5 Try.underlying9 (by
    intro j hj
    have hj' : j < l.length := by simpa using hj
    have ea : (⟨b, 0, none⟩ : Addr).add j = ⟨b, j, none⟩ := by rw [addr_add, Nat.zero_add]
    rw [ea]
    by_cases e : k = j
    · subst e
      rw [World.cell?_setCell_same _ _ _ (hcell k hk)]
      simp
    · rw [World.cell?_setCell_other _ _ _ _ (by simp), hcell j hj']
      simp [List.getElem_set_ne e])
  simpa using h

variable {w w' : World} {lo b : Nat} {B : Nat → LB} {p : Pr}
set_option maxHeartbeats 2000000 in
theorem take_turned (h : IsPair w lo b B p) (wh ii aa x : Int) (k : Nat) (hk : k < 2) (hkv : bits .and .i64 wh 1 = (k : Int)) (first : Nat) (hf : first ≤ 65535) (hR : Ready p k) (i : Nat) (hi : i < (p.f k).length) (hiv : wrap64 ((IntKind.u64.wrap ii).tmod ((p.f k).length : Int)) = (i : Int)) (s : List UInt8) (hs : (p.f k)[i]? = some s) (hx : 0 < x ∧ x ≤ 255) (j : Nat) (hj : j < s.length) (hjv : wrap64 ((IntKind.u64.wrap aa).tmod (s.length : Int)) = (j : Int)) (cc : UInt8) (hcc : bits .xor .u8 (s[j].toNat : Int) x = (cc.toNat : Int)) (hH : Hearable first p k (s.set j cc)) :
    Calls Try.prog 9 #[.pointer (some ⟨b, 0, none⟩), .agg #[.int .i64 6, .int .i64 wh, .int .i64 ii, .int .i64 aa, .int .u8 x], .int .i64 first] w fun e w' => e = .returned (.bool true) ∧ IsPair w' lo b B (hearQ p k (s.set j cc) ((p.f k).eraseIdx i)) ∧ Below lo w w' := by
  obtain ⟨i0, hi0, hz0, hz1', hz2⟩ := info_str2
  obtain ⟨c, fv, ov, tv, h⟩ := h
  have hz := h.size
  have Hi := hid hi0
  clear hi0
  have HH := hid hH
  clear hH
  have hx1 : (x != 0) = true := by simp; omega
  go_enter Try.func9, Try.ntmps9
  go_upto_region 1 with fail
  have hX := blk_new w (.cells #[.int .i64 6, .int .i64 wh, .int .i64 ii, .int .i64 aa, .int .u8 x] 30)
  have h1 := h.alloc (.cells #[.int .i64 6, .int .i64 wh, .int .i64 ii, .int .i64 aa, .int .u8 x] 30)
  have hbe1 : Below lo w (w.alloc (.cells #[.int .i64 6, .int .i64 wh, .int .i64 ii, .int .i64 aa, .int .u8 x] 30)) := (Below.refl _ w).alloc (by have := h.size; omega) _
  have hw1 : w.heap.size < (w.alloc (.cells #[.int .i64 6, .int .i64 wh, .int .i64 ii, .int .i64 aa, .int .u8 x] 30)).heap.size := by simp
  generalize World.alloc w _ = w1 at *
  have x0 := blk_cell (k := 0) hX rfl
  have x1 := blk_cell (k := 1) hX rfl
  have x2 := blk_cell (k := 2) hX rfl
  have x3 := blk_cell (k := 3) hX rfl
  have x4 := blk_cell (k := 4) hX rfl
  obtain ⟨Af, cf, hAf, hVf, _⟩ := vals_of_own (h1.fr k hk)
  have cF := h1.cellF hk
  rw [hAf] at cF
  obtain ⟨bb, o, hAe, hcf⟩ := hVf.at' (by omega)
  subst hAe
  have e0 : w1.cell? ⟨bb, o + i, none⟩ = some (.string ⟨s.toArray⟩) := hcf i _ (by simp [strL, hs])
  have h0n : ((((p.f k).length : Nat) : Int) == 0) = false := by rw [beq_eq_false_iff_ne]; omega
  have hpos : 0 < (p.f k).length := by omega
  have hl9 := hR.fl
  have huw : IntKind.u64.wrap ((p.f k).length : Int) = ((p.f k).length : Int) := by rw [wrap_u64]; omega
  have H1 := hid h1
  have HVf := hid hVf
  clear h1 hcf hVf
  go_wp2_with fail
  have q1 : ¬ (fv k).ownBlock = some b := fun e => by have := H1.out.cf k hk b e; rw [H1.out.cb] at this; omega
  have fF := H1.out.free (2 + k)
  obtain ⟨⟨p1, hq1, hv1⟩, ⟨p2, hq2, hv2⟩⟩ := pieces HVf.out hi
  have O1 := hid (fun u (hu : u ∈ (strL (p.f k)).take i) => strL_one (p.f k) u (List.mem_of_mem_take hu))
  have O2 := hid (fun u (hu : u ∈ (strL (p.f k)).drop (i + 1)) => strL_one (p.f k) u (List.mem_of_mem_drop hu))
  have hca := HVf.out.2.1
  have hcb := HVf.out.2.2.1
  have hfl := hR.fl
  have k0 := keptS_cell (S := fun _ => False) (w := w1.drew) cF id
  refine stages_start (by kernel_rfl) 26 rfl ?_
  refine stagek (fun _ => False) [0, 1, 3, 4, 5, 6, 7, 8, 9, 10, 12, 13, 14, 15, 16, 17, 18, 19, 20, 22, 23] [2, 11, 21] 2 rfl #[true, true, true, true, true, true, true, true, true, true, true, true, true, true, true, true, true, true, true, true, true, true, true, true, false, false] (by kernel_rfl) (by kernel_rfl) (fun _ _ _ d _ h => by first | (cases d <;> exact h) | cases h.1) ?_
  simp only [opsAt, List.map_cons, List.map_nil, List.getElem?_toArray, List.getElem?_cons_zero, List.getElem?_cons_succ, Option.getD_some]
  repeat (go_big_quiet_step (fail))
  refine wpQuiet_nil ?_
  refine links_cons (by first | rfl | simp [go_sem]) (fun K hK => ?_)
  go_simp
  refine hK _ _ (keptS (by first | exact (Keeps.refl _ w1.drew).alloc _ | exact (Keeps.trans ⟨rfl, rfl, rfl, Nat.le_refl _, fun _ _ _ => rfl⟩ ((Keeps.refl _ w1).alloc _).drew))) ?_
  clear hK K
  refine links_cons (by first | rfl | simp [go_sem]) (fun K hK => ?_)
  refine wp_append_vals _ (.tmp 141) (.tmp 149) _ rfl w1.heap.size 9 i0 _ 1 16 Try.underlying33 Hi.out hz0 hz1' hz2 rfl (by omega) (.slice (some ⟨w1.heap.size, 0, none⟩) 0 0) 0 [] rfl (own_empty (Nat.le_refl _) (blk_new w1 _)) p1 i cf ((strL (p.f k)).take i) rfl (hv1.keeps (S := fun _ => False) ((Keeps.refl _ w1).alloc _).drew (fun _ _ _ => id)) O1.out (by simp only [maxLen]; omega) (by omega) (by simp) ?_
  intro v1 w2 hown1 hg1 _
  have hk1 : Keeps (fun _ => False) w1 w2 := (((Keeps.refl _ w1).alloc _).drew).grown hg1 (fun k hk => .inr (by simp [Value.ownBlock] at hk; omega))
  refine hK _ _ (keptS (keeps_drew hk1)) ?_
  clear hK K
  refine links_cons (by first | rfl | simp [go_sem]) (fun K hK => ?_)
  refine wp_append_vals _ (.tmp 150) (.tmp 159) _ rfl w1.heap.size 9 i0 _ 1 16 Try.underlying33 Hi.out hz0 hz1' hz2 rfl (by omega) v1 (0 + i) ([] ++ (strL (p.f k)).take i) rfl hown1 p2 ((p.f k).length - (i + 1)) (cf - (i + 1)) ((strL (p.f k)).drop (i + 1)) rfl (hv2.keeps hk1 (fun _ _ _ => id)) O2.out (by simp only [maxLen]; omega) (by omega) hk1.size ?_
  intro v2 w3 hown2 hg2 _
  have hk2 : Keeps (fun _ => False) w1 w3 := hk1.grown hg2 (fun k hk => .inr ((hown1.lt k hk).1))
  refine hK _ _ (keptS (keeps_drew hk2)) ?_
  clear hK K
  refine links_nil ?_
  have hnn : 0 + i + ((p.f k).length - (i + 1)) = ((p.f k).eraseIdx i).length := by rw [List.length_eraseIdx_of_lt (by omega)]; omega
  rw [List.nil_append, strL_erase, hnn] at hown2
  have c3 := hk2.cell cF id
  have f3 := (hk2.frozen (World.block_lt_of_cell? _ _ cF) id).trans fF
  have hfin := H1.out.rowF hk (hk2.mono fun _ _ h => h.elim) (own_base0 hown2) (fun j hj => .inr (hown2.lt j hj).1)
  have hkk := (hk2.mono (T := fun j => j = b) fun _ _ h => h.elim).setCell (p := ⟨b, 2 + k, none⟩) rfl v2
  have hbe3 := hbe1.trans (hkk.below (B := lo) (by have := hbe1.size; omega) (fun j h1 h2 => by omega))
  have hX3 := hkk.heap hX (by omega)
  obtain ⟨A2, cap2, rfl, _, _⟩ := vals_of_own hown2
  clear hg2 hg1 hown1 hown2 hk1 k0 hq1 hq2 hnn O1 O2 hv1 hv2 hX x0 x1 x2 x3 x4
  simp only [Act.put, List.setIfInBounds_toArray, List.set_cons_succ, List.set_cons_zero]
  refine stagek (fun _ => True) [24] [25] 0 rfl #[true, true, true, true, true, true, true, true, true, true, true, true, true, true, true, true, true, true, true, true, true, true, true, true, true, true] (by kernel_rfl) (by kernel_rfl) (fun _ _ _ d _ h => by first | (cases d <;> exact h) | cases h.1) ?_
  simp only [opsAt, List.map_cons, List.map_nil, List.getElem?_toArray, List.getElem?_cons_zero, List.getElem?_cons_succ, Option.getD_some]
  repeat (go_big_quiet_step (fail))
  refine wpQuiet_nil ?_
  refine links_cons (by first | rfl | simp [go_sem]) (fun K hK => ?_)
  go_simp
  refine hK _ _ (keptS ((Keeps.refl _ w3).setCell (p := ⟨b, 2 + k, none⟩) trivial _)) ?_
  clear hK K
  refine links_nil ?_
  refine stages_end (by kernel_rfl) ?_
  generalize World.setCell w3 _ _ = w4 at *
  have x0 := blk_cell (k := 0) hX3 rfl
  have x3 := blk_cell (k := 3) hX3 rfl
  have x4 := blk_cell (k := 4) hX3 rfl
  have xl := blk_lt hX3
  go_upto_region 24 with fail
  obtain ⟨cap, w5, hcv, hcap, hb5, hsz5, hcell, hfr⟩ := conv_bytes w4 ⟨s.toArray⟩
  have hcap' : s.length ≤ cap := by have := sz_of s; omega
  have hcell' : ∀ i (h : i < s.length), w5.cell? ⟨w4.heap.size, i, none⟩ = some (.int .u8 s[i].toNat) := fun i h => hcell i (by rw [sz_of]; exact h)
  have hc := hcell' j hj
  have hf5 := hfr j (by rw [sz_of]; exact hj)
  have hback : (convert 35 9 (.slice (some ⟨w4.heap.size, 0, none⟩) s.length cap)).run Try.prog (w5.setCell ⟨w4.heap.size, j, none⟩ (.int .u8 cc.toNat)).drew = .ok (.string ⟨(s.set j cc).toArray⟩) (w5.setCell ⟨w4.heap.size, j, none⟩ (.int .u8 cc.toNat)).drew := conv_back w5.drew w4.heap.size cap s j cc hj hcell'
  rw [sz_of] at hcv
  have hX5 := (Keeps.of_below (S := fun _ => False) hb5 (fun k h1 h2 => by omega)).heap hX3 id
  have x3' := blk_cell (k := 3) hX5 rfl
  have x4' := blk_cell (k := 4) hX5 rfl
  have xl5 := blk_lt hX5
  have hlo4 := hbe3.size
  have hz4 := hfin.size
  have hfin5 := (hfin.recol 0).below hb5
  have hcol : ∀ y, w4.heap.size ≤ y → recol (recol c w1.heap.size (4 + k)) w4.heap.size 0 y = 0 := fun y hy => recol_ge hy
  have Hcol := hid hcol
  clear hcol
  have hbe5 := hbe3.trans (hb5.mono (by have := hbe3.size; omega))
  have huw2 : IntKind.u64.wrap (s.length : Int) = (s.length : Int) := by rw [wrap_u64]; have := HH.out.len; simp at this; omega
  have hs0 : (((s.length : Nat) : Int) == 0) = false := by rw [beq_eq_false_iff_ne]; omega
  have Hfin5 := hid hfin5
  have Hbe5 := hid hbe5
  clear hfin hbe3 hb5 hX3 hX5 hcell hcell' hfr hfin5 hbe5 hcap x0 x3 x4
  go_wp2_with fail
  go_region
  have hk6 : Keeps (fun j => j = w4.heap.size) w5 (w5.setCell ⟨w4.heap.size, j, none⟩ (.int .u8 cc.toNat)).drew := (Keeps.setCell (S := fun j => j = w4.heap.size) (Keeps.refl _ w5) (p := ⟨w4.heap.size, j, none⟩) rfl _).drew
  have hfin6 := Hfin5.out.keeps (S := fun j => j = w4.heap.size) hk6 (fun y h1 h2 => Hcol.out y (by omega))
  have hbe6 := Hbe5.out.trans (hk6.below (B := lo) (by have := Hbe5.out.size; omega) (fun y h1 h2 => by omega))
  have hP := pr_hear ⟨_, _, _, _, hfin6⟩ hk ⟨(s.set j cc).toArray⟩ (by rw [sz_of]; exact HH.out.len) first hf hR.next hR.acked hR.good hR.bad hR.stale hR.tl HH.out.ins HH.out.told
  have HP := hid hP
  clear hP hfin6
  go_wp2_with fail
  refine HP.out.mono ?_
  rintro e w9 ⟨rfl, hI, hb9⟩
  have hb10 := hbe6.trans hb9
  have HI := hid hI
  clear hI hb9
  go_wp2_with fail
  go_ret
  exact ⟨rfl, HI.out, hb10⟩
end Go.Proofs.Ytaobhbfhbmenfaa
/- Two links: the beginning; whether what was told is right (the program). -/
namespace Go.Proofs.Ytaobhbfhbmenfaa
open Go.RowKit
set_option maxRecDepth 10000
variable {w w' : World} {lo b : Nat} {B : Nat → LB} {p : Pr}
def beginP (first : Nat) : Pr := ⟨fun k => Lk.new (11 + (k : Int)) 10000 first, fun _ => [], fun _ => [], fun _ => []⟩
theorem pr_begin (first : Nat) (hf : first ≤ 65535) (w : World) :
    Calls Try.prog 8 #[.int .i64 first, .int .i64 10000] w fun e w' => ∃ b B, e = .returned (.tuple #[.pointer (some ⟨b, 0, none⟩), .bool true]) ∧ IsPair w' w.heap.size b B (beginP first) ∧ Below w.heap.size w w' := by
  go_enter Try.func8, Try.ntmps8
  go_wp2_with fail
  refine (lk_NewB 11 10000 first (by omega) (by omega) w).mono ?_
  rintro e w1 ⟨B0, rfl, hA, hb1, hB0⟩
  go_wp2_with fail
  refine (lk_NewB 12 10000 first (by omega) (by omega) w1).mono ?_
  rintro e w2 ⟨B1, rfl, hO, hb2, hB1⟩
  have hA2 := hA.keeps (S := fun _ => False) (Keeps.of_below hb2 (fun k h1 h2 => by omega)) (fun _ _ => id)
  have hs1 := hb1.size
  have hs2 := hb2.size
  have hbe : Below w.heap.size w w2 := hb1.trans (hb2.mono hs1)
  clear hA hb1 hb2
  go_wp2_with fail
  go_ret2
  have hk3 := (Keeps.refl (fun _ => False) w2).alloc (.cells #[.pointer (some ⟨B0.p, 0, none⟩), .pointer (some ⟨B1.p, 0, none⟩), .slice none 0 0, .slice none 0 0, .slice none 0 0, .slice none 0 0, .slice none 0 0, .slice none 0 0] 38)
  refine ⟨w2.heap.size, fun k => if k = 0 then B0 else B1, rfl, ⟨fun j => if j < w.heap.size then 0 else if j < w1.heap.size then 2 else if j < w2.heap.size then 3 else if j = w2.heap.size then 1 else 0, fun _ => .slice none 0 0, fun _ => .slice none 0 0, fun _ => .slice none 0 0, ?_⟩, hbe.alloc (by omega) _⟩
  refine ⟨blk_new w2 _, ?_, fun k hk => own_nil _ _ _ _, fun k hk => own_nil _ _ _ _, fun k hk => own_nil _ _ _ _, ?_, ?_, fun k hk j hj => by simp [Value.ownBlock] at hj, fun k hk j hj => by simp [Value.ownBlock] at hj, fun k hk j hj => by simp [Value.ownBlock] at hj, ?_⟩
  · intro k hk
    have : k = 0 ∨ k = 1 := by omega
    rcases this with rfl | rfl
    · exact hA2.keeps hk3 (fun _ _ => id)
    · exact hO.keeps hk3 (fun _ _ => id)
  · rw [if_neg (by omega), if_neg (by omega), if_neg (by omega), if_pos rfl]
  · intro k hk j hj
    have : k = 0 ∨ k = 1 := by omega
    rcases this with rfl | rfl
    · have := hB0 j hj
      rw [if_neg (by omega), if_pos (by omega)]
    · have := hB1 j hj
      rw [if_neg (by omega), if_neg (by omega), if_pos (by omega)]
  · intro j hj
    by_cases e : j < w.heap.size
    · rw [if_pos e] at hj; exact absurd rfl hj
    · omega
theorem bytes_of_valsL {a : Option Addr} {n cap : Nat} {L : List UInt8} (h : Vals w 1 a n cap (bytL L)) : IsBytes w a cap L := by
  obtain ⟨h1, h2, h3, h4⟩ := h
  have hn : n = L.length := by simp [bytL] at h1; omega
  refine ⟨by omega, h3, ?_⟩
  by_cases e : L = []
  · exact .inl e
  · have := List.length_pos_iff.2 e
    obtain ⟨b, o, rfl, hc⟩ := h4 (by omega)
    exact .inr ⟨b, o, rfl, fun i hi => hc i _ (by simp [bytL, hi])⟩
theorem bytes_take {a : Option Addr} {n cap : Nat} {L : List UInt8} (h : Vals w 1 a n cap (bytL L)) (m : Nat) (hm : m ≤ n) :
    ∃ q, (∀ w1 : World, (Instr.slice 35 (.slice a n cap) none (some (.int .i64 m)) none).run Try.prog w1 = .ok (.slice q m cap) w1) ∧ IsBytes w q cap (L.take m) := by
  refine ⟨a, fun w1 => by rw [run_slice_h w1 35 a n cap Try.underlying35 .i64 m (by omega) (by have := h.2.1; omega)]; simp [go_sem, sliced], bytes_of_valsL (n := m) ?_⟩
  have := h.take m hm
  rw [bytL, ← List.map_take] at this
  exact this
theorem pr_right (h : IsPair w lo b B p) (ht : ∀ k, k < 2 → p.t k = (p.o (1 - k)).take (p.t k).length ∧ (p.t k).length ≤ (p.o (1 - k)).length ∧ (p.o k).length ≤ 100000) :
    Calls Try.prog 10 #[.pointer (some ⟨b, 0, none⟩)] w fun e w' => e = .returned (.bool true) ∧ IsPair w' lo b B p ∧ Below lo w w' := by
  obtain ⟨c, fv, ov, tv, h⟩ := h
  have hz := h.size
  have H := hid h
  have Ht := hid ht
  clear h ht
  go_enter Try.func10, Try.ntmps10
  go_wp2_with fail
  go_loopg [3] 2 (fun g i wr => ∃ k : Nat, g = 2 - k ∧ k ≤ 2 ∧ i = .int .i64 k ∧ PSt wr lo b c B p fv ov tv ∧ Below lo w wr)
  case atStart => exact ⟨0, rfl, by omega, rfl, H.out, Below.refl _ _⟩
  case round =>
    obtain ⟨k, hg, hk, rfl, h, hbe⟩ := hrel
    clear H
    by_cases hlt : k < 2
    · obtain ⟨k', hk', hk1v⟩ : ∃ k' : Nat, 1 - k = k' ∧ (1 : Int) - (k : Int) = (k' : Int) := ⟨1 - k, rfl, by omega⟩
      have hk2 : k' < 2 := by omega
      have hk2i : (k' : Int) < 2 := by omega
      have hkw : IntKind.i64.wrap (k' : Int) = (k' : Int) := by rw [IntKind.wrap_i64]; omega
      obtain ⟨e1, e2, e3⟩ := Ht.out k hlt
      rw [hk'] at e1 e2
      have e4 := (Ht.out k' hk2).2.2
      obtain ⟨At, ct, hAt, hVt, _⟩ := vals_of_own (h.tr k hlt)
      have cT := h.cellT hlt
      rw [hAt] at cT
      obtain ⟨Ao, co, hAo, hVo, _⟩ := vals_of_own (h.orr k' hk2)
      have cO := h.cellO hk2
      rw [hAo] at cO
      obtain ⟨q, hq, hbq⟩ := bytes_take hVo (p.t k).length (by omega)
      have hbt := bytes_of_valsL hVt
      have hS := fun n => ref_SameB (wr.drewN n) At q ct co (p.t k) ((p.o k').take (p.t k).length) (hbt.keeps ((Keeps.refl (fun _ => False) wr).drewN n) (fun _ _ _ => id)) (hbq.keeps ((Keeps.refl (fun _ => False) wr).drewN n) (fun _ _ _ => id))
      rw [← e1, decide_eq_true rfl] at hS
      have hlen : ¬ ((p.o k').length : Int) < ((p.t k).length : Int) := by omega
      have HS := hid hS
      have H := hid h
      have Hbe := hid hbe
      clear hS h hbe e1 hVt hVo hbq hbt
      go_wp2_with fail
      go_quiet ((go_at_call 15; first | exact Calls.quiet_of (HS.out _) | exact quiet_d (HS.out _)))
      go_wp2_with fail
      go_roundg (2 - (k + 1))
      case rel => exact ⟨k + 1, by omega, by omega, by go_num, H.out.drew _, below_drewN Hbe.out _⟩
      case measure => omega
    · obtain rfl : k = 2 := by omega
      have H := hid h
      have Hbe := hid hbe
      clear h hbe
      go_wp2_with fail
      go_ret
      exact ⟨rfl, ⟨_, _, _, _, H.out⟩, Hbe.out⟩
end Go.Proofs.Ytaobhbfhbmenfaa
/- The steps of two links: five leaves each. -/
namespace Go.Proofs.Ytaobhbfhbmenfaa
open Go.RowKit
structure Act5 where
  kind : Int
  who : Int
  i : Int
  at' : Int
  b : Nat
def Act5.vals (c : Act5) : List Value := [.int .i64 c.kind, .int .i64 c.who, .int .i64 c.i, .int .i64 c.at', .int .u8 c.b]
structure Act5.wf (c : Act5) : Prop where
  kind : -9223372036854775808 ≤ c.kind ∧ c.kind ≤ 9223372036854775807
  who : -9223372036854775808 ≤ c.who ∧ c.who ≤ 9223372036854775807
  i : -9223372036854775808 ≤ c.i ∧ c.i ≤ 9223372036854775807
  at' : -9223372036854775808 ≤ c.at' ∧ c.at' ≤ 9223372036854775807
  b : c.b < 256
theorem act5_of {w : World} {cs : List Value} (h : LeavesAre w [.int .i64, .int .i64, .int .i64, .int .i64, .int .u8] cs) : ∃ c : Act5, cs = c.vals ∧ c.wf := by
  obtain ⟨hl, h⟩ := h
  match cs, hl, h with
  | [v0, v1, v2, v3, v4], _, h =>
    obtain ⟨k, rfl, w0⟩ := h 0 _ _ rfl rfl
    obtain ⟨to, rfl, w1⟩ := h 1 _ _ rfl rfl
    obtain ⟨i, rfl, w2⟩ := h 2 _ _ rfl rfl
    obtain ⟨a, rfl, w3⟩ := h 3 _ _ rfl rfl
    obtain ⟨b, rfl, w4⟩ := h 4 _ _ rfl rfl
    have hb := wf_u8 w4
    obtain ⟨b, rfl⟩ := Int.eq_ofNat_of_zero_le (show 0 ≤ b by omega)
    exact ⟨⟨k, to, i, a, b⟩, rfl, wf_i64 w0, wf_i64 w1, wf_i64 w2, wf_i64 w3, by simp; omega⟩
def acts5 (L : List Act5) : List Value := L.flatMap Act5.vals
theorem acts5_len (L : List Act5) : (acts5 L).length = L.length * 5 := by
  induction L with
  | nil => rfl
  | cons c L ih => simp only [acts5, List.flatMap_cons, List.length_cons] at ih ⊢; rw [List.length_append, ih, Nat.succ_mul, Nat.add_comm]; rfl
theorem acts5_at (L : List Act5) (i : Nat) (h : i < L.length) (j : Nat) (hj : j < 5) : (acts5 L)[i * 5 + j]? = L[i].vals[j]? := by
  induction L generalizing i with
  | nil => exact absurd h (Nat.not_lt_zero _)
  | cons c L ih =>
    simp only [acts5, List.flatMap_cons] at ih ⊢
    cases i with
    | zero => rw [List.getElem?_append_left (by simp [Act5.vals]; omega)]; simp
    | succ i =>
      rw [List.getElem?_append_right (by simp [Act5.vals, Nat.succ_mul]; omega), show (i + 1) * 5 + j - c.vals.length = i * 5 + j by simp [Act5.vals, Nat.succ_mul]; omega]
      exact ih i (by simpa using h)
theorem acts5_of {w : World} : ∀ (n : Nat) (xs : List Value), xs.length = n * 5 → (∀ i, i < n → LeavesAre w [.int .i64, .int .i64, .int .i64, .int .i64, .int .u8] ((xs.drop (i * 5)).take 5)) → ∃ L : List Act5, L.length = n ∧ xs = acts5 L ∧ ∀ c ∈ L, c.wf
  | 0, xs, h, _ => ⟨[], rfl, List.eq_nil_of_length_eq_zero (by simpa using h), fun _ h => by cases h⟩
  | n + 1, xs, h, hl => by
    obtain ⟨c, hc, hw⟩ := act5_of (hl 0 (by omega))
    obtain ⟨L, h1, h2, h3⟩ := acts5_of n (xs.drop 5) (by simp [h, Nat.succ_mul]) (fun i hi => by
      have := hl (i + 1) (by omega)
      rwa [Nat.succ_mul, Nat.add_comm, ← List.drop_drop] at this)
    refine ⟨c :: L, by simp [h1], ?_, fun d hd => ?_⟩
    · rw [← List.take_append_drop 5 xs, h2]
      simp only [Nat.zero_mul, List.drop_zero] at hc
      rw [hc]
      rfl
    · cases hd with
      | head => exact hw
      | tail _ hd => exact h3 d hd
end Go.Proofs.Ytaobhbfhbmenfaa
/- Two links: a step of any kind (the program). -/
namespace Go.Proofs.Ytaobhbfhbmenfaa
open Go.RowKit
set_option maxRecDepth 10000
variable {w w' : World} {lo b : Nat} {B : Nat → LB} {p : Pr} {first n : Nat}
theorem inv_ready (h : Inv first n p) (hf : first ≤ 65535) (hn : n ≤ 1000) {k : Nat} (hk : k < 2) : Ready p k := by
  obtain ⟨k1, k2, k3⟩ := ot hk
  have H := h k hk
  have J := h (1 - k) k1
  have hJ := J.tl
  rw [k2] at hJ
  have hol := H.ol
  have hjl := J.ol
  have htl := H.tl
  obtain ⟨a, a1, a2, a3⟩ := H.ow
  refine ⟨?_, ?_, ?_, ?_, ?_, by omega, H.fln⟩
  · rw [H.nx]; omega
  · rw [a1]; omega
  · have := H.good; omega
  · have := H.bad; omega
  · have := H.stale; omega
theorem hearTo_able (h : Inv first n p) (hn : n ≤ 1000) {k : Nat} (hk : k < 2) {s : List UInt8} (hs : s.length ≤ 100000) (hh : HearTo first p k (hearF (p.l k) s).1 (hearF (p.l k) s).2.2) : Hearable first p k s := by
  obtain ⟨k1, k2, k3⟩ := ot hk
  have J := (h (1 - k) k1).ol
  refine ⟨hs, ?_, hh.told⟩
  have := hh.tl
  rw [List.length_append] at this
  omega
theorem fly_len (h : Inv first n p) {k : Nat} (hk : k < 2) {s : List UInt8} (hs : s ∈ p.f k) : 0 < s.length ∧ s.length ≤ 139 ∧ ∃ l, s = sealed l := by
  obtain ⟨k1, k2, k3⟩ := ot hk
  obtain ⟨m, ok, rfl⟩ := (h k hk).fl s hs
  obtain ⟨wf, rp⟩ := okM_right ok hk (h (1 - k) k1).ob
  refine ⟨?_, pack_len m rp, rawM m, rfl⟩
  unfold packM
  simp [sealed, tail4_length]
theorem pick_i64 (ii : Int) (L : Nat) (h0 : 0 < L) (hL : L ≤ 1000) : ∃ i : Nat, i < L ∧ wrap64 ((IntKind.u64.wrap ii).tmod (L : Int)) = (i : Int) := by
  have h1 : 0 ≤ IntKind.u64.wrap ii := by rw [wrap_u64]; omega
  have h3 := Int.emod_nonneg (IntKind.u64.wrap ii) (b := (L : Int)) (by omega)
  have h4 := Int.emod_lt_of_pos (IntKind.u64.wrap ii) (b := (L : Int)) (by omega)
  rw [Int.tmod_eq_emod_of_nonneg h1]
  refine ⟨(IntKind.u64.wrap ii % L).toNat, by omega, ?_⟩
  unfold wrap64
  omega
theorem turned_hear (h : Inv first n p) {k : Nat} (hk : k < 2) {s : List UInt8} (hs : s ∈ p.f k) (j : Nat) (hj : j < s.length) (cc : UInt8) (hc : cc ≠ s[j]) : HearTo first p k (hearF (p.l k) (s.set j cc)).1 (hearF (p.l k) (s.set j cc)).2.2 := by
  obtain ⟨_, _, l, rfl⟩ := fly_len h hk hs
  refine hear_turned h hk ?_
  unfold unpM
  rw [opened_turned l j cc hj hc]
  decide
/-- no step at all -/
theorem take_other (h : IsPair w lo b B p) (kd wh ii aa x : Int) (hkd : kd < 1 ∨ 6 < kd) (k : Nat) (hk : k < 2) (hkv : bits .and .i64 wh 1 = (k : Int)) (fi : Int) (hne : 0 < (p.f k).length) :
    Calls Try.prog 9 #[.pointer (some ⟨b, 0, none⟩), .agg #[.int .i64 kd, .int .i64 wh, .int .i64 ii, .int .i64 aa, .int .u8 x], .int .i64 fi] w fun e w' => e = .returned (.bool true) ∧ IsPair w' lo b B p ∧ Below lo w w' := by
  obtain ⟨c, fv, ov, tv, h⟩ := h
  have hz := h.size
  have d1 : (kd == 1) = false := by rw [beq_eq_false_iff_ne]; omega
  have d2 : (kd == 2) = false := by rw [beq_eq_false_iff_ne]; omega
  have h0n : ((((p.f k).length : Nat) : Int) == 0) = false := by rw [beq_eq_false_iff_ne]; omega
  have hD : kd < 3 ∨ ¬ kd < 3 ∧ 6 < kd := by omega
  rcases hD with hD | ⟨hD, hE⟩
  · clear hkd
    go_enter Try.func9, Try.ntmps9
    go_upto_region 1 with fail
    have hX := blk_new w (.cells #[.int .i64 kd, .int .i64 wh, .int .i64 ii, .int .i64 aa, .int .u8 x] 30)
    have h1 := h.alloc (.cells #[.int .i64 kd, .int .i64 wh, .int .i64 ii, .int .i64 aa, .int .u8 x] 30)
    have hbe1 : Below lo w (w.alloc (.cells #[.int .i64 kd, .int .i64 wh, .int .i64 ii, .int .i64 aa, .int .u8 x] 30)) := (Below.refl _ w).alloc (by have := h.size; omega) _
    have hw1 : w.heap.size < (w.alloc (.cells #[.int .i64 kd, .int .i64 wh, .int .i64 ii, .int .i64 aa, .int .u8 x] 30)).heap.size := by simp
    generalize World.alloc w _ = w1 at *
    have x0 := blk_cell (k := 0) hX rfl
    have x1 := blk_cell (k := 1) hX rfl
    have x2 := blk_cell (k := 2) hX rfl
    have x3 := blk_cell (k := 3) hX rfl
    have x4 := blk_cell (k := 4) hX rfl
    obtain ⟨Af, cf, hAf, _, _⟩ := vals_of_own (h1.fr k hk)
    have cF := h1.cellF hk
    rw [hAf] at cF
    have H1 := hid h1
    clear h1
    go_wp2_with fail
    go_ret
    exact ⟨rfl, ⟨_, _, _, _, H1.out⟩, hbe1⟩
  · clear hkd
    go_enter Try.func9, Try.ntmps9
    go_upto_region 1 with fail
    have hX := blk_new w (.cells #[.int .i64 kd, .int .i64 wh, .int .i64 ii, .int .i64 aa, .int .u8 x] 30)
    have h1 := h.alloc (.cells #[.int .i64 kd, .int .i64 wh, .int .i64 ii, .int .i64 aa, .int .u8 x] 30)
    have hbe1 : Below lo w (w.alloc (.cells #[.int .i64 kd, .int .i64 wh, .int .i64 ii, .int .i64 aa, .int .u8 x] 30)) := (Below.refl _ w).alloc (by have := h.size; omega) _
    have hw1 : w.heap.size < (w.alloc (.cells #[.int .i64 kd, .int .i64 wh, .int .i64 ii, .int .i64 aa, .int .u8 x] 30)).heap.size := by simp
    generalize World.alloc w _ = w1 at *
    have x0 := blk_cell (k := 0) hX rfl
    have x1 := blk_cell (k := 1) hX rfl
    have x2 := blk_cell (k := 2) hX rfl
    have x3 := blk_cell (k := 3) hX rfl
    have x4 := blk_cell (k := 4) hX rfl
    obtain ⟨Af, cf, hAf, _, _⟩ := vals_of_own (h1.fr k hk)
    have cF := h1.cellF hk
    rw [hAf] at cF
    have H1 := hid h1
    clear h1
    go_wp2_with fail
    go_ret
    exact ⟨rfl, ⟨_, _, _, _, H1.out⟩, hbe1⟩
theorem take_other0 (h : IsPair w lo b B p) (kd wh ii aa x : Int) (hkd : kd < 1) (k : Nat) (hk : k < 2) (hkv : bits .and .i64 wh 1 = (k : Int)) (fi : Int) (hf : p.f k = []) :
    Calls Try.prog 9 #[.pointer (some ⟨b, 0, none⟩), .agg #[.int .i64 kd, .int .i64 wh, .int .i64 ii, .int .i64 aa, .int .u8 x], .int .i64 fi] w fun e w' => e = .returned (.bool true) ∧ IsPair w' lo b B p ∧ Below lo w w' := by
  obtain ⟨c, fv, ov, tv, h⟩ := h
  have hz := h.size
  have d1 : (kd == 1) = false := by rw [beq_eq_false_iff_ne]; omega
  have d2 : (kd == 2) = false := by rw [beq_eq_false_iff_ne]; omega
  go_enter Try.func9, Try.ntmps9
  go_upto_region 1 with fail
  have hX := blk_new w (.cells #[.int .i64 kd, .int .i64 wh, .int .i64 ii, .int .i64 aa, .int .u8 x] 30)
  have h1 := h.alloc (.cells #[.int .i64 kd, .int .i64 wh, .int .i64 ii, .int .i64 aa, .int .u8 x] 30)
  have hbe1 : Below lo w (w.alloc (.cells #[.int .i64 kd, .int .i64 wh, .int .i64 ii, .int .i64 aa, .int .u8 x] 30)) := (Below.refl _ w).alloc (by have := h.size; omega) _
  have hw1 : w.heap.size < (w.alloc (.cells #[.int .i64 kd, .int .i64 wh, .int .i64 ii, .int .i64 aa, .int .u8 x] 30)).heap.size := by simp
  generalize World.alloc w _ = w1 at *
  have x0 := blk_cell (k := 0) hX rfl
  have x1 := blk_cell (k := 1) hX rfl
  have x2 := blk_cell (k := 2) hX rfl
  have x3 := blk_cell (k := 3) hX rfl
  have x4 := blk_cell (k := 4) hX rfl
  obtain ⟨Af, cf, hAf, _, _⟩ := vals_of_own (h1.fr k hk)
  have cF := h1.cellF hk
  rw [hAf, hf] at cF
  have H1 := hid h1
  clear h1
  go_wp2_with fail
  go_ret
  exact ⟨rfl, ⟨_, _, _, _, H1.out⟩, hbe1⟩
def StepPost (lo b : Nat) (B : Nat → LB) (first n : Nat) (w : World) (e : Ending) (w' : World) : Prop := e = .returned (.bool true) ∧ (∃ q, Inv first (n + 1) q ∧ IsPair w' lo b B q) ∧ Below lo w w'
theorem pr_step (hI : Inv first n p) (hf : first ≤ 65535) (hn : n ≤ 900) (h : IsPair w lo b B p) (kd wh ii aa x : Int) (hx : 0 ≤ x ∧ x ≤ 255) :
    Calls Try.prog 9 #[.pointer (some ⟨b, 0, none⟩), .agg #[.int .i64 kd, .int .i64 wh, .int .i64 ii, .int .i64 aa, .int .u8 x], .int .i64 first] w (StepPost lo b B first n w) := by
  obtain ⟨k, hk, hkv, _⟩ := who_at wh
  obtain ⟨k1, k2, k3⟩ := ot hk
  have H := hI k hk
  have J := hI (1 - k) k1
  have hR := inv_ready hI hf (by omega) hk
  have hol := H.ol
  by_cases e1 : kd = 1
  · subst e1
    exact (does_own h wh ii aa x hx k hk hkv first hf (by have := hR.acked; omega) (by omega)).mono fun _ _ h => ⟨h.1, ⟨_, own_inv hI hk _ (in63_le x), h.2.1⟩, h.2.2⟩
  by_cases e2 : kd = 2
  · subst e2
    refine (does_tick h wh ii aa x k hk hkv first (by have := H.tk; omega) (by have := H.hd; omega) (fun m hm => by rw [H.ou m hm]) (fun m hm => ?_) (by have := tick_len hI hn hk; omega) J.fln).mono fun _ _ h => ⟨h.1, ⟨_, tick_inv hI (by omega) hk, h.2.1⟩, h.2.2⟩
    have := okM_right (tick_ok hI (by omega) hk m hm) k1 (by rw [k2]; exact H.ob)
    exact this
  by_cases e3 : p.f k = []
  · by_cases e4 : 3 ≤ kd
    · exact (take_none h kd wh ii aa x e4 k hk hkv first e3).mono fun _ _ h => ⟨h.1, ⟨_, hI.up, h.2.1⟩, h.2.2⟩
    · exact (take_other0 h kd wh ii aa x (by omega) k hk hkv first e3).mono fun _ _ h => ⟨h.1, ⟨_, hI.up, h.2.1⟩, h.2.2⟩
  have hpos := List.length_pos_iff.2 e3
  by_cases e4 : kd < 1 ∨ 6 < kd
  · exact (take_other h kd wh ii aa x e4 k hk hkv first hpos).mono fun _ _ h => ⟨h.1, ⟨_, hI.up, h.2.1⟩, h.2.2⟩
  obtain ⟨i, hi, hiv⟩ := pick_i64 ii (p.f k).length hpos (by have := H.fln; omega)
  have hs : (p.f k)[i]? = some (p.f k)[i] := by simp [hi]
  have hsm : (p.f k)[i] ∈ p.f k := List.getElem_mem hi
  generalize hsv : (p.f k)[i] = s at *
  obtain ⟨l0, l1, _⟩ := fly_len hI hk hsm
  have hh := hear_ok hI hf (by omega) hk hsm
  have hH := hearTo_able hI (by omega) hk (by omega) hh
  have hF : ∀ y ∈ (p.f k).eraseIdx i, y ∈ p.f k := fun y hy => List.mem_of_mem_eraseIdx hy
  have hFl : ((p.f k).eraseIdx i).length ≤ 30 := by
    have := H.fln
    rw [List.length_eraseIdx_of_lt hi]
    omega
  by_cases e5 : kd = 3
  · subst e5
    exact (take_heard h wh ii aa x k hk hkv first hf hR i hi hiv s hs hH).mono fun _ _ h => ⟨h.1, ⟨_, hear_inv hI hk s hh _ hF hFl, h.2.1⟩, h.2.2⟩
  by_cases e6 : kd = 4
  · subst e6
    exact (take_lost h wh ii aa x k hk hkv first hR i hi hiv s hs).mono fun _ _ h => ⟨h.1, ⟨_, drop_inv hI hk _ hF hFl, h.2.1⟩, h.2.2⟩
  by_cases e7 : kd = 5
  · subst e7
    exact (take_kept h wh ii aa x k hk hkv first hf hR i hi hiv s hs hH).mono fun _ _ h => ⟨h.1, ⟨_, hear_inv hI hk s hh _ (fun _ y => y) H.fln, h.2.1⟩, h.2.2⟩
  obtain rfl : kd = 6 := by omega
  by_cases e8 : x = 0
  · subst e8
    exact (take_six h wh ii aa k hk hkv first hf hR i hi hiv s hs hH).mono fun _ _ h => ⟨h.1, ⟨_, hear_inv hI hk s hh _ hF hFl, h.2.1⟩, h.2.2⟩
  obtain ⟨j, hj, hjv⟩ := pick_i64 aa s.length l0 (by omega)
  obtain ⟨cc, hcc, hne⟩ := xor_ne s[j].toNat x.toNat (by have := s[j].toNat_lt; omega) (by omega) (by omega)
  rw [Int.toNat_of_nonneg hx.1] at hcc
  have hne' : cc ≠ s[j] := by
    rw [UInt8.ofNat_toNat] at hne
    exact hne
  have hh2 := turned_hear hI hk hsm j hj cc hne'
  exact (take_turned h wh ii aa x k hk hkv first hf hR i hi hiv s hs (by omega) j hj hjv cc hcc (hearTo_able hI (by omega) hk (by simp; omega) hh2)).mono fun _ _ h => ⟨h.1, ⟨_, hear_inv hI hk _ hh2 _ hF hFl, h.2.1⟩, h.2.2⟩
end Go.Proofs.Ytaobhbfhbmenfaa
/- Two links: each once, in order. -/
namespace Go.Proofs.Ytaobhbfhbmenfaa
open Go.RowKit
set_option maxRecDepth 100000
variable {w w' : World}
theorem wf_u16P {n : Int} (h : (Lit.int .u16 n).wf = true) : 0 ≤ n ∧ n < 65536 := by
  simp only [Lit.wf] at h
  have : 0 ≤ n ∧ n ≤ 65535 := by simpa [IntKind.min, IntKind.max, IntKind.signed, IntKind.bits] using h
  omega
theorem inv_ends {first n : Nat} {p : Pr} (h : Inv first n p) {k : Nat} (hk : k < 2) : (p.l k).acked ≤ ((first + (p.t (1 - k)).length : Nat) : Int) ∧ (p.l k).next = ((first + (p.t k).length : Nat) : Int) := by
  obtain ⟨a, a1, a2, a3⟩ := (h k hk).ow
  exact ⟨by rw [a1]; omega, (h k hk).nx⟩
theorem inv_right {first n : Nat} {p : Pr} (h : Inv first n p) (hn : n ≤ 1000) : ∀ k, k < 2 → p.t k = (p.o (1 - k)).take (p.t k).length ∧ (p.t k).length ≤ (p.o (1 - k)).length ∧ (p.o k).length ≤ 100000 := by
  intro k hk
  have H := h k hk
  have := H.ol
  exact ⟨H.tp, H.tl, by omega⟩
structure OnceSt (w wr : World) (lo b : Nat) (B : Nat → LB) (first k : Nat) (p : Pr) : Prop where
  inv : Inv first k p
  pr : IsPair wr lo b B p
  below : Below w.heap.size w wr
theorem OnceSt.new {w w1 w2 : World} {b : Nat} {B : Nat → LB} {first : Nat} (hb1 : Below w.heap.size w w1) (h : IsPair w2 w1.heap.size b B (beginP first)) (hb2 : Below w1.heap.size w1 w2) : OnceSt w w2 w1.heap.size b B first 0 (beginP first) :=
  ⟨begin_inv, h, hb1.trans (hb2.mono hb1.size)⟩
set_option maxHeartbeats 4000000 in
theorem law_LinkOnce (first : Nat) (hf : first ≤ 65535) (w : World) (la : Option Addr) (lc : Nat) (M : List Act5) (hM : Vals w 5 la M.length lc (acts5 M)) (hMw : ∀ c ∈ M, c.wf) :
    Calls Try.prog 3 #[.int .u16 first, .slice la M.length lc] w fun e w' => e = .returned (.bool true) ∧ Below w.heap.size w w' := by
  have hm1 : M.length ≤ 9223372036854775807 := Nat.le_trans hM.2.1 hM.2.2.1
  have HMw := hid hMw
  clear hMw
  have hfw : wrap64 (first : Int) = (first : Int) := by unfold wrap64; omega
  go_enter Try.func3, Try.ntmps3
  go_wp2_with fail
  refine (awake16 _).mono ?_
  rintro e w1 ⟨rfl, hb1⟩
  go_wp2_with fail
  refine (pr_begin first hf w1).mono ?_
  rintro e w2 ⟨b, B, rfl, hP, hb2⟩
  have hS0 := OnceSt.new hb1 hP hb2
  have hlo := hb1.size
  clear hb1 hP hb2
  generalize w1.heap.size = lo at *
  have HS0 := hid hS0
  clear hS0
  go_wp2_with fail
  go_loopg [7] 400 (fun g i wr => ∃ (k : Nat) (p : Pr), g = 400 - k ∧ k ≤ 400 ∧ i = .int .i64 k ∧ OnceSt w wr lo b B first k p)
  case atStart => exact ⟨0, _, rfl, by omega, rfl, HS0.out⟩
  case round =>
    obtain ⟨k, p, hg, hk, rfl, hS⟩ := hrel
    clear HS0
    have HS := hid hS
    by_cases hlt : k < M.length ∧ k < 400
    · obtain ⟨hlt, hl2⟩ := hlt
      obtain ⟨bb, o, rfl, hc⟩ := (hM.below hS.below (fun hn x hx => hM.lt (by omega) hn hx)).at' (by omega)
      have hat := acts5_at M k hlt
      have hc0 : wr.cell? ⟨bb, o + k * 5, none⟩ = some (.int .i64 M[k].kind) := hc _ _ (hat 0 (by omega))
      have hc1 : wr.cell? ⟨bb, o + k * 5 + 1, none⟩ = some (.int .i64 M[k].who) := by rw [Nat.add_assoc]; exact hc _ _ (hat 1 (by omega))
      have hc2 : wr.cell? ⟨bb, o + k * 5 + 2, none⟩ = some (.int .i64 M[k].i) := by rw [Nat.add_assoc]; exact hc _ _ (hat 2 (by omega))
      have hc3 : wr.cell? ⟨bb, o + k * 5 + 3, none⟩ = some (.int .i64 M[k].at') := by rw [Nat.add_assoc]; exact hc _ _ (hat 3 (by omega))
      have hc4 : wr.cell? ⟨bb, o + k * 5 + 4, none⟩ = some (.int .u8 M[k].b) := by rw [Nat.add_assoc]; exact hc _ _ (hat 4 (by omega))
      have hwf := HMw.out M[k] (List.getElem_mem hlt)
      clear hc hat hS
      generalize M[k] = c at *
      have hx : 0 ≤ (c.b : Int) ∧ (c.b : Int) ≤ 255 := by have := hwf.b; omega
      clear hwf
      go_wp2_with fail
      have h := HS.out
      refine (pr_step h.inv hf (by omega) h.pr c.kind c.who c.i c.at' c.b hx).mono ?_
      rintro e w3 ⟨rfl, ⟨q, hq, hP3⟩, hb3⟩
      have hwl : w.heap.size ≤ lo := hlo
      have HB3 := hid (h.below.trans (hb3.mono hlo))
      have HR := hid (pr_right hP3 (inv_right hq (by omega)))
      have Hq := hid hq
      clear h HS hq hP3 hb3 hc0 hc1 hc2 hc3 hc4 hx hwl
      go_wp2_with fail
      refine HR.out.mono ?_
      rintro e w4 ⟨rfl, hP4, hb4⟩
      have HB4 := hid (HB3.out.trans (hb4.mono hlo))
      have HP4 := hid hP4
      clear hP4 hb4 HB3 HR
      go_wp2_with fail
      go_loopg [8] 2 (fun g i wr => ∃ j : Nat, g = 2 - j ∧ j ≤ 2 ∧ i = .int .i64 j ∧ IsPair wr lo b B q ∧ Below w.heap.size w wr)
      case atStart => exact ⟨0, rfl, by omega, rfl, HP4.out, HB4.out⟩
      case round =>
        obtain ⟨j, hg, hj, rfl, hP5, hb5⟩ := hrel
        clear HP4 HB4
        by_cases hl2 : j < 2
        · obtain ⟨c5, fv, ov, tv, h⟩ := hP5
          obtain ⟨j', hj', hj1v⟩ : ∃ j' : Nat, 1 - j = j' ∧ (1 : Int) - (j : Int) = (j' : Int) := ⟨1 - j, rfl, by omega⟩
          have hj2 : j' < 2 := by omega
          have hji : (j : Int) < 2 := by omega
          have hj2i : (j' : Int) < 2 := by omega
          have hjw : IntKind.i64.wrap (j' : Int) = (j' : Int) := by rw [IntKind.wrap_i64]; omega
          obtain ⟨e1, e2⟩ := inv_ends Hq.out hl2
          have ol := (inv_right Hq.out (by omega) j hl2).2.1
          have ol2 := (inv_right Hq.out (by omega) j' hj2).2.1
          have ol3 := (inv_right Hq.out (by omega) j hl2).2.2
          have ol4 := (inv_right Hq.out (by omega) (1 - j) (by omega)).2.2
          have ol5 := (inv_right Hq.out (by omega) (1 - j') (by omega)).2.2
          rw [hj'] at e1
          obtain ⟨At, ct, hAt, hVt, _⟩ := vals_of_own (h.tr j hl2)
          have cT := h.cellT hl2
          rw [hAt] at cT
          obtain ⟨Au, cu, hAu, hVu, _⟩ := vals_of_own (h.tr j' hj2)
          have cU := h.cellT hj2
          rw [hAu] at cU
          have cL := h.cellL hl2
          unfold ptrV at cL
          have HA := hid (fun n => lk_Acked ((h.drew n).lk j hl2))
          have HN := hid (fun n => lk_Next ((h.drew n).lk j hl2))
          have hcmp : ¬ ((first : Int) + ((q.t j').length : Int) < (q.l j).acked) := by omega
          have hcmp2 : ((q.l j).next != ((first : Int) + ((q.t j).length : Int))) = false := by rw [e2]; simp
          have hw1 : IntKind.i64.wrap (first : Int) = (first : Int) := by rw [IntKind.wrap_i64]; omega
          have hw2 : IntKind.i64.wrap ((first : Int) + ((q.t j').length : Int)) = (first : Int) + ((q.t j').length : Int) := by rw [IntKind.wrap_i64]; omega
          have hw3 : IntKind.i64.wrap ((first : Int) + ((q.t j).length : Int)) = (first : Int) + ((q.t j).length : Int) := by rw [IntKind.wrap_i64]; omega
          have H5 := hid h
          have Hb5 := hid hb5
          clear h hb5 hVt hVu e1 e2
          go_wp2_with fail
          go_quiet (first | (go_at_call 11; first | exact Calls.quiet_of (quiet_s (HA.out _)) | exact quiet_d (quiet_s (HA.out _))) | (go_at_call 12; first | exact Calls.quiet_of (quiet_s (HN.out _)) | exact quiet_d (quiet_s (HN.out _))))
          go_wp2_with fail
          go_roundg (2 - (j + 1))
          case rel => exact ⟨j + 1, by omega, by omega, by go_num, ⟨_, _, _, _, H5.out.drew _⟩, below_drewN Hb5.out _⟩
          case measure => omega
        · obtain rfl : j = 2 := by omega
          have HP5 := hid hP5
          have Hb5 := hid hb5
          clear hP5 hb5
          go_wp2_with fail
          go_roundg (400 - (k + 1))
          case rel => exact ⟨k + 1, q, by omega, by omega, by go_num, Hq.out, HP5.out, Hb5.out⟩
          case measure => omega
    · have Hb := hid hS.below
      clear hS
      by_cases h1 : k < M.length
      · have h2 : ¬ k < 400 := fun h => hlt ⟨h1, h⟩
        clear hlt
        go_wp2_with fail
        go_ret
        exact ⟨rfl, Hb.out⟩
      · clear hlt
        go_wp2_with fail
        go_ret
        exact ⟨rfl, Hb.out⟩
end Go.Proofs.Ytaobhbfhbmenfaa
/- Two links: all comes at last. -/
namespace Go.Proofs.Ytaobhbfhbmenfaa
open Go.RowKit
set_option maxRecDepth 100000
variable {w w' : World} {first : Nat} {p0 : Pr}
def halves : Nat → Pr → Pr
  | 0, p => p
  | m + 1, p => half (halves m p) (m % 2)
theorem halves_ok (hf : first ≤ 65535) (h : Inv first 402 p0) (f0 : p0.f 0 = []) (f1 : p0.f 1 = []) : ∀ m, m ≤ 12 → Inv first (402 + 11 * m) (halves m p0) ∧ (halves m p0).f 0 = [] ∧ (halves m p0).f 1 = [] ∧ (5 ≤ m → Done first (halves m p0))
  | 0, _ => ⟨h, f0, f1, fun h => absurd h (by omega)⟩
  | m + 1, hm => by
    obtain ⟨h1, h2, h3, h4⟩ := halves_ok hf h f0 f1 m (by omega)
    have hj : m % 2 < 2 := by omega
    have hfe : (halves m p0).f (1 - m % 2) = [] := by
      have : m % 2 = 0 ∨ m % 2 = 1 := by omega
      rcases this with e | e <;> rw [e]
      · exact h3
      · exact h2
    obtain ⟨i1, H⟩ := half_is h1 hf (by omega) hj hfe
    refine ⟨by rw [show 402 + 11 * (m + 1) = 402 + 11 * m + 11 by omega]; exact i1, ?_, ?_, ?_⟩
    · have : m % 2 = 0 ∨ m % 2 = 1 := by omega
      have g1 := H.f
      have g2 := H.fe
      rcases this with e | e
      · rw [e] at g1 g2
        show (half (halves m p0) (m % 2)).f 0 = []
        rw [e, g1]; exact h2
      · rw [e] at g1 g2
        show (half (halves m p0) (m % 2)).f 0 = []
        rw [e]; exact g2
    · have : m % 2 = 0 ∨ m % 2 = 1 := by omega
      have g1 := H.f
      have g2 := H.fe
      rcases this with e | e
      · rw [e] at g1 g2
        show (half (halves m p0) (m % 2)).f 1 = []
        rw [e]; exact g2
      · rw [e] at g1 g2
        show (half (halves m p0) (m % 2)).f 1 = []
        rw [e, g1]; exact h3
    · intro h5
      by_cases e : 5 ≤ m
      · exact done_half h1 hf (by omega) hj hfe (h4 e)
      · obtain rfl : m = 4 := by omega
        exact done_five h hf (by omega) f0 f1
/-- between a tick and the end of the hearing -/
structure DrainSt (wr : World) (lo b : Nat) (B : Nat → LB) (first n k : Nat) (r : Pr) (F : List (List UInt8)) (q : Pr) : Prop where
  fl : q.f k = F
  l30 : F.length ≤ 30
  eq : drain k F q = r
  inv : ∃ m, m + F.length ≤ n + 31 ∧ Inv first m q
  pr : IsPair wr lo b B q
theorem drain_start {wr : World} {lo b : Nat} {B : Nat → LB} {n j : Nat} {p : Pr} (h : Inv first n p) (hn : n ≤ 900) (hj : j < 2) (hp : IsPair wr lo b B (tickP p j)) : DrainSt wr lo b B first n (1 - j) (half p j) ((tickP p j).f (1 - j)) (tickP p j) := by
  have hT := tick_inv h (by omega) hj
  have hl := (hT (1 - j) (by omega)).fln
  exact ⟨rfl, hl, rfl, ⟨n + 1, by omega, hT⟩, hp⟩
theorem drain_step {wr w3 : World} {lo b : Nat} {B : Nat → LB} {n k : Nat} {r q : Pr} {s : List UInt8} {F : List (List UInt8)} (h : DrainSt wr lo b B first n k r (s :: F) q) (hf : first ≤ 65535) (hn : n ≤ 900) (hk : k < 2) (hp : IsPair w3 lo b B (hearQ q k s F)) : DrainSt w3 lo b B first n k r F (hearQ q k s F) := by
  obtain ⟨m, hm, hI⟩ := h.inv
  have hl := h.l30
  simp only [List.length_cons] at hl hm
  have hs : s ∈ q.f k := by rw [h.fl]; simp
  have hh := hear_ok hI hf (by omega) hk hs
  refine ⟨setK_same _ _ _, by omega, h.eq, ⟨m + 1, by omega, hear_inv hI hk s hh F (fun x hx => by rw [h.fl]; simp [hx]) (by omega)⟩, hp⟩
theorem drain_hear {wr : World} {lo b : Nat} {B : Nat → LB} {n k : Nat} {r q : Pr} {s : List UInt8} {F : List (List UInt8)} (h : DrainSt wr lo b B first n k r (s :: F) q) (hf : first ≤ 65535) (hn : n ≤ 900) (hk : k < 2) (w0 : Nat) (hw : w0 = k) :
    Calls Try.prog 9 #[.pointer (some ⟨b, 0, none⟩), .agg #[.int .i64 3, .int .i64 w0, .int .i64 0, .int .i64 0, .int .u8 0], .int .i64 first] wr fun e w' => e = .returned (.bool true) ∧ DrainSt w' lo b B first n k r F (hearQ q k s F) ∧ Below lo wr w' := by
  obtain ⟨m, hm, hI⟩ := h.inv
  have hl := h.l30
  simp only [List.length_cons] at hl hm
  have hs : s ∈ q.f k := by rw [h.fl]; simp
  have hkv : bits .and .i64 (w0 : Int) 1 = (k : Int) := by rw [i64_and1]; omega
  have hh := hear_ok hI hf (by omega) hk hs
  obtain ⟨l0, l1, _⟩ := fly_len hI hk hs
  have hfl : (q.f k).length = F.length + 1 := by rw [h.fl]; rfl
  have he : (q.f k).eraseIdx 0 = F := by rw [h.fl]; rfl
  have := take_heard h.pr w0 0 0 0 k hk hkv first hf (inv_ready hI hf (by omega) hk) 0 (by omega) (by rw [hfl, show IntKind.u64.wrap 0 = 0 by rfl, Int.zero_tmod]; unfold wrap64; omega) s (by rw [h.fl]; rfl) (hearTo_able hI (by omega) hk (by omega) hh)
  rw [he] at this
  exact this.mono fun _ _ g => ⟨g.1, drain_step h hf hn hk g.2.1, g.2.2⟩
theorem tick_does {wr : World} {lo b : Nat} {B : Nat → LB} {n j : Nat} {p : Pr} (h : Inv first n p) (hn : n ≤ 900) (hj : j < 2) (hp : IsPair wr lo b B p) :
    Calls Try.prog 9 #[.pointer (some ⟨b, 0, none⟩), .agg #[.int .i64 2, .int .i64 j, .int .i64 0, .int .i64 0, .int .u8 0], .int .i64 first] wr fun e w' => e = .returned (.bool true) ∧ DrainSt w' lo b B first n (1 - j) (half p j) ((tickP p j).f (1 - j)) (tickP p j) ∧ Below lo wr w' := by
  obtain ⟨k1, k2, k3⟩ := ot hj
  have H := h j hj
  have J := h (1 - j) k1
  have hkv : bits .and .i64 (j : Int) 1 = (j : Int) := by rw [i64_and1]; omega
  refine (does_tick hp j 0 0 0 j hj hkv first (by have := H.tk; omega) (by have := H.hd; omega) (fun m hm => by rw [H.ou m hm]) (fun m hm => ?_) (by have := tick_len h hn hj; omega) J.fln).mono fun _ _ g => ⟨g.1, drain_start h hn hj g.2.1, g.2.2⟩
  exact okM_right (tick_ok h (by omega) hj m hm) k1 (by rw [k2]; exact H.ob)
/-- nothing flies any more -/
theorem pair_fresh {w : World} {lo b : Nat} {B : Nat → LB} {p : Pr} (h : IsPair w lo b B p) : IsPair ((w.setCell ⟨b, 2, none⟩ (.slice none 0 0)).setCell ⟨b, 3, none⟩ (.slice none 0 0)) lo b B { p with f := setK (setK p.f 0 []) 1 [] } := by
  obtain ⟨c, fv, ov, tv, h⟩ := h
  have h1 := h.rowF (k := 0) (by omega) (L := []) (Keeps.refl _ w) (own_nil _ _ _ _) (fun j hj => by simp [Value.ownBlock] at hj)
  have h2 := h1.rowF (k := 1) (by omega) (L := []) (Keeps.refl _ _) (own_nil _ _ _ _) (fun j hj => by simp [Value.ownBlock] at hj)
  exact ⟨_, _, _, _, h2⟩
theorem fresh2_inv {n : Nat} {p : Pr} (h : Inv first n p) : Inv first (n + 2) { p with f := setK (setK p.f 0 []) 1 [] } :=
  drop_inv (drop_inv h (k := 0) (by omega) [] (by simp) (by simp)) (k := 1) (by omega) [] (by simp) (by simp)
theorem inv_ups {n m : Nat} {p : Pr} (h : Inv first n p) (hm : n ≤ m) : Inv first m p := by
  obtain ⟨d, rfl⟩ := Nat.le.dest hm
  clear hm
  induction d with
  | zero => exact h
  | succ d ih => exact ih.up
end Go.Proofs.Ytaobhbfhbmenfaa
/- Two links: all comes at last, the law. -/
namespace Go.Proofs.Ytaobhbfhbmenfaa
open Go.RowKit
set_option maxRecDepth 100000
def freshP (p : Pr) : Pr := { p with f := setK (setK p.f 0 []) 1 [] }
variable {w w' : World} {first : Nat} {p0 : Pr}
set_option maxHeartbeats 4000000 in
theorem law_LinkComes (first : Nat) (hf : first ≤ 65535) (w : World) (la : Option Addr) (lc : Nat) (M : List Act5) (hM : Vals w 5 la M.length lc (acts5 M)) (hMw : ∀ c ∈ M, c.wf) :
    Calls Try.prog 4 #[.int .u16 first, .slice la M.length lc] w fun e w' => e = .returned (.bool true) ∧ Below w.heap.size w w' := by
  have hm1 : M.length ≤ 9223372036854775807 := Nat.le_trans hM.2.1 hM.2.2.1
  have HMw := hid hMw
  clear hMw
  have hfw : wrap64 (first : Int) = (first : Int) := by unfold wrap64; omega
  go_enter Try.func4, Try.ntmps4
  go_wp2_with fail
  refine (awake16 _).mono ?_
  rintro e w1 ⟨rfl, hb1⟩
  go_wp2_with fail
  refine (pr_begin first hf w1).mono ?_
  rintro e w2 ⟨b, B, rfl, hP, hb2⟩
  have hS0 := OnceSt.new hb1 hP hb2
  have hlo := hb1.size
  clear hb1 hP hb2
  generalize w1.heap.size = lo at *
  have HS0 := hid hS0
  clear hS0
  go_wp2_with fail
  go_loopg [7] 400 (fun g i wr => ∃ (k : Nat) (p : Pr), g = 400 - k ∧ k ≤ 400 ∧ i = .int .i64 k ∧ OnceSt w wr lo b B first k p)
  case atStart => exact ⟨0, _, rfl, by omega, rfl, HS0.out⟩
  case round =>
    obtain ⟨k, p, hg, hk, rfl, hS⟩ := hrel
    clear HS0
    have HS := hid hS
    by_cases hlt : k < M.length ∧ k < 400
    · obtain ⟨hlt, hl2⟩ := hlt
      obtain ⟨bb, o, rfl, hc⟩ := (hM.below hS.below (fun hn x hx => hM.lt (by omega) hn hx)).at' (by omega)
      have hat := acts5_at M k hlt
      have hc0 : wr.cell? ⟨bb, o + k * 5, none⟩ = some (.int .i64 M[k].kind) := hc _ _ (hat 0 (by omega))
      have hc1 : wr.cell? ⟨bb, o + k * 5 + 1, none⟩ = some (.int .i64 M[k].who) := by rw [Nat.add_assoc]; exact hc _ _ (hat 1 (by omega))
      have hc2 : wr.cell? ⟨bb, o + k * 5 + 2, none⟩ = some (.int .i64 M[k].i) := by rw [Nat.add_assoc]; exact hc _ _ (hat 2 (by omega))
      have hc3 : wr.cell? ⟨bb, o + k * 5 + 3, none⟩ = some (.int .i64 M[k].at') := by rw [Nat.add_assoc]; exact hc _ _ (hat 3 (by omega))
      have hc4 : wr.cell? ⟨bb, o + k * 5 + 4, none⟩ = some (.int .u8 M[k].b) := by rw [Nat.add_assoc]; exact hc _ _ (hat 4 (by omega))
      have hwf := HMw.out M[k] (List.getElem_mem hlt)
      clear hc hat hS
      generalize M[k] = c at *
      have hx : 0 ≤ (c.b : Int) ∧ (c.b : Int) ≤ 255 := by have := hwf.b; omega
      clear hwf
      go_wp2_with fail
      have h := HS.out
      refine (pr_step h.inv hf (by omega) h.pr c.kind c.who c.i c.at' c.b hx).mono ?_
      rintro e w3 ⟨rfl, ⟨q, hq, hP3⟩, hb3⟩
      have HN := hid (OnceSt.mk hq hP3 (h.below.trans (hb3.mono hlo)) : OnceSt w w3 lo b B first (k + 1) q)
      clear h HS hq hP3 hb3 hc0 hc1 hc2 hc3 hc4 hx
      go_wp2_with fail
      go_roundg (400 - (k + 1))
      case rel => exact ⟨k + 1, q, by omega, by omega, by go_num, HN.out⟩
      case measure => omega
    · have H0 := hid (inv_ups hS.inv (show k ≤ 400 by omega))
      have HP := hid hS.pr
      have hbw : w.heap.size ≤ b := by obtain ⟨_, _, _, _, h9⟩ := hS.pr; have := h9.size; omega
      have Hb := hid hS.below
      clear hS HS
      by_cases h1 : k < M.length
      · have h2 : ¬ k < 400 := fun h => hlt ⟨h1, h⟩
        clear hlt
        obtain ⟨c0, fv0, ov0, tv0, h0⟩ := HP.out
        have cF0 := h0.cellF (k := 0) (by omega)
        have cF1 := h0.cellF (k := 1) (by omega)
        have fF0 := h0.free 2
        have fF1 := h0.free 3
        clear h0
        have HF := hid (pair_fresh HP.out)
        have HI : Hid (Inv first 402 (freshP p)) := hid (fresh2_inv H0.out)
        have Hb2 := hid (Hb.out.trans (((Keeps.refl (fun j => j = b) wr).setCell (p := ⟨b, 2, none⟩) rfl (.slice none 0 0)).setCell (p := ⟨b, 3, none⟩) rfl (.slice none 0 0) |>.below (B := w.heap.size) Hb.out.size (fun j h1 h2 => by omega)))
        clear HP H0 Hb
        have f0 : (freshP p).f 0 = [] := rfl
        have f1 : (freshP p).f 1 = [] := rfl
        have HK := hid (halves_ok hf HI.out f0 f1)
        have HF : Hid (IsPair ((wr.setCell ⟨b, 2, none⟩ (.slice none 0 0)).setCell ⟨b, 3, none⟩ (.slice none 0 0)) lo b B (halves (2 * 0) (freshP p))) := HF
        clear HI f0 f1
        go_wp2_with fail
        clear cF0 cF1 fF0 fF1
        generalize World.setCell (wr.setCell _ _) _ _ = w5 at *
        generalize freshP p = p1 at *
        go_loopg [8] 6 (fun g i wr => ∃ m : Nat, g = 6 - m ∧ m ≤ 6 ∧ i = .int .i64 m ∧ IsPair wr lo b B (halves (2 * m) p1) ∧ Below w.heap.size w wr)
        case atStart => exact ⟨0, rfl, by omega, rfl, HF.out, Hb2.out⟩
        case round =>
          obtain ⟨m, hgm, hm, rfl, hPm, hbm⟩ := hrel
          clear HF Hb2
          have HPm := hid hPm
          have Hbm := hid hbm
          clear hPm hbm
          by_cases hlm : m < 6
          · have hlmi : (m : Int) < 6 := by omega
            go_wp2_with fail
            go_loopg [9] 2 (fun g i wr => ∃ j : Nat, g = 2 - j ∧ j ≤ 2 ∧ i = .int .i64 j ∧ IsPair wr lo b B (halves (2 * m + j) p1) ∧ Below w.heap.size w wr)
            case atStart => exact ⟨0, rfl, by omega, rfl, HPm.out, Hbm.out⟩
            case round =>
              obtain ⟨j, hgj, hj, rfl, hPj, hbj⟩ := hrel
              clear HPm Hbm
              by_cases hlj : j < 2
              · have hlji : (j : Int) < 2 := by omega
                have hI := (HK.out (2 * m + j) (by omega)).1
                have HT := hid (tick_does hI (by omega) hlj hPj)
                have HI := hid hI
                have Hbj := hid hbj
                clear hPj hI hbj
                go_wp2_with fail
                refine HT.out.mono ?_
                rintro e w6 ⟨rfl, hD, hb6⟩
                have HD := hid hD
                have Hb6 := hid (Hbj.out.trans (hb6.mono (by omega)))
                clear hD hb6 HT Hbj
                obtain ⟨j', hj', hj1v⟩ : ∃ j' : Nat, 1 - j = j' ∧ (1 : Int) - (j : Int) = (j' : Int) := ⟨1 - j, rfl, by omega⟩
                rw [hj'] at HD
                have hj2 : j' < 2 := by omega
                have hj2i : (j' : Int) < 2 := by omega
                have hjw : IntKind.i64.wrap (j' : Int) = (j' : Int) := by rw [IntKind.wrap_i64]; omega
                have hmod : (2 * m + j) % 2 = j := by omega
                have hnx : half (halves (2 * m + j) p1) j = halves (2 * m + (j + 1)) p1 := by
                  show _ = half (halves (2 * m + j) p1) ((2 * m + j) % 2)
                  rw [hmod]
                rw [hnx] at HD
                generalize (tickP (halves (2 * m + j) p1) j).f j' = F0 at *
                generalize tickP (halves (2 * m + j) p1) j = q0 at *
                clear HI hnx hmod
                go_wp2_with fail
                go_loopg [] F0.length (fun g wr => ∃ (F : List (List UInt8)) (q : Pr), g = F.length ∧ DrainSt wr lo b B first (402 + 11 * (2 * m + j)) j' (halves (2 * m + (j + 1)) p1) F q ∧ Below w.heap.size w wr)
                case atStart => exact ⟨F0, q0, rfl, HD.out, Hb6.out⟩
                case round =>
                  obtain ⟨F, q, hgF, hD, hb7⟩ := hrel
                  clear HD Hb6
                  obtain ⟨c7, fv7, ov7, tv7, h7⟩ := hD.pr
                  obtain ⟨A7, cap7, hA7, _, _⟩ := vals_of_own (h7.fr j' hj2)
                  have cF := h7.cellF hj2
                  have hfl := hD.fl
                  rw [hA7, hfl] at cF
                  clear hA7 h7 hfl
                  have HD := hid hD
                  have Hb7 := hid hb7
                  clear hD hb7
                  cases F with
                  | nil =>
                    go_wp2_with fail
                    go_roundg (2 - (j + 1))
                    case rel => exact ⟨j + 1, by omega, by omega, by go_num, HD.out.eq ▸ HD.out.pr, Hb7.out⟩
                    case measure => omega
                  | cons s F =>
                    have hH := drain_hear HD.out hf (by omega) hj2 j' rfl
                    have HH := hid hH
                    have hpos : 0 < (s :: F).length := by simp
                    have hl30 := HD.out.l30
                    have hlF : (s :: F).length = F.length + 1 := rfl
                    clear hH HD
                    generalize (s :: F).length = lenF at *
                    go_wp2_with fail
                    refine HH.out.mono ?_
                    rintro e w8 ⟨rfl, hD8, hb8⟩
                    have HD8 := hid hD8
                    have Hb8 := hid (Hb7.out.trans (hb8.mono (by omega)))
                    clear hD8 hb8 HH Hb7 cF
                    go_wp2_with fail
                    go_roundg F.length
                    case rel => exact ⟨F, _, rfl, HD8.out, Hb8.out⟩
                    case measure => omega
              · obtain rfl : j = 2 := by omega
                have HPj := hid hPj
                have Hbj := hid hbj
                clear hPj hbj
                go_wp2_with fail
                go_roundg (6 - (m + 1))
                case rel => exact ⟨m + 1, by omega, by omega, by go_num, HPj.out, Hbj.out⟩
                case measure => omega
          · obtain rfl : m = 6 := by omega
            have hDone := (HK.out 12 (by omega)).2.2.2 (by omega)
            have hInv := (HK.out 12 (by omega)).1
            have HA := hid (fun k (hk : k < 2) => done_all hInv hDone hk)
            have hIn := HK.out 12 (by omega)
            have HIn := hid hIn.1
            clear hDone hInv HK hIn
            have hPm : Hid (IsPair wr lo b B (halves 12 p1)) := HPm
            generalize halves 12 p1 = q at *
            clear HPm
            go_wp2_with fail
            go_loopg [10] 2 (fun g i wr => ∃ j : Nat, g = 2 - j ∧ j ≤ 2 ∧ i = .int .i64 j ∧ IsPair wr lo b B q ∧ Below w.heap.size w wr)
            case atStart => exact ⟨0, rfl, by omega, rfl, hPm.out, Hbm.out⟩
            case round =>
              obtain ⟨j, hgj, hj, rfl, hP5, hb5⟩ := hrel
              clear hPm Hbm
              by_cases hl2 : j < 2
              · obtain ⟨c5, fv, ov, tv, h⟩ := hP5
                obtain ⟨j', hj', hj1v⟩ : ∃ j' : Nat, 1 - j = j' ∧ (1 : Int) - (j : Int) = (j' : Int) := ⟨1 - j, rfl, by omega⟩
                have hj2 : j' < 2 := by omega
                have hji : (j : Int) < 2 := by omega
                have hj2i : (j' : Int) < 2 := by omega
                have hjw : IntKind.i64.wrap (j' : Int) = (j' : Int) := by rw [IntKind.wrap_i64]; omega
                obtain ⟨e1, e2, e3⟩ := HA.out j hl2
                rw [hj'] at e3
                obtain ⟨At, ct, hAt, hVt, _⟩ := vals_of_own (h.tr j hl2)
                have cT := h.cellT hl2
                rw [hAt] at cT
                obtain ⟨Ao, co, hAo, hVo, _⟩ := vals_of_own (h.orr j' hj2)
                have cO := h.cellO hj2
                rw [hAo] at cO
                have cL := h.cellL hl2
                unfold ptrV at cL
                have hS := fun n => ref_SameB (wr.drewN n) At Ao ct co (q.t j) (q.o j') ((bytes_of_valsL hVt).keeps ((Keeps.refl (fun _ => False) wr).drewN n) (fun _ _ _ => id)) ((bytes_of_valsL hVo).keeps ((Keeps.refl (fun _ => False) wr).drewN n) (fun _ _ _ => id))
                rw [decide_eq_true e3] at hS
                have hSt := fun n => lk_State ((h.drew n).lk j hl2)
                have hWt := fun n => lk_Waits ((h.drew n).lk j hl2)
                rw [e1] at hSt
                rw [e2] at hWt
                have HS := hid hS
                have HSt := hid hSt
                have HWt := hid hWt
                have H5 := hid h
                have Hb5 := hid hb5
                clear h hb5 hVt hVo e1 e2 e3 hS hSt hWt
                go_wp2_with fail
                go_quiet (first | (go_at_call 13; first | exact Calls.quiet_of (quiet_s (HSt.out _)) | exact quiet_d (quiet_s (HSt.out _))) | (go_at_call 14; first | exact Calls.quiet_of (quiet_s (HWt.out _)) | exact quiet_d (quiet_s (HWt.out _))) | (go_at_call 15; first | exact Calls.quiet_of (HS.out _) | exact quiet_d (HS.out _)))
                go_wp2_with fail
                go_roundg (2 - (j + 1))
                case rel => exact ⟨j + 1, by omega, by omega, by go_num, ⟨_, _, _, _, H5.out.drew _⟩, below_drewN Hb5.out _⟩
                case measure => omega
              · have Hb5 := hid hb5
                clear hP5 hb5
                go_wp2_with fail
                go_ret
                exact ⟨rfl, Hb5.out⟩
      · clear hlt
        obtain ⟨c0, fv0, ov0, tv0, h0⟩ := HP.out
        have cF0 := h0.cellF (k := 0) (by omega)
        have cF1 := h0.cellF (k := 1) (by omega)
        have fF0 := h0.free 2
        have fF1 := h0.free 3
        clear h0
        have HF := hid (pair_fresh HP.out)
        have HI : Hid (Inv first 402 (freshP p)) := hid (fresh2_inv H0.out)
        have Hb2 := hid (Hb.out.trans (((Keeps.refl (fun j => j = b) wr).setCell (p := ⟨b, 2, none⟩) rfl (.slice none 0 0)).setCell (p := ⟨b, 3, none⟩) rfl (.slice none 0 0) |>.below (B := w.heap.size) Hb.out.size (fun j h1 h2 => by omega)))
        clear HP H0 Hb
        have f0 : (freshP p).f 0 = [] := rfl
        have f1 : (freshP p).f 1 = [] := rfl
        have HK := hid (halves_ok hf HI.out f0 f1)
        have HF : Hid (IsPair ((wr.setCell ⟨b, 2, none⟩ (.slice none 0 0)).setCell ⟨b, 3, none⟩ (.slice none 0 0)) lo b B (halves (2 * 0) (freshP p))) := HF
        clear HI f0 f1
        go_wp2_with fail
        clear cF0 cF1 fF0 fF1
        generalize World.setCell (wr.setCell _ _) _ _ = w5 at *
        generalize freshP p = p1 at *
        go_loopg [8] 6 (fun g i wr => ∃ m : Nat, g = 6 - m ∧ m ≤ 6 ∧ i = .int .i64 m ∧ IsPair wr lo b B (halves (2 * m) p1) ∧ Below w.heap.size w wr)
        case atStart => exact ⟨0, rfl, by omega, rfl, HF.out, Hb2.out⟩
        case round =>
          obtain ⟨m, hgm, hm, rfl, hPm, hbm⟩ := hrel
          clear HF Hb2
          have HPm := hid hPm
          have Hbm := hid hbm
          clear hPm hbm
          by_cases hlm : m < 6
          · have hlmi : (m : Int) < 6 := by omega
            go_wp2_with fail
            go_loopg [9] 2 (fun g i wr => ∃ j : Nat, g = 2 - j ∧ j ≤ 2 ∧ i = .int .i64 j ∧ IsPair wr lo b B (halves (2 * m + j) p1) ∧ Below w.heap.size w wr)
            case atStart => exact ⟨0, rfl, by omega, rfl, HPm.out, Hbm.out⟩
            case round =>
              obtain ⟨j, hgj, hj, rfl, hPj, hbj⟩ := hrel
              clear HPm Hbm
              by_cases hlj : j < 2
              · have hlji : (j : Int) < 2 := by omega
                have hI := (HK.out (2 * m + j) (by omega)).1
                have HT := hid (tick_does hI (by omega) hlj hPj)
                have HI := hid hI
                have Hbj := hid hbj
                clear hPj hI hbj
                go_wp2_with fail
                refine HT.out.mono ?_
                rintro e w6 ⟨rfl, hD, hb6⟩
                have HD := hid hD
                have Hb6 := hid (Hbj.out.trans (hb6.mono (by omega)))
                clear hD hb6 HT Hbj
                obtain ⟨j', hj', hj1v⟩ : ∃ j' : Nat, 1 - j = j' ∧ (1 : Int) - (j : Int) = (j' : Int) := ⟨1 - j, rfl, by omega⟩
                rw [hj'] at HD
                have hj2 : j' < 2 := by omega
                have hj2i : (j' : Int) < 2 := by omega
                have hjw : IntKind.i64.wrap (j' : Int) = (j' : Int) := by rw [IntKind.wrap_i64]; omega
                have hmod : (2 * m + j) % 2 = j := by omega
                have hnx : half (halves (2 * m + j) p1) j = halves (2 * m + (j + 1)) p1 := by
                  show _ = half (halves (2 * m + j) p1) ((2 * m + j) % 2)
                  rw [hmod]
                rw [hnx] at HD
                generalize (tickP (halves (2 * m + j) p1) j).f j' = F0 at *
                generalize tickP (halves (2 * m + j) p1) j = q0 at *
                clear HI hnx hmod
                go_wp2_with fail
                go_loopg [] F0.length (fun g wr => ∃ (F : List (List UInt8)) (q : Pr), g = F.length ∧ DrainSt wr lo b B first (402 + 11 * (2 * m + j)) j' (halves (2 * m + (j + 1)) p1) F q ∧ Below w.heap.size w wr)
                case atStart => exact ⟨F0, q0, rfl, HD.out, Hb6.out⟩
                case round =>
                  obtain ⟨F, q, hgF, hD, hb7⟩ := hrel
                  clear HD Hb6
                  obtain ⟨c7, fv7, ov7, tv7, h7⟩ := hD.pr
                  obtain ⟨A7, cap7, hA7, _, _⟩ := vals_of_own (h7.fr j' hj2)
                  have cF := h7.cellF hj2
                  have hfl := hD.fl
                  rw [hA7, hfl] at cF
                  clear hA7 h7 hfl
                  have HD := hid hD
                  have Hb7 := hid hb7
                  clear hD hb7
                  cases F with
                  | nil =>
                    go_wp2_with fail
                    go_roundg (2 - (j + 1))
                    case rel => exact ⟨j + 1, by omega, by omega, by go_num, HD.out.eq ▸ HD.out.pr, Hb7.out⟩
                    case measure => omega
                  | cons s F =>
                    have hH := drain_hear HD.out hf (by omega) hj2 j' rfl
                    have HH := hid hH
                    have hpos : 0 < (s :: F).length := by simp
                    have hl30 := HD.out.l30
                    have hlF : (s :: F).length = F.length + 1 := rfl
                    clear hH HD
                    generalize (s :: F).length = lenF at *
                    go_wp2_with fail
                    refine HH.out.mono ?_
                    rintro e w8 ⟨rfl, hD8, hb8⟩
                    have HD8 := hid hD8
                    have Hb8 := hid (Hb7.out.trans (hb8.mono (by omega)))
                    clear hD8 hb8 HH Hb7 cF
                    go_wp2_with fail
                    go_roundg F.length
                    case rel => exact ⟨F, _, rfl, HD8.out, Hb8.out⟩
                    case measure => omega
              · obtain rfl : j = 2 := by omega
                have HPj := hid hPj
                have Hbj := hid hbj
                clear hPj hbj
                go_wp2_with fail
                go_roundg (6 - (m + 1))
                case rel => exact ⟨m + 1, by omega, by omega, by go_num, HPj.out, Hbj.out⟩
                case measure => omega
          · obtain rfl : m = 6 := by omega
            have hDone := (HK.out 12 (by omega)).2.2.2 (by omega)
            have hInv := (HK.out 12 (by omega)).1
            have HA := hid (fun k (hk : k < 2) => done_all hInv hDone hk)
            have hIn := HK.out 12 (by omega)
            have HIn := hid hIn.1
            clear hDone hInv HK hIn
            have hPm : Hid (IsPair wr lo b B (halves 12 p1)) := HPm
            generalize halves 12 p1 = q at *
            clear HPm
            go_wp2_with fail
            go_loopg [10] 2 (fun g i wr => ∃ j : Nat, g = 2 - j ∧ j ≤ 2 ∧ i = .int .i64 j ∧ IsPair wr lo b B q ∧ Below w.heap.size w wr)
            case atStart => exact ⟨0, rfl, by omega, rfl, hPm.out, Hbm.out⟩
            case round =>
              obtain ⟨j, hgj, hj, rfl, hP5, hb5⟩ := hrel
              clear hPm Hbm
              by_cases hl2 : j < 2
              · obtain ⟨c5, fv, ov, tv, h⟩ := hP5
                obtain ⟨j', hj', hj1v⟩ : ∃ j' : Nat, 1 - j = j' ∧ (1 : Int) - (j : Int) = (j' : Int) := ⟨1 - j, rfl, by omega⟩
                have hj2 : j' < 2 := by omega
                have hji : (j : Int) < 2 := by omega
                have hj2i : (j' : Int) < 2 := by omega
                have hjw : IntKind.i64.wrap (j' : Int) = (j' : Int) := by rw [IntKind.wrap_i64]; omega
                obtain ⟨e1, e2, e3⟩ := HA.out j hl2
                rw [hj'] at e3
                obtain ⟨At, ct, hAt, hVt, _⟩ := vals_of_own (h.tr j hl2)
                have cT := h.cellT hl2
                rw [hAt] at cT
                obtain ⟨Ao, co, hAo, hVo, _⟩ := vals_of_own (h.orr j' hj2)
                have cO := h.cellO hj2
                rw [hAo] at cO
                have cL := h.cellL hl2
                unfold ptrV at cL
                have hS := fun n => ref_SameB (wr.drewN n) At Ao ct co (q.t j) (q.o j') ((bytes_of_valsL hVt).keeps ((Keeps.refl (fun _ => False) wr).drewN n) (fun _ _ _ => id)) ((bytes_of_valsL hVo).keeps ((Keeps.refl (fun _ => False) wr).drewN n) (fun _ _ _ => id))
                rw [decide_eq_true e3] at hS
                have hSt := fun n => lk_State ((h.drew n).lk j hl2)
                have hWt := fun n => lk_Waits ((h.drew n).lk j hl2)
                rw [e1] at hSt
                rw [e2] at hWt
                have HS := hid hS
                have HSt := hid hSt
                have HWt := hid hWt
                have H5 := hid h
                have Hb5 := hid hb5
                clear h hb5 hVt hVo e1 e2 e3 hS hSt hWt
                go_wp2_with fail
                go_quiet (first | (go_at_call 13; first | exact Calls.quiet_of (quiet_s (HSt.out _)) | exact quiet_d (quiet_s (HSt.out _))) | (go_at_call 14; first | exact Calls.quiet_of (quiet_s (HWt.out _)) | exact quiet_d (quiet_s (HWt.out _))) | (go_at_call 15; first | exact Calls.quiet_of (HS.out _) | exact quiet_d (HS.out _)))
                go_wp2_with fail
                go_roundg (2 - (j + 1))
                case rel => exact ⟨j + 1, by omega, by omega, by go_num, ⟨_, _, _, _, H5.out.drew _⟩, below_drewN Hb5.out _⟩
                case measure => omega
              · have Hb5 := hid hb5
                clear hP5 hb5
                go_wp2_with fail
                go_ret
                exact ⟨rfl, Hb5.out⟩
end Go.Proofs.Ytaobhbfhbmenfaa
