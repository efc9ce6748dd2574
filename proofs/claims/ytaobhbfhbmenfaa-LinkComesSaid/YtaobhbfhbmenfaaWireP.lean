/- Plain facts: unlike datagrams have unlike bytes. -/
import Derived.Test.YtaobhbfhbmenfaaWire2
import Derived.Test.YtaobhbfhbmenfaaRunM
import Derived.Test.YtaobhbfhbmenfaaSumP
namespace Go.Proofs.Ytaobhbfhbmenfaa
theorem sealed_inj {l r : List UInt8} (h : sealed l = sealed r) : l = r := by
  unfold sealed at h
  exact List.append_inj_left' h (by simp [tail4_length])
theorem be2_inj {a b : Int} (ha : 0 ≤ a ∧ a < 65536) (hb : 0 ≤ b ∧ b < 65536) (h : be2 a = be2 b) : a = b := by
  unfold be2 at h
  simp only [List.cons.injEq, and_true] at h
  obtain ⟨h1, h2⟩ := h
  have e1 := congrArg UInt8.toNat h1
  have e2 := congrArg UInt8.toNat h2
  rw [byte_of _ (by omega), byte_of _ (by omega)] at e1 e2
  omega
theorem runBytes_inj {L M : List UInt8} (hL : fits L = true) (hM : fits M = true) (h : runBytes L = runBytes M) : L = M := by
  have h1 := rd_run L [] hL
  have h2 := rd_run M [] hM
  rw [h, h2] at h1
  exact (congrArg (fun p : List UInt8 × Nat × Int => p.1) h1).symm
theorem num_zz_inj {a b : Int} (ha : -1000 ≤ a ∧ a ≤ 1000) (hb : -1000 ≤ b ∧ b ≤ 1000) (h : num (zz a) = num (zz b)) : a = b := by
  have h1 := rd_behind (zz a) (zz_in a (by omega)) []
  have h2 := rd_behind (zz b) (zz_in b (by omega)) []
  rw [h, h2] at h1
  have e := congrArg (fun p : Nat × Nat × Int => p.1) h1
  have e' : zz b = zz a := e
  have := congrArg unzz e'
  rwa [unzz_zz, unzz_zz, eq_comm] at this
theorem nil_of {L : List UInt8} {k : Int} (h : 0 < L.length ↔ k = 3) (hk : k ≠ 3) : L = [] := by
  rcases Nat.eq_zero_or_pos L.length with h0 | h0
  · exact List.eq_nil_of_length_eq_zero h0
  · exact absurd (h.1 h0) hk
theorem raw_inj {a b : Msg} (ha : RightP a) (hb : RightP b) (wa : a.wf) (wb : b.wf) (h : rawM a = rawM b) : a = b := by
  obtain ⟨k, n, s, ak, i, u, l⟩ := a
  obtain ⟨k', n', s', ak', i', u', l'⟩ := b
  obtain ⟨a1, a2, a3, a4, a5, a6, a7, a8, a9⟩ := ha
  obtain ⟨b1, b2, b3, b4, b5, b6, b7, b8, b9⟩ := hb
  obtain ⟨_, wn, ws, wk, wu, _⟩ := wa
  obtain ⟨_, wn', ws', wk', wu', _⟩ := wb
  unfold rawM at h
  simp only [List.cons_append, List.nil_append, List.cons.injEq, true_and] at *
  obtain ⟨hk, hbody⟩ := h
  have e1 := congrArg UInt8.toNat hk
  rw [byte_of _ (by omega), byte_of _ (by omega)] at e1
  obtain rfl : k' = k := by omega
  unfold bodyM at hbody
  simp only at hbody
  by_cases h12 : k' = 1 ∨ k' = 2
  · rw [if_pos h12, if_pos h12] at hbody
    have := tail4_inj _ _ wn wn' hbody
    have e3 := nil_of a7 (by omega)
    have e4 := nil_of b7 (by omega)
    simp only [Msg.mk.injEq]
    exact ⟨trivial, this, by omega, by omega, by rw [e3, e4], by omega, by omega⟩
  rw [if_neg h12, if_neg h12] at hbody
  by_cases h3 : k' = 3
  · rw [if_pos h3, if_pos h3] at hbody
    have q1 := List.append_inj hbody (by simp [be2_len])
    have q2 := List.append_inj q1.1 (by simp [be2_len])
    have := be2_inj ws ws' q2.1
    have := be2_inj wk wk' q2.2
    have := runBytes_inj a2 b2 q1.2
    simp only [Msg.mk.injEq]
    exact ⟨trivial, by omega, by omega, by omega, this, by omega, by omega⟩
  have e3 := nil_of a7 h3
  have e4 := nil_of b7 h3
  rw [if_neg h3, if_neg h3] at hbody
  by_cases h4 : k' = 4
  · rw [if_pos h4, if_pos h4] at hbody
    have q1 := List.append_inj hbody (by simp [be2_len])
    have := be2_inj ws ws' q1.1
    have := tail4_inj _ _ wu wu' q1.2
    simp only [Msg.mk.injEq]
    exact ⟨trivial, by omega, by omega, by omega, by rw [e3, e4], by omega, by omega⟩
  rw [if_neg h4, if_neg h4] at hbody
  by_cases h5 : k' = 5
  · rw [if_pos h5, if_pos h5] at hbody
    have := be2_inj wk wk' hbody
    simp only [Msg.mk.injEq]
    exact ⟨trivial, by omega, by omega, by omega, by rw [e3, e4], by omega, by omega⟩
  rw [if_neg h5, if_neg h5] at hbody
  by_cases h6 : k' = 6
  · rw [if_pos h6, if_pos h6] at hbody
    have q1 := List.append_inj hbody (by simp [be2_len])
    have := be2_inj ws ws' q1.1
    have := num_zz_inj a3 b3 q1.2
    simp only [Msg.mk.injEq]
    exact ⟨trivial, by omega, by omega, by omega, by rw [e3, e4], by omega, by omega⟩
  · simp only [Msg.mk.injEq]
    exact ⟨trivial, by omega, by omega, by omega, by rw [e3, e4], by omega, by omega⟩
theorem pack_same {a b : Msg} (ha : RightP a) (hb : RightP b) (wa : a.wf) (wb : b.wf) : (packM a == packM b) = sameM a b := by
  rw [Bool.eq_iff_iff, beq_iff_eq, sameM_iff]
  exact ⟨fun h => raw_inj ha hb wa wb (sealed_inj h), fun h => by rw [h]⟩
end Go.Proofs.Ytaobhbfhbmenfaa
