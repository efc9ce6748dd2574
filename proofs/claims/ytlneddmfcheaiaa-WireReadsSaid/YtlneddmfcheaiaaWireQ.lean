/- Plain facts: what is packed is read as it was. -/
import Derived.Test.YtlneddmfcheaiaaWire9
import Derived.Test.YtlneddmfcheaiaaWireP
namespace Go.Proofs.Ytlneddmfcheaiaa
theorem takeR_front (n : Nat) (l r : List UInt8) (hn : l.length = n) : takeR n ⟨⟨(l ++ r).toArray⟩, false⟩ = (⟨l.toArray⟩, ⟨⟨r.toArray⟩, false⟩) := by
  subst hn
  have hs : (⟨(l ++ r).toArray⟩ : ByteArray).size = l.length + r.length := by show (l ++ r).toArray.size = _; simp
  unfold takeR
  rw [if_neg (by simp only [hs]; simp)]
  refine Prod.ext ?_ ?_
  · refine of_list _ _ ?_
    rw [extract_data]
    simp
  · show Rd.mk _ _ = Rd.mk _ _
    congr 1
    refine of_list _ _ ?_
    simp only [hs]
    rw [extract_data]
    simp
theorem bN_list (l : List UInt8) : bN ⟨l.toArray⟩ = (beN l : Int) := by simp [bN]
theorem bN_tail4 (n : Int) (h : 0 ≤ n ∧ n < 4294967296) : bN ⟨(tail4 n).toArray⟩ = n := by
  rw [bN_list]
  simp only [tail4, beN, List.foldl_cons, List.foldl_nil]
  rw [byte_of _ (by omega), byte_of _ (by omega), byte_of _ (by omega), byte_of _ (by omega)]
  omega
theorem bN_be2 (n : Int) (h : 0 ≤ n ∧ n < 65536) : bN ⟨(be2 n).toArray⟩ = n := by
  rw [bN_list]
  simp only [be2, beN, List.foldl_cons, List.foldl_nil]
  rw [byte_of _ (by omega), byte_of _ (by omega)]
  omega
theorem rdrR_run (L : List UInt8) (hf : fits L = true) : rdrR ⟨⟨(runBytes L).toArray⟩, false⟩ = (L, ⟨⟨([] : List UInt8).toArray⟩, false⟩) := by
  have h := rd_run L [] hf
  rw [List.append_nil] at h
  unfold rdrR
  simp only [h]
  rw [show ((0 : Int) != 0) = false by decide, Bool.or_false]
  have ht := takeR_front (runBytes L).length (runBytes L) [] rfl
  rw [List.append_nil] at ht
  rw [ht]
theorem rdsR_num (n : Int) (h : -1000 ≤ n ∧ n ≤ 1000) : rdsR ⟨⟨(num (zz n)).toArray⟩, false⟩ = (n, ⟨⟨([] : List UInt8).toArray⟩, false⟩) := by
  have h1 := rd_behind (zz n) (zz_in n (by omega)) []
  rw [List.append_nil] at h1
  unfold rdsR
  simp only [h1, unzz_zz]
  rw [show ((0 : Int) != 0) = false by decide, Bool.or_false]
  have ht := takeR_front (num (zz n)).length (num (zz n)) [] rfl
  rw [List.append_nil] at ht
  rw [ht]
theorem parse_raw (m : Msg) (hr : RightP m) (wf : m.wf) : parseT (rawM m) = (m, ⟨⟨([] : List UInt8).toArray⟩, false⟩) := by
  obtain ⟨k, n, s, ak, i, u, l⟩ := m
  obtain ⟨a1, a2, a3, a4, a5, a6, a7, a8, a9⟩ := hr
  obtain ⟨_, wn, ws, wk, wu, _⟩ := wf
  simp only at *
  have h1 : firstR (rawM ⟨k, n, s, ak, i, u, l⟩) = (⟨[(80 : UInt8)].toArray⟩, ⟨⟨(UInt8.ofNat k.toNat :: bodyM ⟨k, n, s, ak, i, u, l⟩).toArray⟩, false⟩) := takeR_front 1 [80] _ rfl
  have hb : (bN ⟨[(80 : UInt8)].toArray⟩ != 80) = false := by rw [bN_list]; rfl
  have h2 : kindR (rawM ⟨k, n, s, ak, i, u, l⟩) = (⟨[UInt8.ofNat k.toNat].toArray⟩, ⟨⟨(bodyM ⟨k, n, s, ak, i, u, l⟩).toArray⟩, false⟩) := by
    unfold kindR
    rw [h1]
    simp only
    rw [hb]
    exact takeR_front 1 [UInt8.ofNat k.toNat] _ rfl
  have h3 : bN ⟨[UInt8.ofNat k.toNat].toArray⟩ = k := by
    rw [bN_list]
    simp only [beN, List.foldl_cons, List.foldl_nil]
    rw [byte_of _ (by omega)]
    omega
  unfold parseT
  rw [h2]
  simp only
  rw [h3]
  unfold parseK bodyM
  simp only
  by_cases h12 : k = 1 ∨ k = 2
  · rw [if_pos h12, if_pos h12]
    have ht := takeR_front 4 (tail4 n) [] rfl
    rw [List.append_nil] at ht
    rw [ht, bN_tail4 n wn]
    have e := nil_of a7 (by omega)
    simp only [Prod.mk.injEq, Msg.mk.injEq, and_true, true_and]
    exact ⟨by omega, by omega, e.symm, by omega, by omega⟩
  rw [if_neg h12, if_neg h12]
  by_cases h3' : k = 3
  · rw [if_pos h3', if_pos h3']
    rw [List.append_assoc, takeR_front 2 (be2 s) _ rfl]
    simp only
    rw [takeR_front 2 (be2 ak) _ rfl]
    simp only
    rw [rdrR_run i a2, bN_be2 s ws, bN_be2 ak wk]
    simp only [Prod.mk.injEq, Msg.mk.injEq, and_true, true_and]
    exact ⟨by omega, by omega, by omega⟩
  have e := nil_of a7 h3'
  rw [if_neg h3', if_neg h3']
  by_cases h4 : k = 4
  · rw [if_pos h4, if_pos h4, takeR_front 2 (be2 s) _ rfl]
    simp only
    have ht := takeR_front 4 (tail4 u) [] rfl
    rw [List.append_nil] at ht
    rw [ht, bN_be2 s ws, bN_tail4 u wu]
    simp only [Prod.mk.injEq, Msg.mk.injEq, and_true, true_and]
    exact ⟨by omega, by omega, e.symm, by omega⟩
  rw [if_neg h4, if_neg h4]
  by_cases h5 : k = 5
  · rw [if_pos h5, if_pos h5]
    have ht := takeR_front 2 (be2 ak) [] rfl
    rw [List.append_nil] at ht
    rw [ht, bN_be2 ak wk]
    simp only [Prod.mk.injEq, Msg.mk.injEq, and_true, true_and]
    exact ⟨by omega, by omega, e.symm, by omega, by omega⟩
  rw [if_neg h5, if_neg h5]
  by_cases h6 : k = 6
  · rw [if_pos h6, if_pos h6, takeR_front 2 (be2 s) _ rfl]
    simp only
    rw [rdsR_num l a3, bN_be2 s ws]
    simp only [Prod.mk.injEq, Msg.mk.injEq, and_true, true_and]
    exact ⟨by omega, by omega, e.symm, by omega⟩
  · rw [if_neg h6, if_neg h6]
    simp only [Prod.mk.injEq, Msg.mk.injEq, and_true, true_and]
    exact ⟨by omega, by omega, by omega, e.symm, by omega, by omega⟩
theorem unpT_raw (m : Msg) (hr : RightP m) (wf : m.wf) : unpT (rawM m) = (m, 0) := by
  unfold unpT
  rw [parse_raw m hr wf, if_neg]
  rintro (h | h | h)
  · cases h
  · exact h (by simp [ByteArray.toList_eq])
  · exact h hr
theorem runBytes_129 (L : List UInt8) (hf : fits L = true) : (runBytes L).length ≤ 129 := by
  have hl : L.length ≤ 64 := by
    unfold fits at hf
    simp only [Bool.and_eq_true, decide_eq_true_eq] at hf
    exact hf.2
  unfold runBytes
  have h1 := runsBytes_len (runs L) (fun x hx => by have := (runs_le _ L (Nat.le_refl _) x hx).2; omega)
  have h2 := runs_len _ L (Nat.le_refl _)
  rw [List.length_append, h1, num_small _ (by omega)]
  simp
  omega
theorem pack_len (m : Msg) (hr : RightP m) : (packM m).length ≤ 139 := by
  have h1 := runBytes_129 m.ins hr.2.1
  have h2 := zz_small m.lead hr.2.2.1
  unfold packM sealed rawM bodyM
  simp only [List.length_append, List.length_cons, List.length_nil, tail4_length]
  split
  · simp [tail4_length]
  split
  · simp only [List.length_append, be2_len]; omega
  split
  · simp [be2_len, tail4_length]
  split
  · simp [be2_len]
  split
  · simp only [List.length_append, be2_len]; omega
  · simp
end Go.Proofs.Ytlneddmfcheaiaa
