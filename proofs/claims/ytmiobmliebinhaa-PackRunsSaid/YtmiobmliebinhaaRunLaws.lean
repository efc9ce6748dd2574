/- The last two statements of pack return true. -/
import Derived.Test.YtmiobmliebinhaaPackLaws
import Derived.Test.YtmiobmliebinhaaRefRun
import Derived.Test.YtmiobmliebinhaaRefRead
namespace Go.Proofs.Ytmiobmliebinhaa
open Go.RowKit
theorem IsBytes.below {A B : World} {a : Option Addr} {cap : Nat} {L : List UInt8} (h : IsBytes A a cap L) (hb : Below A.heap.size A B) : IsBytes B a cap L :=
  h.keeps (S := fun k => A.heap.size ≤ k) (Keeps.of_below hb (fun _ _ h => h)) (fun hne x hx hge => absurd (h.lt hne x hx) (Nat.not_lt.2 hge))
theorem ref_Same_b (w : World) (a b : Option Addr) (ca cb : Nat) (L M : List UInt8) (hL : IsBytes w a ca L) (hM : IsBytes w b cb M) :
    Calls Try.prog 20 #[.slice a L.length ca, .slice b M.length cb] w fun e w' => e = .returned (.bool (decide (L = M))) ∧ Below w.heap.size w w' := by
  refine (ref_Same w a b ca cb L M hL hM).mono ?_
  rintro e w' ⟨rfl, q, rfl⟩
  exact ⟨rfl, ⟨rfl, rfl, rfl, Nat.le_refl _, fun _ _ => rfl⟩⟩
theorem pack_Fits_b (w : World) (a : Option Addr) (cap : Nat) (L : List UInt8) (h : IsBytes w a cap L) :
    Calls Try.prog 16 #[.slice a L.length cap] w fun e w' => e = .returned (.bool (fits L)) ∧ w = w' := pack_Fits w a cap L h
set_option maxHeartbeats 800000 in
theorem law_PackRuns (w : World) (a : Option Addr) (cap : Nat) (L : List UInt8) (h : IsBytes w a cap L) (b : ByteArray) (hb : b.size ≤ maxLen) :
    Calls Try.prog 5 #[.slice a L.length cap, .string b] w fun e w' => e = .returned (.bool true) ∧ Below w.heap.size w w' := by
  have hm : L.length ≤ 9223372036854775807 := Nat.le_trans h.1 h.2.1
  have hb' : b.size ≤ 9223372036854775807 := hb
  by_cases h0 : 200 < L.length ∨ 200 < b.size
  · by_cases h1 : 200 < L.length
    · go_enter Try.func5, Try.ntmps5
      go_wp2_with fail
      refine (awake06 _).mono ?_
      rintro e w1 ⟨rfl, hb1⟩
      go_wp2_with fail
      go_ret
      exact ⟨rfl, hb1⟩
    · have h2 : 200 < b.size := by omega
      clear h0
      go_enter Try.func5, Try.ntmps5
      go_wp2_with fail
      refine (awake06 _).mono ?_
      rintro e w1 ⟨rfl, hb1⟩
      go_wp2_with fail
      go_ret
      exact ⟨rfl, hb1⟩
  have h1 : L.length ≤ 200 := by omega
  have h2 : b.size ≤ 200 := by omega
  clear h0
  cases hf : fits L with
  | false =>
    go_enter Try.func5, Try.ntmps5
    go_wp2_with fail
    refine (awake06 _).mono ?_
    rintro e w1 ⟨rfl, hb1⟩
    go_wp2_with fail
    refine (pack_Run_no _ a cap L (h.below hb1) hf).mono ?_
    rintro e w2 ⟨rfl, hb2⟩
    have hb12 := bnext hb1 hb2
    have hF1 := pack_Fits _ a cap L (h.below hb12)
    have hF2 := ref_Fits _ a cap L (h.below hb12)
    rw [hf] at hF1 hF2
    have HF1 := hid hF1
    have HF2 := hid hF2
    clear hF1 hF2
    go_wp2_with fail
    refine (HF1.out).mono ?_
    rintro e w' ⟨rfl, rfl⟩
    go_wp2_with fail
    refine (HF2.out).mono ?_
    rintro e w' ⟨rfl, rfl⟩
    go_wp2_with fail
    refine (HF2.out).mono ?_
    rintro e w' ⟨rfl, rfl⟩
    go_wp2_with fail
    go_ret
    exact ⟨rfl, hb12⟩
  | true =>
    have hl64 : L.length ≤ 64 := by unfold fits at hf; simp at hf; exact hf.2
    have hrr := rd_run L b.data.toList hf
    have hlen : (runBytes L).length ≤ 138 := by
      have := pre_len L hl64 (runs L) [] (by simp)
      exact this
    have r1 : rdRun (ByteArray.mk (runBytes L).toArray ++ b).data.toList = (L, (runBytes L).length, 0) := by rw [cat_data]; exact hrr
    have q1 : (ByteArray.mk (runBytes L).toArray ++ b).size ≤ maxLen := by rw [size_cat]; unfold maxLen; omega
    clear hrr
    go_enter Try.func5, Try.ntmps5
    go_wp2_with fail
    refine (awake06 _).mono ?_
    rintro e w1 ⟨rfl, hb1⟩
    go_wp2_with fail
    refine (pack_Run _ a cap L (h.below hb1) hf).mono ?_
    rintro e w2 ⟨rfl, hb2⟩
    have hb12 := bnext hb1 hb2
    have hF1 := pack_Fits _ a cap L (h.below hb12)
    have hF2 := ref_Fits _ a cap L (h.below hb12)
    rw [hf] at hF1 hF2
    have HF1 := hid hF1
    have HF2 := hid hF2
    have R1 := hid r1
    clear hF1 hF2 r1
    go_wp2_with fail
    refine (HF1.out).mono ?_
    rintro e w' ⟨rfl, rfl⟩
    go_wp2_with fail
    refine (HF2.out).mono ?_
    rintro e w' ⟨rfl, rfl⟩
    go_wp2_with fail
    refine (HF2.out).mono ?_
    rintro e w' ⟨rfl, rfl⟩
    go_wp2_with fail
    refine (pack_ReadRun _ q1 _).mono ?_
    rintro e w3 ⟨v, rfl, hown, hb3⟩
    rw [R1.out] at hown ⊢
    obtain ⟨a2, cap2, rfl, hIB2⟩ := own_bytes hown
    have hb13 := bnext hb12 hb3
    have hL1 := h.below hb13
    clear hown R1 HF1 HF2
    go_wp2_with fail
    refine (ref_Run _ a cap L hL1 hl64).mono ?_
    rintro e w4 ⟨rfl, hb4⟩
    go_wp2_with fail
    refine (ref_Same_b _ a2 a cap2 cap L L (hIB2.below hb4) (hL1.below hb4)).mono ?_
    rintro e w5 ⟨rfl, hb5⟩
    go_wp2_with fail
    go_ret
    exact ⟨by simp, bnext (bnext hb13 hb4) hb5⟩
set_option maxHeartbeats 800000 in
theorem law_PackTells (s : ByteArray) (hs : s.size ≤ maxLen) (w : World) :
    Calls Try.prog 6 #[.string s] w fun e w' => e = .returned (.bool true) ∧ Below w.heap.size w w' := by
  have hs' : s.size ≤ 9223372036854775807 := hs
  by_cases h0 : 400 < s.size
  · go_enter Try.func6, Try.ntmps6
    go_wp2_with fail
    refine (awake06 _).mono ?_
    rintro e w1 ⟨rfl, hb1⟩
    go_wp2_with fail
    go_ret
    exact ⟨rfl, hb1⟩
  have c0 := pack_ReadRun s hs
  have c1 := ref_ReadRun s hs
  have ht := rd_run_told s.data.toList (rdRun s.data.toList).1 (rdRun s.data.toList).2.1
  unfold ReadsRun at c0 c1
  generalize rdRun s.data.toList = r at *
  obtain ⟨L, n, e0⟩ := r
  have C0 := hid c0
  have C1 := hid c1
  have HT := hid ht
  clear c0 c1 ht
  go_enter Try.func6, Try.ntmps6
  go_wp2_with fail
  refine (awake06 _).mono ?_
  rintro e w1 ⟨rfl, hb1⟩
  go_wp2_with fail
  refine (C0.out _).mono ?_
  rintro e w2 ⟨v, rfl, hown, hb2⟩
  obtain ⟨a, cap, rfl, hA⟩ := own_bytes hown
  go_wp2_with fail
  refine (C1.out _).mono ?_
  rintro e w3 ⟨v, rfl, hown3, hb3⟩
  obtain ⟨a3, cap3, rfl, hA3⟩ := own_bytes hown3
  go_wp2_with fail
  refine (ref_Same_b _ a a3 cap cap3 L L (hA.below hb3) hA3).mono ?_
  rintro e w4 ⟨rfl, hb4⟩
  have hb14 := bnext (bnext (bnext hb1 hb2) hb3) hb4
  clear hown hown3
  by_cases he : e0 = 0
  · subst he
    obtain ⟨t1, t2, t3⟩ := HT.out rfl
    have hx : (s.extract 0 n).toList = runBytes L := by rw [ByteArray.toList_eq, extract_data, t1]; simp
    have hn : n ≤ s.size := by simpa using t3
    have hx2 : s.extract 0 n = ⟨(runBytes L).toArray⟩ := by
      apply ByteArray.ext
      apply Array.toList_inj.1
      rw [ByteArray.toList_eq] at hx
      simpa using hx
    have H1 := hid t1
    clear t1 t3 HT hx
    go_wp2_with fail
    refine (pack_Run _ a cap L ((hA.below hb3).below hb4) t2).mono ?_
    rintro e w5 ⟨rfl, hb5⟩
    go_wp2_with fail
    go_ret
    exact ⟨by simp, bnext hb14 hb5⟩
  · have hne : (e0 == 0) = false := by rw [beq_eq_false_iff_ne]; exact he
    clear he
    go_wp2_with fail
    go_ret
    exact ⟨rfl, hb14⟩
end Go.Proofs.Ytmiobmliebinhaa
