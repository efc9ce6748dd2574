/- ONE TURNED BYTE IS FOUND: the statement returns true. -/
import Derived.Test.YtohkdoopechghaaSumLaws
import Derived.Test.YtohkdoopechghaaBytes
import Derived.Laws.BitsAllLaws
namespace Go.Proofs.Ytohkdoopechghaa
open Go.RowKit
theorem xor_ne (x by' : Nat) (hx : x < 256) (hb : by' < 256) (h0 : by' ≠ 0) : ∃ c : UInt8, bits .xor .u8 (x : Int) (by' : Int) = (c.toNat : Int) ∧ c ≠ UInt8.ofNat x := by
  have hlt : x ^^^ by' < 256 := Nat.xor_lt_two_pow (n := 8) hx hb
  refine ⟨UInt8.ofNat (x ^^^ by'), ?_, ?_⟩
  · rw [u8_xor_nat x by' hx hb]
    simp [Nat.mod_eq_of_lt hx, Nat.mod_eq_of_lt hb]
  · intro h
    have := congrArg UInt8.toNat h
    simp [Nat.mod_eq_of_lt hb, Nat.mod_eq_of_lt hx] at this
    have h2 : x ^^^ (x ^^^ by') = x ^^^ x := congrArg (fun z => x ^^^ z) this
    rw [← Nat.xor_assoc, Nat.xor_self, Nat.zero_xor] at h2
    exact h0 h2
/-- the bytes behind one store, and what opening says of them -/
theorem opened_turned (l : List UInt8) (k : Nat) (c : UInt8) (hk : k < (sealed l).length) (hc : c ≠ (sealed l)[k]) : opened ((sealed l).set k c) = ([], 15) := by
  have hlen : ((sealed l).set k c).length = l.length + 4 := by simp [sealed, tail4_length]
  unfold opened
  rw [if_neg (by omega), if_neg]
  intro h
  have hn : ((sealed l).set k c).length - 4 = l.length := by omega
  rw [hn] at h
  refine turned l k c hk hc (((sealed l).set k c).take l.length) (((sealed l).set k c).drop l.length) (List.take_append_drop _ _) (by simp [sealed, tail4_length]) ?_
  have := congrArg (List.drop l.length) h
  rw [← this, sealed]
  exact (List.drop_left' (by simp)).symm
/-- a byte stored into a row of bytes, and the row read as a string -/
theorem conv_back (w : World) (b cap : Nat) (l : List UInt8) (k : Nat) (c : UInt8) (hk : k < l.length)
    (hcell : ∀ i (h : i < l.length), w.cell? ⟨b, i, none⟩ = some (.int .u8 l[i].toNat)) :
    (convert 47 9 (.slice (some ⟨b, 0, none⟩) l.length cap)).run Try.prog (w.setCell ⟨b, k, none⟩ (.int .u8 c.toNat)) = .ok (.string ⟨(l.set k c).toArray⟩) (w.setCell ⟨b, k, none⟩ (.int .u8 c.toNat)) := by
  have h := run_convert_bytes_back (P := Try.prog) (w.setCell ⟨b, k, none⟩ (.int .u8 c.toNat)) 47 9 5 ⟨b, 0, none⟩ cap (l.set k c) Try.underlying47 Try.underlying5 Try.underlying9 (by
    intro j hj
    have hj' : j < l.length := by simpa using hj
    have ea : (⟨b, 0, none⟩ : Addr).add j = ⟨b, j, none⟩ := by rw [addr_add, Nat.zero_add]
    rw [ea]
    by_cases e : k = j
    · subst e
      rw [World.cell?_setCell_same _ _ _ (hcell k hk)]
      simp
    · rw [World.cell?_setCell_other _ _ _ _ (by simp), hcell j hj']
      simp [List.getElem_set_ne e])
  simpa using h
theorem law_SumTurned (s : ByteArray) (at' b : Int) (hb : 0 ≤ b ∧ b ≤ 255) (hs : s.size ≤ maxLen) (w : World) :
    Calls Try.prog 10 #[.string s, .int .i64 at', .int .u8 b] w fun e w' => e = .returned (.bool true) ∧ Below w.heap.size w w' := by
  have hs' : s.size ≤ 9223372036854775807 := hs
  by_cases h0 : 20000 < s.size
  · go_enter Try.func10, Try.ntmps10
    go_wp2_with fail
    refine (awake05 _).mono ?_
    rintro e w' ⟨rfl, rfl⟩
    go_wp2_with fail
    go_ret
    exact ⟨rfl, Below.refl _ _⟩
  by_cases h1 : b = 0
  · subst h1
    go_enter Try.func10, Try.ntmps10
    go_wp2_with fail
    refine (awake05 _).mono ?_
    rintro e w' ⟨rfl, rfl⟩
    go_wp2_with fail
    go_ret
    exact ⟨rfl, Below.refl _ _⟩
  have hl : (sealed s.data.toList).length = s.size + 4 := by simp [sealed, tail4_length]
  obtain ⟨k, hk, he⟩ := pick_index at' (sealed s.data.toList).length (by omega) (by omega)
  obtain ⟨b, rfl⟩ := Int.eq_ofNat_of_zero_le hb.1
  obtain ⟨c, hx, hne⟩ := xor_ne ((sealed s.data.toList)[k].toNat) b ((sealed s.data.toList)[k].toNat_lt) (by omega) (by omega)
  have hne' : c ≠ (sealed s.data.toList)[k] := by simpa using hne
  have ho := opened_turned s.data.toList k c hk hne'
  have hb0 : ((b : Int) == 0) = false := by simpa using h1
  clear hne hne'
  have Ho := hid ho
  clear ho
  generalize hsl : sealed s.data.toList = l at *
  have Hsl := hid hsl
  clear hsl
  have Hl := hid hl
  have hl' : l.length ≤ 100000 := by omega
  clear hl
  go_enter Try.func10, Try.ntmps10
  go_wp2_with fail
  refine (awake05 _).mono ?_
  rintro e w' ⟨rfl, rfl⟩
  go_wp2_with fail
  refine (sum_Seal _ (by omega) _).mono ?_
  rintro e w1 ⟨rfl, hb1⟩
  rw [Hsl.out]
  obtain ⟨cap, w2, hcv, hcap, hb2, hsz, hcell, hfr⟩ := conv_bytes w1 ⟨l.toArray⟩
  have hcap' : l.length ≤ cap := hcap
  have hc := hcell k hk
  have hf := hfr k hk
  have hback := conv_back w2 w1.heap.size cap l k c hk hcell
  clear hcell hfr hcap
  go_wp2_with fail
  have hsz3 : (ByteArray.mk (l.set k c).toArray).size ≤ maxLen := by unfold maxLen; simp [ByteArray.size]; omega
  refine (sum_Open _ hsz3 _).mono ?_
  rintro e w3 ⟨rfl, hb3⟩
  rw [show (ByteArray.mk (l.set k c).toArray).data.toList = l.set k c by simp, Ho.out]
  go_wp2_with fail
  go_ret
  refine ⟨rfl, ?_⟩
  have h3 : Below w.heap.size w (w2.setCell ⟨w1.heap.size, k, none⟩ (.int .u8 c.toNat)) := ((bnext hb1 hb2)).setCell hb1.size _
  exact bnext h3 hb3
end Go.Proofs.Ytohkdoopechghaa
