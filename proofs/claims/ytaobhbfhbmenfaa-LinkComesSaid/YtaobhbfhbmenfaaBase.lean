/- Small plain facts on integers that the walks of this seat use. -/
import Derived.WalkKit
import Derived.WalkLawsBesides
import Derived.WalkSpells
import Derived.ProofKit
import Derived.OpenShut
import Derived.ShutString
import Derived.Outline
namespace Go.Proofs.Ytaobhbfhbmenfaa
open Go.RowKit
theorem hid {p : Prop} (h : p) : Hid p := h
def strLen : Value → Nat | .string t => t.size | _ => 0
theorem take_snoc (s : ByteArray) (k : Nat) (h : k < s.size) : s.data.toList.take (k + 1) = s.data.toList.take k ++ [s[k]] := by
  rw [List.take_succ_eq_append_getElem (by simpa using h)]; rfl
theorem extract_data (s : ByteArray) (a b : Nat) : (s.extract a b).data.toList = (s.data.toList.drop a).take (b - a) := by
  rw [ByteArray.data_extract]
  simp [List.extract_eq_take_drop]
theorem extract_end (s : ByteArray) (a : Nat) : (s.extract a s.size).data.toList = s.data.toList.drop a := by
  rw [extract_data, List.take_of_length_le]
  simp
theorem wrap_u16 (n : Int) : IntKind.u16.wrap n = n % 65536 := by simp [IntKind.wrap, IntKind.bits, IntKind.signed]
theorem wrap_u8 (n : Int) : IntKind.u8.wrap n = n % 256 := by simp [IntKind.wrap, IntKind.bits, IntKind.signed]
theorem wrap_u32 (n : Int) : IntKind.u32.wrap n = n % 4294967296 := by simp [IntKind.wrap, IntKind.bits, IntKind.signed]
theorem wrap_u64 (n : Int) : IntKind.u64.wrap n = n % 18446744073709551616 := by simp [IntKind.wrap, IntKind.bits, IntKind.signed]
theorem wrap_i16 (n : Int) : IntKind.i16.wrap n = (n + 32768) % 65536 - 32768 := by
  simp only [IntKind.wrap, IntKind.bits, IntKind.signed]; simp; split <;> omega
theorem ret_int {k : IntKind} {a b : Int} (h : a = b) : Ending.returned (.int k a) = .returned (.int k b) := by rw [h]
theorem ret_bool {a b : Bool} (h : a = b) : Ending.returned (.bool a) = .returned (.bool b) := by rw [h]
theorem ret_two {a b a' b' : Value} (h : a = a') (h' : b = b') : Ending.returned (.tuple #[a, b]) = .returned (.tuple #[a', b']) := by rw [h, h']
theorem val_int {k : IntKind} {a b : Int} (h : a = b) : Value.int k a = .int k b := by rw [h]
/-- an index made of whatever number: 'int(uint(at) % uint(n))' -/
theorem pick_index (x : Int) (n : Nat) (hn : 0 < n) (hm : n ≤ 9223372036854775807) : ∃ k : Nat, k < n ∧ wrap64 ((IntKind.u64.wrap x).tmod (n : Int)) = (k : Int) := by
  rw [wrap_u64, Int.tmod_eq_emod_of_nonneg (by omega)]
  generalize hy : x % 18446744073709551616 = y
  have h0 : 0 ≤ y % (n : Int) := Int.emod_nonneg _ (by omega)
  have h1 : y % (n : Int) < n := Int.emod_lt_of_pos _ (by omega)
  refine ⟨(y % (n : Int)).toNat, by omega, ?_⟩
  unfold wrap64
  omega
/-- what holds of memory behind one call, and behind the next -/
theorem bnext {w a b : World} (h : Below w.heap.size w a) (k : Below a.heap.size a b) : Below w.heap.size w b := h.trans (k.mono h.size)
theorem addr_add (b o i : Nat) : (⟨b, o, none⟩ : Addr).add i = ⟨b, o + i, none⟩ := by unfold Addr.add; split <;> simp_all
theorem tmod_cases (a m : Int) : (0 ≤ a → a.tmod m = a % m) ∧ (a < 0 → a.tmod m = -((-a) % m)) :=
  ⟨fun h => Int.tmod_eq_emod_of_nonneg h, fun h => by rw [← Int.tmod_eq_emod_of_nonneg (a := -a) (by omega), Int.neg_tmod, Int.neg_neg]⟩
end Go.Proofs.Ytaobhbfhbmenfaa
