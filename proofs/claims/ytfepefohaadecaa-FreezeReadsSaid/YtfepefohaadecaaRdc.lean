/- freeze: the codec that reads, at a whole state. -/
import Derived.Test.YtfepefohaadecaaRdr
import Derived.Test.YtfepefohaadecaaPck
namespace Go.Proofs.Ytfepefohaadecaa
open Go.RowKit
set_option maxRecDepth 10000
variable {w : World}
def rdC (r : Nat) : Codec (ByteArray × Bool) where
  T := 87
  r := r
  fN := 165
  fS := 166
  St q _ w := IsRd w r q ∧ q.1.size ≤ maxLen
  nF q _ := rdN q
  sF q _ := rdS q
  okN _ := True
theorem rnil_num (r : Nat) (w : World) : (nilAhead 390 87 (.pointer (some ⟨r, 0, none⟩)) "promptbook/freeze.number").run Try.prog w = .ok (some false) w := by kernel_rfl
theorem rnil_sgn (r : Nat) (w : World) : (nilAhead 390 87 (.pointer (some ⟨r, 0, none⟩)) "promptbook/freeze.signed").run Try.prog w = .ok (some false) w := by kernel_rfl
theorem rmet_num (r : Nat) (w : World) : (method 390 87 (.pointer (some ⟨r, 0, none⟩)) "promptbook/freeze.number").run Try.prog w = .ok (165, .pointer (some ⟨r, 0, none⟩)) w := by kernel_rfl
theorem rmet_sgn (r : Nat) (w : World) : (method 390 87 (.pointer (some ⟨r, 0, none⟩)) "promptbook/freeze.signed").run Try.prog w = .ok (166, .pointer (some ⟨r, 0, none⟩)) w := by kernel_rfl
theorem rent_num (x y : Value) (w : World) : (callFunc 165 #[x, y]).run Try.prog w = .ok (.enter 165 #[x, y]) w := by kernel_rfl
theorem rent_sgn (x y : Value) (w : World) : (callFunc 166 #[x, y]).run Try.prog w = .ok (.enter 166 #[x, y]) w := by kernel_rfl
theorem mkI_rd (x : Value) (w : World) : (Instr.makeInterface 87 x).run Try.prog w = .ok (.iface 87 x) w := run_makeInterface w 87 x (by kernel_rfl)
theorem extract_le (R : ByteArray) (k : Nat) : (R.extract k R.size).size ≤ R.size := by simp
theorem w64_in (n : Int) : fitsI .i64 (wrap64 n) := by
  show -9223372036854775808 ≤ wrap64 n ∧ wrap64 n ≤ 9223372036854775807
  unfold wrap64
  omega
theorem w32_in (n : Int) : fitsI .i32 (wrap32 n) := by
  show -2147483648 ≤ wrap32 n ∧ wrap32 n ≤ 2147483647
  unfold wrap32
  omega
theorem rdC_right (r : Nat) : (rdC r).Right where
  aN := rnil_num r
  aS := rnil_sgn r
  mN := rmet_num r
  mS := rmet_sgn r
  eN := rent_num
  eS := rent_sgn
  keeps h hk hr := ⟨hk.heap h.1 hr, h.2⟩
  less h := h
  there h := blk_lt h.1
  num := by
    intro q k B o cs t n w h hB hne hc hf ho
    obtain ⟨R, bad⟩ := q
    refine (rd_number r B o R bad cs t n h.1 h.2 hB hne hc).mono ?_
    rintro e w' ⟨rfl, h3, h4, h5⟩
    exact ⟨rfl, ⟨h3, Nat.le_trans (extract_le R _) h.2⟩, h4, h5⟩
  sgn := by
    intro q k B o cs t n w h hB hne hc hf
    obtain ⟨R, bad⟩ := q
    refine (rd_signed r B o R bad cs t n h.1 h.2 hB hne hc).mono ?_
    rintro e w' ⟨rfl, h3, h4, h5⟩
    exact ⟨rfl, ⟨h3, Nat.le_trans (extract_le R _) h.2⟩, h4, h5⟩
  fN64 _ _ _ := w64_in _
  ok _ _ _ _ := trivial
  okB _ _ := trivial
  okW _ _ _ _ := trivial
  fS32 _ _ _ := w32_in _
theorem rd_steps (r : Nat) (p : (ByteArray × Bool) × (Nat → Int)) (l : List Nat) : (rdC r).steps p l = (rdC 0).steps p l := rfl
theorem rd_loop (r : Nat) (y : Int) (p : (ByteArray × Bool) × (Nat → Int)) : ∀ j, shoLoop (rdC r) y p j = shoLoop (rdC 0) y p j
  | 0 => rfl
  | j + 1 => by
    unfold shoLoop
    rw [rd_loop r y p j, rd_steps]
theorem rd_state (r : Nat) (p : (ByteArray × Bool) × (Nat → Int)) : stateF (rdC r) p = stateF (rdC 0) p := by
  unfold stateF
  rw [rd_loop, rd_steps]
  rfl
def zeroV : Nat → Int := fun _ => 0
/-- what is read of bytes: what is left, whether one was bad; the numbers -/
def readS (t : ByteArray) : (ByteArray × Bool) × (Nat → Int) := stateF (rdC 0) ((t, false), zeroV)
theorem zero_fits (k : IntKind) : fitsI k 0 := by
  unfold fitsI
  cases k <;> simp
end Go.Proofs.Ytfepefohaadecaa
