/- Plain: what two offers agree on; the seed of two numbers; the program's dice and the reference's (law 35). -/
import Derived.Test.YtfepefohaadecaaOffL
import Derived.Laws.BitsAllLaws
namespace Go.Proofs.Ytfepefohaadecaa
open Go.RowKit
set_option maxRecDepth 10000
structure Cfg where
  seed : Int
  delay : Int
  window : Int
  me : Int
def Cfg.zero : Cfg := ⟨0, 0, 0, 0⟩
def nextV (s : Int) : Int := (s * 1664525 + 1013904223) % 4294967296
theorem nextV_in (s : Int) : 0 ≤ nextV s ∧ nextV s < 4294967296 := by unfold nextV; omega
def seedV (a b : Int) : Int := nextV (bits .xor .u32 (nextV a) b)
def agreeB (a b : Offer) : Bool := decide (max a.ld b.ld ≤ min a.md b.md) && decide (max a.lw b.lw ≤ min a.mw b.mw)
def cfgV (a b : Offer) (L : List Int) : Cfg :=
  ⟨seedV (max a.s b.s) (min a.s b.s), max (max a.ld b.ld) (min (delayV L) (min a.md b.md)), max (max a.lw b.lw) (min (windowV L) (min a.mw b.mw)), if a.s < b.s then 1 else 0⟩
def rightAll (a b : Offer) (L : List Int) : Prop := RightO a ∧ RightO b ∧ tripsB L = true
instance (a b : Offer) (L : List Int) : Decidable (rightAll a b L) := by unfold rightAll; infer_instance
def agrC (a b : Offer) (L : List Int) : Cfg := if rightAll a b L ∧ agreeB a b = true then cfgV a b L else Cfg.zero
def agrN (a b : Offer) (L : List Int) : Int := if rightAll a b L ∧ agreeB a b = true then min a.r b.r else 0
def agrE (a b : Offer) (L : List Int) : Int := if rightAll a b L then (if agreeB a b = true then 0 else 6) else 1
variable {w : World}
theorem dice_line (s : Int) (w : World) : Calls Try.prog 101 #[.agg #[.int .u32 1664525, .int .u32 1013904223], .int .u32 s] w fun e w' => e = .returned (.int .u32 (nextV s)) ∧ w.alloc (.cells #[.int .u32 1664525, .int .u32 1013904223] 166) = w' := by
  have h1 : (IntKind.u32.wrap (IntKind.u32.wrap (s * 1664525) + 1013904223)) = nextV s := by rw [wrap_u32, wrap_u32]; unfold nextV; omega
  have H1 := hid h1
  clear h1
  go_enter Try.func101, Try.ntmps101
  go_wp2
  go_ret
  exact ⟨by first | exact ret_int H1.out | (rw [← H1.out]; rfl), rfl⟩
theorem dice_Next (s : Int) (w : World) : Calls Try.prog 85 #[.int .u32 s] w fun e w' => e = .returned (.int .u32 (nextV s)) ∧ Below w.heap.size w w' := by
  have H := hid (fun W => dice_line s W)
  go_enter Try.func85, Try.ntmps85
  go_wp2_with fail
  refine (H.out _).mono ?_
  rintro e w1 ⟨rfl, rfl⟩
  go_wp2_with fail
  go_ret
  exact ⟨rfl, (Below.refl _ w).alloc (Nat.le_refl _) _⟩
theorem ref_Next (s : Int) (hs : 0 ≤ s ∧ s < 4294967296) (w : World) : Calls Try.prog 86 #[.int .u32 s] w fun e w' => e = .returned (.int .u32 (nextV s)) ∧ w = w' := by
  have h0 : IntKind.u64.wrap s = s := by rw [wrap_u64]; omega
  have h1 : IntKind.u64.wrap (1664525 * s) = 1664525 * s := by rw [wrap_u64]; omega
  have h2 : IntKind.u64.wrap (1664525 * s + 1013904223) = 1664525 * s + 1013904223 := by rw [wrap_u64]; omega
  have h3 : (1664525 * s + 1013904223).tmod 4294967296 = nextV s := by rw [Int.tmod_eq_emod_of_nonneg (by omega)]; unfold nextV; omega
  have h4 : (1664525 * s + 1013904223) % 4294967296 = nextV s := by unfold nextV; omega
  have hn := nextV_in s
  have h5 : IntKind.u32.wrap (nextV s) = nextV s := by rw [wrap_u32]; omega
  go_enter Try.func86, Try.ntmps86
  go_wp2
  go_ret
  exact ⟨by simp_all, rfl⟩
theorem xor_in (a b : Int) (ha : 0 ≤ a ∧ a < 4294967296) (hb : 0 ≤ b ∧ b < 4294967296) : 0 ≤ bits .xor .u32 a b ∧ bits .xor .u32 a b < 4294967296 := by
  rw [u32_xor a b ha.1 ha.2 hb.1 hb.2]
  have h : a.toNat ^^^ b.toNat < 2 ^ 32 := Nat.xor_lt_two_pow (by omega) (by omega)
  omega
theorem dice_Seed (a b : Int) (w : World) : Calls Try.prog 62 #[.int .u32 a, .int .u32 b] w fun e w' => e = .returned (.int .u32 (seedV a b)) ∧ Below w.heap.size w w' := by
  have H1 := hid (fun W => dice_Next a W)
  have H2 := hid (fun W => dice_Next (bits .xor .u32 (nextV a) b) W)
  have hs : seedV a b = nextV (bits .xor .u32 (nextV a) b) := rfl
  rw [hs]
  clear hs
  go_enter Try.func62, Try.ntmps62
  go_wp2_with fail
  refine (H1.out _).mono ?_
  rintro e w1 ⟨rfl, hb1⟩
  go_wp2_with fail
  refine (H2.out _).mono ?_
  rintro e w2 ⟨rfl, hb2⟩
  go_wp2_with fail
  go_ret
  exact ⟨rfl, bnext hb1 hb2⟩
theorem ref_Seed (a b : Int) (ha : 0 ≤ a ∧ a < 4294967296) (hb : 0 ≤ b ∧ b < 4294967296) (w : World) : Calls Try.prog 64 #[.int .u32 a, .int .u32 b] w fun e w' => e = .returned (.int .u32 (seedV a b)) ∧ w = w' := by
  have H1 := hid (fun W => ref_Next a ha W)
  have H2 := hid (fun W => ref_Next (bits .xor .u32 (nextV a) b) (xor_in _ _ (nextV_in a) hb) W)
  have hs : seedV a b = nextV (bits .xor .u32 (nextV a) b) := rfl
  rw [hs]
  clear hs ha hb
  go_enter Try.func64, Try.ntmps64
  go_wp2_with fail
  refine (H1.out _).mono ?_
  rintro e w1 ⟨rfl, rfl⟩
  go_wp2_with fail
  refine (H2.out _).mono ?_
  rintro e w2 ⟨rfl, rfl⟩
  go_wp2_with fail
  go_ret
  exact ⟨rfl, rfl⟩
theorem lob_both (a b c d : Int) (w : World) : Calls Try.prog 61 #[.int .i64 a, .int .i64 b, .int .i64 c, .int .i64 d] w fun e w' => e = .returned (.tuple #[.int .i64 (max a c), .int .i64 (min b d), .bool (decide (max a c ≤ min b d))]) ∧ w = w' := by
  go_enter Try.func61, Try.ntmps61
  go_wp2
  go_ret3
  exact ⟨rfl, rfl⟩
theorem ref_Hold (n l m r : Int) (hr : r = if m < n then (if m < l then l else m) else (if n < l then l else n)) (w : World) : Calls Try.prog 63 #[.int .i64 n, .int .i64 l, .int .i64 m] w fun e w' => e = .returned (.int .i64 r) ∧ w = w' := by
  by_cases h1 : m < n
  · by_cases h2 : m < l
    · rw [if_pos h1, if_pos h2] at hr
      subst hr
      go_enter Try.func63, Try.ntmps63
      go_wp2
      go_ret
      exact ⟨rfl, rfl⟩
    · rw [if_pos h1, if_neg h2] at hr
      subst hr
      go_enter Try.func63, Try.ntmps63
      go_wp2
      go_ret
      exact ⟨rfl, rfl⟩
  · by_cases h2 : n < l
    · rw [if_neg h1, if_pos h2] at hr
      subst hr
      go_enter Try.func63, Try.ntmps63
      go_wp2
      go_ret
      exact ⟨rfl, rfl⟩
    · rw [if_neg h1, if_neg h2] at hr
      subst hr
      go_enter Try.func63, Try.ntmps63
      go_wp2
      go_ret
      exact ⟨rfl, rfl⟩
end Go.Proofs.Ytfepefohaadecaa
