/- What the reference's comparing of two lists of integers returns. -/
import Derived.Test.YtnkiofeomejjjaaRefRing
namespace Go.Proofs.Ytnkiofeomejjjaa
open Go.RowKit
theorem ints_at {w : World} {a : Option Addr} {cap : Nat} {L : List Int} (h : Vals w 1 a L.length cap (ints L)) (hn : 0 < L.length) : ∃ b o, a = some ⟨b, o, none⟩ ∧ ∀ k (hk : k < L.length), w.cell? ⟨b, o + k, none⟩ = some (.int .i64 L[k]) := by
  obtain ⟨b, o, e, hc⟩ := h.at' hn
  exact ⟨b, o, e, fun k hk => hc k _ (ints_get L k hk)⟩
theorem ref_Ints (w : World) (a b : Option Addr) (n m ca cb : Nat) (L M : List Int) (hn : n = L.length) (hm : m = M.length) (hL : Vals w 1 a L.length ca (ints L)) (hM : Vals w 1 b M.length cb (ints M)) :
    Calls Try.prog 11 #[.slice a n ca, .slice b m cb] w fun e w' => e = .returned (.bool (decide (L = M))) ∧ ∃ q, w' = w.drewN q := by
  subst hn hm
  have hl1 : L.length ≤ 9223372036854775807 := Nat.le_trans hL.2.1 hL.2.2.1
  have hl2 : M.length ≤ 9223372036854775807 := Nat.le_trans hM.2.1 hM.2.2.1
  go_enter Try.func11, Try.ntmps11
  by_cases hlen : L.length = M.length
  · have hq : ((L.length : Int) == (M.length : Int)) = true := by rw [beq_iff_eq]; omega
    have Hlen := hid hlen
    clear hlen
    go_wp2
    go_loopw [5] (fun i wr => ∃ k q : Nat, k ≤ L.length ∧ i = .int .i64 k ∧ w.drewN q = wr ∧ Hid (∀ j (h1 : j < L.length) (h2 : j < M.length), j < k → L[j] = M[j])) (fun i _ => L.length - (intOf i).toNat)
    case atStart => exact ⟨0, 0, Nat.zero_le _, rfl, rfl, fun _ _ _ h => absurd h (Nat.not_lt_zero _)⟩
    case round =>
      obtain ⟨k, q, hk, rfl, rfl, hall⟩ := hrel
      by_cases hlt : k < L.length
      · have hlm : k < M.length := by have := Hlen.out; omega
        obtain ⟨b1, o1, rfl, hc1⟩ := ints_at hL (by omega)
        obtain ⟨b2, o2, rfl, hc2⟩ := ints_at hM (by omega)
        have hk1 : w.cell? ⟨b1, o1 + k, none⟩ = some (.int .i64 L[k]) := hc1 k hlt
        have hk2 : w.cell? ⟨b2, o2 + k, none⟩ = some (.int .i64 M[k]) := hc2 k hlm
        clear hc1 hc2
        by_cases he : L[k] = M[k]
        · have hq2 : (L[k] == M[k]) = true := by rw [beq_iff_eq, he]
          have He := hid he
          clear he
          go_wp2
          go_quiet (fail)
          go_wp2
          go_roundw
          case rel => exact ⟨k + 1, q + nq, by omega, by go_num, rfl, fun j h1 h2 h3 => by
            by_cases e : j = k
            · subst e; exact He.out
            · exact hall j h1 h2 (by omega)⟩
          case measure => simp [intOf]; omega
        · have hq2 : (L[k] == M[k]) = false := by
            rw [beq_eq_false_iff_ne]
            exact he
          have hfin : decide (L = M) = false := by
            rw [decide_eq_false_iff_not]
            intro h
            subst h
            exact he rfl
          have Hfin := hid hfin
          clear he hfin
          go_wp2
          go_quiet (fail)
          go_wp2
          go_ret
          exact ⟨by rw [Hfin.out]; rfl, q + nq, by simp [World.drewN, Nat.add_assoc]⟩
      · have hfin : decide (L = M) = true := by
          rw [decide_eq_true_eq]
          exact List.ext_getElem Hlen.out fun j h1 h2 => hall j h1 h2 (by omega)
        have Hfin := hid hfin
        clear hfin
        go_wp2
        go_ret
        exact ⟨by rw [Hfin.out]; rfl, q, rfl⟩
  · have hq : ((L.length : Int) == (M.length : Int)) = false := by rw [beq_eq_false_iff_ne]; omega
    have hfin : decide (L = M) = false := by
      rw [decide_eq_false_iff_not]
      intro h
      exact hlen (congrArg _ h)
    have Hfin := hid hfin
    clear hlen hfin
    go_wp2
    go_ret
    exact ⟨by rw [Hfin.out]; rfl, 0, rfl⟩
end Go.Proofs.Ytnkiofeomejjjaa
