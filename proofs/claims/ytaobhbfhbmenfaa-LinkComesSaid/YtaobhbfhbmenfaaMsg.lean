/- What telling datagrams alike, and whether they may be, returns. -/
import Derived.Test.YtaobhbfhbmenfaaMsgM
import Derived.Test.YtaobhbfhbmenfaaEqB
import Derived.Test.YtaobhbfhbmenfaaRun
namespace Go.Proofs.Ytaobhbfhbmenfaa
open Go.RowKit
theorem below_drewM {B : Nat} {a w : World} (h : Below B a w) (n : Nat) : Below B a (w.drewN n) := h.trans ⟨rfl, rfl, rfl, Nat.le_refl _, fun _ _ => rfl⟩
theorem wire_names (k : Int) (w : World) : Calls Try.prog 44 #[.int .i64 k] w fun e w' => e = .returned (.int .i64 (namesK k)) ∧ w = w' := by
  unfold namesK
  by_cases h1 : k = 1
  · subst h1
    go_enter Try.func44, Try.ntmps44
    go_wp2
    go_ret
    exact ⟨rfl, rfl⟩
  by_cases h2 : k = 2
  · subst h2
    go_enter Try.func44, Try.ntmps44
    go_wp2
    go_ret
    exact ⟨rfl, rfl⟩
  by_cases h3 : k = 3
  · subst h3
    go_enter Try.func44, Try.ntmps44
    go_wp2
    go_ret
    exact ⟨rfl, rfl⟩
  by_cases h4 : k = 4
  · subst h4
    go_enter Try.func44, Try.ntmps44
    go_wp2
    go_ret
    exact ⟨rfl, rfl⟩
  by_cases h5 : k = 5
  · subst h5
    go_enter Try.func44, Try.ntmps44
    go_wp2
    go_ret
    exact ⟨rfl, rfl⟩
  by_cases h6 : k = 6
  · subst h6
    go_enter Try.func44, Try.ntmps44
    go_wp2
    go_ret
    exact ⟨rfl, rfl⟩
  have q1 : (k == 1) = false := by rw [beq_eq_false_iff_ne]; exact h1
  have q2 : (k == 2) = false := by rw [beq_eq_false_iff_ne]; exact h2
  have q3 : (k == 3) = false := by rw [beq_eq_false_iff_ne]; exact h3
  have q4 : (k == 4) = false := by rw [beq_eq_false_iff_ne]; exact h4
  have q5 : (k == 5) = false := by rw [beq_eq_false_iff_ne]; exact h5
  have q6 : (k == 6) = false := by rw [beq_eq_false_iff_ne]; exact h6
  rw [if_neg (by omega), if_neg h3, if_neg h4, if_neg h5, if_neg h6]
  clear h1 h2 h3 h4 h5 h6
  go_enter Try.func44, Try.ntmps44
  go_wp2
  go_ret
  exact ⟨rfl, rfl⟩
variable {w : World} {a b : Msg} {aa ab : Option Addr} {ca cb : Nat}
set_option maxHeartbeats 1000000 in
theorem wire_Same (hA : IsBytes w aa ca a.ins) (hB : IsBytes w ab cb b.ins) :
    Calls Try.prog 69 #[(.agg #[.int .i64 a.kind, .int .u32 a.nonce, .int .u16 a.serial, .int .u16 a.ack, .slice aa a.ins.length ca, .int .u32 a.sum, .int .i64 a.lead]), (.agg #[.int .i64 b.kind, .int .u32 b.nonce, .int .u16 b.serial, .int .u16 b.ack, .slice ab b.ins.length cb, .int .u32 b.sum, .int .i64 b.lead])] w fun e w' => e = .returned (.bool (sameM a b)) ∧ Below w.heap.size w w' := by
  have hs : sameM a b = (decide (a.kind = b.kind) && decide (a.nonce = b.nonce) && decide (a.serial = b.serial) && decide (a.ack = b.ack) && decide (a.ins = b.ins) && decide (a.sum = b.sum) && decide (a.lead = b.lead)) := rfl
  have hA' := hid (hA.keeps (((Keeps.refl (fun _ => False) w).alloc (.cells #[.int .i64 a.kind, .int .u32 a.nonce, .int .u16 a.serial, .int .u16 a.ack, .slice aa a.ins.length ca, .int .u32 a.sum, .int .i64 a.lead] 49)).alloc (.cells #[.int .i64 b.kind, .int .u32 b.nonce, .int .u16 b.serial, .int .u16 b.ack, .slice ab b.ins.length cb, .int .u32 b.sum, .int .i64 b.lead] 49)) (fun _ _ _ => id))
  have hB' := hid (hB.keeps (((Keeps.refl (fun _ => False) w).alloc (.cells #[.int .i64 a.kind, .int .u32 a.nonce, .int .u16 a.serial, .int .u16 a.ack, .slice aa a.ins.length ca, .int .u32 a.sum, .int .i64 a.lead] 49)).alloc (.cells #[.int .i64 b.kind, .int .u32 b.nonce, .int .u16 b.serial, .int .u16 b.ack, .slice ab b.ins.length cb, .int .u32 b.sum, .int .i64 b.lead] 49)) (fun _ _ _ => id))
  by_cases h1 : a.kind = b.kind
  rotate_left
  · have hq : (a.kind == b.kind) = false := by rw [beq_eq_false_iff_ne]; exact h1
    have Hfin := hid (show sameM a b = false by simp [hs, h1])
    clear h1 hs
    go_enter Try.func69, Try.ntmps69
    go_wp2_with fail
    go_ret
    exact ⟨ret_bool (by rw [Hfin.out]), ((Below.refl _ w).alloc (Nat.le_refl _) _).alloc (by simp) _⟩
  have q1 : (a.kind == b.kind) = true := by rw [beq_iff_eq]; exact h1
  by_cases h2 : a.nonce = b.nonce
  rotate_left
  · have hq : (a.nonce == b.nonce) = false := by rw [beq_eq_false_iff_ne]; exact h2
    have Hfin := hid (show sameM a b = false by simp [hs, h2])
    clear h1 h2 hs
    go_enter Try.func69, Try.ntmps69
    go_wp2_with fail
    go_ret
    exact ⟨ret_bool (by rw [Hfin.out]), ((Below.refl _ w).alloc (Nat.le_refl _) _).alloc (by simp) _⟩
  have q2 : (a.nonce == b.nonce) = true := by rw [beq_iff_eq]; exact h2
  by_cases h3 : a.serial = b.serial
  rotate_left
  · have hq : (a.serial == b.serial) = false := by rw [beq_eq_false_iff_ne]; exact h3
    have Hfin := hid (show sameM a b = false by simp [hs, h3])
    clear h1 h2 h3 hs
    go_enter Try.func69, Try.ntmps69
    go_wp2_with fail
    go_ret
    exact ⟨ret_bool (by rw [Hfin.out]), ((Below.refl _ w).alloc (Nat.le_refl _) _).alloc (by simp) _⟩
  have q3 : (a.serial == b.serial) = true := by rw [beq_iff_eq]; exact h3
  by_cases h4 : a.ack = b.ack
  rotate_left
  · have hq : (a.ack == b.ack) = false := by rw [beq_eq_false_iff_ne]; exact h4
    have Hfin := hid (show sameM a b = false by simp [hs, h4])
    clear h1 h2 h3 h4 hs
    go_enter Try.func69, Try.ntmps69
    go_wp2_with fail
    go_ret
    exact ⟨ret_bool (by rw [Hfin.out]), ((Below.refl _ w).alloc (Nat.le_refl _) _).alloc (by simp) _⟩
  have q4 : (a.ack == b.ack) = true := by rw [beq_iff_eq]; exact h4
  have hfin : sameM a b = (decide (a.ins = b.ins) && (a.sum == b.sum) && (a.lead == b.lead)) := by
    rw [hs]
    simp [h1, h2, h3, h4]
    rfl
  have Hfin := hid hfin
  clear h1 h2 h3 h4 hs hfin
  by_cases h5 : decide (a.ins = b.ins) = true
  · rw [h5] at Hfin
    by_cases h6 : (a.sum == b.sum) = true
    · rw [h6] at Hfin
      go_enter Try.func69, Try.ntmps69
      go_wp2_with fail
      refine (eq_bytes _ _ _ _ _ a.ins b.ins hA'.out hB'.out).mono ?_
      rintro e w' ⟨rfl, q, rfl⟩
      go_wp2_with fail
      go_ret
      exact ⟨ret_bool (by rw [Hfin.out]; simp), below_drewM (((Below.refl _ w).alloc (Nat.le_refl _) _).alloc (by simp) _) _⟩
    · have h6' : (a.sum == b.sum) = false := by simpa using h6
      rw [h6'] at Hfin
      clear h6
      go_enter Try.func69, Try.ntmps69
      go_wp2_with fail
      refine (eq_bytes _ _ _ _ _ a.ins b.ins hA'.out hB'.out).mono ?_
      rintro e w' ⟨rfl, q, rfl⟩
      go_wp2_with fail
      go_ret
      exact ⟨ret_bool (by rw [Hfin.out]; simp), below_drewM (((Below.refl _ w).alloc (Nat.le_refl _) _).alloc (by simp) _) _⟩
  · have h5' : decide (a.ins = b.ins) = false := by simpa using h5
    rw [h5'] at Hfin
    clear h5
    go_enter Try.func69, Try.ntmps69
    go_wp2_with fail
    refine (eq_bytes _ _ _ _ _ a.ins b.ins hA'.out hB'.out).mono ?_
    rintro e w' ⟨rfl, q, rfl⟩
    go_wp2_with fail
    go_ret
    exact ⟨ret_bool (by rw [Hfin.out]; simp), below_drewM (((Below.refl _ w).alloc (Nat.le_refl _) _).alloc (by simp) _) _⟩
end Go.Proofs.Ytaobhbfhbmenfaa
