/- What the reference's Run, and Same, return; what pack.Run returns of no run. -/
import Derived.Test.YtaobhbfhbmenfaaRunT
import Derived.Test.YtaobhbfhbmenfaaRun
import Derived.Test.YtaobhbfhbmenfaaRelAt
namespace Go.Proofs.Ytaobhbfhbmenfaa
open Go.RowKit
set_option maxRecDepth 10000
theorem pack_Run_no (w : World) (a : Option Addr) (cap : Nat) (L : List UInt8) (h : IsBytes w a cap L) (hf : fits L = false) :
    Calls Try.prog 56 #[.slice a L.length cap] w fun e w' => e = .returned (.tuple #[.string ⟨#[]⟩, .int .i64 1]) ∧ Below w.heap.size w w' := by
  go_enter Try.func56, Try.ntmps56
  go_wp2_with fail
  refine (pack_Fits w a cap L h).mono ?_
  rintro e w' ⟨rfl, rfl⟩
  rw [hf]
  go_wp2_with fail
  go_ret2
  exact ⟨rfl, Below.refl _ _⟩
theorem ref_Same (w : World) (a b : Option Addr) (ca cb : Nat) (L M : List UInt8) (hL : IsBytes w a ca L) (hM : IsBytes w b cb M) :
    Calls Try.prog 15 #[.slice a L.length ca, .slice b M.length cb] w fun e w' => e = .returned (.bool (decide (L = M))) ∧ ∃ q, w.drewN q = w' := by
  have hl1 : L.length ≤ 9223372036854775807 := Nat.le_trans hL.1 hL.2.1
  have hl2 : M.length ≤ 9223372036854775807 := Nat.le_trans hM.1 hM.2.1
  go_enter Try.func15, Try.ntmps15
  by_cases hlen : L.length = M.length
  · have hq : ((L.length : Int) == (M.length : Int)) = true := by rw [beq_iff_eq]; omega
    have Hlen := hid hlen
    clear hlen
    go_wp2
    go_loopw [5] (fun i wr => ∃ k q : Nat, k ≤ L.length ∧ i = .int .i64 k ∧ w.drewN q = wr ∧ Hid (∀ j (h1 : j < L.length) (h2 : j < M.length), j < k → L[j] = M[j])) (fun i _ => L.length - (intOf i).toNat)
    case atStart => exact ⟨0, 0, Nat.zero_le _, rfl, rfl, fun _ _ _ h => absurd h (Nat.not_lt_zero _)⟩
    case round =>
      obtain ⟨k, q, hk, rfl, rfl, hall⟩ := hrel
      by_cases hlt : k < L.length
      · have hlm : k < M.length := by have := Hlen.out; omega
        obtain ⟨b1, o1, rfl, hc1⟩ := hL.at' (by intro e; rw [e] at hlt; simp at hlt)
        obtain ⟨b2, o2, rfl, hc2⟩ := hM.at' (by intro e; rw [e] at hlm; simp at hlm)
        have hk1 : w.cell? ⟨b1, o1 + k, none⟩ = some (.int .u8 L[k].toNat) := hc1 k hlt
        have hk2 : w.cell? ⟨b2, o2 + k, none⟩ = some (.int .u8 M[k].toNat) := hc2 k hlm
        clear hc1 hc2
        by_cases he : L[k] = M[k]
        · have hq2 : ((L[k].toNat : Int) == (M[k].toNat : Int)) = true := by rw [beq_iff_eq, he]
          have He := hid he
          clear he
          go_wp2
          go_quiet (fail)
          go_wp2
          go_roundw
          case rel => exact ⟨k + 1, q + nq, by omega, by go_num, rfl, fun j h1 h2 h3 => by
            by_cases e : j = k
            · subst e; exact He.out
            · exact hall j h1 h2 (by omega)⟩
          case measure => simp [intOf]; omega
        · have hq2 : ((L[k].toNat : Int) == (M[k].toNat : Int)) = false := by
            rw [beq_eq_false_iff_ne]
            intro h
            exact he (UInt8.toNat_inj.1 (by omega))
          have hfin : decide (L = M) = false := by
            rw [decide_eq_false_iff_not]
            intro h
            subst h
            exact he rfl
          have Hfin := hid hfin
          clear he hfin
          go_wp2
          go_quiet (fail)
          go_wp2
          go_ret
          exact ⟨by rw [Hfin.out]; rfl, q + nq, by simp [World.drewN, Nat.add_assoc]⟩
      · have hfin : decide (L = M) = true := by
          rw [decide_eq_true_eq]
          exact List.ext_getElem Hlen.out fun j h1 h2 => hall j h1 h2 (by omega)
        have Hfin := hid hfin
        clear hfin
        go_wp2
        go_ret
        exact ⟨by rw [Hfin.out]; rfl, q, rfl⟩
  · have hq : ((L.length : Int) == (M.length : Int)) = false := by rw [beq_eq_false_iff_ne]; omega
    have hfin : decide (L = M) = false := by
      rw [decide_eq_false_iff_not]
      intro h
      exact hlen (congrArg _ h)
    have Hfin := hid hfin
    clear hlen hfin
    go_wp2
    go_ret
    exact ⟨by rw [Hfin.out]; rfl, 0, rfl⟩
/-- what the operations of the region hand back -/
def runT (b o n cap k f : Nat) (c : UInt8) (S : List UInt8) (i : Nat) (v : Value) (w : World) : Prop :=
  match i with
  | 0 => v = .string ⟨S.toArray⟩
  | 1 => v = .slice (some ⟨b, o, none⟩) n cap
  | 2 => v = .int .i64 k
  | 3 => v = .pointer (some ⟨b, o + k, none⟩)
  | 4 => v = .int .u8 c.toNat
  | 5 => ∃ B, v = .slice (some ⟨B, 0, none⟩) 1 1 ∧ w.cell? ⟨B, 0, none⟩ = some (.int .u8 c.toNat)
  | 6 => v = .string ⟨#[c]⟩
  | 7 => v = .string ⟨(S ++ [c]).toArray⟩
  | 8 => v = .int .i64 k
  | 9 => v = .int .i64 ((k : Int) + 1)
  | 10 => v = .int .i64 f
  | 11 => v = .int .i64 ((k + 1 - f : Nat) : Int)
  | 12 => v = .int .u64 ((k + 1 - f : Nat) : Int)
  | 13 => v = .string ⟨(num (k + 1 - f)).toArray⟩
  | 14 => v = .string ⟨(S ++ c :: num (k + 1 - f)).toArray⟩
  | _ => True
theorem runT_keeps {b o n cap k f : Nat} {c : UInt8} {S : List UInt8} {w w' : World} (h : Keeps (fun _ => False) w w') (i : Nat) (v : Value) (hr : runT b o n cap k f c S i v w) : runT b o n cap k f c S i v w' := by
  match i, hr with
  | 5, ⟨B, h1, h2⟩ => exact ⟨B, h1, h.cell h2 id⟩
  | 0, hr | 1, hr | 2, hr | 3, hr | 4, hr | 6, hr | 7, hr | 8, hr | 9, hr | 10, hr | 11, hr | 12, hr | 13, hr | 14, hr => exact hr
  | _ + 15, _ => trivial
set_option maxHeartbeats 800000 in
theorem ref_Run (w : World) (a : Option Addr) (cap : Nat) (L : List UInt8) (h : IsBytes w a cap L) (hl64 : L.length ≤ 64) :
    Calls Try.prog 35 #[.slice a L.length cap] w fun e w' => e = .returned (.string ⟨(runBytes L).toArray⟩) ∧ Below w.heap.size w w' := by
  have hm : L.length ≤ 9223372036854775807 := Nat.le_trans h.1 h.2.1
  have hn2 : L.length < two64 := by unfold two64; omega
  have hwl : IntKind.u64.wrap (L.length : Int) = (L.length : Int) := u64_nat _ hn2
  have Hn2 := hid hn2
  clear hn2
  go_enter Try.func35, Try.ntmps35
  go_wp2_with fail
  refine (ref_Number L.length Hn2.out _).mono ?_
  rintro e w1 ⟨rfl, hb1⟩
  go_wp2_with fail
  go_loopw [3, 4, 5] (fun s f i wr => ∃ (k f' : Nat) (pre : List (UInt8 × Nat)), k ≤ L.length ∧ f' ≤ k ∧ i = .int .i64 k ∧ f = .int .i64 f' ∧ s = .string ⟨(num L.length ++ runsBytes pre).toArray⟩ ∧ runs L = pre ++ runs (L.drop f') ∧ Hid (k = L.length → f' = k) ∧ Hid (∀ j (h1 : j < L.length) (h2 : k < L.length), f' ≤ j → j ≤ k → L[j] = L[k]) ∧ Below w.heap.size w wr)
    (fun _ _ i _ => L.length - (intOf i).toNat)
  case atStart => exact ⟨0, 0, [], Nat.zero_le _, Nat.le_refl _, rfl, rfl, by simp [runsBytes], by simp, fun _ => rfl, fun j _ _ _ h => by cases Nat.le_zero.1 h; rfl, hb1⟩
  case round =>
    obtain ⟨k, f, pre, hk, hf, rfl, rfl, rfl, hpre, hkf, hal, hb⟩ := hrel
    have hpl := pre_len L hl64 pre _ hpre
    have Hpre := hid hpre
    clear hpre
    by_cases hlt : k < L.length
    · have hLr : IsBytes wr a cap L := h.keeps (S := fun k => w.heap.size ≤ k) (Keeps.of_below hb (fun _ _ h => h)) (fun hne x hx hge => absurd (h.lt hne x hx) (Nat.not_lt.2 hge))
      obtain ⟨b, o, rfl, hc⟩ := hLr.at' (by intro e; rw [e] at hlt; simp at hlt)
      have hck : wr.cell? ⟨b, o + k, none⟩ = some (.int .u8 L[k].toNat) := hc k hlt
      by_cases hlast : k + 1 = L.length
      · have hcut := run_cut L f k hf hlt (fun j hj h1 h2 => hal j hj hlt h1 h2) (fun h => by omega)
        have hq : ((k : Int) == (L.length : Int) - 1) = true := by rw [beq_iff_eq]; omega
        clear hc hlast
        have hN : k + 1 - f < two64 := by unfold two64; omega
        have hw9 : IntKind.i64.wrap ((k : Int) + 1) = (k : Int) + 1 := IntWalk.i64_in _ (by omega)
        have hw11 : IntKind.i64.wrap ((k : Int) + 1 - (f : Int)) = ((k + 1 - f : Nat) : Int) := (IntWalk.i64_in _ (by omega)).trans (by omega)
        have hw12 : IntKind.u64.wrap ((k + 1 - f : Nat) : Int) = ((k + 1 - f : Nat) : Int) := u64_nat _ hN
        have Hcut := hid hcut
        clear hcut hal
        generalize L[k] = c at *
        generalize hS : num L.length ++ runsBytes pre = S at *
        have HS := hid hS
        have hnl := num_len10 _ hN
        clear hS
        go_wp2
        try (go_quiet (fail); go_wp2)
        refine region_at 33 15 (by kernel_rfl) (by kernel_rfl) (Keeps (fun _ => False) wr) (runT b o L.length cap k f c S) ?hC ?hrun ?hfin
        case hC => exact ((Keeps.refl _ wr).drewN _).drew
        case hrun =>
          intro i o' vals W hi ho hC hd
          have hcW : W.cell? ⟨b, o + k, none⟩ = some (.int .u8 c.toNat) := hC.cell hck id
          match i, hi, ho, hd with
          | 0, _, ho, hd =>
            obtain rfl := Option.some.inj ho
            clear hd
            simp only [relAct, fillL]
            go_simp
            exact ⟨_, by first | (simp [upd]; done) | (simp [upd]; rfl), rfl⟩
          | 1, _, ho, hd =>
            obtain rfl := Option.some.inj ho
            clear hd
            simp only [relAct, fillL]
            go_simp
            exact ⟨_, by first | (simp [upd]; done) | (simp [upd]; rfl), rfl⟩
          | 2, _, ho, hd =>
            obtain rfl := Option.some.inj ho
            clear hd
            simp only [relAct, fillL]
            go_simp
            exact ⟨_, by first | (simp [upd]; done) | (simp [upd]; rfl), rfl⟩
          | 3, _, ho, hd =>
            obtain rfl := Option.some.inj ho
            have q1 := hd ⟨1, .data⟩ (by simp) rfl
            simp only [runT] at q1
            have q2 := hd ⟨2, .data⟩ (by simp) rfl
            simp only [runT] at q2
            clear hd
            simp only [relAct, fillL]
            go_simp
            exact ⟨_, by first | (simp [upd, q1, q2]; done) | (simp [upd, q1, q2]; rfl), rfl⟩
          | 4, _, ho, hd =>
            obtain rfl := Option.some.inj ho
            have q3 := hd ⟨3, .data⟩ (by simp) rfl
            simp only [runT] at q3
            clear hd
            simp only [relAct, fillL]
            go_simp
            exact ⟨_, by first | (simp [upd, q3]; done) | (simp [upd, q3]; rfl), rfl⟩
          | 5, _, ho, hd =>
            obtain rfl := Option.some.inj ho
            have q4 := hd ⟨4, .data⟩ (by simp) rfl
            simp only [runT] at q4
            clear hd
            simp only [relAct, fillL]
            go_simp
            exact ⟨.slice (some ⟨W.heap.size, 0, none⟩) 1 1, by simp [upd, q4], ⟨W.heap.size, rfl, by go_simp⟩, hC.alloc _, fun j u h => runT_keeps ((Keeps.refl _ W).alloc _) j u h⟩
          | 6, _, ho, hd =>
            obtain rfl := Option.some.inj ho
            have q5 := hd ⟨5, .data⟩ (by simp) rfl
            simp only [runT] at q5
            obtain ⟨B, q5, q5b⟩ := q5
            have hcv := conv1_at W B _ q5b
            clear hd
            simp only [relAct, fillL]
            go_simp
            exact ⟨_, by first | (simp [upd, q5]; done) | (simp [upd, q5]; rfl), rfl⟩
          | 7, _, ho, hd =>
            obtain rfl := Option.some.inj ho
            have q0 := hd ⟨0, .data⟩ (by simp) rfl
            simp only [runT] at q0
            have q6 := hd ⟨6, .data⟩ (by simp) rfl
            simp only [runT] at q6
            have hadd := add_strings W S [c] (by simp; omega)
            clear hd
            simp only [relAct, fillL]
            go_simp
            exact ⟨_, by first | (simp [upd, q0, q6]; done) | (simp [upd, q0, q6]; rfl), rfl⟩
          | 8, _, ho, hd =>
            obtain rfl := Option.some.inj ho
            clear hd
            simp only [relAct, fillL]
            go_simp
            exact ⟨_, by first | (simp [upd]; done) | (simp [upd]; rfl), rfl⟩
          | 9, _, ho, hd =>
            obtain rfl := Option.some.inj ho
            have q8 := hd ⟨8, .data⟩ (by simp) rfl
            simp only [runT] at q8
            clear hd
            simp only [relAct, fillL]
            go_simp
            exact ⟨.int .i64 ((k : Int) + 1), by simp [upd, q8], rfl⟩
          | 10, _, ho, hd =>
            obtain rfl := Option.some.inj ho
            clear hd
            simp only [relAct, fillL]
            go_simp
            exact ⟨_, by first | (simp [upd]; done) | (simp [upd]; rfl), rfl⟩
          | 11, _, ho, hd =>
            obtain rfl := Option.some.inj ho
            have q9 := hd ⟨9, .data⟩ (by simp) rfl
            simp only [runT] at q9
            have q10 := hd ⟨10, .data⟩ (by simp) rfl
            simp only [runT] at q10
            clear hd
            simp only [relAct, fillL]
            go_simp
            exact ⟨.int .i64 ((k + 1 - f : Nat) : Int), by simp [upd, q9, q10], rfl⟩
          | 12, _, ho, hd =>
            obtain rfl := Option.some.inj ho
            have q11 := hd ⟨11, .data⟩ (by simp) rfl
            simp only [runT] at q11
            clear hd
            simp only [relAct, fillL]
            go_simp
            exact ⟨.int .u64 ((k + 1 - f : Nat) : Int), by simp [upd, q11], rfl⟩
          | 13, _, ho, hd =>
            obtain rfl := Option.some.inj ho
            have q12 := hd ⟨12, .data⟩ (by simp) rfl
            simp only [runT] at q12
            clear hd
            simp only [relAct, fillL]
            go_simp
            refine (ref_Number _ hN _).mono ?_
            rintro e w3 ⟨rfl, hb3⟩
            exact ⟨_, by first | (simp [upd, q12]; done) | (simp [upd, q12]; rfl), rfl, hC.then_below hb3, fun j u h => runT_keeps ((Keeps.refl _ W).then_below hb3) j u h⟩
          | 14, _, ho, hd =>
            obtain rfl := Option.some.inj ho
            have q7 := hd ⟨7, .data⟩ (by simp) rfl
            simp only [runT] at q7
            have q13 := hd ⟨13, .data⟩ (by simp) rfl
            simp only [runT] at q13
            have hadd := add_strings W (S ++ [c]) (num (k + 1 - f)) (by simp; omega)
            rw [List.append_assoc, List.singleton_append] at hadd
            clear hd
            simp only [relAct, fillL]
            go_simp
            exact ⟨_, by first | (simp [upd, q7, q13]; done) | (simp [upd, q7, q13]; rfl), rfl⟩
        case hfin =>
          intro tl ht vals W hC hR
          obtain rfl := Option.some.inj ht
          have q14 := hR 14 (by omega)
          simp only [runT] at q14
          simp only [relAct, fillL]
          go_simp
          go_wp2
          go_roundw
          case rel =>
            refine ⟨k + 1, k + 1, pre ++ [(c, k + 1 - f)], by omega, Nat.le_refl _, by go_num, by go_num, ?_, ?_, fun _ => rfl, fun j h1 h2 h3 h4 => ?_, hb.trans (hC.below hb.size (fun _ _ h => h))⟩
            · rw [runsBytes_snoc, ← List.append_assoc, HS.out]
            · rw [Hpre.out, Hcut.out]; simp
            · obtain rfl : j = k + 1 := by omega
              rfl
          case measure => simp [intOf]; omega
      · have hlt1 : k + 1 < L.length := by omega
        have hck1 : wr.cell? ⟨b, o + (k + 1), none⟩ = some (.int .u8 L[k + 1].toNat) := hc (k + 1) hlt1
        have hq : ((k : Int) == (L.length : Int) - 1) = false := by rw [beq_eq_false_iff_ne]; omega
        clear hc
        by_cases he : L[k + 1] = L[k]
        · have hq2 : ((L[k + 1].toNat : Int) == (L[k].toNat : Int)) = true := by rw [beq_iff_eq, he]
          have He := hid he
          clear he
          go_wp2
          go_quiet (fail)
          go_wp2
          go_roundw
          case rel => exact ⟨k + 1, f, pre, by omega, by omega, by go_num, rfl, rfl, Hpre.out, fun h => by omega, fun j h1 h2 h3 h4 => by
            by_cases e : j = k + 1
            · subst e; rfl
            · exact (hal j h1 hlt h3 (by omega)).trans He.out.symm, ⟨hb.1, hb.2, hb.3, hb.4, hb.5⟩⟩
          case measure => simp [intOf]; omega
        · have hq2 : ((L[k + 1].toNat : Int) == (L[k].toNat : Int)) = false := by
            rw [beq_eq_false_iff_ne]
            intro h
            exact he (UInt8.toNat_inj.1 (by omega))
          have hcut := run_cut L f k hf hlt (fun j hj h1 h2 => hal j hj hlt h1 h2) (fun h => he)
          clear he
          have hN : k + 1 - f < two64 := by unfold two64; omega
          have hw9 : IntKind.i64.wrap ((k : Int) + 1) = (k : Int) + 1 := IntWalk.i64_in _ (by omega)
          have hw11 : IntKind.i64.wrap ((k : Int) + 1 - (f : Int)) = ((k + 1 - f : Nat) : Int) := (IntWalk.i64_in _ (by omega)).trans (by omega)
          have hw12 : IntKind.u64.wrap ((k + 1 - f : Nat) : Int) = ((k + 1 - f : Nat) : Int) := u64_nat _ hN
          have Hcut := hid hcut
          clear hcut hal
          generalize L[k] = c at *
          generalize hS : num L.length ++ runsBytes pre = S at *
          have HS := hid hS
          have hnl := num_len10 _ hN
          clear hS
          go_wp2
          try (go_quiet (fail); go_wp2)
          refine region_at 33 15 (by kernel_rfl) (by kernel_rfl) (Keeps (fun _ => False) wr) (runT b o L.length cap k f c S) ?hC ?hrun ?hfin
          case hC => exact ((Keeps.refl _ wr).drewN _).drew
          case hrun =>
            intro i o' vals W hi ho hC hd
            have hcW : W.cell? ⟨b, o + k, none⟩ = some (.int .u8 c.toNat) := hC.cell hck id
            match i, hi, ho, hd with
            | 0, _, ho, hd =>
              obtain rfl := Option.some.inj ho
              clear hd
              simp only [relAct, fillL]
              go_simp
              exact ⟨_, by first | (simp [upd]; done) | (simp [upd]; rfl), rfl⟩
            | 1, _, ho, hd =>
              obtain rfl := Option.some.inj ho
              clear hd
              simp only [relAct, fillL]
              go_simp
              exact ⟨_, by first | (simp [upd]; done) | (simp [upd]; rfl), rfl⟩
            | 2, _, ho, hd =>
              obtain rfl := Option.some.inj ho
              clear hd
              simp only [relAct, fillL]
              go_simp
              exact ⟨_, by first | (simp [upd]; done) | (simp [upd]; rfl), rfl⟩
            | 3, _, ho, hd =>
              obtain rfl := Option.some.inj ho
              have q1 := hd ⟨1, .data⟩ (by simp) rfl
              simp only [runT] at q1
              have q2 := hd ⟨2, .data⟩ (by simp) rfl
              simp only [runT] at q2
              clear hd
              simp only [relAct, fillL]
              go_simp
              exact ⟨_, by first | (simp [upd, q1, q2]; done) | (simp [upd, q1, q2]; rfl), rfl⟩
            | 4, _, ho, hd =>
              obtain rfl := Option.some.inj ho
              have q3 := hd ⟨3, .data⟩ (by simp) rfl
              simp only [runT] at q3
              clear hd
              simp only [relAct, fillL]
              go_simp
              exact ⟨_, by first | (simp [upd, q3]; done) | (simp [upd, q3]; rfl), rfl⟩
            | 5, _, ho, hd =>
              obtain rfl := Option.some.inj ho
              have q4 := hd ⟨4, .data⟩ (by simp) rfl
              simp only [runT] at q4
              clear hd
              simp only [relAct, fillL]
              go_simp
              exact ⟨.slice (some ⟨W.heap.size, 0, none⟩) 1 1, by simp [upd, q4], ⟨W.heap.size, rfl, by go_simp⟩, hC.alloc _, fun j u h => runT_keeps ((Keeps.refl _ W).alloc _) j u h⟩
            | 6, _, ho, hd =>
              obtain rfl := Option.some.inj ho
              have q5 := hd ⟨5, .data⟩ (by simp) rfl
              simp only [runT] at q5
              obtain ⟨B, q5, q5b⟩ := q5
              have hcv := conv1_at W B _ q5b
              clear hd
              simp only [relAct, fillL]
              go_simp
              exact ⟨_, by first | (simp [upd, q5]; done) | (simp [upd, q5]; rfl), rfl⟩
            | 7, _, ho, hd =>
              obtain rfl := Option.some.inj ho
              have q0 := hd ⟨0, .data⟩ (by simp) rfl
              simp only [runT] at q0
              have q6 := hd ⟨6, .data⟩ (by simp) rfl
              simp only [runT] at q6
              have hadd := add_strings W S [c] (by simp; omega)
              clear hd
              simp only [relAct, fillL]
              go_simp
              exact ⟨_, by first | (simp [upd, q0, q6]; done) | (simp [upd, q0, q6]; rfl), rfl⟩
            | 8, _, ho, hd =>
              obtain rfl := Option.some.inj ho
              clear hd
              simp only [relAct, fillL]
              go_simp
              exact ⟨_, by first | (simp [upd]; done) | (simp [upd]; rfl), rfl⟩
            | 9, _, ho, hd =>
              obtain rfl := Option.some.inj ho
              have q8 := hd ⟨8, .data⟩ (by simp) rfl
              simp only [runT] at q8
              clear hd
              simp only [relAct, fillL]
              go_simp
              exact ⟨.int .i64 ((k : Int) + 1), by simp [upd, q8], rfl⟩
            | 10, _, ho, hd =>
              obtain rfl := Option.some.inj ho
              clear hd
              simp only [relAct, fillL]
              go_simp
              exact ⟨_, by first | (simp [upd]; done) | (simp [upd]; rfl), rfl⟩
            | 11, _, ho, hd =>
              obtain rfl := Option.some.inj ho
              have q9 := hd ⟨9, .data⟩ (by simp) rfl
              simp only [runT] at q9
              have q10 := hd ⟨10, .data⟩ (by simp) rfl
              simp only [runT] at q10
              clear hd
              simp only [relAct, fillL]
              go_simp
              exact ⟨.int .i64 ((k + 1 - f : Nat) : Int), by simp [upd, q9, q10], rfl⟩
            | 12, _, ho, hd =>
              obtain rfl := Option.some.inj ho
              have q11 := hd ⟨11, .data⟩ (by simp) rfl
              simp only [runT] at q11
              clear hd
              simp only [relAct, fillL]
              go_simp
              exact ⟨.int .u64 ((k + 1 - f : Nat) : Int), by simp [upd, q11], rfl⟩
            | 13, _, ho, hd =>
              obtain rfl := Option.some.inj ho
              have q12 := hd ⟨12, .data⟩ (by simp) rfl
              simp only [runT] at q12
              clear hd
              simp only [relAct, fillL]
              go_simp
              refine (ref_Number _ hN _).mono ?_
              rintro e w3 ⟨rfl, hb3⟩
              exact ⟨_, by first | (simp [upd, q12]; done) | (simp [upd, q12]; rfl), rfl, hC.then_below hb3, fun j u h => runT_keeps ((Keeps.refl _ W).then_below hb3) j u h⟩
            | 14, _, ho, hd =>
              obtain rfl := Option.some.inj ho
              have q7 := hd ⟨7, .data⟩ (by simp) rfl
              simp only [runT] at q7
              have q13 := hd ⟨13, .data⟩ (by simp) rfl
              simp only [runT] at q13
              have hadd := add_strings W (S ++ [c]) (num (k + 1 - f)) (by simp; omega)
              rw [List.append_assoc, List.singleton_append] at hadd
              clear hd
              simp only [relAct, fillL]
              go_simp
              exact ⟨_, by first | (simp [upd, q7, q13]; done) | (simp [upd, q7, q13]; rfl), rfl⟩
          case hfin =>
            intro tl ht vals W hC hR
            obtain rfl := Option.some.inj ht
            have q14 := hR 14 (by omega)
            simp only [runT] at q14
            simp only [relAct, fillL]
            go_simp
            go_wp2
            go_roundw
            case rel =>
              refine ⟨k + 1, k + 1, pre ++ [(c, k + 1 - f)], by omega, Nat.le_refl _, by go_num, by go_num, ?_, ?_, fun _ => rfl, fun j h1 h2 h3 h4 => ?_, hb.trans (hC.below hb.size (fun _ _ h => h))⟩
              · rw [runsBytes_snoc, ← List.append_assoc, HS.out]
              · rw [Hpre.out, Hcut.out]; simp
              · obtain rfl : j = k + 1 := by omega
                rfl
            case measure => simp [intOf]; omega
    · have hke : k = L.length := by omega
      have hfin : num L.length ++ runsBytes pre = runBytes L := by
        have h1 := Hpre.out
        rw [hkf hke, hke, List.drop_length, runs, List.append_nil] at h1
        rw [runBytes, h1]
      have Hfin := hid hfin
      clear hfin hke
      go_wp2
      go_ret
      exact ⟨by rw [Hfin.out]; rfl, hb⟩
end Go.Proofs.Ytaobhbfhbmenfaa
