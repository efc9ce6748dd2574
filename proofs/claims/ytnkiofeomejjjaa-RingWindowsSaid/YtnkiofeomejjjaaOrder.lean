/- The law on the order of what comes out of a ring. -/
import Derived.Test.YtnkiofeomejjjaaRingIs
import Derived.Test.YtnkiofeomejjjaaInts
namespace Go.Proofs.Ytnkiofeomejjjaa
open Go.RowKit
theorem awake04 (w : World) :
    Calls Try.prog 7 #[] w fun e w' => e = .returned (.bool true) ∧ Below w.heap.size w w' := by
  go_enter Try.func7, Try.ntmps7
  go_wp2_with fail
  refine (is_New 2 (by omega) (by omega) w).mono ?_
  rintro e w1 ⟨rfl, r1, b1⟩
  go_wp2_with fail
  refine (is_Push r1 (by simp) 1).mono ?_
  rintro e w2 ⟨rfl, r2, k2⟩
  go_wp2_with fail
  refine (is_Push r2 (by simp) 2).mono ?_
  rintro e w3 ⟨rfl, r3, k3⟩
  go_wp2_with fail
  refine (is_Push_full r3 (by simp) 3).mono ?_
  rintro e w4 ⟨rfl, r4, k4⟩
  go_wp2_with fail
  refine (is_Pop r4).mono ?_
  rintro e w5 ⟨rfl, r5, k5⟩
  go_wp2_with fail
  go_ret
  exact ⟨rfl, b1.trans ((((k2.trans k3).trans k4).trans k5).below b1.size (fun k h1 h2 => by omega))⟩
theorem ob {g b n c : Nat} (h : (Value.slice (some ⟨g, 0, none⟩) n c).ownBlock = some b) : b = g := by simpa [Value.ownBlock] using h.symm
def u8s (L : List Int) : List Value := L.map fun x => .int .u8 x
variable {w0 w : World} {r B size : Nat} {L I O : List Int} {gi ci go co : Nat}
/-- what the two loops of the law keep -/
structure Ord (w0 w : World) (r B size : Nat) (L I O : List Int) (gi ci go co : Nat) : Prop where
  ring : IsRing w r B size L
  inn : w.ownsRow (r + 1) 3 1 (.slice (some ⟨gi, 0, none⟩) I.length ci) I.length (ints I)
  out : w.ownsRow (r + 1) 3 1 (.slice (some ⟨go, 0, none⟩) O.length co) O.length (ints O)
  ne : gi ≠ go
  eq : I = O ++ L
  below : Below w0.heap.size w0 w
  rB : r = B + 1
  lo : w0.heap.size ≤ B
theorem Ord.io (h : Ord w0 w r B size L I O gi ci go co) : r < gi ∧ gi < w.heap.size ∧ r < go ∧ go < w.heap.size := by
  have h1 := h.inn.lt gi rfl
  have h2 := h.out.lt go rfl
  omega
theorem Ord.pushed {w3 w4 : World} {x : Int} {u : Obj} {v4 : Value} (h : Ord w0 w r B size L I O gi ci go co) (hr3 : IsRing w3 r B size (L ++ [x])) (hk3 : Keeps (fun b => b = r ∨ b = B) w w3)
    (hown : w4.ownsRow (r + 1) 3 1 v4 (I.length + 1) (ints I ++ [.int .i64 x])) (hg : (w3.alloc u).grownBy w4 (some gi)) (hat : v4.ownBlock = some gi ∨ v4.ownBlock = some (w3.alloc u).heap.size) :
    ∃ gi' ci', v4 = .slice (some ⟨gi', 0, none⟩) (I ++ [x]).length ci' ∧ Ord w0 w4 r B size (L ++ [x]) (I ++ [x]) O gi' ci' go co := by
  obtain ⟨h1, h2, h3, h4⟩ := h.io
  have hb := h.rB
  have hlo := h.lo
  have hw := h.below.size
  obtain ⟨g', cap', rfl⟩ := ownsRow_succ hown
  have hk5 : Keeps (fun b => b = gi) w3 w4 := ((Keeps.refl _ w3).alloc u).grown hg (fun k hk => by cases hk; exact .inl rfl)
  have hk4 : Keeps (fun b => b = r ∨ b = B ∨ b = gi) w w4 := (hk3.mono (fun _ _ h => by omega)).trans (hk5.mono (fun _ _ h => .inr (.inr h)))
  refine ⟨g', cap', by simp, hr3.keeps hk5 (by omega) (by omega), by simpa [ints] using hown, own_keeps h.out hk4 (fun b hb => by have := ob hb; have := h.ne; omega), ?_, by rw [h.eq, List.append_assoc], h.below.trans (hk4.below hw (fun k h5 h6 => by omega)), hb, hlo⟩
  have := h.ne
  have := hk3.size
  simp [Value.ownBlock] at hat
  omega
theorem Ord.full {w3 : World} (h : Ord w0 w r B size L I O gi ci go co) (hr3 : IsRing w3 r B size L) (hk3 : Keeps (fun b => b = r ∨ b = B) w w3) : Ord w0 w3 r B size L I O gi ci go co := by
  obtain ⟨h1, h2, h3, h4⟩ := h.io
  have hb := h.rB
  have hlo := h.lo
  have hw := h.below.size
  exact ⟨hr3, own_keeps h.inn hk3 (fun b hb => by have := ob hb; omega), own_keeps h.out hk3 (fun b hb => by have := ob hb; omega), h.ne, h.eq, h.below.trans (hk3.below hw (fun k h5 h6 => by omega)), hb, hlo⟩
theorem Ord.popped {w3 w4 : World} {x : Int} {u : Obj} {v4 : Value} (h : Ord w0 w r B size (x :: L) I O gi ci go co) (hr3 : IsRing w3 r B size L) (hk3 : Keeps (fun b => b = r ∨ b = B) w w3)
    (hown : w4.ownsRow (r + 1) 3 1 v4 (O.length + 1) (ints O ++ [.int .i64 x])) (hg : (w3.alloc u).grownBy w4 (some go)) (hat : v4.ownBlock = some go ∨ v4.ownBlock = some (w3.alloc u).heap.size) :
    ∃ go' co', v4 = .slice (some ⟨go', 0, none⟩) (O ++ [x]).length co' ∧ Ord w0 w4 r B size L I (O ++ [x]) gi ci go' co' := by
  obtain ⟨h1, h2, h3, h4⟩ := h.io
  have hb := h.rB
  have hlo := h.lo
  have hw := h.below.size
  obtain ⟨g', cap', rfl⟩ := ownsRow_succ hown
  have hk5 : Keeps (fun b => b = go) w3 w4 := ((Keeps.refl _ w3).alloc u).grown hg (fun k hk => by cases hk; exact .inl rfl)
  have hk4 : Keeps (fun b => b = r ∨ b = B ∨ b = go) w w4 := (hk3.mono (fun _ _ h => by omega)).trans (hk5.mono (fun _ _ h => .inr (.inr h)))
  refine ⟨g', cap', by simp, hr3.keeps hk5 (by omega) (by omega), own_keeps h.inn hk4 (fun b hb => by have := ob hb; have := h.ne; omega), by simpa [ints] using hown, ?_, by rw [h.eq, List.append_assoc]; rfl, h.below.trans (hk4.below hw (fun k h5 h6 => by omega)), hb, hlo⟩
  have := h.ne
  have := hk3.size
  simp [Value.ownBlock] at hat
  omega
set_option maxRecDepth 100000 in
set_option maxHeartbeats 4000000 in
theorem law_RingOrder (x : Int) (hx : -9223372036854775808 ≤ x ∧ x ≤ 9223372036854775807) (w : World) (la pa : Option Addr) (lc pc : Nat) (M N : List Int)
    (hM : Vals w 1 la M.length lc (ints M)) (hN : Vals w 1 pa N.length pc (u8s N)) (hNb : ∀ n ∈ N, 0 ≤ n ∧ n ≤ 255) :
    Calls Try.prog 3 #[.int .i64 x, .slice la M.length lc, .slice pa N.length pc] w fun e w' => e = .returned (.bool true) ∧ Below w.heap.size w w' := by
  by_cases h1 : x < 1
  · go_enter Try.func3, Try.ntmps3
    go_wp2_with fail
    refine (awake04 _).mono ?_
    rintro e w1 ⟨rfl, hb1⟩
    go_wp2_with fail
    go_ret
    exact ⟨rfl, hb1⟩
  by_cases h2 : 40 < x
  · go_enter Try.func3, Try.ntmps3
    go_wp2_with fail
    refine (awake04 _).mono ?_
    rintro e w1 ⟨rfl, hb1⟩
    go_wp2_with fail
    go_ret
    exact ⟨rfl, hb1⟩
  obtain ⟨i0, hi, hz0, hz1, hz2⟩ := info_parts info_e
  obtain ⟨size, rfl⟩ := Int.eq_ofNat_of_zero_le (show 0 ≤ x by omega)
  have hm1 : M.length ≤ 9223372036854775807 := Nat.le_trans hM.2.1 hM.2.2.1
  have hm2 : N.length ≤ 9223372036854775807 := Nat.le_trans hN.2.1 hN.2.2.1
  have Hi := hid hi
  have HNb := hid hNb
  clear hi hNb
  go_enter Try.func3, Try.ntmps3
  go_wp2_with fail
  refine (awake04 _).mono ?_
  rintro e w1 ⟨rfl, hb1⟩
  go_wp2_with fail
  refine (is_New size (by omega) (by omega) w1).mono ?_
  rintro e w2 ⟨rfl, hr2, hb2⟩
  have hlt2 := hr2.le
  have hbb := hb1.trans (hb2.mono hb1.size)
  have hbz := hb1.size
  generalize w1.heap.size = B at *
  have hw2 : B + 1 < w2.heap.size := hlt2.2.2.2.1
  clear hlt2 hb1 hb2
  go_wp2_with fail
  have hO0 : Ord w ((w2.alloc (.cells #[] 3)).alloc (.cells #[] 3)) (B + 1) B size [] [] [] w2.heap.size 0 (w2.heap.size + 1) 0 :=
    ⟨hr2.keeps (S := fun _ => False) (((Keeps.refl _ w2).alloc _).alloc _) id id, own_empty (by omega) (blk_alloc (blk_new _ _) _), own_empty (by omega) (by have := blk_new (w2.alloc (.cells #[] 3)) (.cells #[] 3); simpa using this), by omega, rfl, (hbb.alloc hbb.size _).alloc (by have := hbb.size; simp; omega) _, rfl, hbz⟩
  clear hr2 hbb
  go_loopw [9, 10, 11] (fun vi vo i wr => ∃ (k : Nat) (L I O : List Int) (gi ci go co : Nat), k ≤ 150 ∧ I.length ≤ k ∧ i = .int .i64 k ∧ vi = .slice (some ⟨gi, 0, none⟩) I.length ci ∧ vo = .slice (some ⟨go, 0, none⟩) O.length co ∧ Ord w wr (B + 1) B size L I O gi ci go co) (fun _ _ i _ => 150 - (intOf i).toNat)
  case atStart => exact ⟨0, [], [], [], w2.heap.size, 0, w2.heap.size + 1, 0, by omega, by simp, rfl, rfl, rfl, hO0⟩
  case round =>
    obtain ⟨k, L, I, O, gi, ci, go, co, hk, hIl, rfl, rfl, rfl, hO⟩ := hrel
    clear hO0
    by_cases hlt : k < M.length ∧ k < 150
    · obtain ⟨hl1, hl2⟩ := hlt
      obtain ⟨b, o, rfl, hc⟩ := ints_at (hM.below hO.below (fun hn x hx => hM.lt (by omega) hn hx)) (by omega)
      have hck : wr.cell? ⟨b, o + k, none⟩ = some (.int .i64 M[k]) := hc k hl1
      clear hc
      have hbB : b < B := by have := hM.lt (by omega) (by omega) rfl; have := hO.lo; simp at *; omega
      have hBr := hO.ring.le
      have hIl2 : I.length ≤ 150 := by omega
      by_cases hfull : L.length = size
      · go_wp2_with fail
        refine (is_Push_full hO.ring hfull _).mono ?_
        rintro e w3 ⟨rfl, hr3, hk3⟩
        have hO4 := hO.full hr3 hk3
        clear hO hr3 hk3
        go_wp2_with fail
        go_loopw [10, 12] (fun vo kk wy => ∃ (m : Nat) (L O : List Int) (go co : Nat), m ≤ 3 ∧ kk = .int .i64 m ∧ vo = .slice (some ⟨go, 0, none⟩) O.length co ∧ Ord w wy (B + 1) B size L _ O _ _ go co) (fun _ kk _ => 4 - (intOf kk).toNat)
        case atStart => exact ⟨0, _, _, _, _, by omega, rfl, rfl, hO4⟩
        case round =>
          obtain ⟨m, L2, O2, go2, co2, hm, rfl, rfl, hO5⟩ := hrel
          clear hO4
          have hOl : O2.length ≤ 151 := by
            have h5 := congrArg List.length hO5.eq
            simp at h5
            omega
          by_cases hp : k < N.length
          · obtain ⟨pb, po, rfl, hcp⟩ := (hN.below hO5.below (fun hn x hx => hN.lt (by omega) hn hx)).at' (by omega)
            have hn := HNb.out N[k] (List.getElem_mem hp)
            have hcn : wr.cell? ⟨pb, po + k, none⟩ = some (.int .u8 N[k]) := hcp k _ (by simp [u8s, hp])
            clear hcp
            generalize N[k] = nk at *
            by_cases hmk : (m : Int) < nk % 4
            · cases L2 with
              | nil =>
                go_wp2_with fail
                refine (is_Pop_none hO5.ring).mono ?_
                rintro e w6 ⟨rfl, rfl⟩
                go_wp2_with fail
                go_roundw
                case rel => exact ⟨m + 1, _, _, _, _, by omega, by go_num, rfl, hO5⟩
                case measure => simp [intOf]; omega
              | cons y L3 =>
                go_wp2_with fail
                refine (is_Pop hO5.ring).mono ?_
                rintro e w6 ⟨rfl, hr6, hk6⟩
                have hout6 := own_keeps hO5.out hk6 (fun g hg => by have := ob hg; have := hO5.io; omega)
                have hs6 := hk6.size
                have hBs := hO5.ring.le
                go_wp2_with (at_builtin; refine wpList_append_vals _ rfl (.tmp 76) (.tmp 78) _ rfl (B + 1 + 1) 3 i0 _ 1 8 Try.underlying22 Hi.out hz0 hz1 hz2 rfl (by omega) (.slice (some ⟨go2, 0, none⟩) O2.length co2) O2.length (ints O2) rfl (hout6.alloc _) (some ⟨w6.heap.size, 0, none⟩) 1 1 [.int .i64 y] rfl (vals_one _ _ _) (by simp [Value.oneCell']) (by simp only [maxLen]; omega) (by omega) (by simp; omega) ?_; intro v7 w7 hown7 hg7 hat7; obtain ⟨go7, co7, rfl, hO7⟩ := hO5.popped hr6 hk6 hown7 hg7 hat7; clear hown7 hg7 hat7)
                go_roundw
                case rel => exact ⟨m + 1, _, _, _, _, by omega, by go_num, by first | rfl | simp, hO7⟩
                case measure => simp [intOf]; omega
            · go_wp2_with fail
              go_roundw
              case rel => exact ⟨k + 1, _, _, _, _, _, _, _, by omega, by first | omega | (simp; omega), by go_num, by first | rfl | simp, rfl, hO5⟩
              case measure => simp [intOf]; omega
          · go_wp2_with fail
            go_roundw
            case rel => exact ⟨k + 1, _, _, _, _, _, _, _, by omega, by first | omega | (simp; omega), by go_num, by first | rfl | simp, rfl, hO5⟩
            case measure => simp [intOf]; omega
      · go_wp2_with fail
        refine (is_Push hO.ring (by omega) _).mono ?_
        rintro e w3 ⟨rfl, hr3, hk3⟩
        have hck3 := hk3.cell hck (by simp; omega)
        have hin3 := own_keeps hO.inn hk3 (fun g hg => by have := ob hg; have := hO.io; omega)
        have hs3 := hk3.size
        go_wp2_with (at_builtin; refine wpList_append_vals _ rfl (.tmp 47) (.tmp 52) _ rfl (B + 1 + 1) 3 i0 _ 1 8 Try.underlying22 Hi.out hz0 hz1 hz2 rfl (by omega) (.slice (some ⟨gi, 0, none⟩) I.length ci) I.length (ints I) rfl (hin3.alloc _) (some ⟨w3.heap.size, 0, none⟩) 1 1 [.int .i64 M[k]] rfl (vals_one _ _ _) (by simp [Value.oneCell']) (by simp only [maxLen]; omega) (by omega) (by simp; omega) ?_; intro v4 w4 hown4 hg4 hat4; obtain ⟨gi4, ci4, rfl, hO4⟩ := hO.pushed hr3 hk3 hown4 hg4 hat4; clear hown4 hg4 hat4)
        go_wp2_with fail
        go_loopw [10, 12] (fun vo kk wy => ∃ (m : Nat) (L O : List Int) (go co : Nat), m ≤ 3 ∧ kk = .int .i64 m ∧ vo = .slice (some ⟨go, 0, none⟩) O.length co ∧ Ord w wy (B + 1) B size L _ O _ _ go co) (fun _ kk _ => 4 - (intOf kk).toNat)
        case atStart => exact ⟨0, _, _, _, _, by omega, rfl, rfl, hO4⟩
        case round =>
          obtain ⟨m, L2, O2, go2, co2, hm, rfl, rfl, hO5⟩ := hrel
          clear hO4
          have hOl : O2.length ≤ 151 := by
            have h5 := congrArg List.length hO5.eq
            simp at h5
            omega
          by_cases hp : k < N.length
          · obtain ⟨pb, po, rfl, hcp⟩ := (hN.below hO5.below (fun hn x hx => hN.lt (by omega) hn hx)).at' (by omega)
            have hn := HNb.out N[k] (List.getElem_mem hp)
            have hcn : wr.cell? ⟨pb, po + k, none⟩ = some (.int .u8 N[k]) := hcp k _ (by simp [u8s, hp])
            clear hcp
            generalize N[k] = nk at *
            by_cases hmk : (m : Int) < nk % 4
            · cases L2 with
              | nil =>
                go_wp2_with fail
                refine (is_Pop_none hO5.ring).mono ?_
                rintro e w6 ⟨rfl, rfl⟩
                go_wp2_with fail
                go_roundw
                case rel => exact ⟨m + 1, _, _, _, _, by omega, by go_num, rfl, hO5⟩
                case measure => simp [intOf]; omega
              | cons y L3 =>
                go_wp2_with fail
                refine (is_Pop hO5.ring).mono ?_
                rintro e w6 ⟨rfl, hr6, hk6⟩
                have hout6 := own_keeps hO5.out hk6 (fun g hg => by have := ob hg; have := hO5.io; omega)
                have hs6 := hk6.size
                have hBs := hO5.ring.le
                go_wp2_with (at_builtin; refine wpList_append_vals _ rfl (.tmp 76) (.tmp 78) _ rfl (B + 1 + 1) 3 i0 _ 1 8 Try.underlying22 Hi.out hz0 hz1 hz2 rfl (by omega) (.slice (some ⟨go2, 0, none⟩) O2.length co2) O2.length (ints O2) rfl (hout6.alloc _) (some ⟨w6.heap.size, 0, none⟩) 1 1 [.int .i64 y] rfl (vals_one _ _ _) (by simp [Value.oneCell']) (by simp only [maxLen]; omega) (by omega) (by simp; omega) ?_; intro v7 w7 hown7 hg7 hat7; obtain ⟨go7, co7, rfl, hO7⟩ := hO5.popped hr6 hk6 hown7 hg7 hat7; clear hown7 hg7 hat7)
                go_roundw
                case rel => exact ⟨m + 1, _, _, _, _, by omega, by go_num, by first | rfl | simp, hO7⟩
                case measure => simp [intOf]; omega
            · go_wp2_with fail
              go_roundw
              case rel => exact ⟨k + 1, _, _, _, _, _, _, _, by omega, by first | omega | (simp; omega), by go_num, by first | rfl | simp, rfl, hO5⟩
              case measure => simp [intOf]; omega
          · go_wp2_with fail
            go_roundw
            case rel => exact ⟨k + 1, _, _, _, _, _, _, _, by omega, by first | omega | (simp; omega), by go_num, by first | rfl | simp, rfl, hO5⟩
            case measure => simp [intOf]; omega
    · by_cases hl1 : k < M.length
      · have hl2 : ¬ k < 150 := fun h => hlt ⟨hl1, h⟩
        clear hlt
        go_wp2_with fail
        refine (is_List hO.ring).mono ?_
        rintro e w3 ⟨a3, c3, rfl, hv3, hx3, hb3⟩
        have hle := hO.ring.le
        have hio := hO.io
        have hOl : O.length ≤ 150 := by have := congrArg List.length hO.eq; simp at this; omega
        have hkb : Keeps (fun _ => False) wr w3 := Keeps.of_below hb3 (fun k h1 h2 => by omega)
        have hout := own_keeps hO.out hkb (fun _ _ => id)
        have hinn := own_keeps hO.inn hkb (fun _ _ => id)
        go_wp2_with (at_builtin; refine wpList_append_valsg _ (by first | rfl | simp [go_sem]) (.tmp 83) (.tmp 85) _ rfl (B + 1 + 1) 3 i0 _ 1 8 Try.underlying22 Hi.out hz0 hz1 hz2 rfl (by omega) (.slice (some ⟨go, 0, none⟩) O.length co) O.length (ints O) rfl hout a3 L.length c3 (ints L) rfl hv3 (ints_one L) (by simp only [maxLen]; omega) (by omega) (by have := hb3.size; omega) ?_; intro v4 w4 hown4 hg4 hat4; have hk4 : Keeps (fun b => b = go) w3 w4 := (Keeps.refl _ w3).grown hg4 (fun b hb => .inl (ob hb)); have hin4 := own_keeps hinn hk4 (fun b hb h => by have := ob hb; have := hO.ne; omega); obtain ⟨A4, c4, rfl, hv4, hx4⟩ := vals_of_own hown4; clear hown4 hg4 hat4)
        obtain ⟨Ai, cci, hei, hvi, _⟩ := vals_of_own hin4
        simp only [Value.slice.injEq] at hei
        obtain ⟨rfl, -, rfl⟩ := hei
        refine (ref_Ints _ _ _ _ _ _ _ (O ++ L) I (by simp) rfl (by simpa [ints] using hv4) hvi).mono ?_
        rintro e w5 ⟨rfl, q, rfl⟩
        have hde : decide (O ++ L = I) = true := by rw [hO.eq]; simp
        rw [hde]
        clear hde
        go_wp2_with fail
        go_ret
        have hlo := hO.lo
        have hkf := (((hkb.mono (T := fun b => b = go) fun _ _ h => h.elim).trans hk4).drewN q).below hO.below.size (fun k h1 h2 => by omega)
        exact ⟨rfl, hO.below.trans hkf⟩
      · clear hlt
        go_wp2_with fail
        refine (is_List hO.ring).mono ?_
        rintro e w3 ⟨a3, c3, rfl, hv3, hx3, hb3⟩
        have hle := hO.ring.le
        have hio := hO.io
        have hOl : O.length ≤ 150 := by have := congrArg List.length hO.eq; simp at this; omega
        have hkb : Keeps (fun _ => False) wr w3 := Keeps.of_below hb3 (fun k h1 h2 => by omega)
        have hout := own_keeps hO.out hkb (fun _ _ => id)
        have hinn := own_keeps hO.inn hkb (fun _ _ => id)
        go_wp2_with (at_builtin; refine wpList_append_valsg _ (by first | rfl | simp [go_sem]) (.tmp 83) (.tmp 85) _ rfl (B + 1 + 1) 3 i0 _ 1 8 Try.underlying22 Hi.out hz0 hz1 hz2 rfl (by omega) (.slice (some ⟨go, 0, none⟩) O.length co) O.length (ints O) rfl hout a3 L.length c3 (ints L) rfl hv3 (ints_one L) (by simp only [maxLen]; omega) (by omega) (by have := hb3.size; omega) ?_; intro v4 w4 hown4 hg4 hat4; have hk4 : Keeps (fun b => b = go) w3 w4 := (Keeps.refl _ w3).grown hg4 (fun b hb => .inl (ob hb)); have hin4 := own_keeps hinn hk4 (fun b hb h => by have := ob hb; have := hO.ne; omega); obtain ⟨A4, c4, rfl, hv4, hx4⟩ := vals_of_own hown4; clear hown4 hg4 hat4)
        obtain ⟨Ai, cci, hei, hvi, _⟩ := vals_of_own hin4
        simp only [Value.slice.injEq] at hei
        obtain ⟨rfl, -, rfl⟩ := hei
        refine (ref_Ints _ _ _ _ _ _ _ (O ++ L) I (by simp) rfl (by simpa [ints] using hv4) hvi).mono ?_
        rintro e w5 ⟨rfl, q, rfl⟩
        have hde : decide (O ++ L = I) = true := by rw [hO.eq]; simp
        rw [hde]
        clear hde
        go_wp2_with fail
        go_ret
        have hlo := hO.lo
        have hkf := (((hkb.mono (T := fun b => b = go) fun _ _ h => h.elim).trans hk4).drewN q).below hO.below.size (fun k h1 h2 => by omega)
        exact ⟨rfl, hO.below.trans hkf⟩
end Go.Proofs.Ytnkiofeomejjjaa
