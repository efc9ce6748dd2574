/- What pack.Fits, and pack.Run, return. -/
import Derived.Test.YtaobhbfhbmenfaaRuns
import Derived.Test.YtaobhbfhbmenfaaRel
import Derived.Shelf.RegionOpen
import Derived.LoopNIn
import Derived.LoopIn
namespace Go.Proofs.Ytaobhbfhbmenfaa
open Go.RowKit
attribute [local go_sem] Oper.semAt_some
theorem fits_bad (L : List UInt8) (k : Nat) (h : k < L.length) (h2 : 63 < L[k].toNat) : fits L = false := by
  unfold fits
  have : L.all (fun c => decide (c.toNat ≤ 63)) = false := by
    rw [List.all_eq_false]
    exact ⟨L[k], List.getElem_mem h, by simp; omega⟩
  rw [this]; rfl
theorem fits_end (L : List UInt8) (h : ∀ i (hi : i < L.length), L[i].toNat ≤ 63) : fits L = decide (L.length ≤ 64) := by
  unfold fits
  have : L.all (fun c => decide (c.toNat ≤ 63)) = true := by
    rw [List.all_eq_true]
    intro c hc
    obtain ⟨i, hi, rfl⟩ := List.getElem_of_mem hc
    simpa using h i hi
  rw [this]; rfl
theorem pack_Fits (w : World) (a : Option Addr) (cap : Nat) (L : List UInt8) (h : IsBytes w a cap L) :
    Calls Try.prog 71 #[.slice a L.length cap] w fun e w' => e = .returned (.bool (fits L)) ∧ w = w' := by
  have hm : L.length ≤ 9223372036854775807 := Nat.le_trans h.1 h.2.1
  go_enter Try.func71, Try.ntmps71
  go_wp2
  go_loop [7] (fun i => ∃ k : Nat, k ≤ L.length ∧ i = .int .i64 k ∧ Hid (∀ i (hi : i < L.length), i < k → L[i].toNat ≤ 63)) (fun i => L.length - (intOf i).toNat)
  case atStart => exact ⟨0, Nat.zero_le _, rfl, fun _ _ h => absurd h (Nat.not_lt_zero _)⟩
  case round =>
    obtain ⟨k, hk, rfl, hall⟩ := hrel
    by_cases hlt : k < L.length
    · obtain ⟨b, o, rfl, hc⟩ := h.at' (by intro e; rw [e] at hlt; simp at hlt)
      have hck : w.cell? ⟨b, o + k, none⟩ = some (.int .u8 L[k].toNat) := hc k hlt
      clear hc
      by_cases hb : 63 < L[k].toNat
      · have hbad := hid (fits_bad L k hlt hb)
        go_wp2
        go_ret
        exact ⟨by rw [hbad.out]; rfl, rfl⟩
      · go_wp2
        go_round
        case rel => exact ⟨k + 1, by omega, by go_num, fun i hi h2 => by
          by_cases e : i = k
          · subst e; omega
          · exact hall i hi (by omega)⟩
        case measure => simp [intOf]; omega
    · have hend := hid (fits_end L fun i hi => hall i hi (by omega))
      go_wp2
      go_ret
      exact ⟨by rw [hend.out]; exact ret_bool (by simp; try omega), rfl⟩
theorem add_strings (w : World) (l m : List UInt8) (h : l.length + m.length ≤ 9223372036854775807) : (Op.stringOp .add ⟨l.toArray⟩ ⟨m.toArray⟩).run Try.prog w = .ok (.string ⟨(l ++ m).toArray⟩) w := by
  have e : (ByteArray.mk l.toArray) ++ (ByteArray.mk m.toArray) = ⟨(l ++ m).toArray⟩ := by apply ByteArray.ext; simp [ByteArray.data_append]
  have h2 := run_string_add_sum (P := Try.prog) w ⟨l.toArray⟩ ⟨m.toArray⟩ (by simpa [ByteArray.size] using h)
  rw [e] at h2
  exact h2
/-- what the operations of the round hand back -/
def runR (c : UInt8) (n : Nat) (S : List UInt8) (i : Nat) (v : Value) (w : World) : Prop :=
  match i with
  | 0 => v = .string ⟨S.toArray⟩
  | 1 => v = .int .u8 c.toNat
  | 2 => ∃ B, v = .slice (some ⟨B, 0, none⟩) 1 1 ∧ w.cell? ⟨B, 0, none⟩ = some (.int .u8 c.toNat)
  | 3 => v = .string ⟨#[c]⟩
  | 4 => v = .int .i64 n
  | 5 => v = .int .u64 n
  | 6 => v = .string ⟨(num n).toArray⟩
  | 7 => v = .string ⟨(c :: num n).toArray⟩
  | 8 => v = .string ⟨(S ++ c :: num n).toArray⟩
  | _ => True
theorem runR_keeps {c : UInt8} {n : Nat} {S : List UInt8} {w w' : World} (h : Keeps (fun _ => False) w w') (i : Nat) (v : Value) (hr : runR c n S i v w) : runR c n S i v w' := by
  match i, hr with
  | 2, ⟨B, h1, h2⟩ => exact ⟨B, h1, h.cell h2 id⟩
  | 0, hr | 1, hr | 3, hr | 4, hr | 5, hr | 6, hr | 7, hr | 8, hr => exact hr
  | _ + 9, _ => trivial
set_option maxHeartbeats 800000 in
theorem pack_Run (w : World) (a : Option Addr) (cap : Nat) (L : List UInt8) (h : IsBytes w a cap L) (hf : fits L = true) :
    Calls Try.prog 56 #[.slice a L.length cap] w fun e w' => e = .returned (.tuple #[.string ⟨(runBytes L).toArray⟩, .int .i64 0]) ∧ Below w.heap.size w w' := by
  have hl64 : L.length ≤ 64 := by unfold fits at hf; simp at hf; exact hf.2
  refine (callsIn_wide (n := 0)).1 ?_
  refine callsIn_of_wp_marks Try.func56 rfl trivial ?_ rfl
  simp only [Try.ntmps56, List.size_toArray, List.length_cons, List.length_nil, Nat.reduceAdd, Nat.reduceSub, Array.replicate_succ, Array.replicate_zero, List.push_toArray, List.append_toArray, List.nil_append, List.cons_append]
  have hf' := hid hf
  gi_wp2_with (fail)
  refine ⟨trivial, rfl, callsIn_wide.2 ((pack_Fits w a cap L h).mono ?_)⟩
  rintro e w' ⟨rfl, rfl⟩
  rw [hf]
  gi_wp2_with (fail)
  refine ⟨trivial, rfl, callsIn_wide.2 ((pack_Number L.length (by unfold two64; omega) _).mono ?_)⟩
  rintro e w1 ⟨rfl, hb1⟩
  gi_wp2_with (fail)
  refine ⟨trivial, rfl, callsIn_wide.2 ((pack_stretches _ a L.length cap).mono ?_)⟩
  rintro e w2 ⟨rfl, hw2⟩
  gi_wp2_with (fail)
  subst hw2
  have hLw : IsBytes ((w1.alloc (.cells #[.string ⟨(num L.length).toArray⟩] 9)).alloc (.cells #[.slice a L.length cap] 35)) a cap L :=
    h.keeps (S := fun k => w.heap.size ≤ k) (((Keeps.of_below hb1 (fun _ _ h => h)).alloc _).alloc _) (fun hne x hx hge => absurd (h.lt hne x hx) (Nat.not_lt.2 hge))
  refine wpIn_range (gf := 85) (lb := #[.pointer (some ⟨w1.heap.size + 1, 0, none⟩)]) rfl (enters_of Try.func85 (by kernel_rfl) rfl)
    (fun _ => rfl) (runs L) (fun k => k = w1.heap.size ∨ w1.heap.size + 3 < k) (fun k => k = w1.heap.size + 1)
    (stretches1 _ (w1.heap.size + 1) (by simp) a cap L (by go_simp) (by go_simp) hLw _ (by omega) (fun hne x hx => by have := h.lt hne x hx; have := hb1.size; simp; omega))
    (by simp; omega) (by simp; omega)
    (fun pre W => W.cell? ⟨w1.heap.size, 0, none⟩ = some (.string ⟨(num L.length ++ runsBytes pre).toArray⟩) ∧ W.frozen? ⟨w1.heap.size, 0, none⟩ = false ∧ Below w.heap.size w W ∧ w1.heap.size + 2 ≤ W.heap.size)
    (fun pre A B ⟨i1, i2, i3, i4⟩ hsz hk => ⟨hk.cell i1 (fun h => by simp at h; omega), (hk.frozen (p := ⟨w1.heap.size, 0, none⟩) (World.block_lt_of_cell? A _ i1) (fun h => by simp at h; omega)).trans i2, i3.trans (hk.below i3.size (fun k h1 h2 => by have := hb1.size; simp at h2; omega)), Nat.le_trans i4 hk.size⟩)
    ⟨by simp only [runsBytes, List.flatMap_nil, List.append_nil]; exact cell_past (cell_one_new' _ _ _) _, frozen_past (cell_one_new' _ _ _) (frozen_one_new _ _ _) _, (hb1.alloc hb1.size _).alloc (by have := hb1.size; simp; omega) _, by simp⟩
    (fun x => { tmps := #[.slice a L.length cap, undef, .string { data := #[] }, .int .i64 0, .pointer (some ⟨w1.heap.size, 0, none⟩), .int .u8 x.1.toNat, .int .i64 x.2, .slice a L.length cap, .bool true, .bool false, .slice a L.length cap, .int .i64 L.length, .int .u64 L.length, .string ⟨(num L.length).toArray⟩, .slice a L.length cap, .func (.func 85) #[] #[.pointer (some ⟨w1.heap.size + 1, 0, none⟩)], .int .u8 x.1.toNat, .int .i64 x.2, undef, undef, undef, undef, undef, undef, undef, undef, undef, undef], defers := [] })
    ?assign ?body ?done
  case assign =>
    intro l x W K hK
    gi_wp2
    exact hK
  case body =>
    rintro l pre ⟨c, n⟩ rest A hl hx ⟨hc, hfz, hbA, hsA⟩ hsA2
    have hn : n ≤ 64 := Nat.le_trans (runs_le _ L (Nat.le_refl _) (c, n) (by rw [hx]; simp)).2 hl64
    have hpl := pre_len L hl64 pre _ hx
    have hnl : (num n).length ≤ 10 := num_len10 n (by unfold two64; omega)
    simp only [List.length_append] at hpl
    have Hx := hid hx
    clear hx
    have Hl := hid hl
    have Hs := hid hsA2
    clear hl hsA2
    have hx2 : n < two64 := by unfold two64; omega
    have hwx : IntKind.u64.wrap (n : Int) = (n : Int) := u64_nat n hx2
    have Hx2 := hid hx2
    clear hx2
    have hmix : Try.prog.follows .mixedOrders = true := by kernel_rfl
    gi_wp2
    gi_wp2
    refine round_rel l 9 hmix (by kernel_rfl)
      (fun vals => { tmps := #[.slice a L.length cap, undef, .string { data := #[] }, .int .i64 0, .pointer (some ⟨w1.heap.size, 0, none⟩), .int .u8 c.toNat, .int .i64 n, .slice a L.length cap, .bool true, .bool false, .slice a L.length cap, .int .i64 L.length, .int .u64 L.length, .string ⟨(num L.length).toArray⟩, .slice a L.length cap, .func (.func 85) #[] #[.pointer (some ⟨w1.heap.size + 1, 0, none⟩)], .int .u8 c.toNat, .int .i64 n, vals 0, vals 1, vals 2, vals 3, vals 4, vals 5, vals 6, vals 7, vals 8, undef], defers := [] })
      (fun w => Keeps (fun _ => False) A w) (runR c n (num L.length ++ runsBytes pre)) (fun _ => undef) rfl ((Keeps.refl _ A).drew) ?hrun ?hfin
    case hrun =>
      intro i o vals W hi ho hC hd
      have hcW := hC.cell hc id
      match i, hi, ho, hd with
      | 0, _, ho, hd =>
        obtain rfl := Option.some.inj ho
        clear hd
        go_simp
        exact ⟨.string ⟨(num L.length ++ runsBytes pre).toArray⟩, by simp [upd], rfl⟩
      | 1, _, ho, hd =>
        obtain rfl := Option.some.inj ho
        clear hd
        go_simp
        exact ⟨.int .u8 c.toNat, by simp [upd], rfl⟩
      | 2, _, ho, hd =>
        obtain rfl := Option.some.inj ho
        have q1 := hd ⟨1, .data⟩ (by simp) rfl
        simp only [runR] at q1
        clear hd
        go_simp
        exact ⟨.slice (some ⟨W.heap.size, 0, none⟩) 1 1, by simp [upd, q1], ⟨W.heap.size, rfl, by go_simp⟩, hC.alloc _, fun j u h => runR_keeps ((Keeps.refl _ W).alloc _) j u h⟩
      | 3, _, ho, hd =>
        obtain rfl := Option.some.inj ho
        have q2 := hd ⟨2, .data⟩ (by simp) rfl
        simp only [runR] at q2
        obtain ⟨B, q2, q3⟩ := q2
        have hcv := conv1_at W B c q3
        clear hd
        go_simp
        exact ⟨.string ⟨#[c]⟩, by simp [upd, q2], rfl⟩
      | 4, _, ho, hd =>
        obtain rfl := Option.some.inj ho
        clear hd
        go_simp
        exact ⟨.int .i64 n, by simp [upd], rfl⟩
      | 5, _, ho, hd =>
        obtain rfl := Option.some.inj ho
        have q1 := hd ⟨4, .data⟩ (by simp) rfl
        simp only [runR] at q1
        clear hd
        go_simp
        exact ⟨.int .u64 n, by simp [upd, q1], rfl⟩
      | 6, _, ho, hd =>
        obtain rfl := Option.some.inj ho
        have q1 := hd ⟨5, .data⟩ (by simp) rfl
        simp only [runR] at q1
        clear hd
        go_simp
        refine ⟨trivial, rfl, CallsIn.inRound l (callsIn_wide.2 ((pack_Number n Hx2.out _).mono ?_))⟩
        rintro e w3 ⟨rfl, hb3⟩
        exact ⟨.string ⟨(num n).toArray⟩, by simp [upd, q1], rfl, hC.then_below hb3, fun j u h => runR_keeps ((Keeps.refl _ W).then_below hb3) j u h⟩
      | 7, _, ho, hd =>
        obtain rfl := Option.some.inj ho
        have q1 := hd ⟨3, .data⟩ (by simp) rfl
        simp only [runR] at q1
        have q2 := hd ⟨6, .data⟩ (by simp) rfl
        simp only [runR] at q2
        have hadd := add_strings W [c] (num n) (by simp; omega)
        clear hd
        go_simp
        exact ⟨.string ⟨(c :: num n).toArray⟩, by simp [upd, q1, q2], rfl⟩
      | 8, _, ho, hd =>
        obtain rfl := Option.some.inj ho
        have q1 := hd ⟨0, .data⟩ (by simp) rfl
        simp only [runR] at q1
        have q2 := hd ⟨7, .data⟩ (by simp) rfl
        simp only [runR] at q2
        have hadd := add_strings W (num L.length ++ runsBytes pre) (c :: num n) (by simp; omega)
        clear hd
        go_simp
        exact ⟨.string ⟨(num L.length ++ runsBytes pre ++ c :: num n).toArray⟩, by simp [upd, q1, q2], rfl⟩
    case hfin =>
      intro tl ht vals W hC hR
      obtain rfl := Option.some.inj ht
      have q8 := hR 8 (by omega)
      simp only [runR] at q8
      have hcW := hC.cell hc id
      have hfW := (hC.frozen (p := ⟨w1.heap.size, 0, none⟩) (by simp; omega) id).trans hfz
      go_simp
      have hk : Keeps (fun k => k = w1.heap.size ∨ w1.heap.size + 3 < k) A (W.setCell ⟨w1.heap.size, 0, none⟩ (.string ⟨(num L.length ++ (runsBytes pre ++ c :: num n)).toArray⟩)) :=
        (hC.mono (fun _ _ h => h.elim)).setCell (p := ⟨w1.heap.size, 0, none⟩) (.inl rfl) _
      refine ⟨rfl, hk, ?_, by rw [World.frozen?_setCell]; exact hfW, ?_, Nat.le_trans hsA hk.size⟩
      · rw [runsBytes_snoc]
        exact World.cell?_setCell_same _ _ _ hcW
      · exact hbA.trans (hk.below hbA.size (fun k h1 h2 => by have := hb1.size; omega))
  case done =>
    rintro W ⟨hc, hfz, hbW, hsW⟩ hD
    gi_wp2
    refine ⟨by simp, .inl ⟨_, _, rfl, run_takeDeferred hD, ?_⟩⟩
    refine ⟨_, results_tmp2 rfl _ _ _, rfl, ?_⟩
    have hlt := (Array.getElem?_eq_some_iff.1 hD).1
    exact hbW.trans (((Keeps.refl (fun k => w.heap.size ≤ k) W).putObj (by have := hb1.size; simp; omega) _).below hbW.size (fun k h1 h2 => by omega))
end Go.Proofs.Ytaobhbfhbmenfaa
