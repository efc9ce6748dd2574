/- freeze: a state's bytes are read back. Plain facts. -/
import Derived.Test.YtfepefohaadecaaFrzP
import Derived.Test.YtfepefohaadecaaUnp
namespace Go.Proofs.Ytfepefohaadecaa
open Go.RowKit
def mkB (l : List UInt8) : ByteArray := ⟨l.toArray⟩
theorem mkB_list (l : List UInt8) : (mkB l).data.toList = l := rfl
theorem mkB_drop (l m : List UInt8) : (mkB (l ++ m)).extract l.length (mkB (l ++ m)).size = mkB m := by
  apply ByteArray.ext
  apply Array.ext'
  rw [extract_end]
  show (l ++ m).drop l.length = m
  simp
theorem rdN_num (n : Nat) (h : n ≤ 4294967295) (l : List UInt8) : rdN (mkB (num n ++ l), false) = ((mkB l, false), (n : Int)) := by
  unfold rdN
  rw [mkB_list, rd_behind n (by unfold two64; omega)]
  simp only [mkB_drop, Bool.false_or]
  rw [show wrap64 (n : Int) = n by unfold wrap64; omega]
  simp
  omega
theorem rdS_num (n : Int) (h : fitsI .i32 n) (l : List UInt8) : rdS (mkB (num (zz n) ++ l), false) = ((mkB l, false), n) := by
  have h : -2147483648 ≤ n ∧ n ≤ 2147483647 := h
  unfold rdS
  rw [mkB_list, rd_behind (zz n) (zz_in n (by omega))]
  simp only [mkB_drop, Bool.false_or, unzz_zz]
  rw [show wrap32 n = n by unfold wrap32; omega]
  simp
  omega
/-- small enough to be read -/
structure Tame (v : Nat → Int) : Prop where
  wf : WfS v
  pos : ∀ j, j < 60 → kindAt j ≠ .i32 → 0 ≤ v j ∧ v j ≤ 4294967295
theorem rd_step {v u : Nat → Int} (h : Tame v) (o : Nat) (ho : o < 60) (l : List UInt8) : (rdC 0).step ((mkB (tellAt v o ++ l), false), u) o = ((mkB l, false), updI u o (v o)) := by
  have hf := h.wf o ho
  have hp := h.pos o ho
  have hN : ∀ x : Int, (rdC 0).nF (mkB (num (v o).toNat ++ l), false) x = rdN (mkB (num (v o).toNat ++ l), false) := fun _ => rfl
  have hS : ∀ x : Int, (rdC 0).sF (mkB (num (zz (v o)) ++ l), false) x = rdS (mkB (num (zz (v o)) ++ l), false) := fun _ => rfl
  unfold Codec.step tellAt
  rcases kind_cases o with e | e | e <;> rw [e] at hf hp ⊢
  · have hp := hp (by decide)
    simp only [reduceCtorEq, if_false, hN, rdN_num _ (show (v o).toNat ≤ 4294967295 by omega)]
    rw [show (((v o).toNat : Nat) : Int) = v o by omega, show IntKind.u32.wrap (v o) = v o by rw [wrap_u32]; omega]
  · have hp := hp (by decide)
    simp only [reduceCtorEq, if_false, hN, rdN_num _ (show (v o).toNat ≤ 4294967295 by omega)]
    rw [show (((v o).toNat : Nat) : Int) = v o by omega]
  · simp only [if_true, hS, rdS_num _ hf]
def updL (u v : Nat → Int) (L : List Nat) : Nat → Int := fun j => if j ∈ L then v j else u j
theorem rd_steps_at {v : Nat → Int} (h : Tame v) : ∀ (L : List Nat) (u : Nat → Int) (l : List UInt8), (∀ o ∈ L, o < 60) → (rdC 0).steps ((mkB (told v L ++ l), false), u) L = ((mkB l, false), updL u v L)
  | [], u, l, _ => by
    show ((mkB l, false), u) = _
    congr 1
  | o :: L, u, l, hL => by
    have ih := rd_steps_at h L (updI u o (v o)) l (fun x hx => hL x (by simp [hx]))
    unfold Codec.steps at ih ⊢
    rw [List.foldl_cons, show told v (o :: L) ++ l = tellAt v o ++ (told v L ++ l) by simp [told], rd_step h o (hL o (by simp)), ih]
    congr 1
    funext j
    simp only [updL, updI, List.mem_cons]
    by_cases e : j ∈ L
    · simp [e]
    · by_cases e2 : j = o
      · subst e2; simp [e]
      · simp [e, e2]
theorem inR_le {n a b : Int} (h : inR n a b = true) (hb : b ≤ 4294967295) : n ≤ 4294967295 := by
  simp [inR] at h
  omega
theorem ply_le {v : Nat → Int} {o : Nat} (h : plyAt v o = true) (j : Nat) (h1 : 4 ≤ j) (h2 : j < 10) : v (o + j) ≤ 4294967295 := by
  simp only [plyAt, plyOk, Bool.and_eq_true] at h
  obtain ⟨a1, a2, a3, a4, a5, a6, _⟩ := h
  obtain rfl | rfl | rfl | rfl | rfl | rfl : j = 4 ∨ j = 5 ∨ j = 6 ∨ j = 7 ∨ j = 8 ∨ j = 9 := by omega
  · exact inR_le a1 (by omega)
  · exact inR_le a2 (by omega)
  · exact inR_le a3 (by omega)
  · exact inR_le a4 (by omega)
  · exact inR_le a5 (by omega)
  · exact inR_le a6 (by omega)
theorem sho_le {v : Nat → Int} {j : Nat} (h : shoAt v j = true) (k : Nat) (h1 : 28 ≤ k) (h2 : k < 30) : v (k + 6 * j) ≤ 4294967295 := by
  simp only [shoAt, shoOk, isNo, Bool.or_eq_true, Bool.and_eq_true, decide_eq_true_eq] at h
  obtain rfl | rfl : k = 28 ∨ k = 29 := by omega
  · rcases h with h | h
    · omega
    · exact inR_le h.1 (by omega)
  · rcases h with h | h
    · omega
    · exact inR_le h.2.1 (by omega)
theorem right_le {v : Nat → Int} (hw : WfS v) (h : rightS v = true) (j : Nat) (hj : j < 60) (hk : kindAt j ≠ .i32) : v j ≤ 4294967295 := by
  simp only [rightS, Bool.and_eq_true] at h
  obtain ⟨a1, a2, a3, a4, a5, a6⟩ := h
  by_cases h1 : j < 4
  · obtain rfl | rfl | rfl | rfl : j = 0 ∨ j = 1 ∨ j = 2 ∨ j = 3 := by omega
    · exact inR_le a4 (by omega)
    · exact (hw 1 (by omega)).2
    · exact inR_le a5 (by omega)
    · exact inR_le a6 (by omega)
  · by_cases h2 : j < 24
    · have hq : 4 ≤ (j - 4) % 10 := by
        by_cases e : (j - 4) % 10 < 4
        · exact absurd (by unfold kindAt; rw [if_neg (by omega), if_neg h1, if_pos h2, if_pos e]) hk
        · omega
      rcases (show j - 4 < 10 ∨ 10 ≤ j - 4 by omega) with h3 | h3
      · have := ply_le a2 (j - 4) (by omega) (by omega)
        rwa [show 4 + (j - 4) = j by omega] at this
      · have := ply_le a3 (j - 14) (by omega) (by omega)
        rwa [show 14 + (j - 14) = j by omega] at this
    · have hq : 4 ≤ (j - 24) % 6 := by
        by_cases e : (j - 24) % 6 < 4
        · exact absurd (by unfold kindAt; rw [if_neg (by omega), if_neg h1, if_neg h2, if_pos e]) hk
        · omega
      have h3 := shosOk_at (j := (j - 24) / 6) a1 (by omega)
      have := sho_le h3 (24 + (j - 24) % 6) (by omega) (by omega)
      rwa [show 24 + (j - 24) % 6 + 6 * ((j - 24) / 6) = j by omega] at this
theorem tame_of {v : Nat → Int} (hw : WfS v) (h : rightS v = true) : Tame v := ⟨hw, fun j hj hk => ⟨right_pos hw h j hj hk, right_le hw h j hj hk⟩⟩
def shosTo (u v : Nat → Int) : Nat → Nat → Int
  | 0 => u
  | j + 1 => if noSho v j then shosTo u v j else updL (shosTo u v j) v (shotAt (24 + 6 * j))
theorem rd_shos {v : Nat → Int} (h : Tame v) (u : Nat → Int) : ∀ (j : Nat) (r : List UInt8), j ≤ 6 → shoLoop (rdC 0) (bitsTo v 6 : Nat) ((mkB (shotsTo v j ++ r), false), u) j = ((mkB r, false), shosTo u v j)
  | 0, r, _ => rfl
  | j + 1, r, hj => by
    unfold shoLoop shosTo
    rw [show shotsTo v (j + 1) ++ r = shotsTo v j ++ ((if noSho v j then [] else told v (shotAt (24 + 6 * j))) ++ r) by simp [shotsTo], rd_shos h u j _ (by omega)]
    by_cases hz : noSho v j
    · rw [if_neg (fun e => (and_at v j (by omega)).1 e hz), if_pos hz, if_pos hz]
      rfl
    · rw [if_pos ((and_at v j (by omega)).2 hz), if_neg hz, if_neg hz, rd_steps_at h _ _ _ (shot_in j (by omega))]
theorem shosTo_at (u v : Nat → Int) (hu : ∀ k, k < 24 → u k = v k) (hz : ∀ k, 24 ≤ k → u k = 0) : ∀ j, j ≤ 6 → ∀ k, shosTo u v j k = if k < 24 + 6 * j then v k else 0
  | 0, _, k => by
    show u k = _
    by_cases e : k < 24
    · rw [if_pos (by omega), hu k e]
    · rw [if_neg (by omega), hz k (by omega)]
  | j + 1, hj, k => by
    have ih := shosTo_at u v hu hz j (by omega) k
    unfold shosTo
    by_cases hn : noSho v j
    · rw [if_pos hn, ih]
      by_cases e : k < 24 + 6 * j
      · rw [if_pos e, if_pos (by omega)]
      · rw [if_neg e]
        by_cases e2 : k < 24 + 6 * (j + 1)
        · rw [if_pos e2]
          unfold noSho at hn
          obtain h | h | h | h | h | h : k = 24 + 6 * j ∨ k = 25 + 6 * j ∨ k = 26 + 6 * j ∨ k = 27 + 6 * j ∨ k = 28 + 6 * j ∨ k = 29 + 6 * j := by omega
          all_goals (rw [h]; simp only [hn])
        · rw [if_neg e2]
    · rw [if_neg hn]
      simp only [updL, shotAt, List.mem_cons, List.not_mem_nil, or_false]
      by_cases e : k = 24 + 6 * j ∨ k = 24 + 6 * j + 1 ∨ k = 24 + 6 * j + 2 ∨ k = 24 + 6 * j + 3 ∨ k = 24 + 6 * j + 4 ∨ k = 24 + 6 * j + 5
      · rw [if_pos e, if_pos (by omega)]
      · rw [if_neg e, ih]
        by_cases e2 : k < 24 + 6 * j
        · rw [if_pos e2, if_pos (by omega)]
        · rw [if_neg e2, if_neg (by omega)]
theorem ply_only : ∀ o ∈ plyL 2, o < 24 := by decide
theorem read_back {v : Nat → Int} (h : Tame v) (hz : ∀ j, 60 ≤ j → v j = 0) : readS (mkB (packS v)) = ((mkB [], false), v) := by
  have hb := bitsTo_lt v 6
  have h1 := rd_steps_at h (plyL 2) zeroV (num (bitsTo v 6) ++ shotsTo v 6) ply_in
  have hN : ∀ x : Int, (rdC 0).nF (mkB (num (bitsTo v 6) ++ shotsTo v 6), false) x = ((mkB (shotsTo v 6), false), ((bitsTo v 6 : Nat) : Int)) := fun _ => rdN_num _ (by omega) _
  have h2 := rd_shos h (updL zeroV v (plyL 2)) 6 [] (by omega)
  rw [List.append_nil] at h2
  unfold readS stateF packS
  rw [List.append_assoc, h1]
  simp only [hN]
  rw [h2]
  congr 1
  funext k
  rw [shosTo_at _ _ (fun k hk => by simp only [updL]; rw [if_pos (ply_all ⟨k, hk⟩)]) (fun k hk => by simp only [updL]; rw [if_neg (fun e => by have := ply_only k e; omega)]; rfl) 6 (by omega)]
  by_cases e : k < 60
  · rw [if_pos (by omega)]
  · rw [if_neg (by omega), hz k (by omega)]
theorem unp_right {v : Nat → Int} (hw : WfS v) (h : rightS v = true) (hz : ∀ j, 60 ≤ j → v j = 0) : unpOk (mkB (packS v)) = true ∧ unpV (mkB (packS v)) = v := by
  have hb := read_back (tame_of hw h) hz
  have h1 : unpOk (mkB (packS v)) = true := by
    unfold unpOk
    rw [hb]
    simp [h, mkB_list]
  refine ⟨h1, ?_⟩
  unfold unpV
  rw [if_pos h1, hb]
theorem unp_told {t : ByteArray} (h : unpOk t = true) : rightS (unpV t) = true ∧ packS (unpV t) = t.data.toList := by
  have h0 := h
  unfold unpOk at h0
  simp only [Bool.and_eq_true, decide_eq_true_eq] at h0
  unfold unpV
  rw [if_pos h]
  exact h0.2
end Go.Proofs.Ytfepefohaadecaa
