/- Nmb · RUp · RUn, in one text. -/
import Derived.Test.YtfepefohaadecaaBgn
import Derived.Test.YtfepefohaadecaaBack
import Derived.Test.YtfepefohaadecaaRPkA
import Derived.Test.YtfepefohaadecaaRRgt3
/- The document's numbers of bytes, one behind the other; a number that was told with a sign. -/
namespace Go.Proofs.Ytfepefohaadecaa
open Go.RowKit
set_option maxRecDepth 10000
variable {w : World}
/-- that bytes are, one behind the other -/
def allOf (l : List UInt8) : Option (List Nat) := if l = [] then some [] else if (rdNum l).2.2 = 0 then (allOf (l.drop (max 1 (rdNum l).2.1))).map ((rdNum l).1 :: ·) else none
termination_by l.length
decreasing_by
  rename_i h _
  have := List.length_pos_iff.2 h
  rw [List.length_drop]
  omega
theorem allOf_nil : allOf [] = some [] := by rw [allOf]; rfl
theorem rd_pos {l : List UInt8} (h : (rdNum l).2.2 = 0) : 1 ≤ (rdNum l).2.1 := by
  have := (rd_ok l (rdNum l).1 (rdNum l).2.1 (by rw [← h])).2.2
  have := num_pos (rdNum l).1
  omega
theorem allOf_on {l : List UInt8} (h0 : l ≠ []) (h : (rdNum l).2.2 = 0) : allOf l = (allOf (l.drop (rdNum l).2.1)).map ((rdNum l).1 :: ·) := by
  have := rd_pos h
  rw [allOf, if_neg h0, if_pos h, show max 1 (rdNum l).2.1 = (rdNum l).2.1 by omega]
theorem allOf_bad {l : List UInt8} (h0 : l ≠ []) (h : (rdNum l).2.2 ≠ 0) : allOf l = none := by
  rw [allOf, if_neg h0, if_neg h]
def u64s (L : List Nat) : List Value := L.map fun (n : Nat) => Value.int .u64 (n : Int)
theorem info_u64 : ((Try.prog.info? 93).map fun i => (i.zero, i.size, i.bytes)) = some (some (.int .u64 0), 1, 8) := by kernel_rfl
structure NbSt (t : ByteArray) (s : ByteArray) (acc : List Nat) : Prop where
  is : allOf t.data.toList = (allOf s.data.toList).map (acc ++ ·)
theorem rf_Numbers (t : ByteArray) (ht : t.size ≤ 1000) (w : World) : Calls Try.prog 41 #[.string t] w fun e w' =>
    (∃ v, e = .returned (.tuple #[v, .bool (allOf t.data.toList).isSome]) ∧ w'.ownsRow w.heap.size 93 1 v ((allOf t.data.toList).getD []).length (u64s ((allOf t.data.toList).getD []))) ∧ Below w.heap.size w w' := by
  obtain ⟨i0, hi, hz0, hz1, hz2⟩ : ∃ i, Try.prog.info? 93 = some i ∧ i.zero = some (.int .u64 0) ∧ i.size = 1 ∧ i.bytes = 8 := by
    have h := info_u64
    cases hh : Try.prog.info? 93 with
    | none => rw [hh] at h; cases h
    | some i => rw [hh] at h; simp only [Option.map_some, Option.some.injEq, Prod.mk.injEq] at h; exact ⟨i, rfl, h.1, h.2.1, h.2.2⟩
  have Hi := hid hi
  clear hi
  have hN0 := hid (show NbSt t t [] from ⟨by simp⟩)
  have hk0 : Keeps (fun _ => False) w (w.alloc (.cells #[] 93)) := (Keeps.refl _ w).alloc _
  have ho0 := own_empty (base := w.heap.size) (e := 93) (sz := 1) (Nat.le_refl _) (blk_new w (.cells #[] 93))
  go_enter Try.func41, Try.ntmps41
  go_wp2_with fail
  generalize w.alloc (.cells #[] 93) = w0 at *
  go_loopw [0, 4] (fun sv v wr => ∃ (s : ByteArray) (acc : List Nat), sv = .string s ∧ acc.length + s.size ≤ 1000 ∧ wr.ownsRow w.heap.size 93 1 v acc.length (u64s acc) ∧ Hid (NbSt t s acc) ∧ Keeps (fun _ => False) w wr) (fun sv _ _ => strLen sv)
  case atStart => exact ⟨t, [], rfl, by simpa using ht, ho0, hN0, hk0⟩
  case round =>
    obtain ⟨s, acc, rfl, hlen, hown, HN, hkr⟩ := hrel
    clear hN0 hk0 ho0
    have hR := ref_ReadNumber s (by unfold maxLen; omega) wr
    have hsl : s.data.toList.length = s.size := by rw [Array.length_toList]; rfl
    by_cases hs : s.size = 0
    · have hnil : s.data.toList = [] := List.eq_nil_of_length_eq_zero (by omega)
      have hend : allOf t.data.toList = some acc := by rw [HN.out.is, hnil, allOf_nil]; simp
      have HE := hid hend
      clear hend hR hnil
      have hs' : ¬ (0 : Int) < (s.size : Int) := by omega
      go_wp2_with fail
      go_ret2
      exact ⟨⟨_, by rw [HE.out]; rfl, by rw [HE.out]; exact hown⟩, hkr.below (Nat.le_refl _) (fun k h1 h2 => h2)⟩
    · have hne : s.data.toList ≠ [] := fun e => hs (by rw [← hsl, e]; rfl)
      have hs' : (0 : Int) < (s.size : Int) := by omega
      have hin := rd_in s.data.toList
      by_cases hz : (rdNum s.data.toList).2.2 = 0
      · have hst : allOf t.data.toList = (allOf (s.extract (rdNum s.data.toList).2.1 s.size).data.toList).map ((acc ++ [(rdNum s.data.toList).1]) ++ ·) := by
          rw [HN.out.is, allOf_on hne hz, extract_end, Option.map_map]
          congr 1
          funext L
          simp
        have hp := rd_pos hz
        rw [hz] at hR
        rw [hsl] at hin
        generalize (rdNum s.data.toList).1 = x at *
        generalize (rdNum s.data.toList).2.1 = k at *
        have hst2 := hid (show NbSt t (s.extract k s.size) (acc ++ [x]) from ⟨hst⟩)
        have hse : (s.extract k s.size).size = s.size - k := by rw [ByteArray.size_extract]; omega
        have hv1 := vals_one wr (.int .u64 (x : Int)) 93
        clear hst hne hz
        go_wp2_with fail
        refine hR.mono ?_
        rintro e _ ⟨rfl, rfl⟩
        go_wp2_with (at_builtin; refine wpList_append_vals _ rfl (.tmp 20) (.tmp 22) _ rfl w.heap.size 93 i0 _ 1 8 Try.underlying90 Hi.out hz0 hz1 hz2 rfl (by omega) _ acc.length (u64s acc) rfl (own_keeps hown ((Keeps.refl (fun _ => False) _).alloc _) (fun _ _ => id)) (some ⟨_, 0, none⟩) 1 1 [.int .u64 (x : Int)] rfl hv1 (by simp [Value.oneCell']) (by simp only [maxLen]; omega) (by omega) (by have := hkr.size; simp; omega) ?_)
        intro v1 w1 hown1 hg1 _
        have hk1 : Keeps (fun _ => False) w w1 := (hkr.alloc _).grown hg1 (fun k hk => .inr ((hown.lt k hk).1))
        go_wp2_with fail
        go_roundw
        case rel => exact ⟨_, acc ++ [x], rfl, by rw [List.length_append, List.length_singleton, hse]; omega, by rw [List.length_append, List.length_singleton, show u64s (acc ++ [x]) = u64s acc ++ [.int .u64 (x : Int)] by simp [u64s]]; exact hown1, hst2, hk1⟩
        case measure => show (s.extract k s.size).size < s.size; omega
      · have hend : allOf t.data.toList = none := by rw [HN.out.is, allOf_bad hne hz]; rfl
        have HE := hid hend
        clear hend hne
        generalize (rdNum s.data.toList).2.2 = er at *
        have hq : (er != 0) = true := by simpa using hz
        clear hz hin
        go_wp2_with fail
        refine hR.mono ?_
        rintro e _ ⟨rfl, rfl⟩
        go_wp2_with fail
        go_ret2
        exact ⟨⟨_, by rw [HE.out]; rfl, by rw [HE.out]; exact own_nil _ _ _ _⟩, hkr.below (Nat.le_refl _) (fun k h1 h2 => h2)⟩
theorem rf_fix (x : Nat) (hx : x ≤ 4294967295) (w : World) : Calls Try.prog 42 #[.int .u64 x] w fun e w' => e = .returned (.int .i32 (unzz x)) ∧ w = w' := by
  unfold unzz
  by_cases h : x % 2 = 0
  · rw [if_pos h]
    have h1 : (x : Int) % 2 = 0 := by omega
    have h2 : IntKind.i32.wrap ((x : Int) / 2) = ((x / 2 : Nat) : Int) := by rw [IntKind.wrap_i32]; omega
    go_enter Try.func42, Try.ntmps42
    go_wp2_with fail
    go_ret
    exact ⟨rfl, rfl⟩
  · rw [if_neg h]
    have h1 : (x : Int) % 2 = 1 := by omega
    go_enter Try.func42, Try.ntmps42
    go_wp2_with fail
    go_ret
    refine ⟨ret_int ?_, rfl⟩
    omega
end Go.Proofs.Ytfepefohaadecaa
/- The document's Unpack of a state: what it reads. Plain facts. -/
namespace Go.Proofs.Ytfepefohaadecaa
open Go.RowKit
set_option maxRecDepth 10000
/-- a number at its place -/
def valAt (j n : Nat) : Int := if kindAt j = .i32 then unzz n else (n : Int)
/-- the first m numbers -/
def hdS (L : List Nat) (m : Nat) : Nat → Int := fun j => if j < m then valAt j (L.getD j 0) else 0
/-- behind i shots: the numbers, and how many are used -/
def shF (L : List Nat) : Nat → Option ((Nat → Int) × Nat)
  | 0 => some (hdS L 24, 25)
  | i + 1 => match shF L i with
    | none => none
    | some (v, c) => if L.getD 24 0 / 2 ^ i % 2 = 1 then (if L.length < c + 6 then none else some (fun j => if 24 + 6 * i ≤ j ∧ j < 24 + 6 * i + 6 then valAt j (L.getD (c + (j - (24 + 6 * i))) 0) else v j, c + 6)) else some (v, c)
def Small (L : List Nat) : Prop := ∀ x ∈ L, x ≤ 4294967295
instance (L : List Nat) : Decidable (Small L) := by unfold Small; infer_instance
/-- what is read: is it a state's, and which one -/
def refU (l : List UInt8) : Bool × (Nat → Int) := match allOf l with
  | none => (false, zeroV)
  | some L => if 25 ≤ L.length ∧ Small L then (match shF L 6 with
    | none => (false, zeroV)
    | some (v, _) => if rightS v = true ∧ packS v = l then (true, v) else (false, zeroV)) else (false, zeroV)
theorem getD_small {L : List Nat} (h : Small L) (j : Nat) : L.getD j 0 ≤ 4294967295 := by
  by_cases e : j < L.length
  · rw [List.getD_eq_getElem?_getD, List.getElem?_eq_getElem e]
    exact h _ (List.getElem_mem e)
  · rw [List.getD_eq_getElem?_getD, List.getElem?_eq_none (by omega)]
    exact Nat.zero_le _
theorem valAt_fits (j n : Nat) (h : n ≤ 4294967295) : fitsI (kindAt j) (valAt j n) := by
  unfold valAt
  rcases kind_cases j with e | e | e <;> rw [e]
  · rw [if_neg (by decide)]
    show 0 ≤ (n : Int) ∧ (n : Int) ≤ 4294967295
    omega
  · rw [if_neg (by decide)]
    show -9223372036854775808 ≤ (n : Int) ∧ (n : Int) ≤ 9223372036854775807
    omega
  · rw [if_pos rfl]
    show -2147483648 ≤ unzz n ∧ unzz n ≤ 2147483647
    unfold unzz
    split <;> omega
theorem hdS_wf {L : List Nat} (h : Small L) (m : Nat) : WfS (hdS L m) := by
  intro j hj
  unfold hdS
  split
  · exact valAt_fits j _ (getD_small h j)
  · exact zero_fits _
theorem shF_wf {L : List Nat} (h : Small L) : ∀ (i : Nat) (v : Nat → Int) (c : Nat), shF L i = some (v, c) → WfS v ∧ (∀ j, 60 ≤ j → i ≤ 6 → v j = 0) ∧ 25 ≤ c ∧ c ≤ 25 + 6 * i ∧ (25 ≤ L.length → c ≤ L.length)
  | 0, v, c, e => by
    cases e
    exact ⟨hdS_wf h 24, fun j hj _ => by unfold hdS; rw [if_neg (by omega)], by omega, by omega, fun h => h⟩
  | i + 1, v, c, e => by
    unfold shF at e
    cases hq : shF L i with
    | none => rw [hq] at e; cases e
    | some q =>
      obtain ⟨v', c'⟩ := q
      obtain ⟨h1, h2, h3, h4, h5⟩ := shF_wf h i v' c' hq
      rw [hq] at e
      simp only at e
      split at e
      · split at e
        · cases e
        · rename_i hl
          cases e
          refine ⟨fun j hj => ?_, fun j hj hi => ?_, by omega, by omega, fun _ => by omega⟩
          · simp only
            split
            · exact valAt_fits j _ (getD_small h _)
            · exact h1 j hj
          · simp only
            rw [if_neg (by omega)]
            exact h2 j hj (by omega)
      · cases e
        exact ⟨h1, fun j hj hi => h2 j hj (by omega), h3, by omega, h5⟩
theorem hdS_step (L : List Nat) (i : Nat) : hdS L (4 + 10 * (i + 1)) = fun j => if 4 + 10 * i ≤ j ∧ j < 4 + 10 * i + 10 then valAt j (L.getD j 0) else hdS L (4 + 10 * i) j := by
  funext j
  unfold hdS
  by_cases h1 : j < 4 + 10 * i
  · rw [if_pos (by omega), if_neg (by omega), if_pos h1]
  · by_cases h2 : j < 4 + 10 * i + 10
    · rw [if_pos (by omega), if_pos (by omega)]
    · rw [if_neg (by omega), if_neg (by omega), if_neg h1]
theorem mkC_splice (v u : Nat → Int) (o k : Nat) (c : Array Value) (hk : c.size = k) (ho : o + k ≤ 60) (hc : ∀ j, j < k → c[j]? = some (.int (kindAt (o + j)) (u (o + j)))) : spliceA (mkC v) o c = mkC (fun j => if o ≤ j ∧ j < o + k then u j else v j) := by
  apply Array.ext_getElem?
  intro j
  rw [splice_get _ _ _ (by rw [mkC_size]; omega), hk]
  by_cases hj : j < 60
  · rw [mkC_get _ hj, mkC_get _ hj]
    by_cases e : o ≤ j ∧ j < o + k
    · rw [if_pos e, if_pos e, hc _ (by omega), show o + (j - o) = j by omega]
    · rw [if_neg e, if_neg e]
  · rw [if_neg (by omega), Array.getElem?_eq_none (by rw [mkC_size]; omega), Array.getElem?_eq_none (by rw [mkC_size]; omega)]
/-- the numbers of a state, as they are told -/
def nmAt (v : Nat → Int) (o : Nat) : Nat := if kindAt o = .i32 then zz (v o) else (v o).toNat
def shotsN (v : Nat → Int) : Nat → List Nat
  | 0 => []
  | j + 1 => shotsN v j ++ if noSho v j then [] else (shotAt (24 + 6 * j)).map (nmAt v)
def numsS (v : Nat → Int) : List Nat := (plyL 2).map (nmAt v) ++ [bitsTo v 6] ++ shotsN v 6
def tellN (L : List Nat) : List UInt8 := L.flatMap num
theorem tell_nm (v : Nat → Int) (o : Nat) : tellAt v o = num (nmAt v o) := by
  unfold tellAt nmAt
  split <;> rfl
theorem told_nm (v : Nat → Int) (L : List Nat) : told v L = tellN (L.map (nmAt v)) := by
  unfold told tellN
  rw [List.flatMap_map]
  congr 1
  funext o
  exact tell_nm v o
theorem shots_nm (v : Nat → Int) : ∀ j, shotsTo v j = tellN (shotsN v j)
  | 0 => rfl
  | j + 1 => by
    unfold shotsTo shotsN
    rw [shots_nm v j]
    by_cases h : noSho v j
    · simp [h]
    · simp only [if_neg h, told_nm]
      simp [tellN]
theorem pack_nm (v : Nat → Int) : packS v = tellN (numsS v) := by
  unfold packS numsS
  rw [told_nm, shots_nm]
  simp [tellN]
theorem allOf_tell : ∀ (L : List Nat), (∀ x ∈ L, x < two64) → allOf (tellN L) = some L
  | [], _ => allOf_nil
  | x :: L, h => by
    have hb := rd_behind x (h x (by simp)) (tellN L)
    have hp := num_pos x
    have e : tellN (x :: L) = num x ++ tellN L := rfl
    rw [e, allOf_on (by intro e; have := (List.append_eq_nil_iff.1 e).1; rw [this] at hp; simp at hp) (by rw [hb]), hb]
    simp only [List.drop_left]
    rw [allOf_tell L (fun y hy => h y (by simp [hy]))]
    rfl
theorem nm_small {v : Nat → Int} (h : Tame v) (o : Nat) (ho : o < 60) : nmAt v o ≤ 4294967295 := by
  have hf := h.wf o ho
  have hp := h.pos o ho
  unfold nmAt
  rcases kind_cases o with e | e | e <;> rw [e] at hf hp ⊢
  · have hp := hp (by decide)
    rw [if_neg (by decide)]
    omega
  · have hp := hp (by decide)
    rw [if_neg (by decide)]
    omega
  · have hf : -2147483648 ≤ v o ∧ v o ≤ 2147483647 := hf
    rw [if_pos rfl]
    unfold zz
    split <;> omega
theorem val_nm {v : Nat → Int} (h : Tame v) (o : Nat) (ho : o < 60) : valAt o (nmAt v o) = v o := by
  have hp := h.pos o ho
  unfold valAt nmAt
  rcases kind_cases o with e | e | e <;> rw [e] at hp ⊢
  · have hp := hp (by decide)
    rw [if_neg (by decide), if_neg (by decide)]
    omega
  · have hp := hp (by decide)
    rw [if_neg (by decide), if_neg (by decide)]
    omega
  · rw [if_pos rfl, if_pos rfl, unzz_zz]
theorem shotsN_small {v : Nat → Int} (h : Tame v) : ∀ j, j ≤ 6 → ∀ x ∈ shotsN v j, x ≤ 4294967295
  | 0, _, x, hx => by cases hx
  | j + 1, hj, x, hx => by
    unfold shotsN at hx
    rcases List.mem_append.1 hx with hx | hx
    · exact shotsN_small h j (by omega) x hx
    · split at hx
      · cases hx
      · obtain ⟨o, ho, rfl⟩ := List.mem_map.1 hx
        exact nm_small h o (shot_in j (by omega) o ho)
theorem numsS_small {v : Nat → Int} (h : Tame v) : Small (numsS v) := by
  intro x hx
  unfold numsS at hx
  rcases List.mem_append.1 hx with hx | hx
  · rcases List.mem_append.1 hx with hx | hx
    · obtain ⟨o, ho, rfl⟩ := List.mem_map.1 hx
      exact nm_small h o (ply_in o ho)
    · have := bitsTo_lt v 6
      simp at hx
      omega
  · exact shotsN_small h 6 (by omega) x hx
theorem ply_at : ∀ j : Fin 24, (plyL 2)[j.val]? = some j.val := by decide
theorem ply_num (v : Nat → Int) (r : List Nat) (j : Nat) (hj : j < 24) : ((plyL 2).map (nmAt v) ++ r).getD j 0 = nmAt v j := by
  have h := ply_at ⟨j, hj⟩
  have hl : (plyL 2).length = 24 := rfl
  rw [List.getD_eq_getElem?_getD, List.getElem?_append_left (by rw [List.length_map]; omega), List.getElem?_map, h]
  rfl
theorem numsS_len (v : Nat → Int) : (numsS v).length = 25 + (shotsN v 6).length := by
  unfold numsS
  rw [List.length_append, List.length_append, List.length_map, show (plyL 2).length = 24 from rfl]
  rfl
theorem numsS_bits (v : Nat → Int) : (numsS v).getD 24 0 = bitsTo v 6 := by
  unfold numsS
  have hl : ((plyL 2).map (nmAt v)).length = 24 := by rw [List.length_map]; rfl
  rw [List.getD_eq_getElem?_getD, List.append_assoc, List.getElem?_append_right (by omega), hl]
  rfl
theorem shotsN_pre (v : Nat → Int) : ∀ k i, ∃ r, shotsN v (i + k) = shotsN v i ++ r
  | 0, i => ⟨[], by simp⟩
  | k + 1, i => by
    obtain ⟨r, h⟩ := shotsN_pre v k i
    exact ⟨r ++ _, by rw [show i + (k + 1) = (i + k) + 1 by omega, shotsN, h, List.append_assoc]⟩
theorem shF_back {v : Nat → Int} (h : Tame v) : ∀ i, i ≤ 6 → ∃ u, shF (numsS v) i = some (u, 25 + (shotsN v i).length) ∧ ∀ k, u k = if k < 24 + 6 * i then v k else 0
  | 0, _ => by
    refine ⟨_, rfl, fun k => ?_⟩
    unfold hdS
    by_cases e : k < 24
    · rw [if_pos e, if_pos (by omega), numsS, List.append_assoc, ply_num v _ k e, val_nm h k (by omega)]
    · rw [if_neg e, if_neg (by omega)]
  | i + 1, hi => by
    obtain ⟨u, hu, hk⟩ := shF_back h i (by omega)
    have hb := bits_at v i (by omega)
    have hN : shotsN v (i + 1) = shotsN v i ++ if noSho v i then [] else (shotAt (24 + 6 * i)).map (nmAt v) := rfl
    unfold shF
    rw [hu]
    simp only [numsS_bits]
    by_cases hz : noSho v i
    · rw [if_neg (fun e => hb.1 e hz)]
      rw [if_pos hz, List.append_nil] at hN
      refine ⟨u, by rw [hN], fun k => ?_⟩
      rw [hk k]
      by_cases e1 : k < 24 + 6 * i
      · rw [if_pos e1, if_pos (by omega)]
      · rw [if_neg e1]
        by_cases e2 : k < 24 + 6 * (i + 1)
        · rw [if_pos e2]
          obtain ⟨z0, z1, z2, z3, z4, z5⟩ := hz
          obtain rfl | rfl | rfl | rfl | rfl | rfl : k = 24 + 6 * i ∨ k = 25 + 6 * i ∨ k = 26 + 6 * i ∨ k = 27 + 6 * i ∨ k = 28 + 6 * i ∨ k = 29 + 6 * i := by omega
          all_goals simp only [z0, z1, z2, z3, z4, z5]
        · rw [if_neg e2]
    · rw [if_pos (hb.2 hz)]
      rw [if_neg hz] at hN
      have hl6 : ((shotAt (24 + 6 * i)).map (nmAt v)).length = 6 := by rw [List.length_map]; rfl
      obtain ⟨r, hr⟩ := shotsN_pre v (6 - (i + 1)) (i + 1)
      rw [show i + 1 + (6 - (i + 1)) = 6 by omega] at hr
      have hle : (shotsN v i).length + 6 ≤ (shotsN v 6).length := by rw [hr, hN, List.length_append, List.length_append, hl6]; omega
      rw [if_neg (by rw [numsS_len]; omega)]
      refine ⟨_, by rw [hN, List.length_append, hl6, ← Nat.add_assoc], fun k => ?_⟩
      by_cases e : 24 + 6 * i ≤ k ∧ k < 24 + 6 * i + 6
      · rw [if_pos e, if_pos (by omega)]
        have hg : (numsS v).getD (25 + (shotsN v i).length + (k - (24 + 6 * i))) 0 = nmAt v k := by
          have hpl : ((plyL 2).map (nmAt v) ++ [bitsTo v 6]).length = 25 := by rw [List.length_append, List.length_map]; rfl
          rw [List.getD_eq_getElem?_getD, numsS, List.getElem?_append_right (by omega), hpl, hr, hN, List.append_assoc, List.getElem?_append_right (by omega), List.getElem?_append_left (by omega)]
          rw [show 25 + (shotsN v i).length + (k - (24 + 6 * i)) - 25 - (shotsN v i).length = k - (24 + 6 * i) by omega]
          obtain ⟨m, hm, rfl⟩ : ∃ m, m < 6 ∧ k = 24 + 6 * i + m := ⟨k - (24 + 6 * i), by omega, by omega⟩
          rw [show 24 + 6 * i + m - (24 + 6 * i) = m by omega, List.getElem?_map]
          have : (shotAt (24 + 6 * i))[m]? = some (24 + 6 * i + m) := by
            obtain rfl | rfl | rfl | rfl | rfl | rfl : m = 0 ∨ m = 1 ∨ m = 2 ∨ m = 3 ∨ m = 4 ∨ m = 5 := by omega
            all_goals rfl
          rw [this]
          rfl
        rw [hg, val_nm h k (by omega)]
      · rw [if_neg e, hk k]
        by_cases e1 : k < 24 + 6 * i
        · rw [if_pos e1, if_pos (by omega)]
        · rw [if_neg e1, if_neg (by omega)]
theorem ref_back {v : Nat → Int} (hw : WfS v) (hr : rightS v = true) (hz : ∀ j, 60 ≤ j → v j = 0) : refU (packS v) = (true, v) := by
  have hT := tame_of hw hr
  have hS := numsS_small hT
  obtain ⟨u, hu, hk⟩ := shF_back hT 6 (by omega)
  have huv : u = v := by
    funext k
    rw [hk k]
    by_cases e : k < 60
    · rw [if_pos (by omega)]
    · rw [if_neg (by omega), hz k (by omega)]
  subst huv
  unfold refU
  have ha : allOf (packS u) = some (numsS u) := by
    rw [pack_nm]
    exact allOf_tell _ (fun x hx => by have := hS x hx; unfold two64; omega)
  rw [ha]
  simp only
  rw [if_pos ⟨by rw [numsS_len]; omega, hS⟩, hu]
  simp only
  rw [if_pos ⟨hr, trivial⟩]
theorem ref_told {l : List UInt8} (h : (refU l).1 = true) : rightS (refU l).2 = true ∧ packS (refU l).2 = l ∧ WfS (refU l).2 ∧ ∀ j, 60 ≤ j → (refU l).2 j = 0 := by
  unfold refU at h ⊢
  cases ha : allOf l with
  | none => rw [ha] at h; cases h
  | some L =>
    rw [ha] at h
    simp only at h ⊢
    by_cases hc : 25 ≤ L.length ∧ Small L
    · rw [if_pos hc] at h ⊢
      cases hs : shF L 6 with
      | none => rw [hs] at h; cases h
      | some q =>
        obtain ⟨v, c⟩ := q
        obtain ⟨h1, h2, _⟩ := shF_wf hc.2 6 v c hs
        rw [hs] at h
        simp only at h ⊢
        by_cases hd : rightS v = true ∧ packS v = l
        · rw [if_pos hd]
          exact ⟨hd.1, hd.2, h1, fun j hj => h2 j hj (by omega)⟩
        · rw [if_neg hd] at h; cases h
    · rw [if_neg hc] at h; cases h
theorem ref_zero {l : List UInt8} (h : (refU l).1 = false) : (refU l).2 = zeroV := by
  unfold refU at h ⊢
  cases ha : allOf l with
  | none => rfl
  | some L =>
    rw [ha] at h
    simp only at h ⊢
    by_cases hc : 25 ≤ L.length ∧ Small L
    · rw [if_pos hc] at h ⊢
      cases hs : shF L 6 with
      | none => rfl
      | some q =>
        obtain ⟨v, c⟩ := q
        rw [hs] at h
        simp only at h ⊢
        by_cases hd : rightS v = true ∧ packS v = l
        · rw [if_pos hd] at h; cases h
        · rw [if_neg hd]
    · rw [if_neg hc]
/-- both read the same -/
theorem unp_ref (t : ByteArray) (hu : WfS (unpV t)) (hz : ∀ j, 60 ≤ j → unpV t j = 0) : refU t.data.toList = (unpOk t, unpV t) := by
  cases hr : (refU t.data.toList).1 with
  | true =>
    obtain ⟨h1, h2, h3, h4⟩ := ref_told hr
    obtain ⟨u1, u2⟩ := unp_right h3 h1 h4
    have e : mkB (packS (refU t.data.toList).2) = t := by rw [h2]; rfl
    rw [e] at u1 u2
    rw [u1, u2, ← hr]
  | false =>
    have h2 := ref_zero hr
    cases ho : unpOk t with
    | true =>
      obtain ⟨h5, h6⟩ := unp_told ho
      have := ref_back hu h5 hz
      rw [h6] at this
      rw [this] at hr
      cases hr
    | false =>
      have : unpV t = zeroV := by unfold unpV; rw [ho]; rfl
      rw [this, ← h2, ← hr]
end Go.Proofs.Ytfepefohaadecaa
/- The document's Unpack of a state: the walk. -/
namespace Go.Proofs.Ytfepefohaadecaa
open Go.RowKit
set_option maxRecDepth 10000
variable {w : World}
/-- the result's block, nothing else of the old is touched -/
structure RuSt (w0 wr : World) (B : Nat) : Prop where
  blk : wr.heap[B]? = some (.cells (mkC fun _ => 0) 33 (0, 0))
  bel : Below B w0 wr
theorem RuSt.keep {w0 wr w' : World} {B : Nat} (h : RuSt w0 wr B) (hk : Keeps (fun _ => False) wr w') : RuSt w0 w' B := ⟨hk.heap h.blk id, h.bel.trans (hk.below (Nat.le_of_lt (blk_lt h.blk)) (fun _ _ x => x))⟩
theorem RuSt.set {w0 wr w' : World} {B D : Nat} (h : RuSt w0 wr B) (hk : Keeps (fun x => x = D) wr w') (hD : B < D) : RuSt w0 w' B :=
  ⟨hk.heap h.blk (by omega), h.bel.trans (hk.below (Nat.le_of_lt (blk_lt h.blk)) (fun k h1 e => by omega))⟩
/-- the numbers, where they lie -/
structure NumsAt (w : World) (A : Option Addr) (cap : Nat) (L : List Nat) : Prop where
  vals : Vals w 1 A L.length cap (u64s L)
theorem NumsAt.cell {w : World} {b o cap : Nat} {L : List Nat} (h : NumsAt w (some ⟨b, o, none⟩) cap L) (j : Nat) (hj : j < L.length) : w.cell? ⟨b, o + j, none⟩ = some (.int .u64 (L.getD j 0 : Nat)) := by
  obtain ⟨b', o', e, hc⟩ := h.vals.at' (by omega)
  cases e
  refine hc j _ ?_
  unfold u64s
  rw [List.getElem?_map, List.getD_eq_getElem?_getD, List.getElem?_eq_getElem hj]
  rfl
theorem NumsAt.keep {w w' : World} {A : Option Addr} {cap : Nat} {L : List Nat} (h : NumsAt w A cap L) (hk : Keeps (fun _ => False) w w') : NumsAt w' A cap L := ⟨h.vals.keeps hk (fun _ _ _ => id)⟩
theorem NumsAt.set {w w' : World} {b o cap D : Nat} {L : List Nat} (h : NumsAt w (some ⟨b, o, none⟩) cap L) (hk : Keeps (fun x => x = D) w w') (hD : b < D) : NumsAt w' (some ⟨b, o, none⟩) cap L :=
  ⟨h.vals.keeps hk (fun _ x e h2 => by cases e; have h2 : b = D := h2; omega)⟩
theorem shF_none (L : List Nat) (k : Nat) (h : shF L k = none) : ∀ m, shF L (k + m) = none
  | 0 => h
  | m + 1 => by
    rw [← Nat.add_assoc]
    unfold shF
    rw [shF_none L k h m]
section
variable {P : Program} {o : Oper} {a : Act} {C : World → Prop} {K : Act → Prop}
theorem quiet_run_build {T : TypeId} {parts : Array (Nat × Operand)} {vs : Array (Nat × Value)} {v : Value} (hrun : ∀ w, C w → (Instr.build T vs).run P w = .ok v w) (ho : o.op = .build T parts) (hx : (parts.map fun q => (q.1, a.eval q.2)) = vs) (hk : K (a.put o.dst v)) : o.quiet P a C K :=
  ⟨v, fun w hw => by
    subst hx
    unfold Oper.quietAt execOp
    simp only [ho, Sem.run_bind]
    simp only [hrun w hw, Result.andThen_ok, Sem.run_pure]
    exact ⟨rfl, rfl⟩, hk⟩
theorem wpQuiet_run_build {ops : Array Oper} {Q : Act → Prop} {rest : List Oper} {T : TypeId} {parts : Array (Nat × Operand)} {vs : Array (Nat × Value)} {v : Value} (hrun : ∀ w, C w → (Instr.build T vs).run P w = .ok v w) (hg : o.guard = none) (ho : o.op = .build T parts) (hx : (parts.map fun q => (q.1, a.eval q.2)) = vs) (hk : wpQuiet P ops C Q rest (a.put o.dst v)) :
    wpQuiet P ops C Q (o :: rest) a := by
  unfold wpQuiet
  rw [if_pos (by unfold Region.wanted; rw [hg])]
  exact quiet_run_build hrun ho hx hk
theorem wpQuiet_run_build4 {ops : Array Oper} {Q : Act → Prop} {rest : List Oper} {T : TypeId} {i j k l : Nat} {x y z u : Operand} {x' y' z' u' : Value} {v : Value} (hrun : ∀ w, C w → (Instr.build T #[(i, x'), (j, y'), (k, z'), (l, u')]).run P w = .ok v w) (hg : o.guard = none) (ho : o.op = .build T #[(i, x), (j, y), (k, z), (l, u)]) (hx : a.eval x = x') (hy : a.eval y = y') (hz : a.eval z = z') (hu : a.eval u = u') (hk : wpQuiet P ops C Q rest (a.put o.dst v)) :
    wpQuiet P ops C Q (o :: rest) a :=
  wpQuiet_run_build hrun hg ho (by simp [hx, hy, hz, hu]) hk
theorem wp_run_alloc {w w' : World} {v : Value} {T : TypeId} {K : Act → World → Prop} {Q : Exit → Act → World → Prop} (ho : o.op = .alloc T) (hrun : (Instr.alloc T true (.tuple #[])).run P w = .ok v w') (h : K (a.put o.dst v) w') : o.wp P a w K Q := by
  unfold Oper.wp execOp
  simp only [ho, Sem.run_bind, hrun, Result.andThen_ok, Sem.run_pure]
  exact h
end
def hd4 (a b c d : Int) : Nat → Int
  | 0 => a
  | 1 => b
  | 2 => c
  | 3 => d
  | _ => 0
theorem run_build_hd (a b c d : Int) (w : World) : (Instr.build 33 #[(0, .int .i64 a), (1, .int .u32 b), (2, .int .i64 c), (3, .int .i64 d)]).run Try.prog w = .ok (.agg (mkC (hd4 a b c d))) w := by kernel_rfl
theorem hd4_is (L : List Nat) : hd4 (L.getD 0 0 : Nat) (L.getD 1 0 : Nat) (L.getD 2 0 : Nat) (L.getD 3 0 : Nat) = hdS L 4 := by
  funext j
  unfold hdS
  match j with
  | 0 => rfl
  | 1 => rfl
  | 2 => rfl
  | 3 => rfl
  | j + 4 => rw [if_neg (by omega)]; rfl
theorem allOf_len : ∀ (m : Nat) (l : List UInt8) (L : List Nat), l.length ≤ m → allOf l = some L → L.length ≤ l.length
  | m, [], L, _, h => by rw [allOf_nil] at h; cases h; exact Nat.le_refl _
  | 0, _ :: _, L, hm, h => by simp at hm
  | m + 1, c :: l, L, hm, h => by
    by_cases hz : (rdNum (c :: l)).2.2 = 0
    · rw [allOf_on (by simp) hz] at h
      have hp := rd_pos hz
      cases hq : allOf ((c :: l).drop (rdNum (c :: l)).2.1) with
      | none => rw [hq] at h; cases h
      | some M =>
        rw [hq] at h
        cases h
        have hd : ((c :: l).drop (rdNum (c :: l)).2.1).length + 1 ≤ (c :: l).length := by rw [List.length_drop]; simp only [List.length_cons]; omega
        have := allOf_len m _ M (by omega) hq
        simp only [List.length_cons] at this hd ⊢
        omega
    · rw [allOf_bad (by simp) hz] at h; cases h
set_option maxHeartbeats 8000000 in
theorem rf_Unpack (t : ByteArray) (ht : t.size ≤ 1000) (w : World) : Calls Try.prog 14 #[.string t] w fun e w' =>
    e = .returned (.tuple #[.agg (mkC (refU t.data.toList).2), .bool (refU t.data.toList).1]) ∧ Below w.heap.size w w' := by
  have hZ := run_build_zero
  have hS0 := hid (show RuSt w (w.alloc (.cells (mkC fun _ => 0) 33)) w.heap.size from ⟨blk_new w _, (Below.refl _ w).alloc (Nat.le_refl _) _⟩)
  have hN := fun W => rf_Numbers t ht W
  have hr : refU t.data.toList = refU t.data.toList := rfl
  generalize hU : refU t.data.toList = U at *
  have HU := hid hU
  clear hU hr
  generalize ha : allOf t.data.toList = a at *
  have HA := hid ha
  clear ha
  go_enter Try.func14, Try.ntmps14
  go_wp2_with (refine wpList_run_alloc (run_alloc_state _) rfl rfl ?_)
  generalize w.alloc (.cells (mkC fun _ => 0) 33) = w0 at *
  refine (hN _).mono ?_
  rintro e w1 ⟨⟨sv, rfl, hown⟩, hb1⟩
  have HS1 := hid (hS0.out.keep (Keeps.of_below (S := fun _ => False) hb1 (fun k h1 h2 => by omega)))
  obtain ⟨A, cap, rfl, hvals, _⟩ := vals_of_own hown
  clear hN hS0 hb1 hown
  cases a with
  | none =>
    have hU2 : U = (false, zeroV) := by rw [← HU.out]; unfold refU; rw [HA.out]
    subst hU2
    simp only [Option.isSome_none, Option.getD_none]
    have hsz : w.heap.size ≤ (w1).heap.size := by have := blk_lt (HS1.out).blk; omega
    obtain ⟨hst, hload, hk9⟩ := store_all (w1) 33 60 w.heap.size (mkC zeroV) _ Try.sizeOf33 (mkC_size _) (mkC_size _) (HS1.out).blk (mkC_one _)
    have hbf : Below w.heap.size w ((w1).setRow w.heap.size (mkC zeroV)) := ((HS1.out).bel.trans ((hk9.below (B := w.heap.size) hsz (fun k h1 h2 => by omega))))
    generalize (w1).setRow w.heap.size (mkC zeroV) = w9 at *
    go_wp2_with (first | (refine wpList_run_build (hZ _) rfl rfl (by simp) ?_) | (refine wpList_run_store hst rfl rfl rfl rfl ?_))
    refine bodyPost_ret (v := .tuple #[.agg (mkC zeroV), .bool false]) (by simp [results, Try.results14, asAddr, loadVar, loadCells, Try.isAgg33, Try.sizeOf33, hload]) rfl ?_
    exact ⟨rfl, hbf⟩
  | some L =>
    simp only [Option.isSome_some, Option.getD_some] at hvals ⊢
    have hLl : L.length ≤ 1000 := by
      have := allOf_len _ _ L (Nat.le_refl _) HA.out
      rw [Array.length_toList] at this
      exact Nat.le_trans this ht
    by_cases h25 : L.length < 25
    · have hU2 : U = (false, zeroV) := by rw [← HU.out]; unfold refU; rw [HA.out]; simp only; rw [if_neg (by omega)]
      subst hU2
      have h25' : (L.length : Int) < 25 := by omega
      have hsz : w.heap.size ≤ (w1).heap.size := by have := blk_lt (HS1.out).blk; omega
      obtain ⟨hst, hload, hk9⟩ := store_all (w1) 33 60 w.heap.size (mkC zeroV) _ Try.sizeOf33 (mkC_size _) (mkC_size _) (HS1.out).blk (mkC_one _)
      have hbf : Below w.heap.size w ((w1).setRow w.heap.size (mkC zeroV)) := ((HS1.out).bel.trans ((hk9.below (B := w.heap.size) hsz (fun k h1 h2 => by omega))))
      generalize (w1).setRow w.heap.size (mkC zeroV) = w9 at *
      go_wp2_with (first | (refine wpList_run_build (hZ _) rfl rfl (by simp) ?_) | (refine wpList_run_store hst rfl rfl rfl rfl ?_))
      refine bodyPost_ret (v := .tuple #[.agg (mkC zeroV), .bool false]) (by simp [results, Try.results14, asAddr, loadVar, loadCells, Try.isAgg33, Try.sizeOf33, hload]) rfl ?_
      exact ⟨rfl, hbf⟩
    obtain ⟨b, o, rfl, _⟩ := hvals.at' (by omega)
    have hNA : NumsAt w1 (some ⟨b, o, none⟩) cap L := ⟨hvals⟩
    have HN := hid hNA
    clear hvals hNA
    have h25' : ¬ (L.length : Int) < 25 := by omega
    go_wp2_with fail
    go_loopw [6] (fun i wr => ∃ k : Nat, k ≤ L.length ∧ i = .int .i64 k ∧ Hid (∀ j, j < k → L.getD j 0 ≤ 4294967295) ∧ wr = w1) (fun i _ => L.length - (intOf i).toNat)
    case atStart => exact ⟨0, by omega, rfl, fun j hj => by omega, rfl⟩
    case round =>
      obtain ⟨k, hk, rfl, HK, rfl⟩ := hrel
      by_cases hlt : k < L.length
      · have y := HN.out.cell k hlt
        have hx : 4294967295 < L.getD k 0 → U = (false, zeroV) := fun h => by
          rw [← HU.out]; unfold refU; rw [HA.out]; simp only
          rw [if_neg (fun e => by have := getD_small e.2 k; omega)]
        have hn : L.getD k 0 ≤ 4294967295 → ∀ j, j < k + 1 → L.getD j 0 ≤ 4294967295 := fun h j hj => by
          by_cases e : j = k
          · subst e; exact h
          · exact HK.out j (by omega)
        generalize L.getD k 0 = x at *
        have Hx := hid hx
        have Hn := hid hn
        clear hx hn
        by_cases hb : 4294967295 < x
        · have hU2 := Hx.out hb
          subst hU2
          have hb' : (4294967295 : Int) < (x : Int) := by omega
          have hsz : w.heap.size ≤ (wr).heap.size := by have := blk_lt (HS1.out).blk; omega
          obtain ⟨hst, hload, hk9⟩ := store_all (wr) 33 60 w.heap.size (mkC zeroV) _ Try.sizeOf33 (mkC_size _) (mkC_size _) (HS1.out).blk (mkC_one _)
          have hbf : Below w.heap.size w ((wr).setRow w.heap.size (mkC zeroV)) := ((HS1.out).bel.trans ((hk9.below (B := w.heap.size) hsz (fun k h1 h2 => by omega))))
          generalize (wr).setRow w.heap.size (mkC zeroV) = w9 at *
          go_wp2_with (first | (refine wpList_run_build (hZ _) rfl rfl (by simp) ?_) | (refine wpList_run_store hst rfl rfl rfl rfl ?_))
          refine bodyPost_ret (v := .tuple #[.agg (mkC zeroV), .bool false]) (by simp [results, Try.results14, asAddr, loadVar, loadCells, Try.isAgg33, Try.sizeOf33, hload]) rfl ?_
          exact ⟨rfl, hbf⟩
        · have hb' : ¬ (4294967295 : Int) < (x : Int) := by omega
          go_wp2_with fail
          go_roundw
          case rel => exact ⟨k + 1, by omega, by go_num, Hn.out (by omega), trivial⟩
          case measure => simp [intOf]; omega
      · have hsm : Small L := by
          intro x hx
          obtain ⟨j, hj, rfl⟩ := List.mem_iff_getElem.1 hx
          have := HK.out j (by omega)
          rw [List.getD_eq_getElem?_getD, List.getElem?_eq_getElem hj] at this
          exact this
        have HSm := hid hsm
        have q0 := HN.out.cell 0 (by omega)
        have q1 := HN.out.cell 1 (by omega)
        have q2 := HN.out.cell 2 (by omega)
        have q3 := HN.out.cell 3 (by omega)
        have z0 := keptS_cell (S := fun _ => False) (w := wr.drew) q0 id
        rw [Nat.add_zero] at z0
        have z1 := keptS_cell (S := fun _ => False) (w := wr.drew) q1 id
        have z2 := keptS_cell (S := fun _ => False) (w := wr.drew) q2 id
        have z3 := keptS_cell (S := fun _ => False) (w := wr.drew) q3 id
        have x0 := getD_small hsm 0
        have x1 := getD_small hsm 1
        have x2 := getD_small hsm 2
        have x3 := getD_small hsm 3
        have hd := hd4_is L
        generalize L.getD 0 0 = n0 at *
        generalize L.getD 1 0 = n1 at *
        generalize L.getD 2 0 = n2 at *
        generalize L.getD 3 0 = n3 at *
        have e1 : IntKind.u32.wrap (n1 : Int) = (n1 : Int) := by rw [wrap_u32]; omega
        have hbu := run_build_hd n0 n1 n2 n3
        rw [hd] at hbu
        have HK0 := hid HK.out
        have hcv : ¬ k < L.length := hlt
        clear q0 q1 q2 q3 hsm hd HK HK0
        go_wp2_with fail
        refine stages_start (by kernel_rfl) 19 rfl ?_
        refine stagek (fun _ => False) [0, 1, 2, 3, 4, 5, 6, 7, 8, 9, 10, 11, 12, 13, 14, 15, 16] [17, 18] 0 rfl #[true, true, true, true, true, true, true, true, true, true, true, true, true, true, true, true, true, true, true] (by kernel_rfl) (by kernel_rfl) (fun _ _ _ d _ h => by cases d <;> exact h) ?_
        simp only [opsAt, List.map_cons, List.map_nil, List.getElem?_toArray, List.getElem?_cons_zero, List.getElem?_cons_succ, Option.getD_some]
        repeat (first | ((refine wpQuiet_run_build4 (fun _ _ => hbu _) rfl rfl rfl rfl rfl rfl ?_; simp only [Act.put, List.setIfInBounds_toArray, List.set_cons_succ, List.set_cons_zero])) | go_big_quiet_step (fail))
        refine wpQuiet_nil ?_
        have hk1 : Keeps (fun _ => False) wr.drew (wr.drew.alloc (.cells (mkC fun _ => 0) 33)) := (Keeps.refl _ _).alloc _
        have hZ1 := blk_new wr.drew (.cells (mkC fun _ => 0) 33)
        have hsz : wr.drew.heap.size = wr.heap.size := rfl
        rw [hsz] at hZ1
        obtain ⟨hst, _, hk2⟩ := store_all (wr.drew.alloc (.cells (mkC fun _ => 0) 33)) 33 60 wr.heap.size (mkC (hdS L 4)) _ Try.sizeOf33 (mkC_size _) (mkC_size _) hZ1 (mkC_one _)
        have hD := setRow_at (wr.drew.alloc (.cells (mkC fun _ => 0) 33)) wr.heap.size _ (mkC (hdS L 4)) 33 hZ1
        have hk3 := keeps_past hk1 hk2 (fun k hk e => by rw [hsz] at hk; omega)
        refine links_cons (by first | rfl | simp [go_sem]) (fun K hK => ?_)
        refine wp_run_alloc rfl (show (Instr.alloc 33 true (.tuple #[])).run Try.prog wr.drew = .ok (.pointer (some ⟨wr.heap.size, 0, none⟩)) (wr.drew.alloc (.cells (mkC fun _ => 0) 33)) from run_alloc_state _) ?_
        simp only [Act.put, List.setIfInBounds_toArray, List.set_cons_succ, List.set_cons_zero]
        refine hK _ _ (keptS (hk1)) ?_
        clear hK K
        try refine links_nil ?_
        refine links_cons (by first | rfl | simp [go_sem]) (fun K hK => ?_)
        refine wp_run_store (p := .pointer (some ⟨wr.heap.size, 0, none⟩)) (u := .agg (mkC (hdS L 4))) rfl rfl rfl hst ?_
        simp only [Act.put]
        refine hK _ _ (keptS (hk3)) ?_
        clear hK K
        try refine links_nil ?_
        refine stages_end (by kernel_rfl) ?_
        have hk4 : Keeps (fun _ => False) wr ((wr.drew.alloc (.cells (mkC fun _ => 0) 33)).setRow wr.heap.size (mkC (hdS L 4))) := ((Keeps.refl _ wr).drew).trans hk3
        generalize (wr.drew.alloc (.cells (mkC fun _ => 0) 33)).setRow wr.heap.size (mkC (hdS L 4)) = w2 at *
        have HS2 := hid (HS1.out.keep hk4)
        have HN2 := hid (HN.out.keep hk4)
        have HD2 := hid hD
        have hDB : w.heap.size < wr.heap.size := blk_lt HS1.out.blk
        have hbD : b < wr.heap.size := World.block_lt_of_cell? _ _ (HN.out.cell 0 (by omega))
        clear hk1 hk2 hk3 hk4 hst hD hZ1 hsz z0 z1 z2 z3 x0 x1 x2 x3 e1 hbu HS1 HN
        generalize wr.heap.size = D at *
        go_wp2_with fail
        go_loopw [8] (fun i wq => ∃ k : Nat, k ≤ 2 ∧ i = .int .i64 k ∧ Hid (RuSt w wq w.heap.size) ∧ Hid (NumsAt wq (some ⟨b, o, none⟩) cap L) ∧ Hid (wq.heap[D]? = some (.cells (mkC (hdS L (4 + 10 * k))) 33 (0, 0)))) (fun i _ => 2 - (intOf i).toNat)
        case atStart => exact ⟨0, by omega, rfl, HS2, HN2, HD2⟩
        case round =>
          obtain ⟨k, hk, rfl, HSq, HNq, HDq⟩ := hrel
          obtain ⟨wo, rfl⟩ : ∃ wo : World, wo = wr := ⟨_, rfl⟩
          clear HS2 HN2 HD2
          by_cases hlt2 : k < 2
          · have hcap : L.length ≤ cap := HNq.out.vals.2.1
            have hq : ∀ w1 : World, (Instr.slice 90 (.slice (some ⟨b, o, none⟩) L.length cap) (some (.int .i64 (4 + 10 * (k : Int)))) none none).run Try.prog w1 = .ok (.slice (some ⟨b, o + (4 + 10 * k), none⟩) (L.length - (4 + 10 * k)) (cap - (4 + 10 * k))) w1 := fun w1 => by
              rw [run_slice_l w1 90 (some ⟨b, o, none⟩) L.length cap Try.underlying90 .i64 (4 + 10 * (k : Int)) (by omega) (by omega)]
              have e : (4 + 10 * (k : Int)).toNat = 4 + 10 * k := by omega
              simp [go_sem, sliced, e, show ¬ cap = 4 + 10 * k by omega]
            have hck : ∀ j, j < 10 → kindAt (4 + 10 * k + j) = if j < 4 then IntKind.i32 else .i64 := by
              obtain rfl | rfl : k = 0 ∨ k = 1 := by omega
              · decide
              · decide
            have hcl := fun j (hj : j < 10) => HNq.out.cell (4 + 10 * k + j) (by omega)
            have hsm := fun j => getD_small HSm.out (4 + 10 * k + j)
            have hvl : ∀ j, valAt (4 + 10 * k + j) (L.getD (4 + 10 * k + j) 0) = valAt (4 + 10 * k + j) (L.getD (4 + 10 * k + j) 0) := fun _ => rfl
            have hdn := hdS_step L k
            have hsp := mkC_splice (hdS L (4 + 10 * k)) (fun j => valAt j (L.getD j 0)) (4 + 10 * k) 10
            rw [← hdn] at hsp
            clear hdn hvl
            have hsp := hsp #[.int .i32 (unzz (L.getD (4 + 10 * k + 0) 0)), .int .i32 (unzz (L.getD (4 + 10 * k + 1) 0)), .int .i32 (unzz (L.getD (4 + 10 * k + 2) 0)), .int .i32 (unzz (L.getD (4 + 10 * k + 3) 0)), .int .i64 (L.getD (4 + 10 * k + 4) 0 : Nat), .int .i64 (L.getD (4 + 10 * k + 5) 0 : Nat), .int .i64 (L.getD (4 + 10 * k + 6) 0 : Nat), .int .i64 (L.getD (4 + 10 * k + 7) 0 : Nat), .int .i64 (L.getD (4 + 10 * k + 8) 0 : Nat), .int .i64 (L.getD (4 + 10 * k + 9) 0 : Nat)] rfl (by omega) (fun j hj => by
              have hkj := hck j hj
              simp only [valAt, hkj]
              obtain rfl | rfl | rfl | rfl | rfl | rfl | rfl | rfl | rfl | rfl : j = 0 ∨ j = 1 ∨ j = 2 ∨ j = 3 ∨ j = 4 ∨ j = 5 ∨ j = 6 ∨ j = 7 ∨ j = 8 ∨ j = 9 := by omega
              all_goals rfl)
            have q0 := hcl 0 (by omega)
            have q1 := hcl 1 (by omega)
            have q2 := hcl 2 (by omega)
            have q3 := hcl 3 (by omega)
            have q4 := hcl 4 (by omega)
            have q5 := hcl 5 (by omega)
            have q6 := hcl 6 (by omega)
            have q7 := hcl 7 (by omega)
            have q8 := hcl 8 (by omega)
            have q9 := hcl 9 (by omega)
            have x0 := hsm 0
            have x1 := hsm 1
            have x2 := hsm 2
            have x3 := hsm 3
            have x4 := hsm 4
            have x5 := hsm 5
            have x6 := hsm 6
            have x7 := hsm 7
            have x8 := hsm 8
            have x9 := hsm 9
            generalize L.getD (4 + 10 * k + 0) 0 = n0 at *
            generalize L.getD (4 + 10 * k + 1) 0 = n1 at *
            generalize L.getD (4 + 10 * k + 2) 0 = n2 at *
            generalize L.getD (4 + 10 * k + 3) 0 = n3 at *
            generalize L.getD (4 + 10 * k + 4) 0 = n4 at *
            generalize L.getD (4 + 10 * k + 5) 0 = n5 at *
            generalize L.getD (4 + 10 * k + 6) 0 = n6 at *
            generalize L.getD (4 + 10 * k + 7) 0 = n7 at *
            generalize L.getD (4 + 10 * k + 8) 0 = n8 at *
            generalize L.getD (4 + 10 * k + 9) 0 = n9 at *
            rw [Nat.add_zero] at q0
            rw [← Nat.add_assoc o (4 + 10 * k) 1] at q1
            rw [← Nat.add_assoc o (4 + 10 * k) 2] at q2
            rw [← Nat.add_assoc o (4 + 10 * k) 3] at q3
            rw [← Nat.add_assoc o (4 + 10 * k) 4] at q4
            rw [← Nat.add_assoc o (4 + 10 * k) 5] at q5
            rw [← Nat.add_assoc o (4 + 10 * k) 6] at q6
            rw [← Nat.add_assoc o (4 + 10 * k) 7] at q7
            rw [← Nat.add_assoc o (4 + 10 * k) 8] at q8
            rw [← Nat.add_assoc o (4 + 10 * k) 9] at q9
            clear hcl hsm hck
            have g0 := fun W => rf_fix n0 x0 W
            have g1 := fun W => rf_fix n1 x1 W
            have g2 := fun W => rf_fix n2 x2 W
            have g3 := fun W => rf_fix n3 x3 W
            have hln : 10 < L.length - (4 + 10 * k) := by omega
            generalize unzz n0 = y0 at *
            generalize unzz n1 = y1 at *
            generalize unzz n2 = y2 at *
            generalize unzz n3 = y3 at *
            have hst := fun nq => run_store_agg (w := wo.drewN nq) 27 10 D (4 + 10 * k) _ (mkC (hdS L (4 + 10 * k))) 33 Try.sizeOf27 rfl HDq.out (by rw [mkC_size]; omega) (by simp [Value.oneCell'] : ∀ v ∈ (#[.int .i32 y0, .int .i32 y1, .int .i32 y2, .int .i32 y3, .int .i64 (n4 : Int), .int .i64 (n5 : Int), .int .i64 (n6 : Int), .int .i64 (n7 : Int), .int .i64 (n8 : Int), .int .i64 (n9 : Int)] : Array Value).toList, v.oneCell' = true)
            rw [hsp] at hst
            go_wp2_with fail
            try simp only [List.append_eq, List.cons_append, List.nil_append]
            refine wp_region_taild 46 (by kernel_rfl) (by kernel_rfl) ?_
            simp only [List.take_succ_cons, List.take_zero, List.drop_succ_cons, List.drop_zero]
            repeat (go_big_quiet_step ((go_at_call 42; first | (with_reducible exact (g0 _).mono fun _ _ h => ⟨h.1, _, h.2.symm⟩) | (with_reducible exact (g1 _).mono fun _ _ h => ⟨h.1, _, h.2.symm⟩) | (with_reducible exact (g2 _).mono fun _ _ h => ⟨h.1, _, h.2.symm⟩) | (with_reducible exact (g3 _).mono fun _ _ h => ⟨h.1, _, h.2.symm⟩))))
            refine wpQuiet_nil ?_
            intro _ hw'
            obtain ⟨nq, hw''⟩ := hw'
            subst hw''
            rw [show 4 + 10 * k = 4 + k * 10 by omega] at hst
            have hk5 : Keeps (fun x => x = D) wo ((wo.drewN nq).setRow D (mkC (hdS L (4 + 10 * (k + 1))))) := (Keeps.drewN (Keeps.refl _ wo) nq).trans (keeps_setRow _ _ _)
            have hD5 := setRow_at (wo.drewN nq) D _ (mkC (hdS L (4 + 10 * (k + 1)))) 33 HDq.out
            have hst := hst nq
            generalize (wo.drewN nq).setRow D (mkC (hdS L (4 + 10 * (k + 1)))) = w5 at *
            go_wp2_with (refine wpList_run_store hst rfl rfl rfl rfl ?_)
            go_roundw
            case rel => exact ⟨k + 1, by omega, by go_num, HSq.out.set hk5 hDB, HNq.out.set hk5 hbD, hD5⟩
            case measure => simp [intOf]; omega
          · have HD6 : wo.heap[D]? = some (.cells (mkC (hdS L 24)) 33 (0, 0)) := by
              have := HDq.out
              rwa [show 4 + 10 * k = 24 by omega] at this
            have hcap : L.length ≤ cap := HNq.out.vals.2.1
            have HD7 := hid HD6
            have q24 := HNq.out.cell 24 (by omega)
            have hq : ∀ w1 : World, (Instr.slice 90 (.slice (some ⟨b, o, none⟩) L.length cap) (some (.int .i64 25)) none none).run Try.prog w1 = .ok (.slice (if cap = 25 then some ⟨b, o, none⟩ else some ⟨b, o + 25, none⟩) (L.length - 25) (cap - 25)) w1 := fun w1 => by
              rw [run_slice_l w1 90 (some ⟨b, o, none⟩) L.length cap Try.underlying90 .i64 25 (by omega) (by omega)]
              simp [go_sem, sliced]
            have had : 25 < L.length → (if cap = 25 then some (⟨b, o, none⟩ : Addr) else some ⟨b, o + 25, none⟩) = some ⟨b, o + 25, none⟩ := fun h => if_neg (by omega)
            generalize (if cap = 25 then some (⟨b, o, none⟩ : Addr) else some ⟨b, o + 25, none⟩) = ad at *
            clear HD6 HDq
            have HAD := hid had
            clear had
            have hbits : L.getD 24 0 = L.getD 24 0 / 2 ^ 0 := by simp
            generalize hn24 : L.getD 24 0 = n24 at *
            have HB := hid hn24
            have Hb0 := hid hbits
            clear hn24 hbits
            go_wp2_with fail
            go_loopw [4, 10, 11] (fun sl bt i wq => ∃ (k c : Nat) (v : Nat → Int) (a' : Option Addr), k ≤ 6 ∧ i = .int .i64 k ∧ bt = .int .u64 ((n24 / 2 ^ k : Nat) : Int) ∧ sl = .slice a' (L.length - c) (cap - c) ∧ Hid (c < L.length → a' = some ⟨b, o + c, none⟩) ∧ Hid (shF L k = some (v, c)) ∧ Hid (RuSt w wq w.heap.size) ∧ Hid (NumsAt wq (some ⟨b, o, none⟩) cap L) ∧ Hid (wq.heap[D]? = some (.cells (mkC v) 33 (0, 0)))) (fun _ _ i _ => 6 - (intOf i).toNat)
            case atStart => exact ⟨0, 25, hdS L 24, ad, by omega, rfl, by rw [← Hb0.out], rfl, HAD.out, rfl, HSq, HNq, HD7⟩
            case round =>
              obtain ⟨k2, c, v, a', hk2, rfl, rfl, rfl, HA2, HF, HSs, HNs, HDs⟩ := hrel
              obtain ⟨wu, rfl⟩ : ∃ wu : World, wu = wr := ⟨_, rfl⟩
              clear HSq HNq HD7 HAD Hb0 q24 hq
              obtain ⟨hvw, hvz, hc1, hc2, hc3⟩ := shF_wf HSm.out k2 v c HF.out
              have hc3 := hc3 (by omega)
              by_cases hlt3 : k2 < 6
              · have hpw : n24 / 2 ^ (k2 + 1) = n24 / 2 ^ k2 / 2 := by rw [Nat.pow_succ, Nat.div_div_eq_div_mul]
                have hFn : shF L (k2 + 1) = if n24 / 2 ^ k2 % 2 = 1 then (if L.length < c + 6 then none else some (fun j => if 24 + 6 * k2 ≤ j ∧ j < 24 + 6 * k2 + 6 then valAt j (L.getD (c + (j - (24 + 6 * k2))) 0) else v j, c + 6)) else some (v, c) := by
                  rw [← HB.out]
                  conv => lhs; unfold shF
                  rw [HF.out]
                have hb24 : n24 ≤ 4294967295 := by rw [← HB.out]; exact getD_small HSm.out 24
                have hble : n24 / 2 ^ k2 ≤ n24 := Nat.div_le_self _ _
                have HPw := hid hpw
                clear hpw
                generalize n24 / 2 ^ k2 = x at *
                by_cases hb : x % 2 = 1
                · rw [if_pos hb] at hFn
                  have hb' : (x : Int) % 2 = 1 := by omega
                  by_cases h6 : L.length < c + 6
                  · rw [if_pos h6] at hFn
                    have hN6 := shF_none L (k2 + 1) hFn (6 - (k2 + 1))
                    rw [show k2 + 1 + (6 - (k2 + 1)) = 6 by omega] at hN6
                    have hU2 : U = (false, zeroV) := by rw [← HU.out]; unfold refU; rw [HA.out]; simp only; rw [if_pos ⟨by omega, HSm.out⟩, hN6]
                    subst hU2
                    have h6' : ((L.length - c : Nat) : Int) < 6 := by omega
                    clear hFn hN6
                    have hsz : w.heap.size ≤ (wu).heap.size := by have := blk_lt (HSs.out).blk; omega
                    obtain ⟨hst, hload, hk9⟩ := store_all (wu) 33 60 w.heap.size (mkC zeroV) _ Try.sizeOf33 (mkC_size _) (mkC_size _) (HSs.out).blk (mkC_one _)
                    have hbf : Below w.heap.size w ((wu).setRow w.heap.size (mkC zeroV)) := ((HSs.out).bel.trans ((hk9.below (B := w.heap.size) hsz (fun k h1 h2 => by omega))))
                    generalize (wu).setRow w.heap.size (mkC zeroV) = w9 at *
                    go_wp2_with (first | (refine wpList_run_build (hZ _) rfl rfl (by simp) ?_) | (refine wpList_run_store hst rfl rfl rfl rfl ?_))
                    refine bodyPost_ret (v := .tuple #[.agg (mkC zeroV), .bool false]) (by simp [results, Try.results14, asAddr, loadVar, loadCells, Try.isAgg33, Try.sizeOf33, hload]) rfl ?_
                    exact ⟨rfl, hbf⟩
                  · rw [if_neg h6] at hFn
                    have h6' : ¬ ((L.length - c : Nat) : Int) < 6 := by omega
                    have ha' := HA2.out (by omega)
                    subst ha'
                    have hcap : L.length ≤ cap := HNs.out.vals.2.1
                    have hq : ∀ w1 : World, (Instr.slice 90 (.slice (some ⟨b, o + c, none⟩) (L.length - c) (cap - c)) (some (.int .i64 6)) none none).run Try.prog w1 = .ok (.slice (if cap - c = 6 then some ⟨b, o + c, none⟩ else some ⟨b, o + c + 6, none⟩) (L.length - (c + 6)) (cap - (c + 6))) w1 := fun w1 => by
                      rw [run_slice_l w1 90 (some ⟨b, o + c, none⟩) (L.length - c) (cap - c) Try.underlying90 .i64 6 (by omega) (by omega)]
                      simp [go_sem, sliced, Nat.sub_sub]
                    have had : c + 6 < L.length → (if cap - c = 6 then some (⟨b, o + c, none⟩ : Addr) else some ⟨b, o + c + 6, none⟩) = some ⟨b, o + (c + 6), none⟩ := fun h => by rw [if_neg (by omega), Nat.add_assoc]
                    generalize (if cap - c = 6 then some (⟨b, o + c, none⟩ : Addr) else some ⟨b, o + c + 6, none⟩) = ad2 at *
                    have HAD2 := hid had
                    clear had
                    have hck : ∀ j, j < 6 → kindAt (24 + 6 * k2 + j) = if j < 4 then IntKind.i32 else .i64 := by
                      obtain ⟨k0, k1, k2', k3, k4, k5⟩ := shot_kinds k2 hlt3
                      intro j hj
                      obtain rfl | rfl | rfl | rfl | rfl | rfl : j = 0 ∨ j = 1 ∨ j = 2 ∨ j = 3 ∨ j = 4 ∨ j = 5 := by omega
                      · exact k0
                      · exact k1
                      · exact k2'
                      · exact k3
                      · exact k4
                      · exact k5
                    have hcl := fun j (hj : j < 6) => HNs.out.cell (c + j) (by omega)
                    have hsm := fun j => getD_small HSm.out (c + j)
                    have hsp := mkC_splice v (fun j => valAt j (L.getD (c + (j - (24 + 6 * k2))) 0)) (24 + 6 * k2) 6
                    have hsp := hsp #[.int .i32 (unzz (L.getD (c + 0) 0)), .int .i32 (unzz (L.getD (c + 1) 0)), .int .i32 (unzz (L.getD (c + 2) 0)), .int .i32 (unzz (L.getD (c + 3) 0)), .int .i64 (L.getD (c + 4) 0 : Nat), .int .i64 (L.getD (c + 5) 0 : Nat)] rfl (by omega) (fun j hj => by
                      have hkj := hck j hj
                      simp only [valAt, hkj, show 24 + 6 * k2 + j - (24 + 6 * k2) = j by omega]
                      obtain rfl | rfl | rfl | rfl | rfl | rfl : j = 0 ∨ j = 1 ∨ j = 2 ∨ j = 3 ∨ j = 4 ∨ j = 5 := by omega
                      all_goals rfl)
                    generalize hnv : (fun j => if 24 + 6 * k2 ≤ j ∧ j < 24 + 6 * k2 + 6 then valAt j (L.getD (c + (j - (24 + 6 * k2))) 0) else v j) = nv at *
                    have q0 := hcl 0 (by omega)
                    have q1 := hcl 1 (by omega)
                    have q2 := hcl 2 (by omega)
                    have q3 := hcl 3 (by omega)
                    have q4 := hcl 4 (by omega)
                    have q5 := hcl 5 (by omega)
                    have x0 := hsm 0
                    have x1 := hsm 1
                    have x2 := hsm 2
                    have x3 := hsm 3
                    have x4 := hsm 4
                    have x5 := hsm 5
                    clear hcl hsm hck hnv
                    generalize L.getD (c + 0) 0 = n0 at *
                    generalize L.getD (c + 1) 0 = n1 at *
                    generalize L.getD (c + 2) 0 = n2 at *
                    generalize L.getD (c + 3) 0 = n3 at *
                    generalize L.getD (c + 4) 0 = n4 at *
                    generalize L.getD (c + 5) 0 = n5 at *
                    rw [Nat.add_zero] at q0
                    rw [← Nat.add_assoc o c 1] at q1
                    rw [← Nat.add_assoc o c 2] at q2
                    rw [← Nat.add_assoc o c 3] at q3
                    rw [← Nat.add_assoc o c 4] at q4
                    rw [← Nat.add_assoc o c 5] at q5
                    have g0 := fun W => rf_fix n0 x0 W
                    have g1 := fun W => rf_fix n1 x1 W
                    have g2 := fun W => rf_fix n2 x2 W
                    have g3 := fun W => rf_fix n3 x3 W
                    have hln : 6 ≤ L.length - c := by omega
                    generalize unzz n0 = y0 at *
                    generalize unzz n1 = y1 at *
                    generalize unzz n2 = y2 at *
                    generalize unzz n3 = y3 at *
                    have hst := fun nq => run_store_agg (w := wu.drewN nq) 30 6 D (24 + 6 * k2) _ (mkC v) 33 Try.sizeOf30 rfl HDs.out (by rw [mkC_size]; omega) (by simp [Value.oneCell'] : ∀ v ∈ (#[.int .i32 y0, .int .i32 y1, .int .i32 y2, .int .i32 y3, .int .i64 (n4 : Int), .int .i64 (n5 : Int)] : Array Value).toList, v.oneCell' = true)
                    rw [hsp, show 24 + 6 * k2 = 24 + k2 * 6 by omega] at hst
                    have HFn := hid hFn
                    clear hFn hsp hvw hvz
                    go_wp2_with fail
                    try simp only [List.append_eq, List.cons_append, List.nil_append]
                    refine wp_region_taild 30 (by kernel_rfl) (by kernel_rfl) ?_
                    simp only [List.take_succ_cons, List.take_zero, List.drop_succ_cons, List.drop_zero]
                    repeat (go_big_quiet_step ((go_at_call 42; first | (with_reducible exact (g0 _).mono fun _ _ h => ⟨h.1, _, h.2.symm⟩) | (with_reducible exact (g1 _).mono fun _ _ h => ⟨h.1, _, h.2.symm⟩) | (with_reducible exact (g2 _).mono fun _ _ h => ⟨h.1, _, h.2.symm⟩) | (with_reducible exact (g3 _).mono fun _ _ h => ⟨h.1, _, h.2.symm⟩))))
                    refine wpQuiet_nil ?_
                    intro _ hw'
                    obtain ⟨nq, hw''⟩ := hw'
                    subst hw''
                    have hk5 : Keeps (fun x => x = D) wu ((wu.drewN nq).setRow D (mkC nv)) := (Keeps.drewN (Keeps.refl _ wu) nq).trans (keeps_setRow _ _ _)
                    have hD5 := setRow_at (wu.drewN nq) D _ (mkC nv) 33 HDs.out
                    have hst := hst nq
                    generalize (wu.drewN nq).setRow D (mkC nv) = w5 at *
                    go_wp2_with (refine wpList_run_store hst rfl rfl rfl rfl ?_)
                    go_roundw
                    case rel => exact ⟨k2 + 1, c + 6, nv, ad2, by omega, by go_num, by rw [HPw.out]; go_num, rfl, HAD2.out, HFn.out, HSs.out.set hk5 hDB, HNs.out.set hk5 hbD, hD5⟩
                    case measure => simp [intOf]; omega
                · rw [if_neg hb] at hFn
                  have hb' : (x : Int) % 2 = 0 := by omega
                  have HFn := hid hFn
                  clear hFn
                  go_wp2_with fail
                  go_roundw
                  case rel => exact ⟨k2 + 1, c, v, a', by omega, by go_num, by rw [HPw.out]; go_num, rfl, HA2.out, HFn.out, HSs, HNs, HDs⟩
                  case measure => simp [intOf]; omega
              · have hF6 : shF L 6 = some (v, c) := by rw [show 6 = k2 by omega]; exact HF.out
                have hU2 : U = if rightS v = true ∧ packS v = t.data.toList then (true, v) else (false, zeroV) := by
                  rw [← HU.out]; unfold refU; rw [HA.out]; simp only; rw [if_pos ⟨by omega, HSm.out⟩, hF6]
                have lA := run_load_state v D wu _ HDs.out
                have hR := fun W => rf_Right v W
                have HU2 := hid hU2
                clear hU2 hF6 hvz
                cases hr : rightS v
                · have hU3 : U = (false, zeroV) := by rw [HU2.out, if_neg (by rw [hr]; simp)]
                  subst hU3
                  rw [hr] at hR
                  go_wp2_with (refine wpList_run_load lA rfl rfl rfl ?_)
                  refine (hR _).mono ?_
                  rintro e w7 ⟨rfl, hb7⟩
                  have HS7 := hid (HSs.out.keep (Keeps.of_below (S := fun _ => False) hb7 (fun k h1 h2 => by omega)))
                  clear lA hR hb7
                  have hsz : w.heap.size ≤ (w7).heap.size := by have := blk_lt (HS7.out).blk; omega
                  obtain ⟨hst, hload, hk9⟩ := store_all (w7) 33 60 w.heap.size (mkC zeroV) _ Try.sizeOf33 (mkC_size _) (mkC_size _) (HS7.out).blk (mkC_one _)
                  have hbf : Below w.heap.size w ((w7).setRow w.heap.size (mkC zeroV)) := ((HS7.out).bel.trans ((hk9.below (B := w.heap.size) hsz (fun k h1 h2 => by omega))))
                  generalize (w7).setRow w.heap.size (mkC zeroV) = w9 at *
                  go_wp2_with (first | (refine wpList_run_build (hZ _) rfl rfl (by simp) ?_) | (refine wpList_run_store hst rfl rfl rfl rfl ?_))
                  refine bodyPost_ret (v := .tuple #[.agg (mkC zeroV), .bool false]) (by simp [results, Try.results14, asAddr, loadVar, loadCells, Try.isAgg33, Try.sizeOf33, hload]) rfl ?_
                  exact ⟨rfl, hbf⟩
                · rw [hr] at hR
                  have hQ := fun W => rf_Pack v hvw hr W
                  go_wp2_with (refine wpList_run_load lA rfl rfl rfl ?_)
                  refine (hR _).mono ?_
                  rintro e w7 ⟨rfl, hb7⟩
                  have k7 := Keeps.of_below (S := fun _ => False) hb7 (fun k h1 h2 => by omega)
                  have HS7 := hid (HSs.out.keep k7)
                  have HD8 := hid (k7.heap HDs.out id)
                  clear lA hR hb7 k7
                  have lA := run_load_state v D w7 _ HD8.out
                  by_cases he : packS v = t.data.toList
                  · have hU3 : U = (true, v) := by rw [HU2.out, if_pos ⟨hr, he⟩]
                    subst hU3
                    have q3 : ((⟨(packS v).toArray⟩ : ByteArray).toList == t.toList) = true := by rw [beq_iff_eq, ByteArray.toList_eq, ByteArray.toList_eq, he]
                    clear he
                    generalize (⟨(packS v).toArray⟩ : ByteArray) = X at *
                    go_wp2_with (refine wpList_run_loadg lA (by first | rfl | simp [go_sem]) rfl rfl ?_)
                    refine (hQ _).mono ?_
                    rintro e w8 ⟨rfl, hb8⟩
                    have k8 := Keeps.of_below (S := fun _ => False) hb8 (fun k h1 h2 => by omega)
                    have hS8 := HS7.out.keep k8
                    have hD8 := k8.heap HD8.out id
                    clear lA hQ hb8 k8
                    have lA := run_load_state v D w8 _ hD8
                    have hsz : w.heap.size ≤ w8.heap.size := by have := blk_lt hS8.blk; omega
                    obtain ⟨hst, hload, hk9⟩ := store_all w8 33 60 w.heap.size (mkC v) _ Try.sizeOf33 (mkC_size _) (mkC_size _) hS8.blk (mkC_one _)
                    have hbf : Below w.heap.size w (w8.setRow w.heap.size (mkC v)) := (hS8.bel.trans ((hk9.below (B := w.heap.size) hsz (fun k h1 h2 => by omega))))
                    clear hS8 hD8
                    generalize w8.setRow w.heap.size (mkC v) = w9 at *
                    go_wp2_with (first | (refine wpList_run_load lA rfl rfl rfl ?_) | (refine wpList_run_store hst rfl rfl rfl rfl ?_))
                    refine bodyPost_ret (v := .tuple #[.agg (mkC v), .bool true]) (by simp [results, Try.results14, asAddr, loadVar, loadCells, Try.isAgg33, Try.sizeOf33, hload]) rfl ?_
                    exact ⟨rfl, hbf⟩
                  · have hU3 : U = (false, zeroV) := by rw [HU2.out, if_neg (fun e => he e.2)]
                    subst hU3
                    have q3 : ((⟨(packS v).toArray⟩ : ByteArray).toList == t.toList) = false := by
                      rw [beq_eq_false_iff_ne]
                      intro h'
                      rw [ByteArray.toList_eq, ByteArray.toList_eq] at h'
                      exact he h'
                    clear he
                    generalize (⟨(packS v).toArray⟩ : ByteArray) = X at *
                    go_wp2_with (refine wpList_run_loadg lA (by first | rfl | simp [go_sem]) rfl rfl ?_)
                    refine (hQ _).mono ?_
                    rintro e w8 ⟨rfl, hb8⟩
                    have HS8 := hid (HS7.out.keep (Keeps.of_below (S := fun _ => False) hb8 (fun k h1 h2 => by omega)))
                    clear lA hQ hb8
                    have hsz : w.heap.size ≤ (w8).heap.size := by have := blk_lt (HS8.out).blk; omega
                    obtain ⟨hst, hload, hk9⟩ := store_all (w8) 33 60 w.heap.size (mkC zeroV) _ Try.sizeOf33 (mkC_size _) (mkC_size _) (HS8.out).blk (mkC_one _)
                    have hbf : Below w.heap.size w ((w8).setRow w.heap.size (mkC zeroV)) := ((HS8.out).bel.trans ((hk9.below (B := w.heap.size) hsz (fun k h1 h2 => by omega))))
                    generalize (w8).setRow w.heap.size (mkC zeroV) = w9 at *
                    go_wp2_with (first | (refine wpList_run_build (hZ _) rfl rfl (by simp) ?_) | (refine wpList_run_store hst rfl rfl rfl rfl ?_))
                    refine bodyPost_ret (v := .tuple #[.agg (mkC zeroV), .bool false]) (by simp [results, Try.results14, asAddr, loadVar, loadCells, Try.isAgg33, Try.sizeOf33, hload]) rfl ?_
                    exact ⟨rfl, hbf⟩
end Go.Proofs.Ytfepefohaadecaa
