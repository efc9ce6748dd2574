/- Plain: an offer, its bytes, and what is read of bytes (law 35). -/
import Derived.Test.YtfepefohaadecaaNums
import Derived.Test.YtfepefohaadecaaSum2
namespace Go.Proofs.Ytfepefohaadecaa
structure Offer where
  r : Int
  s : Int
  ld : Int
  md : Int
  lw : Int
  mw : Int
def Offer.zero : Offer := ⟨0, 0, 0, 0, 0, 0⟩
def RightO (o : Offer) : Prop := 1 ≤ o.r ∧ o.r ≤ 100 ∧ 0 ≤ o.ld ∧ o.ld ≤ o.md ∧ o.md ≤ 8 ∧ 1 ≤ o.lw ∧ o.lw ≤ o.mw ∧ o.mw ≤ 16
instance (o : Offer) : Decidable (RightO o) := by unfold RightO; infer_instance
def numsO (o : Offer) : List Nat := [o.r.toNat, o.s.toNat, o.ld.toNat, o.md.toNat, o.lw.toNat, o.mw.toNat]
def rawO (o : Offer) : List UInt8 := 79 :: numsB (numsO o)
def packO (o : Offer) : List UInt8 := sealed (rawO o)
/-- the offer of numbers; one that isn't there yet is nought -/
def ofNums (vs : List Nat) : Offer := ⟨(vs.getD 0 0 : Nat), (vs.getD 1 0 : Nat), (vs.getD 2 0 : Nat), (vs.getD 3 0 : Nat), (vs.getD 4 0 : Nat), (vs.getD 5 0 : Nat)⟩
def readQ (r : List UInt8) : Offer × Int :=
  match readNs 6 r with
  | some (vs, r') => if r' = [] ∧ RightO (ofNums vs) then (ofNums vs, 0) else (Offer.zero, 4)
  | none => (Offer.zero, 4)
def readO (t : List UInt8) : Offer × Int := if t.take 1 = [79] then readQ (t.drop 1) else (Offer.zero, 4)
def unpO (l : List UInt8) : Offer × Int := if (opened l).2 = 0 then readO (opened l).1 else (Offer.zero, (opened l).2)
theorem opened_sealed (l : List UInt8) : opened (sealed l) = (l, 0) := by
  unfold opened sealed
  rw [if_neg (by simp [tail4_length])]
  have e : (l ++ tail4 (more 1 l)).length - 4 = l.length := by simp [tail4_length]
  rw [e, List.take_left]
  simp
theorem sealed_inj' {a b : List UInt8} (h : sealed a = sealed b) : a = b := by
  have := congrArg opened h
  rw [opened_sealed, opened_sealed] at this
  exact (Prod.mk.inj this).1
theorem ofNums_numsO (o : Offer) (hr : RightO o) (hs : 0 ≤ o.s) : ofNums (numsO o) = o := by
  obtain ⟨r, s, ld, md, lw, mw⟩ := o
  unfold RightO at hr
  simp only at hr hs
  simp only [ofNums, numsO, List.getD_cons_zero, List.getD_cons_succ, Offer.mk.injEq]
  omega
theorem numsO_in (o : Offer) (hr : RightO o) (hs : 0 ≤ o.s ∧ o.s < 4294967296) : ∀ v ∈ numsO o, v ≤ 4294967295 := by
  unfold RightO at hr
  intro v hv
  simp only [numsO, List.mem_cons, List.not_mem_nil, or_false] at hv
  omega
theorem unpO_pack (o : Offer) (hr : RightO o) (hs : 0 ≤ o.s ∧ o.s < 4294967296) : unpO (packO o) = (o, 0) := by
  unfold unpO packO
  rw [opened_sealed, if_pos rfl]
  unfold readO rawO
  rw [if_pos (by rfl)]
  unfold readQ
  have h := readNs_num (numsO o) [] (numsO_in o hr hs)
  rw [List.append_nil] at h
  have h2 : readNs 6 (List.drop 1 (79 :: numsB (numsO o))) = some (numsO o, []) := h
  rw [h2]
  simp only
  rw [ofNums_numsO o hr hs.1]
  simp [hr]
theorem numsB_snoc (l : List Nat) (x : Nat) : numsB (l ++ [x]) = numsB l ++ num x := by
  induction l with
  | nil => simp [numsB]
  | cons a l ih => rw [List.cons_append, numsB, numsB, ih, List.append_assoc]
theorem numsB_len (l : List Nat) (h : ∀ v ∈ l, v < two64) : (numsB l).length ≤ 10 * l.length := by
  induction l with
  | nil => simp [numsB]
  | cons a l ih =>
    have h1 := num_len10 a (h a (by simp))
    have h2 := ih fun v hv => h v (by simp [hv])
    rw [numsB, List.length_append, List.length_cons]
    omega
theorem readNs_step (f : Nat) (l : List UInt8) : readNs (f + 1) l = if (rdNum l).2.2 = 0 ∧ (rdNum l).1 ≤ 4294967295 then (readNs f (l.drop (rdNum l).2.1)).map (fun q => ((rdNum l).1 :: q.1, q.2)) else none := rfl
/-- what is read of the rest, behind what was read -/
def behind (vs : List Nat) (q : Option (List Nat × List UInt8)) : Option (List Nat × List UInt8) := q.map fun q => (vs ++ q.1, q.2)
theorem behind_step (vs : List Nat) (f : Nat) (l : List UInt8) (h : (rdNum l).2.2 = 0 ∧ (rdNum l).1 ≤ 4294967295) :
    behind vs (readNs (f + 1) l) = behind (vs ++ [(rdNum l).1]) (readNs f (l.drop (rdNum l).2.1)) := by
  rw [readNs_step, if_pos h]
  unfold behind
  cases readNs f (l.drop (rdNum l).2.1) with
  | none => rfl
  | some q => simp
theorem behind_none (vs : List Nat) (f : Nat) (l : List UInt8) (h : ¬ ((rdNum l).2.2 = 0 ∧ (rdNum l).1 ≤ 4294967295)) : behind vs (readNs (f + 1) l) = none := by
  rw [readNs_step, if_neg h]
  rfl
theorem behind_end (vs : List Nat) (l : List UInt8) : behind vs (readNs 0 l) = some (vs, l) := by
  simp [behind, readNs]
theorem behind_nil (q : Option (List Nat × List UInt8)) : behind [] q = q := by
  unfold behind
  cases q with
  | none => rfl
  | some q => simp
/-- read of numbers: these numbers, as they are told -/
theorem numsO_ofNums (vs : List Nat) (h : vs.length = 6) : numsO (ofNums vs) = vs := by
  match vs, h with
  | [a, b, c, d, e, f], _ => simp [numsO, ofNums]
end Go.Proofs.Ytfepefohaadecaa
