/- Plain laws of runs: a run is read from its bytes; what is read is told by its bytes. No program in sight. -/
import Derived.Test.YtaobhbfhbmenfaaPackP
namespace Go.Proofs.Ytaobhbfhbmenfaa
/-- the stretches of a run of so many inputs, read from a place on -/
def rr (l : List UInt8) (count : Nat) (out : List UInt8) (at' : Nat) : List UInt8 × Nat × Int :=
  if _h : count ≤ out.length then (out, at', 0) else
  match l.drop at' with
  | [] => ([], 0, 3)
  | x :: r =>
    if 63 < x.toNat ∨ out.getLast? = some x then ([], 0, 4)
    else if (rdNum r).2.2 ≠ 0 then ([], 0, (rdNum r).2.2)
    else if h2 : (rdNum r).1 = 0 ∨ count - out.length < (rdNum r).1 then ([], 0, 4)
    else rr l count (out ++ List.replicate (rdNum r).1 x) (at' + 1 + (rdNum r).2.1)
termination_by count - out.length
decreasing_by simp only [List.length_append, List.length_replicate]; omega
theorem rr_end (l : List UInt8) (count : Nat) (out : List UInt8) (at' : Nat) (h : count ≤ out.length) : rr l count out at' = (out, at', 0) := by rw [rr, dif_pos h]
theorem rr_short (l : List UInt8) (count : Nat) (out : List UInt8) (at' : Nat) (h : ¬ count ≤ out.length) (h1 : l.drop at' = []) : rr l count out at' = ([], 0, 3) := by rw [rr, dif_neg h, h1]
theorem rr_form (l : List UInt8) (count : Nat) (out : List UInt8) (at' : Nat) (h : ¬ count ≤ out.length) (x : UInt8) (r : List UInt8) (h1 : l.drop at' = x :: r) (h2 : 63 < x.toNat ∨ out.getLast? = some x) : rr l count out at' = ([], 0, 4) := by
  rw [rr, dif_neg h, h1]; simp only []; rw [if_pos h2]
theorem rr_err (l : List UInt8) (count : Nat) (out : List UInt8) (at' : Nat) (h : ¬ count ≤ out.length) (x : UInt8) (r : List UInt8) (h1 : l.drop at' = x :: r) (h2 : ¬ (63 < x.toNat ∨ out.getLast? = some x)) (h3 : (rdNum r).2.2 ≠ 0) : rr l count out at' = ([], 0, (rdNum r).2.2) := by
  rw [rr, dif_neg h, h1]; simp only []; rw [if_neg h2, if_pos h3]
theorem rr_size (l : List UInt8) (count : Nat) (out : List UInt8) (at' : Nat) (h : ¬ count ≤ out.length) (x : UInt8) (r : List UInt8) (h1 : l.drop at' = x :: r) (h2 : ¬ (63 < x.toNat ∨ out.getLast? = some x)) (h3 : (rdNum r).2.2 = 0) (h4 : (rdNum r).1 = 0 ∨ count - out.length < (rdNum r).1) : rr l count out at' = ([], 0, 4) := by
  rw [rr, dif_neg h, h1]; simp only []; rw [if_neg h2, if_neg (by simpa using h3), dif_pos h4]
theorem rr_on (l : List UInt8) (count : Nat) (out : List UInt8) (at' : Nat) (h : ¬ count ≤ out.length) (x : UInt8) (r : List UInt8) (h1 : l.drop at' = x :: r) (h2 : ¬ (63 < x.toNat ∨ out.getLast? = some x)) (h3 : (rdNum r).2.2 = 0) (h4 : ¬ ((rdNum r).1 = 0 ∨ count - out.length < (rdNum r).1)) :
    rr l count out at' = rr l count (out ++ List.replicate (rdNum r).1 x) (at' + 1 + (rdNum r).2.1) := by
  rw [rr, dif_neg h, h1]; simp only []; rw [if_neg h2, if_neg (by simpa using h3), dif_neg h4]
/-- a run that bytes begin with: the inputs, how many bytes, the error -/
def rdRun (l : List UInt8) : List UInt8 × Nat × Int :=
  if (rdNum l).2.2 ≠ 0 then ([], 0, (rdNum l).2.2) else if 64 < (rdNum l).1 then ([], 0, 5) else rr l (rdNum l).1 [] (rdNum l).2.1
theorem same_drop (c : UInt8) : ∀ r : List UInt8, (r.drop (same c r)).head? ≠ some c
  | [] => by simp [same]
  | d :: r => by
    by_cases hd : d = c
    · have e : same c (d :: r) = same c r + 1 := by rw [same, if_pos hd]
      rw [e, List.drop_succ_cons]
      exact same_drop c r
    · have e : same c (d :: r) = 0 := by rw [same, if_neg hd]
      rw [e]
      simpa using hd
theorem same_take (c : UInt8) : ∀ r : List UInt8, r.take (same c r) = List.replicate (same c r) c
  | [] => by simp [same]
  | d :: r => by
    by_cases hd : d = c
    · have e : same c (d :: r) = same c r + 1 := by rw [same, if_pos hd]
      rw [e, List.take_succ_cons, List.replicate_succ, same_take c r, hd]
    · have e : same c (d :: r) = 0 := by rw [same, if_neg hd]
      rw [e]; rfl
theorem same_of (c : UInt8) (t : List UInt8) (ht : t.head? ≠ some c) : ∀ k : Nat, same c (List.replicate k c ++ t) = k
  | 0 => by
    cases t with
    | nil => rfl
    | cons d t =>
      rw [List.replicate_zero, List.nil_append, same, if_neg (by simpa using ht)]
  | k + 1 => by rw [List.replicate_succ, List.cons_append, same, if_pos rfl, same_of c t ht k]
theorem runs_of (c : UInt8) (k : Nat) (t : List UInt8) (ht : t.head? ≠ some c) : runs (List.replicate (k + 1) c ++ t) = (c, k + 1) :: runs t := by
  rw [List.replicate_succ, List.cons_append, runs, same_of c t ht k, List.drop_left' (by simp)]
theorem last_rep (out : List UInt8) (k : Nat) (c : UInt8) : (out ++ List.replicate (k + 1) c).getLast? = some c := by
  rw [List.replicate_succ', ← List.append_assoc, List.getLast?_append]
  simp
theorem rr_runs : ∀ (m : Nat) (L out t l : List UInt8) (at' count : Nat), L.length ≤ m → l.drop at' = runsBytes (runs L) ++ t → count = out.length + L.length → count ≤ 64 → (∀ x ∈ L, x.toNat ≤ 63) → (out ≠ [] → L ≠ [] → out.getLast? ≠ L.head?) →
    rr l count out at' = (out ++ L, at' + (runsBytes (runs L)).length, 0) := by
  intro m
  induction m with
  | zero =>
    intro L out t l at' count hm hd hc h64 hx hne
    obtain rfl : L = [] := List.length_eq_zero_iff.1 (by omega)
    rw [rr_end _ _ _ _ (by simp at hc; omega)]
    simp [runs, runsBytes]
  | succ m ih =>
    intro L out t l at' count hm hd hc h64 hx hne
    cases L with
    | nil =>
      rw [rr_end _ _ _ _ (by simp at hc; omega)]
      simp [runs, runsBytes]
    | cons c r =>
      have hle := same_le c r
      have e1 : runs (c :: r) = (c, same c r + 1) :: runs (r.drop (same c r)) := by rw [runs]
      have e2 : runsBytes (runs (c :: r)) = c :: (num (same c r + 1) ++ runsBytes (runs (r.drop (same c r)))) := by rw [e1]; simp [runsBytes]
      have e3 : c :: r = List.replicate (same c r + 1) c ++ r.drop (same c r) := by
        rw [List.replicate_succ, ← same_take c r, List.cons_append, List.take_append_drop]
      simp only [List.length_cons] at hc hm
      rw [e2] at hd
      simp only [List.cons_append, List.append_assoc] at hd
      have hrd := rd_behind (same c r + 1) (by unfold two64; omega) (runsBytes (runs (r.drop (same c r))) ++ t)
      have hn : (rdNum (num (same c r + 1) ++ (runsBytes (runs (r.drop (same c r))) ++ t))).1 = same c r + 1 := by rw [hrd]
      have hs : (rdNum (num (same c r + 1) ++ (runsBytes (runs (r.drop (same c r))) ++ t))).2.1 = (num (same c r + 1)).length := by rw [hrd]
      have he : (rdNum (num (same c r + 1) ++ (runsBytes (runs (r.drop (same c r))) ++ t))).2.2 = 0 := by rw [hrd]
      rw [rr_on l count out at' (by omega) c _ hd ?h2 he (by rw [hn]; omega), hn, hs]
      case h2 =>
        rintro (h | h)
        · have := hx c (by simp); omega
        · by_cases ho : out = []
          · rw [ho] at h; simp at h
          · exact hne ho (by simp) (by rw [h]; rfl)
      rw [ih (r.drop (same c r)) _ t l _ count (by simp; omega) ?hd (by simp; omega) h64 (fun x hxm => hx x (List.mem_cons_of_mem _ (List.mem_of_mem_drop hxm))) ?hne]
      case hd =>
        rw [← List.drop_drop, ← List.drop_drop, hd]
        simp
      case hne =>
        intro _ _
        rw [last_rep]
        exact (same_drop c r).symm
      refine Prod.ext ?_ (Prod.ext ?_ rfl)
      · simp only [List.append_assoc]
        rw [← e3]
      · simp only [e2, List.length_cons, List.length_append]
        omega
/-- a run is read from its bytes, whatever stands behind -/
theorem rd_run (L t : List UInt8) (hf : fits L = true) : rdRun (runBytes L ++ t) = (L, (runBytes L).length, 0) := by
  unfold fits at hf
  simp only [Bool.and_eq_true, List.all_eq_true, decide_eq_true_eq] at hf
  have hrd := rd_behind L.length (by unfold two64; omega) (runsBytes (runs L) ++ t)
  have e : runBytes L ++ t = num L.length ++ (runsBytes (runs L) ++ t) := by simp [runBytes]
  unfold rdRun
  rw [e, hrd]
  simp only []
  rw [if_neg (by simp), if_neg (by omega), rr_runs L.length L [] t _ _ _ (Nat.le_refl _) (by simp) (by simp) hf.2 hf.1 (fun h => absurd rfl h)]
  simp [runBytes]
theorem rr_told : ∀ (m : Nat) (l out : List UInt8) (count at' n : Nat) (L : List UInt8), count - out.length ≤ m → rr l count out at' = (L, n, 0) → out.length ≤ count → at' ≤ l.length →
    ∃ L', L = out ++ L' ∧ L'.length = count - out.length ∧ runsBytes (runs L') = (l.drop at').take (n - at') ∧ n = at' + (runsBytes (runs L')).length ∧ n ≤ l.length ∧ (∀ x ∈ L', x.toNat ≤ 63) ∧ (out ≠ [] → L' ≠ [] → out.getLast? ≠ L'.head?) := by
  intro m
  induction m with
  | zero =>
    intro l out count at' n L hm h hc ha
    rw [rr_end _ _ _ _ (by omega)] at h
    simp only [Prod.mk.injEq, and_true] at h
    obtain ⟨rfl, rfl⟩ := h
    exact ⟨[], by simp, by simp; omega, by simp [runs, runsBytes], by simp [runs, runsBytes], ha, by simp, by simp⟩
  | succ m ih =>
    intro l out count at' n L hm h hc ha
    by_cases h0 : count ≤ out.length
    · rw [rr_end _ _ _ _ h0] at h
      simp only [Prod.mk.injEq, and_true] at h
      obtain ⟨rfl, rfl⟩ := h
      exact ⟨[], by simp, by simp; omega, by simp [runs, runsBytes], by simp [runs, runsBytes], ha, by simp, by simp⟩
    cases hd : l.drop at' with
    | nil => rw [rr_short _ _ _ _ h0 hd] at h; simp at h
    | cons x r =>
      by_cases h2 : 63 < x.toNat ∨ out.getLast? = some x
      · rw [rr_form _ _ _ _ h0 x r hd h2] at h; simp at h
      by_cases h3 : (rdNum r).2.2 = 0
      case neg =>
        rw [rr_err _ _ _ _ h0 x r hd h2 h3] at h
        simp only [Prod.mk.injEq] at h
        exact absurd h.2.2 h3
      by_cases h4 : (rdNum r).1 = 0 ∨ count - out.length < (rdNum r).1
      · rw [rr_size _ _ _ _ h0 x r hd h2 h3 h4] at h; simp at h
      rw [rr_on _ _ _ _ h0 x r hd h2 h3 h4] at h
      obtain ⟨k1, k2, k3⟩ := rd_ok r (rdNum r).1 (rdNum r).2.1 (Prod.ext rfl (Prod.ext rfl h3))
      obtain ⟨k, hk⟩ : ∃ k, (rdNum r).1 = k + 1 := ⟨(rdNum r).1 - 1, by omega⟩
      have hin := (rd_in r).2.1
      have hlen : r.length = l.length - at' - 1 := by have := congrArg List.length hd; simp at this; omega
      have hpos : 0 < l.length - at' := by have := congrArg List.length hd; simp at this; omega
      rw [hk] at h k1
      obtain ⟨L', e1, e2, e3, e4, e5, e6, e7⟩ := ih l _ count _ n L (by simp; omega) h (by simp; omega) (by omega)
      have hhd : L'.head? ≠ some x := by
        by_cases hL : L' = []
        · rw [hL]; simp
        · have := e7 (by simp) hL
          rw [last_rep] at this
          exact fun hh => this hh.symm
      have hr : runs (List.replicate (k + 1) x ++ L') = (x, k + 1) :: runs L' := runs_of x k L' hhd
      have hb : runsBytes (runs (List.replicate (k + 1) x ++ L')) = x :: (num (k + 1) ++ runsBytes (runs L')) := by rw [hr]; simp [runsBytes]
      have hnl : (num (k + 1)).length = (rdNum r).2.1 := by rw [k1, List.length_take]; omega
      refine ⟨List.replicate (k + 1) x ++ L', by rw [e1]; simp, by simp; simp at e2; omega, ?_, ?_, e5, ?_, ?_⟩
      · rw [hb, e3, k1]
        have hdd : l.drop (at' + 1 + (rdNum r).2.1) = r.drop (rdNum r).2.1 := by rw [← List.drop_drop, ← List.drop_drop, hd]; rfl
        rw [hdd, show n - at' = (n - (at' + 1 + (rdNum r).2.1)) + (rdNum r).2.1 + 1 by omega, List.take_succ_cons, Nat.add_comm (n - _), List.take_add]
      · rw [hb]
        simp only [List.length_cons, List.length_append]
        omega
      · intro y hy
        rcases List.mem_append.1 hy with hy | hy
        · rw [(List.mem_replicate.1 hy).2]; omega
        · exact e6 y hy
      · intro ho _ hh
        exact h2 (.inr (by rw [hh, List.replicate_succ]; rfl))
/-- what is read is told by these bytes -/
theorem rd_run_told (l L : List UInt8) (n : Nat) (h : rdRun l = (L, n, 0)) : runBytes L = l.take n ∧ fits L = true ∧ n ≤ l.length := by
  unfold rdRun at h
  by_cases h1 : (rdNum l).2.2 = 0
  case neg =>
    rw [if_pos h1] at h
    simp only [Prod.mk.injEq] at h
    exact absurd h.2.2 h1
  rw [if_neg (by simpa using h1)] at h
  by_cases h2 : 64 < (rdNum l).1
  · rw [if_pos h2] at h; simp at h
  rw [if_neg h2] at h
  obtain ⟨k1, k2, k3⟩ := rd_ok l (rdNum l).1 (rdNum l).2.1 (Prod.ext rfl (Prod.ext rfl h1))
  obtain ⟨L', e1, e2, e3, e4, e5, e6, _⟩ := rr_told _ l [] _ _ n L (Nat.le_refl _) h (Nat.zero_le _) (rd_in l).2.1
  simp only [List.nil_append] at e1
  subst e1
  simp only [List.length_nil, Nat.sub_zero] at e2
  refine ⟨?_, ?_, e5⟩
  · unfold runBytes
    rw [e2, k1, e3, show n = (rdNum l).2.1 + (n - (rdNum l).2.1) by omega, List.take_add]
    simp
  · unfold fits
    simp only [Bool.and_eq_true, List.all_eq_true, decide_eq_true_eq]
    exact ⟨e6, by omega⟩
theorem rr_err_empty : ∀ (m : Nat) (l out : List UInt8) (count at' : Nat), count - out.length ≤ m → (rr l count out at').2.2 ≠ 0 → (rr l count out at').1 = [] ∧ (rr l count out at').2.1 = 0 := by
  intro m
  induction m with
  | zero =>
    intro l out count at' hm h
    rw [rr_end _ _ _ _ (by omega)] at h
    simp at h
  | succ m ih =>
    intro l out count at' hm h
    by_cases h0 : count ≤ out.length
    · rw [rr_end _ _ _ _ h0] at h; simp at h
    cases hd : l.drop at' with
    | nil => rw [rr_short _ _ _ _ h0 hd]; simp
    | cons x r =>
      by_cases h2 : 63 < x.toNat ∨ out.getLast? = some x
      · rw [rr_form _ _ _ _ h0 x r hd h2]; simp
      by_cases h3 : (rdNum r).2.2 = 0
      case neg => rw [rr_err _ _ _ _ h0 x r hd h2 h3]; simp
      by_cases h4 : (rdNum r).1 = 0 ∨ count - out.length < (rdNum r).1
      · rw [rr_size _ _ _ _ h0 x r hd h2 h3 h4]; simp
      rw [rr_on _ _ _ _ h0 x r hd h2 h3 h4] at h ⊢
      exact ih l _ count _ (by simp; omega) h
end Go.Proofs.Ytaobhbfhbmenfaa
