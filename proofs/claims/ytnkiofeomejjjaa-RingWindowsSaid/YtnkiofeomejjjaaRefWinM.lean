/- Plain facts: the reference's window, put step by step, and what is kept. -/
import Derived.Test.YtnkiofeomejjjaaWinD
namespace Go.Proofs.Ytnkiofeomejjjaa
section
variable {α : Type}
/-- a step of the reference's Put -/
def putStep (f : Nat) (x : α) (s : List (Nat × α) × Bool) (p : Nat × α) : List (Nat × α) × Bool :=
  ((if !s.2 && decide (f ≤ p.1) then s.1 ++ [(f, x)] else s.1) ++ (if p.1 = f then [] else [p]), s.2 || decide (f ≤ p.1))
def putFold (f : Nat) (x : α) (L : List (Nat × α)) : List (Nat × α) × Bool := L.foldl (putStep f x) ([], false)
theorem putFold_snoc (f : Nat) (x : α) (L : List (Nat × α)) (p : Nat × α) : putFold f x (L ++ [p]) = putStep f x (putFold f x L) p := by
  unfold putFold
  rw [List.foldl_append]
  rfl
theorem putFold_true (f : Nat) (x : α) (L out : List (Nat × α)) : L.foldl (putStep f x) (out, true) = (out ++ L.filter (fun p => p.1 != f), true) := by
  induction L generalizing out with
  | nil => simp
  | cons p L ih =>
    rw [List.foldl_cons]
    simp only [putStep, Bool.not_true, Bool.false_and, Bool.true_or]
    rw [if_neg (by simp), ih]
    by_cases h : p.1 = f
    · rw [if_pos h, List.filter_cons_of_neg (by simpa using h), List.append_nil]
    · rw [if_neg h, List.filter_cons_of_pos (by simpa using h), List.append_assoc]
      rfl
def putEnd (f : Nat) (x : α) (r : List (Nat × α) × Bool) : List (Nat × α) := match r.2 with | true => r.1 | false => r.1 ++ [(f, x)]
theorem putFold_all (f : Nat) (x : α) (L out : List (Nat × α)) : putEnd f x (L.foldl (putStep f x) (out, false)) = out ++ putL L f x := by
  induction L generalizing out with
  | nil => rfl
  | cons p L ih =>
    obtain ⟨g, y⟩ := p
    rw [List.foldl_cons]
    by_cases h : f ≤ g
    · have e : putStep f x (out, false) (g, y) = (out ++ [(f, x)] ++ (if g = f then [] else [(g, y)]), true) := by simp [putStep, h]
      rw [e, putFold_true]
      simp only [putL, if_pos h, putEnd]
      by_cases c : g = f
      · rw [if_pos c, List.filter_cons_of_neg (by simpa using c)]; simp
      · rw [if_neg c, List.filter_cons_of_pos (by simpa using c)]; simp
    · have e : putStep f x (out, false) (g, y) = (out ++ [(g, y)], false) := by simp [putStep, h, show ¬ g = f by omega]
      rw [e, ih]
      simp [putL, h]
theorem putFold_end (f : Nat) (x : α) (L : List (Nat × α)) : putEnd f x (putFold f x L) = putL L f x := by
  have := putFold_all f x L []
  rw [List.nil_append] at this
  exact this
theorem putFold_len (f : Nat) (x : α) (L : List (Nat × α)) : (putFold f x L).1.length ≤ L.length + 1 := by
  have : ∀ (L out : List (Nat × α)) (b : Bool), (L.foldl (putStep f x) (out, b)).1.length + b.toNat ≤ out.length + L.length + (L.foldl (putStep f x) (out, b)).2.toNat := by
    intro L
    induction L with
    | nil => intro out b; exact Nat.le_refl _
    | cons p L ih =>
      intro out b
      rw [List.foldl_cons]
      have h := ih (putStep f x (out, b) p).1 (putStep f x (out, b) p).2
      have hs : (putStep f x (out, b) p).1.length + b.toNat ≤ out.length + 1 + (putStep f x (out, b) p).2.toNat := by
        unfold putStep
        cases b <;> by_cases c1 : f ≤ p.1 <;> by_cases c2 : p.1 = f <;> simp [c1, c2]
        all_goals omega
      simp only [List.length_cons] at h ⊢
      generalize putStep f x (out, b) p = s at *
      obtain ⟨s1, s2⟩ := s
      simp only at h hs
      omega
  have h := this L [] false
  have h2 : (putFold f x L).2.toNat ≤ 1 := Bool.toNat_le _
  unfold putFold at *
  simp only [Bool.toNat_false, List.length_nil] at h
  omega
theorem putL_len {L : List (Nat × α)} (h : Asc L) (first size f : Nat) (x : α) (hin : ∀ p ∈ L, first ≤ p.1 ∧ p.1 < first + size) (hf : first ≤ f ∧ f < first + size) : (putL L f x).length ≤ size := by
  have h1 := frames_of (asc_put h f x) first size (fun p hp => by
    rcases mem_put hp with rfl | hp
    · exact hf
    · exact hin p hp)
  have h2 := congrArg List.length h1
  rw [List.length_map] at h2
  rw [← h2]
  exact Nat.le_trans (List.length_filter_le _ _) (by simp)
theorem asc_len {L : List (Nat × α)} (h : Asc L) (first size : Nat) (hin : ∀ p ∈ L, first ≤ p.1 ∧ p.1 < first + size) : L.length ≤ size := by
  have h1 := frames_of h first size hin
  have h2 := congrArg List.length h1
  rw [List.length_map] at h2
  rw [← h2]
  exact Nat.le_trans (List.length_filter_le _ _) (by simp)
theorem filter_lens (L : List α) (p : α → Bool) : (L.filter p).length + (L.filter fun q => !p q).length = L.length := by
  induction L with
  | nil => rfl
  | cons c L ih =>
    by_cases h : p c = true
    · rw [List.filter_cons_of_pos h, List.filter_cons_of_neg (by simpa using h), List.length_cons, List.length_cons]; omega
    · rw [List.filter_cons_of_neg h, List.filter_cons_of_pos (by simpa using h), List.length_cons, List.length_cons]; omega
end
end Go.Proofs.Ytnkiofeomejjjaa
