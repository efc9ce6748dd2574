/- Plain facts: datagrams, which may be, what a kind names. -/
import Derived.Test.YtaobhbfhbmenfaaPackM
namespace Go.Proofs.Ytaobhbfhbmenfaa
structure Msg where
  kind : Int
  nonce : Int
  serial : Int
  ack : Int
  ins : List UInt8
  sum : Int
  lead : Int
def Msg.zero : Msg := ⟨0, 0, 0, 0, [], 0, 0⟩
/-- the fields are of their types -/
structure Msg.wf (m : Msg) : Prop where
  kind : -9223372036854775808 ≤ m.kind ∧ m.kind ≤ 9223372036854775807
  nonce : 0 ≤ m.nonce ∧ m.nonce < 4294967296
  serial : 0 ≤ m.serial ∧ m.serial < 65536
  ack : 0 ≤ m.ack ∧ m.ack < 65536
  sum : 0 ≤ m.sum ∧ m.sum < 4294967296
  lead : -9223372036854775808 ≤ m.lead ∧ m.lead ≤ 9223372036854775807
def sameM (a b : Msg) : Bool := decide (a.kind = b.kind) && decide (a.nonce = b.nonce) && decide (a.serial = b.serial) && decide (a.ack = b.ack) && decide (a.ins = b.ins) && decide (a.sum = b.sum) && decide (a.lead = b.lead)
theorem sameM_iff (a b : Msg) : sameM a b = true ↔ a = b := by
  obtain ⟨a1, a2, a3, a4, a5, a6, a7⟩ := a
  obtain ⟨b1, b2, b3, b4, b5, b6, b7⟩ := b
  simp [sameM, and_assoc]
def namesK (k : Int) : Int := if k = 1 ∨ k = 2 then 1 else if k = 3 then 14 else if k = 4 then 18 else if k = 5 then 4 else if k = 6 then 34 else 0
def bareM (m : Msg) : Msg :=
  ⟨m.kind, if m.kind = 1 ∨ m.kind = 2 then m.nonce else 0, if m.kind = 3 ∨ m.kind = 4 ∨ m.kind = 6 then m.serial else 0, if m.kind = 3 ∨ m.kind = 5 then m.ack else 0, if m.kind = 3 then m.ins else [], if m.kind = 4 then m.sum else 0, if m.kind = 6 then m.lead else 0⟩
def RightP (m : Msg) : Prop :=
  (1 ≤ m.kind ∧ m.kind ≤ 7) ∧ fits m.ins = true ∧ (-1000 ≤ m.lead ∧ m.lead ≤ 1000) ∧ (m.nonce = 0 ∨ m.kind = 1 ∨ m.kind = 2) ∧ (m.serial = 0 ∨ m.kind = 3 ∨ m.kind = 4 ∨ m.kind = 6) ∧ (m.ack = 0 ∨ m.kind = 3 ∨ m.kind = 5) ∧ (0 < m.ins.length ↔ m.kind = 3) ∧ (m.sum = 0 ∨ m.kind = 4) ∧ (m.lead = 0 ∨ m.kind = 6)
instance (m : Msg) : Decidable (RightP m) := by unfold RightP; infer_instance
/-- the program's own order of asking -/
theorem right_wire (m : Msg) : RightP m ↔ (1 ≤ m.kind ∧ m.kind ≤ 7) ∧ sameM m (bareM m) = true ∧ fits m.ins = true ∧ (-1000 ≤ m.lead ∧ m.lead ≤ 1000) ∧ (m.kind ≠ 3 ∨ 0 < m.ins.length) := by
  obtain ⟨k, n, s, a, i, u, l⟩ := m
  have h0 : (0 < i.length) ↔ i ≠ [] := by cases i <;> simp
  simp only [RightP, sameM, bareM, Bool.and_eq_true, decide_eq_true_eq, h0]
  constructor
  · rintro ⟨h1, h2, h3, h4, h5, h6, h7, h8, h9⟩
    refine ⟨h1, ⟨⟨⟨⟨⟨⟨trivial, ?_⟩, ?_⟩, ?_⟩, ?_⟩, ?_⟩, ?_⟩, h2, h3, ?_⟩
    · split <;> simp_all
    · split <;> simp_all
    · split <;> simp_all
    · split
      · rfl
      · rename_i e
        by_cases hi : i = []
        · exact hi
        · exact absurd (h7.1 hi) e
    · split <;> simp_all
    · split <;> simp_all
    · by_cases e : k = 3
      · exact .inr (h7.2 e)
      · exact .inl e
  · rintro ⟨h1, ⟨⟨⟨⟨⟨⟨_, g1⟩, g2⟩, g3⟩, g4⟩, g5⟩, g6⟩, h2, h3, h4⟩
    refine ⟨h1, h2, h3, ?_, ?_, ?_, ⟨fun hi => ?_, fun e => ?_⟩, ?_, ?_⟩
    · split at g1
      · rename_i e; exact .inr e
      · exact .inl g1
    · split at g2
      · rename_i e; exact .inr e
      · exact .inl g2
    · split at g3
      · rename_i e; exact .inr e
      · exact .inl g3
    · split at g4
      · rename_i e; exact e
      · exact absurd g4 hi
    · rcases h4 with h | h
      · exact absurd e h
      · exact h
    · split at g5
      · rename_i e; exact .inr e
      · exact .inl g5
    · split at g6
      · rename_i e; exact .inr e
      · exact .inl g6
end Go.Proofs.Ytaobhbfhbmenfaa
