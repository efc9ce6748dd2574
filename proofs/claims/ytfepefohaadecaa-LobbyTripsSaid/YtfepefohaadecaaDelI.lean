/- slices.DeleteFunc at []int: what is kept, by any predicate that reads. -/
import Derived.Test.YtfepefohaadecaaSeqI
import Derived.Shelf.SlicesE.DeleteFunc
import Derived.Lib.SliceRun
import Derived.Lib.OwnBridge
import Derived.Sort.OwnSortedInts
namespace Go.Proofs.Ytfepefohaadecaa
open Go.RowKit
def del_ren : Go.Shelf.Ren := ⟨fun | 10 => 81 | 6 => 97 | n => n, fun | 0 => 0 | 3 => 3 | 4 => 4 | 22 => 52 | 23 => 3 | 25 => 140 | n => n, fun | n => n⟩
theorem del_lay : SlLaysH.n10 Try.prog del_ren := {
  mixed := by kernel_rfl
  f6 := ⟨Try.f97.name, by decide, Try.func97.trans (congrArg some (by kernel_rfl))⟩
  f10 := ⟨Try.f81.name, by decide, Try.func81.trans (congrArg some (by kernel_rfl))⟩
  t0 := Try.underlying0
  a0 := Try.isAgg0
  z0 := Try.sizeOf0
  v0 := Try.zeroValue0
  t3 := Try.underlying3
  a3 := Try.isAgg3
  z3 := Try.sizeOf3
  v3 := Try.zeroValue3
  t4 := Try.underlying4
  a4 := Try.isAgg4
  z4 := Try.sizeOf4
  v4 := Try.zeroValue4
  t22 := Try.underlying52
  a22 := Try.isAgg52
  z22 := Try.sizeOf52
  v22 := Try.zeroValue52
  a23 := Try.isAgg3
  z23 := Try.sizeOf3
  t25 := Try.underlying140
  a25 := Try.isAgg140
  z25 := Try.sizeOf140
  v25 := Try.zeroValue140 }
theorem ahead_keeps (w : World) (n : Nat) : Keeps (fun _ => False) w (Sort.ahead w n) := ⟨rfl, rfl, rfl, Nat.le_refl _, fun _ _ _ => rfl⟩
theorem del_nil (fv : Value) (w : World) :
    Calls Try.prog 81 #[.slice none 0 0, fv] w fun e w' => e = .returned (.slice none 0 0) ∧ w' = w := by
  have hI := AnyE.slices_IndexFunc_empty (P := Try.prog) (ρ := del_ren) { del_lay with } none 0 fv w
  change Calls Try.prog 97 _ _ _ at hI
  go_enter Try.func81, Try.ntmps81
  go_wp2_with fail
  refine hI.mono ?_
  rintro e w' ⟨rfl, rfl⟩
  go_wp2_with fail
  go_ret
  exact ⟨rfl, rfl⟩
theorem del_ints {w : World} {base n : Nat} {v : Value} (zs : List Int) (hown : w.ownsRow base 3 1 v n (zs.map (Value.int .i64))) (hn : n ≤ 4096) (p : Int → Bool) (gf : Nat) (lb : Array Value)
    (hgf : ∀ args w, (callFunc gf args).run Try.prog w = .ok (.enter gf args) w)
    (hcl : ∀ (W : World) (x : Int), Keeps (fun b => v.ownBlock = some b) w W → Calls Try.prog gf (#[.int .i64 x] ++ lb) W fun e w' => e = .returned (.bool (p x)) ∧ ∃ q, w' = W.drewN q) :
    Calls Try.prog 81 #[v, .func (.func gf) #[] lb] w fun e w' => ∃ v', e = .returned v' ∧ w'.ownsRow base 3 1 v' (zs.filter fun x => !p x).length ((zs.filter fun x => !p x).map (Value.int .i64)) ∧ Keeps (fun b => v.ownBlock = some b) w w' := by
  by_cases hv : v = .slice none 0 0
  · subst hv
    have hz : zs = [] := by
      rcases hown.2 with ⟨_, h⟩ | ⟨g, cap, cur, h, _⟩
      · exact List.eq_nil_of_length_eq_zero (by have := hown.1; simp at this; omega)
      · cases h
    subst hz
    refine (del_nil _ w).mono ?_
    rintro e w' ⟨rfl, rfl⟩
    exact ⟨_, rfl, own_nil _ _ _ _, Keeps.refl _ _⟩
  · obtain ⟨g, cap, rfl, hbg, hgw, hnc, hcm, hzl, hH⟩ := Lib.holds_of_ownsRow hown hv
    subst hzl
    have hkW : ∀ (W : World), Keeps (fun b => b = g) w W → Keeps (fun b => (Value.slice (some ⟨g, 0, none⟩) zs.length cap).ownBlock = some b) w W := fun W h => h.mono fun k _ e => by subst e; rfl
    have hD := AnyE.slices_DeleteFunc (P := Try.prog) (ρ := del_ren) del_lay (Value.int .i64) (fun _ => rfl) p gf lb hgf 0 Try.zeroValue3 g 0 cap zs.toArray w
      (fun W x hb => hcl W x (hkW W (Keeps.of_below hb (fun k h1 h2 => by omega))))
      (fun n os dk x _ => hcl _ x (hkW _ ((Keeps.refl _ w).grown (grownBy_sortedI dk) (fun k hk => .inl (by cases hk; rfl)))))
      hH (by simp; omega) (by simpa using hnc)
    change Calls Try.prog 81 _ _ _ at hD
    rw [List.size_toArray] at hD
    refine hD.mono ?_
    rintro e w' ⟨rfl, q, rfl⟩
    have hle := List.length_filter_le (fun x => !p x) zs
    have ho := Lib.ownsRow_putRow (q := q) (k := (zs.filter fun x => !p x).length) (ys := (zs.filter fun x => !p x) ++ List.replicate (zs.length - (zs.filter fun x => !p x).length) 0) hown (by simp; omega) hle
    refine ⟨_, rfl, ?_, hkW _ ?_⟩
    · rw [List.take_left] at ho
      exact ho
    · have hg := grownBy_sortedI (w := w) (g := g) (n := q) (os := #[]) ((zs.filter fun x => !p x) ++ List.replicate (zs.length - (zs.filter fun x => !p x).length) 0).toArray
      rw [Sort.grow_empty] at hg
      exact (Keeps.refl _ w).grown hg (fun k hk => .inl (by cases hk; rfl))
end Go.Proofs.Ytfepefohaadecaa
