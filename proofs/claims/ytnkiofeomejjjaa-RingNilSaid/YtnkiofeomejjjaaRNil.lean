/- The law on a ring, and a window, that is not there. -/
import Derived.Test.YtnkiofeomejjjaaOrder
import Derived.Test.YtnkiofeomejjjaaWinNil
namespace Go.Proofs.Ytnkiofeomejjjaa
open Go.RowKit
set_option maxRecDepth 100000 in
set_option maxHeartbeats 4000000 in
theorem law_RingNil (n : Int) (w : World) :
    Calls Try.prog 6 #[.int .i64 n] w fun e w' => e = .returned (.bool true) ∧ Below w.heap.size w w' := by
  go_enter Try.func6, Try.ntmps6
  go_wp2_with fail
  refine (awake04 _).mono ?_
  rintro e w1 ⟨rfl, hb1⟩
  go_wp2_with fail
  refine (nil_Pop w1).mono ?_
  rintro e w2 ⟨rfl, rfl⟩
  go_wp2_with fail
  refine (nil_Last w1).mono ?_
  rintro e w2 ⟨rfl, rfl⟩
  go_wp2_with fail
  refine (nil_At n w1).mono ?_
  rintro e w2 ⟨rfl, rfl⟩
  go_wp2_with fail
  refine (nil_Take n w1).mono ?_
  rintro e w2 ⟨rfl, rfl⟩
  go_wp2_with fail
  refine (wnil_Get n w1).mono ?_
  rintro e w2 ⟨rfl, q, rfl⟩
  have hb2 := below_drewN hb1 q
  generalize w1.drewN q = w2 at *
  go_wp2_with fail
  refine (nil_Push n w2).mono ?_
  rintro e w3 ⟨rfl, rfl⟩
  go_wp2_with fail
  refine (nil_Len w2).mono ?_
  rintro e w3 ⟨rfl, rfl⟩
  go_wp2_with fail
  refine (nil_Room w2).mono ?_
  rintro e w3 ⟨rfl, rfl⟩
  go_wp2_with fail
  refine (rnil_List w2).mono ?_
  rintro e w3 ⟨a3, c3, rfl, hb3⟩
  have hb4 := hb2.trans (hb3.mono hb2.size)
  clear hb1 hb2 hb3
  go_wp2_with fail
  refine (wnil_Put n n w3).mono ?_
  rintro e w4 ⟨rfl, q4, rfl⟩
  have hb5 := below_drewN hb4 q4
  generalize w3.drewN q4 = w4 at *
  clear hb4
  go_wp2_with fail
  refine (wnil_First w4).mono ?_
  rintro e w5 ⟨rfl, rfl⟩
  go_wp2_with fail
  refine (wnil_Move n w4).mono ?_
  rintro e w5 ⟨rfl, hb6⟩
  have hb7 := hb5.trans (hb6.mono hb5.size)
  clear hb5 hb6
  go_wp2_with fail
  refine (wnil_Cut n w5).mono ?_
  rintro e w6 ⟨rfl, rfl⟩
  go_wp2_with fail
  refine (wnil_Frames w5).mono ?_
  rintro e w6 ⟨a6, c6, rfl, hb8⟩
  have hb9 := hb7.trans (hb8.mono hb7.size)
  go_wp2_with fail
  go_ret
  exact ⟨rfl, hb9⟩
end Go.Proofs.Ytnkiofeomejjjaa
