/- The proof, part 4. -/
import Derived.Test.YtalagblioepadaaGreatDoorZa02
import Derived.Deep.QuietTactic
import Derived.BigQuiet
namespace Go.Proofs.YtalagblioepadaaGreatDoor
section
open Go.RowKit
structure After (w:World) where
 to:World
 below:Below w.heap.size w to
instance (w:World):Nonempty (After w):=⟨⟨w,Below.refl _ _⟩⟩
theorem wp_region_after {P:Program} {id:Nat} {Q:Exit→Act→World→Prop} {a:Act} {w:World} {l:List Oper} (hm:P.follows .mixedOrders=true) (hB:Region.lexB .any l.toArray=true)
  (h:wpQuiet P l.toArray (fun w'=>∃ x:After w,w'=x.to) (fun a'=>∀ w',(∃ x:After w,w'=x.to)→Q .normal a' w') l a):(Code.region id l.toArray true).wp P Q a w:=
 wp_region_quiet (C:=fun w'=>∃ x:After w,w'=x.to) hm hB ⟨⟨{ w with drawn:=w.drawn+1 },(Below.refl _ w).drew⟩,rfl⟩ (by simpa using h)
theorem Calls.after_of {P:Program} {f:FuncId} {args:Array Value} {w:World} {x:After w} {v:Value}
  (h:Calls P f args x.to fun e w'=>e=.returned v∧Below x.to.heap.size x.to w'):Calls P f args x.to fun e w''=>e=.returned v∧∃ y:After w,w''=y.to:=
 h.mono fun _ w' ⟨he,hb⟩=>⟨he,⟨w',x.below.trans (hb.mono x.below.size)⟩,rfl⟩
theorem Calls.after_same {P:Program} {f:FuncId} {args:Array Value} {w:World} {x:After w} {v:Value}
  (h:Calls P f args x.to fun e w'=>e=.returned v∧x.to=w'):Calls P f args x.to fun e w''=>e=.returned v∧∃ y:After w,w''=y.to:=
 h.mono fun _ _ ⟨he,hb⟩=>⟨he,x,hb.symm⟩
end
end Go.Proofs.YtalagblioepadaaGreatDoor
