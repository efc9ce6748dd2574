/- The proof, part 17. -/
import Derived.Test.YtalagblioepadaaGreatDoorZa12
import Derived.OwnWalkIn
namespace Go.Proofs.YtalagblioepadaaGreatDoor
section
open Go.RowKit
section
variable {F:Fence} {n:Nat} {P:Program} {w w':World} {ops:Array Oper} {rest:List Oper} {o:Oper} {a:Act} {Q:Exit→Act→World→Prop} {v p:Value}
theorem wpListIn_run_load {T:TypeId} {x:Operand} (hrun:(Instr.loadAt T p).run P w=.ok v w') (hg:o.guard=none) (ho:o.op=.load T x) (hx:a.eval x=p) (h:wpListIn F n P ops Q rest (a.put o.dst v) w'):wpListIn F n P ops Q (o :: rest) a w:=by
 refine wpListIn_plain hg fun K hK'=>?_
 unfold Oper.wpIn
 refine ⟨?_,?_⟩
 ·simp[Oper.about,ho]
 ·rw[Oper.semAt_plain F _ _ (by rw[ho];intro c hc';cases hc')]
  simp only[execOp,ho,hx,Sem.run_bind,hrun,Result.andThen_ok,Sem.run_pure]
  exact hK' _ _ h
theorem wpListIn_run_store {T:TypeId} {x y:Operand} {u:Value} (hrun:(Instr.storeAt T p u).run P w=.ok () w') (hg:o.guard=none) (ho:o.op=.store T x y) (hx:a.eval x=p) (hy:a.eval y=u) (h:wpListIn F n P ops Q rest (a.put o.dst undef) w'):wpListIn F n P ops Q (o :: rest) a w:=by
 refine wpListIn_plain hg fun K hK'=>?_
 unfold Oper.wpIn
 refine ⟨?_,?_⟩
 ·simp[Oper.about,ho]
 ·rw[Oper.semAt_plain F _ _ (by rw[ho];intro c hc';cases hc')]
  simp only[execOp,ho,hx,hy,Sem.run_bind,hrun,Result.andThen_ok,Sem.run_pure]
  exact hK' _ _ h
theorem wpListIn_run_alloc {T:TypeId} (hrun:(Instr.alloc T true (.tuple #[])).run P w=.ok v w') (hg:o.guard=none) (ho:o.op=.alloc T) (h:wpListIn F n P ops Q rest (a.put o.dst v) w'):wpListIn F n P ops Q (o :: rest) a w:=by
 refine wpListIn_plain hg fun K hK'=>?_
 unfold Oper.wpIn
 refine ⟨?_,?_⟩
 ·simp[Oper.about,ho]
 ·rw[Oper.semAt_plain F _ _ (by rw[ho];intro c hc';cases hc')]
  simp only[execOp,ho,Sem.run_bind,hrun,Result.andThen_ok,Sem.run_pure]
  exact hK' _ _ h
end
end
end Go.Proofs.YtalagblioepadaaGreatDoor
