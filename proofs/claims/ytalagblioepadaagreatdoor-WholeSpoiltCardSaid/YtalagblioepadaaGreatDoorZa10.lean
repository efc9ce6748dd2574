/- The proof, part 10. -/
import Derived.Test.YtalagblioepadaaGreatDoorZa05
import Derived.Maps.Keyed
import Derived.Maps.OwnOps
import Derived.Maps.OwnSet
namespace Go.Proofs.YtalagblioepadaaGreatDoor
section
open Go.RowKit
open Go.Maps
section
variable {H:Type} {P:Program} {k:TypeId} {R:Value→Option (DataW H×List MemPlace)} {w w':World} {b n:Nat} {D:DataW H}
theorem map_keeps {T:Nat→Prop} (h:w.ownsMap P k R b n D) (hk:Keeps T w w') (hb:¬ T b):w'.ownsMap P k R b n D:=by
 obtain ⟨es,clock,h1,F,h2,h3⟩:=h
 exact ⟨es,clock,hk.heap h1 hb,F,h2,h3⟩
theorem map_turned_keeps (h:w.mapTurned w' b):Keeps (fun j=>j=b) w w':=by
 have hg:=h.grown
 exact ⟨hg.os,hg.tape,hg.output,hg.size,fun j hj hs=>hg.block j hj (fun e=>hs (by cases e;rfl))⟩
def Res.map (P:Program) (k:TypeId) (R:Value→Option (DataW H×List MemPlace)) (b n:Nat) (D:DataW H):Res where
 S j:=j=b
 P w:=w.ownsMap P k R b n D
 lt h e:=by subst e;exact h.lt
 frame h hk hs:=map_keeps h hk (hs b rfl)
variable {ops:Array Oper} {rest:List Oper} {o:Oper} {a:Act} {Q:Exit→Act→World→Prop}
theorem wpList_run_lookup {t:TypeId} {m x:Operand} {c:Bool} {mv key v:Value} (hrun:(Instr.lookup t mv key c).run P w=.ok v w') (hg:o.guard=none) (ho:o.op=.lookup t m x c) (hm:a.eval m=mv) (hx:a.eval x=key)
  (h:wpList P ops Q rest (a.put o.dst v) w'):wpList P ops Q (o :: rest) a w:=by
 refine wpList_plain hg fun K' hK'=>?_
 unfold Oper.wp
 simp only[execOp,ho,hm,hx,Sem.run_bind,hrun,Result.andThen_ok,Sem.run_pure]
 exact hK' _ _ h
theorem wpList_run_update {t:TypeId} {m x y:Operand} {mv key v:Value} (hrun:(Instr.mapUpdate t mv key v).run P w=.ok () w') (hg:o.guard=none) (ho:o.op=.mapUpdate t m x y) (hm:a.eval m=mv) (hx:a.eval x=key) (hy:a.eval y=v)
  (h:wpList P ops Q rest (a.put o.dst undef) w'):wpList P ops Q (o :: rest) a w:=by
 refine wpList_plain hg fun K' hK'=>?_
 unfold Oper.wp
 simp only[execOp,ho,hm,hx,hy,Sem.run_bind,hrun,Result.andThen_ok,Sem.run_pure]
 exact hK' _ _ h
theorem wpList_run_delete {t k':TypeId} {m x:Operand} {mv key:Value} (hrun:(Builtin.delete_ #[t,k'] o.type #[mv,key]).run P w=.ok (.tuple #[]) w') (hg:o.guard=none) (ho:o.op=Op.call { callee:=Callee.builtin Builtin.delete,args:=#[m,x],argTypes:=#[t,k'] }) (hm:a.eval m=mv) (hx:a.eval x=key)
  (h:wpList P ops Q rest (a.put o.dst (.tuple #[])) w'):wpList P ops Q (o :: rest) a w:=by
 refine wpList_plain hg fun K' hK'=>?_
 unfold Oper.wp
 simp[execOp,ho,resolve,invoke,builtin,hm,hx,hrun,Result.andThen]
 exact hK' _ _ h
end
end
end Go.Proofs.YtalagblioepadaaGreatDoor
