/- The proof, part 12. -/
import Derived.Test.YtalagblioepadaaGreatDoorRows
import Derived.Test.YtalagblioepadaaGreatDoorZa09
import Derived.Test.YtalagblioepadaaGreatDoorZa05
namespace Go.Proofs.YtalagblioepadaaGreatDoor
section
open Go.RowKit
theorem box_load (w:World) (b:Nat) (c:Array Value) (t:TypeId) (hB:w.heap[b]?=some (.cells c t (0,0))) (k:Nat) (hk:c.size=k):(loadCellsFrom ⟨b,0,none⟩ 0 k #[]).run Tryz.prog w=.ok c w:=by
 have h:=run_loadCells_list (P:=Tryz.prog) w ⟨b,0,none⟩ c.toList (fun j v hj=>by
  rw[addr_add,Nat.zero_add]
  exact blk_cell hB (by simpa using hj))
 simp only[Array.length_toList,Array.toArray_toList,hk,loadCells] at h
 exact h
theorem splice_all (cur c:Array Value) (h:c.size=cur.size):spliceA cur 0 c=c:=by
 apply Array.ext_getElem?
 intro k
 rw[splice_get _ _ _ (by omega)]
 split
 ·simp
 ·rename_i hh
  rw[Array.getElem?_eq_none (by omega),Array.getElem?_eq_none (by omega)]
theorem setRow_at (w:World) (b:Nat) (cs c:Array Value) (t:TypeId) (hB:w.heap[b]?=some (.cells cs t (0,0))):(w.setRow b c).heap[b]?=some (.cells c t (0,0)):=by
 have hlt:=blk_lt hB
 have h':w.heap[b]=.cells cs t (0,0):=by simpa[Array.getElem?_eq_getElem hlt] using hB
 show (w.heap.modify b _)[b]?=_
 rw[Array.getElem?_eq_getElem (by simpa using hlt),Array.getElem_modify_self,h']
theorem store_all (w:World) (T:TypeId) (k b:Nat) (c cur:Array Value) (hz:∀ w,(Go.sizeOf T).run Tryz.prog w=.ok k w) (hc:c.size=k) (hcur:cur.size=k)
  (hB:w.heap[b]?=some (.cells cur T (0,0))) (h1:c.toList.all (fun v=>v.oneCell')=true) :
  (Instr.storeAt T (.pointer (some ⟨b,0,none⟩)) (.agg c)).run Tryz.prog w=.ok () (w.setRow b c)∧(loadCellsFrom ⟨b,0,none⟩ 0 k #[]).run Tryz.prog (w.setRow b c)=.ok c (w.setRow b c)∧Keeps (fun x=>x=b) w (w.setRow b c):=by
 have h:=run_store_agg (P:=Tryz.prog) T k b 0 c cur T hz hc hB (by omega) (List.all_eq_true.1 h1)
 rw[splice_all cur c (by omega)] at h
 exact ⟨h,box_load _ _ _ _ (setRow_at w b cur c T hB) k hc,keeps_setRow w b c⟩
theorem keeps_past {S T:Nat→Prop} {a b d:World} (h:Keeps S a b) (h2:Keeps T b d) (hs:∀ k,k<a.heap.size→T k→S k):Keeps S a d:=
 ⟨h2.os.trans h.os,h2.tape.trans h.tape,h2.output.trans h.output,Nat.le_trans h.size h2.size,fun i hi hn=>(h2.block i (Nat.lt_of_lt_of_le hi h.size) (fun t=>hn (hs i hi t))).trans (h.block i hi hn)⟩
section
variable {P:Program} {o:Oper} {a:Act} {K:Act→World→Prop} {Q:Exit→Act→World→Prop} {ops:Array Oper} {rest:List Oper} {w w':World} {v p:Value}
theorem wpList_run_alloc {T:TypeId} (hrun:(Instr.alloc T true (.tuple #[])).run P w=.ok v w') (hgd:o.guard=none) (ho:o.op=.alloc T) (h:wpList P ops Q rest (a.put o.dst v) w'):wpList P ops Q (o :: rest) a w:=
 wpList_plain hgd fun _ hK=>by
  unfold Oper.wp execOp
  simp only[ho,Sem.run_bind,hrun,Result.andThen_ok,Sem.run_pure]
  exact hK _ _ h
end
section
variable {P:Program} {o:Oper} {a:Act} {C:World→Prop} {K:Act→Prop}
theorem quiet_run_load {T:TypeId} {x:Operand} {p v:Value} (hrun:∀ w,C w→(Instr.loadAt T p).run P w=.ok v w) (ho:o.op=.load T x) (hx:a.eval x=p) (hk:K (a.put o.dst v)):o.quiet P a C K:=
 ⟨v,fun w hw=>by
  unfold Oper.quietAt execOp
  simp only[ho,hx,Sem.run_bind,hrun w hw,Result.andThen_ok,Sem.run_pure]
  exact ⟨rfl,rfl⟩,hk⟩
theorem wpQuiet_run_load {ops:Array Oper} {Q:Act→Prop} {rest:List Oper} {T:TypeId} {x:Operand} {p v:Value} (hrun:∀ w,C w→(Instr.loadAt T p).run P w=.ok v w) (hg:o.guard=none) (ho:o.op=.load T x) (hx:a.eval x=p) (hk:wpQuiet P ops C Q rest (a.put o.dst v)):wpQuiet P ops C Q (o :: rest) a:=by
 unfold wpQuiet
 rw[if_pos (by unfold Region.wanted;rw[hg])]
 exact quiet_run_load hrun ho hx hk
end
end
end Go.Proofs.YtalagblioepadaaGreatDoor
