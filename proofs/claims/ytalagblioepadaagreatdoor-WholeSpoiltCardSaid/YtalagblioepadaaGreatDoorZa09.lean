/- The proof, part 9. -/
import Derived.Test.YtalagblioepadaaGreatDoorZa05
import Derived.Laws.Cells
import Derived.Laws.CopyRow
import Derived.OwnWalk
namespace Go.Proofs.YtalagblioepadaaGreatDoor
section
open Go.RowKit
section
variable {P:Program} {w:World}
theorem run_load_agg (T:TypeId) (k b o:Nat) (c cur:Array Value) (t:TypeId) (ha:∀ w,(isAgg T).run P w=.ok true w) (hz:∀ w,(Go.sizeOf T).run P w=.ok k w) (hc:c.size=k)
  (hB:w.heap[b]?=some (.cells cur t (0,0))) (hs:∀ j v,c[j]?=some v→cur[o+j]?=some v):(Instr.loadAt T (.pointer (some ⟨b,o,none⟩))).run P w=.ok (.agg c) w:=by
 have h:=run_loadCells_list (P:=P) w ⟨b,o,none⟩ c.toList (fun j v hj=>by
  rw[addr_add]
  exact blk_cell hB (hs j v (by simpa using hj)))
 simp only[Array.length_toList,Array.toArray_toList] at h
 simp only[Instr.loadAt,Instr.sureAddr,loadVar,Sem.run_bind,Sem.run_pure,Result.andThen_ok,ha,hz,if_true,hc▸h]
def spliceA (cur:Array Value) (o:Nat) (c:Array Value):Array Value:=(cur.toList.take o++c.toList++cur.toList.drop (o+c.size)).toArray
theorem spliceA_size (cur:Array Value) (o:Nat) (c:Array Value) (h:o+c.size≤cur.size):(spliceA cur o c).size=cur.size:=by
 unfold spliceA
 simp
 omega
theorem keeps_setRow (w:World) (b:Nat) (cs:Array Value):Keeps (fun x=>x=b) w (w.setRow b cs):=
 ⟨rfl,rfl,rfl,by simp[World.setRow],fun k _ hs=>by simp only[World.setRow];rw[Array.getElem?_modify];simp[show ¬ b=k from fun e=>hs e.symm]⟩
theorem run_store_agg (T:TypeId) (k b o:Nat) (c cur:Array Value) (t:TypeId) (hz:∀ w,(Go.sizeOf T).run P w=.ok k w) (hc:c.size=k)
  (hB:w.heap[b]?=some (.cells cur t (0,0))) (hs:o+k≤cur.size) (h1:∀ v∈c.toList,v.oneCell'=true) :
  (Instr.storeAt T (.pointer (some ⟨b,o,none⟩)) (.agg c)).run P w=.ok () (w.setRow b (spliceA cur o c)):=by
 have h:=run_storeCells_at P b o t c.toList 0 cur w hB (by simp;omega) h1
 simp only[Instr.storeAt,Instr.sureAddr,storeVar,Sem.run_bind,Sem.run_pure,Result.andThen_ok,hz,Value.cells,hc]
 simpa[spliceA] using h
theorem fold_get (o:Nat):∀ (l:List Value) (i:Nat) (cells:Array Value) (k:Nat),o+i+l.length≤cells.size→
  ((l.zipIdx i).foldl (fun cs (p:Value×Nat)=>cs.setIfInBounds (o+p.2) p.1) cells)[k]?=if o+i≤k∧k<o+i+l.length then l[k-(o+i)]? else cells[k]?
 | [],i,cells,k,_=>by
  simp only[List.zipIdx_nil,List.foldl_nil,List.length_nil]
  rw[if_neg (by omega)]
 | v :: l,i,cells,k,h=>by
  have h':o+(i+1)+l.length≤(cells.setIfInBounds (o+i) v).size:=by simp at h ⊢;omega
  rw[List.zipIdx_cons,List.foldl_cons,fold_get o l (i+1) _ k h']
  simp only[List.length_cons] at h ⊢
  by_cases h1:k=o+i
  ·subst h1
   rw[if_neg (by omega),if_pos (by omega),Array.getElem?_setIfInBounds_self_of_lt (by omega)]
   simp
  ·by_cases h2:o+i≤k∧k<o+i+(l.length+1)
   ·rw[if_pos (by omega),if_pos h2,show k-(o+i)=(k-(o+(i+1)))+1 by omega,List.getElem?_cons_succ]
   ·rw[if_neg (by omega),if_neg h2,Array.getElem?_setIfInBounds_ne (by omega)]
theorem splice_get (cells:Array Value) (o:Nat) (c:Array Value) (h:o+c.size≤cells.size) (k:Nat):(spliceA cells o c)[k]?=if o≤k∧k<o+c.size then c[k-o]? else cells[k]?:=by
 unfold spliceA
 have hc:c.toList.length=c.size:=by simp
 rw[List.getElem?_toArray]
 by_cases h1:k<o
 ·rw[if_neg (by omega),List.append_assoc,List.getElem?_append_left (by simp;omega),List.getElem?_take,if_pos h1]
  simp
 ·by_cases h2:k<o+c.size
  ·rw[if_pos (by omega),List.append_assoc,List.getElem?_append_right (by simp;omega),List.getElem?_append_left (by simp;omega)]
   simp
   congr 1
   omega
  ·rw[if_neg (by omega),List.getElem?_append_right (by simp;omega),List.getElem?_drop]
   simp
   congr 1
   omega
theorem fold_splice (cells:Array Value) (o:Nat) (c:Array Value) (h:o+c.size≤cells.size):c.zipIdx.foldl (fun cs (p:Value×Nat)=>cs.setIfInBounds (o+p.2) p.1) cells=spliceA cells o c:=by
 apply Array.ext_getElem?
 intro k
 rw[splice_get cells o c h,←Array.foldl_toList,Array.toList_zipIdx]
 have:=fold_get o c.toList 0 cells k (by simpa using h)
 rw[this]
 simp
theorem fill_step (place:Nat→Option (Nat×Nat)) (cells:Array Value) (i o:Nat) (v:Value) (rest:List (Nat×Value)) (hp:place i=some (o,v.cells.size)) (h:o+v.cells.size≤cells.size) :
  Instr.fill place cells ((i,v) :: rest)=Instr.fill place (spliceA cells o v.cells) rest:=by
 rw[Instr.fill,hp]
 simp only[ne_eq,not_true_eq_false,decide_false,Bool.false_or]
 rw[if_neg (by simp;omega)]
 congr 1
 exact fold_splice cells o v.cells h
section
variable {o:Oper} {a:Act} {K:Act→World→Prop} {Q:Exit→Act→World→Prop} {ops:Array Oper} {rest:List Oper} {w':World} {v p:Value}
theorem wp_run_load {T:TypeId} {x:Operand} (ho:o.op=.load T x) (hx:a.eval x=p) (hrun:(Instr.loadAt T p).run P w=.ok v w') (h:K (a.put o.dst v) w'):o.wp P a w K Q:=by
 unfold Oper.wp execOp
 simp only[ho,hx,Sem.run_bind,hrun,Result.andThen_ok,Sem.run_pure]
 exact h
theorem wp_run_build {T:TypeId} {parts:Array (Nat×Operand)} {vs:Array (Nat×Value)} (ho:o.op=.build T parts) (hx:(parts.map fun q=>(q.1,a.eval q.2))=vs) (hrun:(Instr.build T vs).run P w=.ok v w') (h:K (a.put o.dst v) w'):o.wp P a w K Q:=by
 subst hx
 unfold Oper.wp execOp
 simp only[ho,Sem.run_bind]
 simp only[hrun,Result.andThen_ok,Sem.run_pure]
 exact h
theorem wp_run_store {T:TypeId} {x y:Operand} {u:Value} (ho:o.op=.store T x y) (hx:a.eval x=p) (hy:a.eval y=u) (hrun:(Instr.storeAt T p u).run P w=.ok () w') (h:K (a.put o.dst undef) w'):o.wp P a w K Q:=by
 unfold Oper.wp execOp
 simp only[ho,hx,hy,Sem.run_bind,hrun,Result.andThen_ok,Sem.run_pure]
 exact h
theorem wpList_run_load {T:TypeId} {x:Operand} (hrun:(Instr.loadAt T p).run P w=.ok v w') (hgd:o.guard=none) (ho:o.op=.load T x) (hx:a.eval x=p) (h:wpList P ops Q rest (a.put o.dst v) w'):wpList P ops Q (o :: rest) a w:=
 wpList_plain hgd fun _ hK=>wp_run_load ho hx hrun (hK _ _ h)
theorem wpList_run_build {T:TypeId} {parts:Array (Nat×Operand)} {vs:Array (Nat×Value)} (hrun:(Instr.build T vs).run P w=.ok v w') (hgd:o.guard=none) (ho:o.op=.build T parts) (hx:(parts.map fun q=>(q.1,a.eval q.2))=vs) (h:wpList P ops Q rest (a.put o.dst v) w'):wpList P ops Q (o :: rest) a w:=
 wpList_plain hgd fun _ hK=>wp_run_build ho hx hrun (hK _ _ h)
theorem wpList_run_build2 {T:TypeId} {i j:Nat} {x y:Operand} {u u':Value} (hrun:(Instr.build T #[(i,u),(j,u')]).run P w=.ok v w') (hgd:o.guard=none) (ho:o.op=.build T #[(i,x),(j,y)]) (hx:a.eval x=u) (hy:a.eval y=u') (h:wpList P ops Q rest (a.put o.dst v) w'):wpList P ops Q (o :: rest) a w:=
 wpList_run_build hrun hgd ho (by simp[hx,hy]) h
theorem wpList_run_store {T:TypeId} {x y:Operand} {u:Value} (hrun:(Instr.storeAt T p u).run P w=.ok () w') (hgd:o.guard=none) (ho:o.op=.store T x y) (hx:a.eval x=p) (hy:a.eval y=u) (h:wpList P ops Q rest (a.put o.dst undef) w'):wpList P ops Q (o :: rest) a w:=
 wpList_plain hgd fun _ hK=>wp_run_store ho hx hy hrun (hK _ _ h)
end
end
end
end Go.Proofs.YtalagblioepadaaGreatDoor
