/- The proof, part 22. -/
import Derived.Test.YtalagblioepadaaGreatDoorZc21
namespace Go.Proofs.YtalagblioepadaaGreatDoor
set_option linter.all false
open Proofs.Tryz List Go.RowKit
set_option maxRecDepth 100000
section
variable{w w':ai}
def Yp(x y u v f au co e1 eW dc:aa)(w:ai):aA 206 #[aQ #[ag x,ag y,ag u,ag v,I f,I au,I co,I e1,I eW,I dc]] w λe w'=>e=.returned (aQ #[ag x,ag y,I f,(decide (eW=0))])/\Below w w w':=by
 have an:=cm (aX w (ae #[ag x,ag y,ag u,ag v,I f,I au,I co,I e1,I eW,I dc] 93)) (ae #[ag 0,ag 0,I 0,false] 258);have a:=aX (w.alloc (ae #[ag x,ag y,ag u,ag v,I f,I au,I co,I e1,I eW,I dc] 93)) (ae #[ag 0,ag 0,I 0,false] 258);rw[fK]at a;obtain⟨d,c,hk⟩:=dP _ 258 4 (w.heap.size+1) #[ag x,ag y,I f,(decide (eW=0))] #[ag 0,ag 0,I 0,false] sizeOf258 rfl rfl a rfl;have b:=(((Keeps.refl (λj=>j=w+1) w).alloc (ae #[ag x,ag y,ag u,ag v,I f,I au,I co,I e1,I eW,I dc] 93)).alloc (ae #[ag 0,ag 0,I 0,false] 258)).trans hk
 go_in
 go_wp2_with refine c8 d rfl rfl rfl rfl ?_
 refine dq (v:=aQ #[ag x,ag y,I f,(decide (eW=0))]) c ?_;exact⟨rfl,(b.below (B:=w.heap.size) bs a7)⟩
def Yq(x y u v du a:aa)(w:ai):aA 207 #[aQ #[ag x,ag y,ag u,ag v,I du,I a]] w λe w'=>e=.returned (aQ #[ag x,ag y,I du])/\Below w w w':=by
 have an:=cm (aX w (ae #[ag x,ag y,ag u,ag v,I du,I a] 96)) (ae #[ag 0,ag 0,I 0] 261);have b:=aX (w.alloc (ae #[ag x,ag y,ag u,ag v,I du,I a] 96)) (ae #[ag 0,ag 0,I 0] 261);rw[fK]at b;obtain⟨f,d,hk⟩:=dP _ 261 3 (w.heap.size+1) #[ag x,ag y,I du] #[ag 0,ag 0,I 0] sizeOf261 rfl rfl b rfl;have c:=(((Keeps.refl (λj=>j=w+1) w).alloc (ae #[ag x,ag y,ag u,ag v,I du,I a] 96)).alloc (ae #[ag 0,ag 0,I 0] 261)).trans hk
 go_in
 go_wp2_with refine c8 f rfl rfl rfl rfl ?_
 refine dq (v:=aQ #[ag x,ag y,I du]) d ?_;exact⟨rfl,(c.below (B:=w.heap.size) bs a7)⟩
def p7(v:J->aa):a6 ax:=((range 20).map λj=>Value.int (dt (4+j)) (v (4+j))).toArray
def JG(v:J->aa)(w:ai):(Instr.index 94 (.agg (p7 v)) (I 0)).run prog w=.ok (.agg (uf v 4)) w:=aH
def JH(v:J->aa)(w:ai):(Instr.index 94 (.agg (p7 v)) (I 1)).run prog w=.ok (.agg (uf v 14)) w:=aH
def V9(v:J->aa)(k:J)(h:k<2)(w:ai):(Instr.index 94 (.agg (p7 v)) (I (k:J))).run prog w=.ok (.agg (uf v (4+10*k))) w:=by
 match k,h with
 | 0,_=>exact JG v w
 | 1,_=>exact JH v w
def Wf(v:J->aa)(B:J)(w:ai)(t:TypeId)(b:w.heap[B]?=some (ae (bn v) t (0,0))):(Instr.loadAt 94 (.pointer (some (ad B 4 ab)))).run prog w=.ok (.agg (p7 v)) w:=by
 refine gz 94 20 B 4 (p7 v) (bn v) t isAgg94 sizeOf94 (by simp[p7]) b ?_;intro j x a;have h:j<20:=by
  have:=(kf.1 a).1
  simpa[p7]using this
 rw[ft _ U];simpa[p7,h]using a
def jB:a6 ax:=#[ag 0,ag 0,I 0,false,ag 0,ag 0,I 0,false,ag 0,ag 0,I 0,ag 0,ag 0,I 0,ag 0,ag 0,I 0,ag 0,ag 0,I 0,ag 0,ag 0,I 0,ag 0,ag 0,I 0]
def Cn(w:ai):(Instr.alloc 264 true (aV #[])).run prog w=.ok w.heap.size (w.alloc (ae jB 264)):=aH
structure Tvw(w:ai)(v:J->aa)(c:a6 ax)(w':ai):ak where
 box:w'.heap[w.heap.size]?=some (ae (bn v) 99 (0,0))
 res:w'.heap[w.heap.size+1]?=some (ae jB 264 (0,0))
 st:w'.heap[w.heap.size+2]?=some (ae c 264 (0,0))
 cE:c.size=26
 one:∀ u∈c.toList,u.oneCell'=true
 cv:Keeps aI w w'
namespace Tvw
variable{v:J->aa}{c:a6 ax}
theorem keep{a:ai}(h:Tvw w v c w')(hk:Keeps aI w' a):Tvw w v c a:=
 ⟨hk.heap h.box id,hk.heap h.res id,hk.heap h.st id,h.cE,h.one,h.cv.trans hk⟩
def put(h:Tvw w v c w')(o:J)(p:a6 ax)(au:o+p.size<=26)(h1:∀ u∈p.toList,u.oneCell'=true):Tvw w v (e0 c o p) (w'.setRow (w.heap.size+2) (e0 c o p)):=by
 have hk:=iG w' (w.heap.size+2) (e0 c o p);refine⟨hk.heap h.box U,hk.heap h.res U,fl w' _ _ _ _ h.st,by rw[wD _ _ _ (by rw[h.cE];omega),h.cE],λu a=>?_,?_⟩
 .unfold e0 at a;simp only[e5]at a;rcases a with(a|a)|a
  .exact h.one u (zL a)
  .exact h1 u a
  exact h.one u (zK a)
 exact cL h.cv hk a7
end Tvw
end
end Go.Proofs.YtalagblioepadaaGreatDoor
