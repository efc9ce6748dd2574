/- The proof, part 22. -/
import Derived.Test.YtalagblioepadaaGreatDoorZb21
namespace Go.Proofs.YtalagblioepadaaGreatDoor
set_option linter.all false
open Proofs.Tryz List Go.RowKit
set_option maxRecDepth 100000
section
variable{w w':ai}
def XN(x y u v f ar co eV eQ dd:aa)(w:ai):az 206 #[aM #[ag x,ag y,ag u,ag v,I f,I ar,I co,I eV,I eQ,I dd]] w λe w'=>e=.returned (aM #[ag x,ag y,I f,(decide (eQ=0))])/\Below w w w':=by
 have al:=cm (aW w (ae #[ag x,ag y,ag u,ag v,I f,I ar,I co,I eV,I eQ,I dd] 93)) (ae #[ag 0,ag 0,I 0,false] 258);have a:=aW (w.alloc (ae #[ag x,ag y,ag u,ag v,I f,I ar,I co,I eV,I eQ,I dd] 93)) (ae #[ag 0,ag 0,I 0,false] 258);rw[fF]at a;obtain⟨d,c,hk⟩:=dO _ 258 4 (w.heap.size+1) #[ag x,ag y,I f,(decide (eQ=0))] #[ag 0,ag 0,I 0,false] sizeOf258 rfl rfl a rfl;have b:=(((Keeps.refl (λj=>j=w+1) w).alloc (ae #[ag x,ag y,ag u,ag v,I f,I ar,I co,I eV,I eQ,I dd] 93)).alloc (ae #[ag 0,ag 0,I 0,false] 258)).trans hk
 go_in
 go_wp2_with refine c8 d rfl rfl rfl rfl ?_
 refine dn (v:=aM #[ag x,ag y,I f,(decide (eQ=0))]) c ?_;exact⟨rfl,(b.below (B:=w.heap.size) bA a7)⟩
def XO(x y u v du a:aa)(w:ai):az 207 #[aM #[ag x,ag y,ag u,ag v,I du,I a]] w λe w'=>e=.returned (aM #[ag x,ag y,I du])/\Below w w w':=by
 have al:=cm (aW w (ae #[ag x,ag y,ag u,ag v,I du,I a] 96)) (ae #[ag 0,ag 0,I 0] 261);have b:=aW (w.alloc (ae #[ag x,ag y,ag u,ag v,I du,I a] 96)) (ae #[ag 0,ag 0,I 0] 261);rw[fF]at b;obtain⟨f,d,hk⟩:=dO _ 261 3 (w.heap.size+1) #[ag x,ag y,I du] #[ag 0,ag 0,I 0] sizeOf261 rfl rfl b rfl;have c:=(((Keeps.refl (λj=>j=w+1) w).alloc (ae #[ag x,ag y,ag u,ag v,I du,I a] 96)).alloc (ae #[ag 0,ag 0,I 0] 261)).trans hk
 go_in
 go_wp2_with refine c8 f rfl rfl rfl rfl ?_
 refine dn (v:=aM #[ag x,ag y,I du]) d ?_;exact⟨rfl,(c.below (B:=w.heap.size) bA a7)⟩
def pS(v:J->aa):a6 aw:=((range 20).map λj=>Value.int (dt (4+j)) (v (4+j))).toArray
def Jd(v:J->aa)(w:ai):(Instr.index 94 (.agg (pS v)) (I 0)).run prog w=.ok (.agg (tP v 4)) w:=aH
def Je(v:J->aa)(w:ai):(Instr.index 94 (.agg (pS v)) (I 1)).run prog w=.ok (.agg (tP v 14)) w:=aH
def Vz(v:J->aa)(k:J)(h:k<2)(w:ai):(Instr.index 94 (.agg (pS v)) (I (k:J))).run prog w=.ok (.agg (tP v (4+10*k))) w:=by
 match k,h with
 | 0,_=>exact Jd v w
 | 1,_=>exact Je v w
def VG(v:J->aa)(B:J)(w:ai)(t:TypeId)(b:w.heap[B]?=some (ae (bo v) t (0,0))):(Instr.loadAt 94 (.pointer (some (ad B 4 ab)))).run prog w=.ok (.agg (pS v)) w:=by
 refine gq 94 20 B 4 (pS v) (bo v) t isAgg94 sizeOf94 (by simp[pS]) b ?_;intro j x a;have h:j<20:=by
  have:=(j8.1 a).1
  simpa[pS]using this
 rw[fl _ U];simpa[pS,h]using a
def jr:a6 aw:=#[ag 0,ag 0,I 0,false,ag 0,ag 0,I 0,false,ag 0,ag 0,I 0,ag 0,ag 0,I 0,ag 0,ag 0,I 0,ag 0,ag 0,I 0,ag 0,ag 0,I 0,ag 0,ag 0,I 0]
def B1(w:ai):(Instr.alloc 264 true (aV #[])).run prog w=.ok w.heap.size (w.alloc (ae jr 264)):=aH
structure Tvw(w:ai)(v:J->aa)(c:a6 aw)(w':ai):ak where
 box:w'.heap[w.heap.size]?=some (ae (bo v) 99 (0,0))
 res:w'.heap[w.heap.size+1]?=some (ae jr 264 (0,0))
 st:w'.heap[w.heap.size+2]?=some (ae c 264 (0,0))
 cD:c.size=26
 one:∀ u∈c.toList,u.oneCell'=true
 cv:Keeps aG w w'
namespace Tvw
variable{v:J->aa}{c:a6 aw}
theorem keep{a:ai}(h:Tvw w v c w')(hk:Keeps aG w' a):Tvw w v c a:=
 ⟨hk.heap h.box id,hk.heap h.res id,hk.heap h.st id,h.cD,h.one,h.cv.trans hk⟩
def put(h:Tvw w v c w')(o:J)(p:a6 aw)(ar:o+p.size<=26)(h1:∀ u∈p.toList,u.oneCell'=true):Tvw w v (eU c o p) (w'.setRow (w.heap.size+2) (eU c o p)):=by
 have hk:=iB w' (w.heap.size+2) (eU c o p);refine⟨hk.heap h.box U,hk.heap h.res U,fe w' _ _ _ _ h.st,by rw[we _ _ _ (by rw[h.cD];omega),h.cD],λu a=>?_,?_⟩
 .unfold eU at a;simp only[ft]at a;rcases a with(a|a)|a
  .exact h.one u (zr a)
  .exact h1 u a
  exact h.one u (zq a)
 exact cK h.cv hk a7
end Tvw
end
end Go.Proofs.YtalagblioepadaaGreatDoor
