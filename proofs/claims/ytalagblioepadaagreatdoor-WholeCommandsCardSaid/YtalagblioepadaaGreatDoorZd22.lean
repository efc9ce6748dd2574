/- The proof, part 22. -/
import Derived.Test.YtalagblioepadaaGreatDoorZd21
namespace Go.Proofs.YtalagblioepadaaGreatDoor
set_option linter.all false
open Proofs.Tryz List Go.RowKit
set_option maxRecDepth 100000
section
variable{w w':aj}
def Y9(x y u v f au co e7 eg dk:aa)(w:aj):aA 206 #[aL #[ai x,ai y,ai u,ai v,I f,I au,I co,I e7,I eg,I dk]] w λe w'=>e=.returned (aL #[ai x,ai y,I f,(decide (eg=0))])/\Below w w w':=by
 have ar:=cw (aX w (af #[ai x,ai y,ai u,ai v,I f,I au,I co,I e7,I eg,I dk] 93)) (af #[ai 0,ai 0,I 0,false] 258);have a:=aX (w.alloc (af #[ai x,ai y,ai u,ai v,I f,I au,I co,I e7,I eg,I dk] 93)) (af #[ai 0,ai 0,I 0,false] 258);rw[fH]at a;obtain⟨d,c,hk⟩:=dQ _ 258 4 (w.heap.size+1) #[ai x,ai y,I f,(decide (eg=0))] #[ai 0,ai 0,I 0,false] sizeOf258 rfl rfl a rfl;have b:=(((Keeps.refl (λj=>j=w+1) w).alloc (af #[ai x,ai y,ai u,ai v,I f,I au,I co,I e7,I eg,I dk] 93)).alloc (af #[ai 0,ai 0,I 0,false] 258)).trans hk
 go_in
 go_wp2_with refine c7 d rfl rfl rfl rfl ?_
 refine dx (v:=aL #[ai x,ai y,I f,(decide (eg=0))]) c ?_;exact⟨rfl,(b.below (B:=w.heap.size) bx a8)⟩
def Y_(x y u v dB a:aa)(w:aj):aA 207 #[aL #[ai x,ai y,ai u,ai v,I dB,I a]] w λe w'=>e=.returned (aL #[ai x,ai y,I dB])/\Below w w w':=by
 have ar:=cw (aX w (af #[ai x,ai y,ai u,ai v,I dB,I a] 96)) (af #[ai 0,ai 0,I 0] 261);have b:=aX (w.alloc (af #[ai x,ai y,ai u,ai v,I dB,I a] 96)) (af #[ai 0,ai 0,I 0] 261);rw[fH]at b;obtain⟨f,d,hk⟩:=dQ _ 261 3 (w.heap.size+1) #[ai x,ai y,I dB] #[ai 0,ai 0,I 0] sizeOf261 rfl rfl b rfl;have c:=(((Keeps.refl (λj=>j=w+1) w).alloc (af #[ai x,ai y,ai u,ai v,I dB,I a] 96)).alloc (af #[ai 0,ai 0,I 0] 261)).trans hk
 go_in
 go_wp2_with refine c7 f rfl rfl rfl rfl ?_
 refine dx (v:=aL #[ai x,ai y,I dB]) d ?_;exact⟨rfl,(c.below (B:=w.heap.size) bx a8)⟩
def qm(v:J->aa):a7 ay:=((range 20).map λj=>Value.int (dA (4+j)) (v (4+j))).toArray
def Ki(v:J->aa)(w:aj):(Instr.index 94 (.agg (qm v)) (I 0)).run prog w=.ok (.agg (uy v 4)) w:=aI
def Kj(v:J->aa)(w:aj):(Instr.index 94 (.agg (qm v)) (I 1)).run prog w=.ok (.agg (uy v 14)) w:=aI
def WS(v:J->aa)(k:J)(h:k<2)(w:aj):(Instr.index 94 (.agg (qm v)) (I (k:J))).run prog w=.ok (.agg (uy v (4+10*k))) w:=by
 match k,h with
 | 0,_=>exact Ki v w
 | 1,_=>exact Kj v w
def WZ(v:J->aa)(B:J)(w:aj)(t:TypeId)(b:w.heap[B]?=some (af (br v) t (0,0))):(Instr.loadAt 94 (.pointer (some (ae B 4 ad)))).run prog w=.ok (.agg (qm v)) w:=by
 refine gd 94 20 B 4 (qm v) (br v) t isAgg94 sizeOf94 (by simp[qm]) b ?_;intro j x a;have h:j<20:=by
  have:=(jv.1 a).1
  simpa[qm]using this
 rw[fD _ U];simpa[qm,h]using a
def jS:a7 ay:=#[ai 0,ai 0,I 0,false,ai 0,ai 0,I 0,false,ai 0,ai 0,I 0,ai 0,ai 0,I 0,ai 0,ai 0,I 0,ai 0,ai 0,I 0,ai 0,ai 0,I 0,ai 0,ai 0,I 0]
def CT(w:aj):(Instr.alloc 264 true (aY #[])).run prog w=.ok w.heap.size (w.alloc (af jS 264)):=aI
structure Tvw(w:aj)(v:J->aa)(c:a7 ay)(w':aj):al where
 box:w'.heap[w.heap.size]?=some (af (br v) 99 (0,0))
 res:w'.heap[w.heap.size+1]?=some (af jS 264 (0,0))
 st:w'.heap[w.heap.size+2]?=some (af c 264 (0,0))
 cM:c.size=26
 one:∀ u∈c.toList,u.oneCell'=true
 cu:Keeps aG w w'
namespace Tvw
variable{v:J->aa}{c:a7 ay}
theorem keep{a:aj}(h:Tvw w v c w')(hk:Keeps aG w' a):Tvw w v c a:=
 ⟨hk.heap h.box id,hk.heap h.res id,hk.heap h.st id,h.cM,h.one,h.cu.trans hk⟩
def put(h:Tvw w v c w')(o:J)(p:a7 ay)(au:o+p.size<=26)(h1:∀ u∈p.toList,u.oneCell'=true):Tvw w v (e5 c o p) (w'.setRow (w.heap.size+2) (e5 c o p)):=by
 have hk:=iW w' (w.heap.size+2) (e5 c o p);refine⟨hk.heap h.box U,hk.heap h.res U,fb w' _ _ _ _ h.st,by rw[wT _ _ _ (by rw[h.cM];omega),h.cM],λu a=>?_,?_⟩
 .unfold e5 at a;simp only[eJ]at a;rcases a with(a|a)|a
  .exact h.one u (Ad a)
  .exact h1 u a
  exact h.one u (Ac a)
 exact cN h.cu hk a8
end Tvw
end
end Go.Proofs.YtalagblioepadaaGreatDoor
