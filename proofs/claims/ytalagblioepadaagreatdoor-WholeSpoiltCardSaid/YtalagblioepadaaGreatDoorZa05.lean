/- The proof, part 5. -/
import Derived.Test.YtalagblioepadaaGreatDoorZa02
import Derived.Test.YtalagblioepadaaGreatDoorZa04
import Derived.RangeFuncRecord
namespace Go.Proofs.YtalagblioepadaaGreatDoor
section
open Go.RowKit
structure Keeps (S:Nat→Prop) (w w':World):Prop where
 os:w'.os=w.os
 tape:w'.tape=w.tape
 output:w'.output=w.output
 size:w.heap.size≤w'.heap.size
 block:∀ k,k<w.heap.size→¬ S k→w'.heap[k]?=w.heap[k]?
namespace Keeps
variable {S T:Nat→Prop} {w w' a b c:World}
theorem refl (S:Nat→Prop) (w:World):Keeps S w w:=⟨rfl,rfl,rfl,Nat.le_refl _,fun _ _ _=>rfl⟩
theorem trans (h:Keeps S a b) (k:Keeps S b c):Keeps S a c:=
 ⟨k.os.trans h.os,k.tape.trans h.tape,k.output.trans h.output,Nat.le_trans h.size k.size,fun i hi hs=>(k.block i (Nat.lt_of_lt_of_le hi h.size) hs).trans (h.block i hi hs)⟩
theorem mono (h:Keeps S a b) (hs:∀ k,k<a.heap.size→S k→T k):Keeps T a b:=
 ⟨h.os,h.tape,h.output,h.size,fun k hk ht=>h.block k hk (fun s=>ht (hs k hk s))⟩
theorem alloc (h:Keeps S a b) (o:Obj):Keeps S a (b.alloc o):=
 h.trans ⟨rfl,rfl,rfl,by simp,fun k hk _=>Below.heap_alloc _ _ _ hk⟩
theorem setCell (h:Keeps S a b) {p:Addr} (hp:S p.block) (u:Value):Keeps S a (b.setCell p u):=
 h.trans ⟨rfl,rfl,rfl,by simp[World.setCell],fun k _ hs=>Below.heap_setCell _ _ _ _ (fun e=>hs (e▸hp))⟩
theorem setNew (h:Keeps S a b) {p:Addr} (hp:a.heap.size≤p.block) (u:Value):Keeps S a (b.setCell p u):=
 ⟨h.os,h.tape,h.output,by simp only[World.setCell,Array.size_modify];exact h.size,fun k hk hs=>(Below.heap_setCell _ _ _ _ (by omega)).trans (h.block k hk hs)⟩
theorem drew (h:Keeps S a b):Keeps S a b.drew:=⟨h.os,h.tape,h.output,h.size,h.block⟩
theorem drewN (h:Keeps S a b) (n:Nat):Keeps S a (b.drewN n):=h.trans ⟨rfl,rfl,rfl,Nat.le_refl _,fun _ _ _=>rfl⟩
theorem putObj (h:Keeps S a b) {l:Nat} (hl:S l) (o:Obj):Keeps S a (b.putObj l o):=
 h.trans ⟨rfl,rfl,rfl,by simp,fun _ _ hs=>World.putObj_heap_other (fun e=>hs (e▸hl))⟩
theorem of_below {B:Nat} (h:Below B a b) (hB:∀ k,k<a.heap.size→B≤k→S k):Keeps S a b:=
 ⟨h.os,h.tape,h.output,h.size,fun k hk hs=>h.block k (Nat.lt_of_not_le fun c=>hs (hB k hk c))⟩
theorem below {B:Nat} (h:Keeps S a b) (hB:B≤a.heap.size) (hs:∀ k,k<B→¬ S k):Below B a b:=
 ⟨h.os,h.tape,h.output,h.size,fun k hk=>h.block k (Nat.lt_of_lt_of_le hk hB) (hs k hk)⟩
theorem then_below (h:Keeps S a b) (k:Below b.heap.size b c):Keeps S a c:=
 h.trans (of_below k fun _ hk hB=>absurd hk (Nat.not_lt.2 hB))
theorem grown (h:Keeps S a b) {row:Option Nat} (hg:b.grownBy c row) (hr:∀ k,row=some k→S k∨a.heap.size≤k):Keeps S a c:=
 ⟨hg.os.trans h.os,hg.tape.trans h.tape,hg.output.trans h.output,Nat.le_trans h.size hg.size,fun k hk hs=>by
  refine (hg.block k (Nat.lt_of_lt_of_le hk h.size) (fun e=>?_)).trans (h.block k hk hs)
  rcases hr k e.symm with c|c
  ·exact hs c
  ·omega⟩
theorem heap (h:Keeps S a b) {k:Nat} {o:Obj} (ho:a.heap[k]?=some o) (hs:¬ S k):b.heap[k]?=some o:=
 (h.block k (Array.getElem?_eq_some_iff.1 ho).1 hs).trans ho
theorem cell (h:Keeps S a b) {p:Addr} {v:Value} (hc:a.cell? p=some v) (hs:¬ S p.block):b.cell? p=some v:=
 (World.cell?_of_block (h.block p.block (World.block_lt_of_cell? a p hc) hs)).trans hc
theorem frozen (h:Keeps S a b) {p:Addr} (hp:p.block<a.heap.size) (hs:¬ S p.block):b.frozen? p=a.frozen? p:=
 World.frozen?_of_block (h.block p.block hp hs)
end Keeps
theorem cell_past {w:World} {p:Addr} {v:Value} (h:w.cell? p=some v) (o:Obj):(w.alloc o).cell? p=some v:=((Keeps.refl (fun _=>False) w).alloc o).cell h id
theorem frozen_past {w:World} {p:Addr} {v:Value} (h:w.cell? p=some v) {b:Bool} (hf:w.frozen? p=b) (o:Obj):(w.alloc o).frozen? p=b:=
 (((Keeps.refl (fun _=>False) w).alloc o).frozen (World.block_lt_of_cell? w p h) id).trans hf
theorem cell_one_new' (w:World) (v:Value) (t:TypeId):(w.alloc (.cells #[v] t)).cell? ⟨w.heap.size,0,none⟩=some v:=by go_simp
theorem frozen_one_new (w:World) (v:Value) (t:TypeId):(w.alloc (.cells #[v] t)).frozen? ⟨w.heap.size,0,none⟩=false:=by go_simp
end
section
open Go.RowKit
variable {w:World} {b k:Nat} {vs:Array Value} {t:TypeId} {v:Value}
theorem blk_cell (h:w.heap[b]?=some (.cells vs t (0,0))) (hv:vs[k]?=some v):w.cell? ⟨b,k,none⟩=some v:=by
 unfold World.cell?
 rw[h]
 exact hv
theorem blk_free (h:w.heap[b]?=some (.cells vs t (0,0))) (k:Nat):w.frozen? ⟨b,k,none⟩=false:=by
 unfold World.frozen?
 rw[h]
 simp
theorem bc2 (i j:Nat) {x y:Value} (h:w.heap[b]?=some (.cells vs t (0,0))) (e:vs[i]?=some x∧vs[j]?=some y):w.cell? ⟨b,i,none⟩=some x∧w.cell? ⟨b,j,none⟩=some y:=⟨blk_cell h e.1,blk_cell h e.2⟩
theorem bf2 (h:w.heap[b]?=some (.cells vs t (0,0))) (i j:Nat):w.frozen? ⟨b,i,none⟩=false∧w.frozen? ⟨b,j,none⟩=false:=⟨blk_free h i,blk_free h j⟩
theorem bc3 (i0 i1 i2:Nat) {x0 x1 x2:Value} (h:w.heap[b]?=some (.cells vs t (0,0))) (e:vs[i0]?=some x0∧vs[i1]?=some x1∧vs[i2]?=some x2):w.cell? ⟨b,i0,none⟩=some x0∧w.cell? ⟨b,i1,none⟩=some x1∧w.cell? ⟨b,i2,none⟩=some x2:=⟨blk_cell h e.1,bc2 i1 i2 h e.2⟩
theorem bf3 (h:w.heap[b]?=some (.cells vs t (0,0))) (i0 i1 i2:Nat):w.frozen? ⟨b,i0,none⟩=false∧w.frozen? ⟨b,i1,none⟩=false∧w.frozen? ⟨b,i2,none⟩=false:=⟨blk_free h i0,bf2 h i1 i2⟩
theorem bc4 (i0 i1 i2 i3:Nat) {x0 x1 x2 x3:Value} (h:w.heap[b]?=some (.cells vs t (0,0))) (e:vs[i0]?=some x0∧vs[i1]?=some x1∧vs[i2]?=some x2∧vs[i3]?=some x3):w.cell? ⟨b,i0,none⟩=some x0∧w.cell? ⟨b,i1,none⟩=some x1∧w.cell? ⟨b,i2,none⟩=some x2∧w.cell? ⟨b,i3,none⟩=some x3:=⟨blk_cell h e.1,bc3 i1 i2 i3 h e.2⟩
theorem bf4 (h:w.heap[b]?=some (.cells vs t (0,0))) (i0 i1 i2 i3:Nat):w.frozen? ⟨b,i0,none⟩=false∧w.frozen? ⟨b,i1,none⟩=false∧w.frozen? ⟨b,i2,none⟩=false∧w.frozen? ⟨b,i3,none⟩=false:=⟨blk_free h i0,bf3 h i1 i2 i3⟩
theorem bc5 (i0 i1 i2 i3 i4:Nat) {x0 x1 x2 x3 x4:Value} (h:w.heap[b]?=some (.cells vs t (0,0))) (e:vs[i0]?=some x0∧vs[i1]?=some x1∧vs[i2]?=some x2∧vs[i3]?=some x3∧vs[i4]?=some x4):w.cell? ⟨b,i0,none⟩=some x0∧w.cell? ⟨b,i1,none⟩=some x1∧w.cell? ⟨b,i2,none⟩=some x2∧w.cell? ⟨b,i3,none⟩=some x3∧w.cell? ⟨b,i4,none⟩=some x4:=⟨blk_cell h e.1,bc4 i1 i2 i3 i4 h e.2⟩
theorem bf5 (h:w.heap[b]?=some (.cells vs t (0,0))) (i0 i1 i2 i3 i4:Nat):w.frozen? ⟨b,i0,none⟩=false∧w.frozen? ⟨b,i1,none⟩=false∧w.frozen? ⟨b,i2,none⟩=false∧w.frozen? ⟨b,i3,none⟩=false∧w.frozen? ⟨b,i4,none⟩=false:=⟨blk_free h i0,bf4 h i1 i2 i3 i4⟩
theorem bc6 (i0 i1 i2 i3 i4 i5:Nat) {x0 x1 x2 x3 x4 x5:Value} (h:w.heap[b]?=some (.cells vs t (0,0))) (e:vs[i0]?=some x0∧vs[i1]?=some x1∧vs[i2]?=some x2∧vs[i3]?=some x3∧vs[i4]?=some x4∧vs[i5]?=some x5):w.cell? ⟨b,i0,none⟩=some x0∧w.cell? ⟨b,i1,none⟩=some x1∧w.cell? ⟨b,i2,none⟩=some x2∧w.cell? ⟨b,i3,none⟩=some x3∧w.cell? ⟨b,i4,none⟩=some x4∧w.cell? ⟨b,i5,none⟩=some x5:=⟨blk_cell h e.1,bc5 i1 i2 i3 i4 i5 h e.2⟩
theorem bf6 (h:w.heap[b]?=some (.cells vs t (0,0))) (i0 i1 i2 i3 i4 i5:Nat):w.frozen? ⟨b,i0,none⟩=false∧w.frozen? ⟨b,i1,none⟩=false∧w.frozen? ⟨b,i2,none⟩=false∧w.frozen? ⟨b,i3,none⟩=false∧w.frozen? ⟨b,i4,none⟩=false∧w.frozen? ⟨b,i5,none⟩=false:=⟨blk_free h i0,bf5 h i1 i2 i3 i4 i5⟩
theorem bc7 (i0 i1 i2 i3 i4 i5 i6:Nat) {x0 x1 x2 x3 x4 x5 x6:Value} (h:w.heap[b]?=some (.cells vs t (0,0))) (e:vs[i0]?=some x0∧vs[i1]?=some x1∧vs[i2]?=some x2∧vs[i3]?=some x3∧vs[i4]?=some x4∧vs[i5]?=some x5∧vs[i6]?=some x6):w.cell? ⟨b,i0,none⟩=some x0∧w.cell? ⟨b,i1,none⟩=some x1∧w.cell? ⟨b,i2,none⟩=some x2∧w.cell? ⟨b,i3,none⟩=some x3∧w.cell? ⟨b,i4,none⟩=some x4∧w.cell? ⟨b,i5,none⟩=some x5∧w.cell? ⟨b,i6,none⟩=some x6:=⟨blk_cell h e.1,bc6 i1 i2 i3 i4 i5 i6 h e.2⟩
theorem bf7 (h:w.heap[b]?=some (.cells vs t (0,0))) (i0 i1 i2 i3 i4 i5 i6:Nat):w.frozen? ⟨b,i0,none⟩=false∧w.frozen? ⟨b,i1,none⟩=false∧w.frozen? ⟨b,i2,none⟩=false∧w.frozen? ⟨b,i3,none⟩=false∧w.frozen? ⟨b,i4,none⟩=false∧w.frozen? ⟨b,i5,none⟩=false∧w.frozen? ⟨b,i6,none⟩=false:=⟨blk_free h i0,bf6 h i1 i2 i3 i4 i5 i6⟩
theorem bc8 (i0 i1 i2 i3 i4 i5 i6 i7:Nat) {x0 x1 x2 x3 x4 x5 x6 x7:Value} (h:w.heap[b]?=some (.cells vs t (0,0))) (e:vs[i0]?=some x0∧vs[i1]?=some x1∧vs[i2]?=some x2∧vs[i3]?=some x3∧vs[i4]?=some x4∧vs[i5]?=some x5∧vs[i6]?=some x6∧vs[i7]?=some x7):w.cell? ⟨b,i0,none⟩=some x0∧w.cell? ⟨b,i1,none⟩=some x1∧w.cell? ⟨b,i2,none⟩=some x2∧w.cell? ⟨b,i3,none⟩=some x3∧w.cell? ⟨b,i4,none⟩=some x4∧w.cell? ⟨b,i5,none⟩=some x5∧w.cell? ⟨b,i6,none⟩=some x6∧w.cell? ⟨b,i7,none⟩=some x7:=⟨blk_cell h e.1,bc7 i1 i2 i3 i4 i5 i6 i7 h e.2⟩
theorem bf8 (h:w.heap[b]?=some (.cells vs t (0,0))) (i0 i1 i2 i3 i4 i5 i6 i7:Nat):w.frozen? ⟨b,i0,none⟩=false∧w.frozen? ⟨b,i1,none⟩=false∧w.frozen? ⟨b,i2,none⟩=false∧w.frozen? ⟨b,i3,none⟩=false∧w.frozen? ⟨b,i4,none⟩=false∧w.frozen? ⟨b,i5,none⟩=false∧w.frozen? ⟨b,i6,none⟩=false∧w.frozen? ⟨b,i7,none⟩=false:=⟨blk_free h i0,bf7 h i1 i2 i3 i4 i5 i6 i7⟩
theorem blk_lt {o:Obj} (h:w.heap[b]?=some o):b<w.heap.size:=(Array.getElem?_eq_some_iff.1 h).1
theorem blk_set (h:w.heap[b]?=some (.cells vs t (0,0))) (k:Nat) (u:Value):(w.setCell ⟨b,k,none⟩ u).heap[b]?=some (.cells (vs.setIfInBounds k u) t (0,0)):=by
 have hlt:=blk_lt h
 have h':w.heap[b]=.cells vs t (0,0):=by simpa[Array.getElem?_eq_getElem hlt] using h
 show (w.heap.modify b _)[b]?=_
 rw[Array.getElem?_eq_getElem (by simpa using hlt),Array.getElem_modify_self,h']
 rfl
theorem blk_other {o:Obj} {p:Addr} (h:w.heap[b]?=some o) (hne:b≠p.block) (u:Value):(w.setCell p u).heap[b]?=some o:=(Below.heap_setCell _ _ _ _ hne).trans h
theorem blk_alloc {o:Obj} (h:w.heap[b]?=some o) (x:Obj):(w.alloc x).heap[b]?=some o:=(Below.heap_alloc _ _ _ (blk_lt h)).trans h
theorem blk_new (w:World) (o:Obj):(w.alloc o).heap[w.heap.size]?=some o:=World.alloc_heap_new w o
theorem keeps_any {S:Nat→Prop} {w w':World} (h:Keeps (fun _=>False) w w'):Keeps S w w':=h.mono fun _ _ x=>x.elim
theorem keeps_drew {S:Nat→Prop} {w w':World} (h:Keeps S w w'):Keeps S w.drew w':=⟨h.os,h.tape,h.output,h.size,h.block⟩
end
section
open Go.RowKit
structure Res where
 S:Nat→Prop
 P:World→Prop
 lt:∀ {w b},P w→S b→b<w.heap.size
 frame:∀ {w w':World} {T:Nat→Prop},P w→Keeps T w w'→(∀ b,S b→¬ T b)→P w'
def Res.blk (b:Nat) (o:Array Value×TypeId):Res where
 S j:=j=b
 P w:=w.heap[b]?=some (.cells o.1 o.2 (0,0))
 lt h e:=by subst e;exact (Array.getElem?_eq_some_iff.1 h).1
 frame h hk hs:=hk.heap h (hs b rfl)
def Res.none:Res:=⟨fun _=>False,fun _=>True,fun _ h=>h.elim,fun _ _ _=>trivial⟩
def Apart (r s:Res):Prop:=∀ b,r.S b→¬ s.S b
theorem Apart.symm {r s:Res} (h:Apart r s):Apart s r:=fun b h1 h2=>h b h2 h1
structure Sep (w:World) (L:List Res):Prop where
 all:∀ r∈L,r.P w
 apart:L.Pairwise Apart
namespace Sep
variable {w w':World} {L:List Res}
theorem at' (h:Sep w L) (i:Nat) {r:Res} (hi:L[i]?=some r):r.P w:=h.all r (List.mem_of_getElem? hi)
theorem lt (h:Sep w L) {r:Res} (hr:r∈L) {b:Nat} (hb:r.S b):b<w.heap.size:=r.lt (h.all r hr) hb
theorem apart' (h:Sep w L) {i j:Nat} {r s:Res} (hi:L[i]?=some r) (hj:L[j]?=some s) (hij:i≠j):Apart r s:=by
 obtain ⟨h1,rfl⟩:=List.getElem?_eq_some_iff.1 hi
 obtain ⟨h2,rfl⟩:=List.getElem?_eq_some_iff.1 hj
 have hp:=List.pairwise_iff_getElem.1 h.apart
 rcases Nat.lt_or_gt_of_ne hij with hl|hl
 ·exact hp i j h1 h2 hl
 ·exact (hp j i h2 h1 hl).symm
theorem keeps {T:Nat→Prop} (h:Sep w L) (hk:Keeps T w w') (hT:∀ r∈L,∀ b,r.S b→¬ T b):Sep w' L:=
 ⟨fun r hr=>r.frame (h.all r hr) hk (hT r hr),h.apart⟩
theorem keep (h:Sep w L) (hk:Keeps (fun _=>False) w w'):Sep w' L:=h.keeps hk (fun _ _ _ _=>id)
theorem drew (h:Sep w L) (n:Nat):Sep (w.drewN n) L:=h.keep ((Keeps.refl _ w).drewN n)
theorem set {T:Nat→Prop} (h:Sep w L) (i:Nat) {r r':Res} (hi:L[i]?=some r) (hk:Keeps T w w') (hT:∀ b,b<w.heap.size→T b→r.S b) (hP:r'.P w') (hS:∀ b,r'.S b→r.S b∨w.heap.size≤b):Sep w' (L.set i r'):=by
 obtain ⟨hil,hir⟩:=List.getElem?_eq_some_iff.1 hi
 have key:∀ j s,j≠i→L[j]?=some s→s.P w'∧Apart r' s:=by
  intro j s hj hs
  have hm:s∈L:=List.mem_of_getElem? hs
  have ha:=h.apart' hi hs (Ne.symm hj)
  refine ⟨s.frame (h.all s hm) hk fun b hb ht=>ha b (hT b (h.lt hm hb) ht) hb,fun b hb hb2=>?_⟩
  rcases hS b hb with h1|h1
  ·exact ha b h1 hb2
  ·have:=h.lt hm hb2;omega
 refine ⟨fun s hs=>?_,?_⟩
 ·obtain ⟨j,hj⟩:=List.getElem?_of_mem hs
  by_cases e:j=i
  ·subst e
   rw[List.getElem?_set_self hil] at hj
   cases hj
   exact hP
  ·rw[List.getElem?_set_ne (Ne.symm e)] at hj
   exact (key j s e hj).1
 ·rw[List.pairwise_iff_getElem]
  intro a b ha hb hab
  rw[List.length_set] at ha hb
  by_cases ea:a=i
  ·subst ea
   rw[List.getElem_set_self,List.getElem_set_ne (by omega)]
   exact (key b _ (by omega) (List.getElem?_eq_getElem (by simpa using hb))).2
  ·rw[List.getElem_set_ne (Ne.symm ea)]
   by_cases eb:b=i
   ·subst eb
    rw[List.getElem_set_self]
    exact (key a _ ea (List.getElem?_eq_getElem (by simpa using ha))).2.symm
   ·rw[List.getElem_set_ne (Ne.symm eb)]
    exact List.pairwise_iff_getElem.1 h.apart a b ha hb hab
theorem cons {T:Nat→Prop} (h:Sep w L) {r:Res} (hk:Keeps T w w') (hT:∀ s∈L,∀ b,s.S b→¬ T b) (hP:r.P w') (hS:∀ b,r.S b→w.heap.size≤b):Sep w' (r :: L):=
 ⟨fun s hs=>by
  rcases List.mem_cons.1 hs with rfl|hs
  ·exact hP
  ·exact s.frame (h.all s hs) hk (hT s hs),List.pairwise_cons.2 ⟨fun s hs b h1 h2=>by have:=hS b h1;have:=h.lt hs h2;omega,h.apart⟩⟩
theorem nil (w:World):Sep w []:=⟨fun _ h=>by simp at h,.nil⟩
def res (L:List Res):Res where
 S b:=∃ r∈L,r.S b
 P w:=Sep w L
 lt h:=fun ⟨_,hr,hb⟩=>h.lt hr hb
 frame h hk hs:=h.keeps hk fun r hr b hb=>hs b ⟨r,hr,hb⟩
end Sep
end
end Go.Proofs.YtalagblioepadaaGreatDoor
