/- The proof, part 31. -/
import Derived.Test.YtalagblioepadaaGreatDoorZa13
import Derived.Test.YtalagblioepadaaGreatDoorZa05
import Derived.Test.YtalagblioepadaaGreatDoorZa11
import Derived.Test.YtalagblioepadaaGreatDoorZa28
import Derived.Test.YtalagblioepadaaGreatDoorZa20
namespace Go.Proofs.YtalagblioepadaaGreatDoor
section
open Go.RowKit
set_option maxRecDepth 10000
variable {w:World}
def IsWr (w:World) (r:Nat) (S:List UInt8):Prop:=w.heap[r]?=some (.cells #[.string ⟨S.toArray⟩] 484 (0,0))
theorem set_same {cs:Array Value} {o:Nat} {v:Value} (h:cs[o]?=some v):cs.setIfInBounds o v=cs:=by
 apply Array.ext_getElem?
 intro k
 by_cases hk:k=o
 ·subst hk
  have:=(Array.getElem?_eq_some_iff.1 h).1
  rw[Array.getElem?_setIfInBounds_self_of_lt this,h]
 ·rw[Array.getElem?_setIfInBounds_ne (fun e=>hk e.symm)]
theorem wr_number (r B o:Nat) (S:List UInt8) (cs:Array Value) (t:TypeId) (n:Nat) (h:IsWr w r S) (hB:w.heap[B]?=some (.cells cs t (0,0))) (hne:B≠r) (hc:cs[o]?=some (.int .i64 (n:Int))) (hn:n≤9223372036854775807) (hs:S.length+10≤9223372036854775807) :
  Calls Tryz.prog 424 #[.pointer (some ⟨r,0,none⟩),.pointer (some ⟨B,o,none⟩)] w fun e w'=>e=.returned (.tuple #[])∧IsWr w' r (S++num n)∧w'.heap[B]?=some (.cells cs t (0,0))∧Keeps (fun b=>b=r) w w':=by
 have h0:=keptS_cell (S:=fun _=>False) (w:=w.drew) (p:=⟨r,0,none⟩) (blk_cell h rfl) id
 have h1:=keptS_cell (S:=fun _=>False) (w:=w.drew) (p:=⟨B,o,none⟩) (blk_cell hB hc) id
 have e:IntKind.u64.wrap (n:Int)=(n:Int):=by rw[wrap_u64];omega
 have hl:=num_len10 n (by unfold two64;omega)
 have hsum:=fun w=>add_strings w S (num n) (by omega)
 have hN:=fun w=>pack_Number n (by unfold two64;omega) w
 generalize num n=L at *
 have Hl:=hid hl
 clear hl hn
 go_enter Tryz.func424,Tryz.ntmps424
 go_wp2_with fail
 refine stages_start (by kernel_rfl) 13 rfl ?_
 refine stagek (fun _=>False) [0,1,2,3,4,5,6,7] [8,9] 3 rfl #[true,true,true,true,true,true,true,true,true,true,false,false,false] (by kernel_rfl) (by kernel_rfl) (fun _ _ _ d _ h=>by first|(cases d<;>exact h)|cases h.1) ?_
 simp only[opsAt,List.map_cons,List.map_nil,List.getElem?_toArray,List.getElem?_cons_zero,List.getElem?_cons_succ,Option.getD_some]
 repeat (go_big_quiet_step (fail))
 refine wpQuiet_nil ?_
 refine links_cons (by first|rfl|simp[go_sem]) (fun K hK=>?_)
 go_simp
 refine (hN _).mono ?_
 rintro e1 w1 ⟨rfl,hb⟩
 have hk:Keeps (fun _=>False) w.drew w1:=Keeps.of_below hb (fun k h1 h2=>by omega)
 refine hK _ _ (keptS (hk)) ?_
 clear hK K
 try refine links_nil ?_
 refine links_cons (by first|rfl|simp[go_sem]) (fun K hK=>?_)
 go_simp
 refine hK _ _ (keptS (hk)) ?_
 clear hK K
 try refine links_nil ?_
 have hr1:w1.heap[r]?=some (.cells #[.string ⟨S.toArray⟩] 484 (0,0)):=hk.heap h id
 have hB1:=hk.heap hB id
 have hk':Keeps (fun b=>b=r) w w1:=⟨hk.os,hk.tape,hk.output,hk.size,fun k h _=>hk.block k h id⟩
 have y0:=blk_cell hr1 (k:=0) rfl
 have y1:=blk_free hr1 0
 refine stagek (fun _=>False) [10,11] [] 1 rfl #[true,true,true,true,true,true,true,true,true,true,true,true,false] (by kernel_rfl) (by kernel_rfl) (fun _ _ _ d _ h=>by first|(cases d<;>exact h)|cases h.1) ?_
 simp only[opsAt,List.map_cons,List.map_nil,List.getElem?_toArray,List.getElem?_cons_zero,List.getElem?_cons_succ,Option.getD_some]
 repeat (go_big_quiet_step (fail))
 refine wpQuiet_nil ?_
 refine links_nil ?_
 refine stagek (fun _=>True) [] [12] 0 rfl #[true,true,true,true,true,true,true,true,true,true,true,true,true] (by kernel_rfl) (by kernel_rfl) (fun _ _ _ d _ h=>by first|(cases d<;>exact h)|cases h.1) ?_
 simp only[opsAt,List.map_cons,List.map_nil,List.getElem?_toArray,List.getElem?_cons_zero,List.getElem?_cons_succ,Option.getD_some]
 repeat (go_big_quiet_step (fail))
 refine wpQuiet_nil ?_
 refine links_cons (by first|rfl|simp[go_sem]) (fun K hK=>?_)
 go_simp
 refine hK _ _ (keptS ((Keeps.refl _ w1).setCell trivial _)) ?_
 clear hK K
 try refine links_nil ?_
 refine stages_end (by kernel_rfl) ?_
 go_wp2
 refine bodyPost_end (v:=.tuple #[]) (by first|rfl|simp[results,go_sem]) rfl ?_
 exact ⟨rfl,by have:=blk_set hr1 0 (.string ⟨(S++L).toArray⟩);simpa[IsWr] using this,blk_other hB1 hne _,hk'.setCell (p:=⟨r,0,none⟩) rfl _⟩
theorem wr_signed (r B o:Nat) (S:List UInt8) (cs:Array Value) (t:TypeId) (n:Int) (h:IsWr w r S) (hB:w.heap[B]?=some (.cells cs t (0,0))) (hne:B≠r) (hc:cs[o]?=some (.int .i32 n)) (hn:-2147483648≤n∧n≤2147483647) (hs:S.length+10≤9223372036854775807) :
  Calls Tryz.prog 425 #[.pointer (some ⟨r,0,none⟩),.pointer (some ⟨B,o,none⟩)] w fun e w'=>e=.returned (.tuple #[])∧IsWr w' r (S++num (zz n))∧w'.heap[B]?=some (.cells cs t (0,0))∧Keeps (fun b=>b=r) w w':=by
 have h0:=keptS_cell (S:=fun _=>False) (w:=w.drew) (p:=⟨r,0,none⟩) (blk_cell h rfl) id
 have h1:=keptS_cell (S:=fun _=>False) (w:=w.drew) (p:=⟨B,o,none⟩) (blk_cell hB hc) id
 have e:IntKind.i64.wrap n=n:=IntWalk.i64_in _ (by omega)
 have hl:=num_len10 (zz n) (by unfold two64 zz;split<;>omega)
 have hsum:=fun w=>add_strings w S (num (zz n)) (by omega)
 have hN:=fun w=>pack_Signed n (by omega) w
 generalize num (zz n)=L at *
 have Hl:=hid hl
 clear hl hn
 go_enter Tryz.func425,Tryz.ntmps425
 go_wp2_with fail
 refine stages_start (by kernel_rfl) 13 rfl ?_
 refine stagek (fun _=>False) [0,1,2,3,4,5,6,7] [8,9] 3 rfl #[true,true,true,true,true,true,true,true,true,true,false,false,false] (by kernel_rfl) (by kernel_rfl) (fun _ _ _ d _ h=>by first|(cases d<;>exact h)|cases h.1) ?_
 simp only[opsAt,List.map_cons,List.map_nil,List.getElem?_toArray,List.getElem?_cons_zero,List.getElem?_cons_succ,Option.getD_some]
 repeat (go_big_quiet_step (fail))
 refine wpQuiet_nil ?_
 refine links_cons (by first|rfl|simp[go_sem]) (fun K hK=>?_)
 go_simp
 refine (hN _).mono ?_
 rintro e1 w1 ⟨rfl,hb⟩
 have hk:Keeps (fun _=>False) w.drew w1:=Keeps.of_below hb (fun k h1 h2=>by omega)
 refine hK _ _ (keptS (hk)) ?_
 clear hK K
 try refine links_nil ?_
 refine links_cons (by first|rfl|simp[go_sem]) (fun K hK=>?_)
 go_simp
 refine hK _ _ (keptS (hk)) ?_
 clear hK K
 try refine links_nil ?_
 have hr1:w1.heap[r]?=some (.cells #[.string ⟨S.toArray⟩] 484 (0,0)):=hk.heap h id
 have hB1:=hk.heap hB id
 have hk':Keeps (fun b=>b=r) w w1:=⟨hk.os,hk.tape,hk.output,hk.size,fun k h _=>hk.block k h id⟩
 have y0:=blk_cell hr1 (k:=0) rfl
 have y1:=blk_free hr1 0
 refine stagek (fun _=>False) [10,11] [] 1 rfl #[true,true,true,true,true,true,true,true,true,true,true,true,false] (by kernel_rfl) (by kernel_rfl) (fun _ _ _ d _ h=>by first|(cases d<;>exact h)|cases h.1) ?_
 simp only[opsAt,List.map_cons,List.map_nil,List.getElem?_toArray,List.getElem?_cons_zero,List.getElem?_cons_succ,Option.getD_some]
 repeat (go_big_quiet_step (fail))
 refine wpQuiet_nil ?_
 refine links_nil ?_
 refine stagek (fun _=>True) [] [12] 0 rfl #[true,true,true,true,true,true,true,true,true,true,true,true,true] (by kernel_rfl) (by kernel_rfl) (fun _ _ _ d _ h=>by first|(cases d<;>exact h)|cases h.1) ?_
 simp only[opsAt,List.map_cons,List.map_nil,List.getElem?_toArray,List.getElem?_cons_zero,List.getElem?_cons_succ,Option.getD_some]
 repeat (go_big_quiet_step (fail))
 refine wpQuiet_nil ?_
 refine links_cons (by first|rfl|simp[go_sem]) (fun K hK=>?_)
 go_simp
 refine hK _ _ (keptS ((Keeps.refl _ w1).setCell trivial _)) ?_
 clear hK K
 try refine links_nil ?_
 refine stages_end (by kernel_rfl) ?_
 go_wp2
 refine bodyPost_end (v:=.tuple #[]) (by first|rfl|simp[results,go_sem]) rfl ?_
 exact ⟨rfl,by have:=blk_set hr1 0 (.string ⟨(S++L).toArray⟩);simpa[IsWr] using this,blk_other hB1 hne _,hk'.setCell (p:=⟨r,0,none⟩) rfl _⟩
end
section
open Go.RowKit
set_option maxRecDepth 10000
variable {w:World}
def kindAt (j:Nat):IntKind:=if j=1 then .u32 else if j<4 then .i64 else if j<24 then (if (j-4)%10<4 then .i32 else .i64) else if (j-24)%6<4 then .i32 else .i64
def mkC (v:Nat→Int):Array Value:=((List.range 60).map fun j=>Value.int (kindAt j) (v j)).toArray
def updI (v:Nat→Int) (o:Nat) (x:Int):Nat→Int:=fun j=>if j=o then x else v j
theorem mkC_size (v:Nat→Int):(mkC v).size=60:=by simp[mkC]
theorem mkC_get (v:Nat→Int) {o:Nat} (h:o<60):(mkC v)[o]?=some (.int (kindAt o) (v o)):=by simp[mkC,h]
theorem mkC_set (v:Nat→Int) (o:Nat) (x:Int):(mkC v).setIfInBounds o (.int (kindAt o) x)=mkC (updI v o x):=by
 apply Array.ext_getElem?
 intro k
 by_cases hk:k<60
 ·rw[mkC_get _ hk,Array.getElem?_setIfInBounds,mkC_size,mkC_get _ hk]
  by_cases e:o=k
  ·subst e
   rw[if_pos rfl,if_pos hk]
   simp[updI]
  ·rw[if_neg e]
   simp[updI,show ¬ k=o from fun h=>e h.symm]
 ·rw[Array.getElem?_eq_none (by simp[mkC_size];omega),Array.getElem?_eq_none (by simp[mkC_size];omega)]
def fitsI (k:IntKind) (n:Int):Prop:=match k with
 | .i32=>-2147483648≤n∧n≤2147483647
 | .u32=>0≤n∧n≤4294967295
 | _=>-9223372036854775808≤n∧n≤9223372036854775807
structure Codec (σ:Type) where
 T:TypeId
 r:Nat
 fN:FuncId
 fS:FuncId
 St:σ→Nat→World→Prop
 nF:σ→Int→σ×Int
 sF:σ→Int→σ×Int
 okN:Int→Prop
variable {σ:Type}
abbrev Codec.at (c:Codec σ):Value:=.pointer (some ⟨c.r,0,none⟩)
abbrev Codec.val (c:Codec σ):Value:=.iface c.T c.at
structure Codec.Right (c:Codec σ):Prop where
 aN:∀ w,(nilAhead 647 c.T c.at "promptbook/freeze.number").run Tryz.prog w=.ok (some false) w
 aS:∀ w,(nilAhead 647 c.T c.at "promptbook/freeze.signed").run Tryz.prog w=.ok (some false) w
 mN:∀ w,(method 647 c.T c.at "promptbook/freeze.number").run Tryz.prog w=.ok (c.fN,c.at) w
 mS:∀ w,(method 647 c.T c.at "promptbook/freeze.signed").run Tryz.prog w=.ok (c.fS,c.at) w
 eN:∀ x y w,(callFunc c.fN #[x,y]).run Tryz.prog w=.ok (.enter c.fN #[x,y]) w
 eS:∀ x y w,(callFunc c.fS #[x,y]).run Tryz.prog w=.ok (.enter c.fS #[x,y]) w
 keeps:∀ {S:Nat→Prop} {s k w w'},c.St s k w→Keeps S w w'→¬ S c.r→c.St s k w'
 less:∀ {s k j w},c.St s (k+j) w→c.St s k w
 there:∀ {s k w},c.St s k w→c.r<w.heap.size
 num:∀ {s k B o cs t n} (w:World),c.St s (k+1) w→w.heap[B]?=some (.cells cs t (0,0))→B≠c.r→cs[o]?=some (.int .i64 n)→fitsI .i64 n→c.okN n→
  Calls Tryz.prog c.fN #[c.at,.pointer (some ⟨B,o,none⟩)] w fun e w'=>e=.returned (.tuple #[])∧c.St (c.nF s n).1 k w'∧w'.heap[B]?=some (.cells (cs.setIfInBounds o (.int .i64 (c.nF s n).2)) t (0,0))∧Keeps (fun b=>b=c.r∨b=B) w w'
 sgn:∀ {s k B o cs t n} (w:World),c.St s (k+1) w→w.heap[B]?=some (.cells cs t (0,0))→B≠c.r→cs[o]?=some (.int .i32 n)→fitsI .i32 n→
  Calls Tryz.prog c.fS #[c.at,.pointer (some ⟨B,o,none⟩)] w fun e w'=>e=.returned (.tuple #[])∧c.St (c.sF s n).1 k w'∧w'.heap[B]?=some (.cells (cs.setIfInBounds o (.int .i32 (c.sF s n).2)) t (0,0))∧Keeps (fun b=>b=c.r∨b=B) w w'
 fN64:∀ s n,fitsI .i64 n→fitsI .i64 (c.nF s n).2
 ok:∀ s n,fitsI .i64 n→c.okN n→c.okN (c.nF s n).2
 okB:∀ n,0≤n→c.okN n
 okW:∀ s n,fitsI .u32 n→c.okN n→c.okN (IntKind.u32.wrap (c.nF s n).2)
 fS32:∀ s n,fitsI .i32 n→fitsI .i32 (c.sF s n).2
def Codec.step (c:Codec σ) (p:σ×(Nat→Int)) (o:Nat):σ×(Nat→Int):=match kindAt o with
 | .i32=>((c.sF p.1 (p.2 o)).1,updI p.2 o (c.sF p.1 (p.2 o)).2)
 | .u32=>((c.nF p.1 (p.2 o)).1,updI p.2 o (IntKind.u32.wrap (c.nF p.1 (p.2 o)).2))
 | _=>((c.nF p.1 (p.2 o)).1,updI p.2 o (c.nF p.1 (p.2 o)).2)
structure Fr (c:Codec σ) (w:World) (B:Nat) (p:σ×(Nat→Int)) (k:Nat):Prop where
 st:c.St p.1 k w
 blk:w.heap[B]?=some (.cells (mkC p.2) 99 (0,0))
 ne:B≠c.r
 fit:∀ j,j<60→fitsI (kindAt j) (p.2 j)∧(kindAt j≠.i32→c.okN (p.2 j))
def ofFr (c:Codec σ) (B:Nat) (b:Nat):Prop:=b=c.r∨b=B
section
variable {c:Codec σ} {B:Nat} {p:σ×(Nat→Int)} {k:Nat}
theorem Fr.keeps (hc:c.Right) {S:Nat→Prop} {w w':World} (h:Fr c w B p k) (hk:Keeps S w w') (h1:¬ S c.r) (h2:¬ S B):Fr c w' B p k:=⟨hc.keeps h.st hk h1,hk.heap h.blk h2,h.ne,h.fit⟩
theorem fr_num (hc:c.Right) (o:Nat) (ho:o<60) (hk:kindAt o=.i64) (w:World) (h:Fr c w B p (k+1)) :
  Calls Tryz.prog c.fN #[c.at,.pointer (some ⟨B,o,none⟩)] w fun e w'=>e=.returned (.tuple #[])∧Fr c w' B (c.step p o) k∧Keeps (ofFr c B) w w':=by
 have hf:=h.fit o ho
 rw[hk] at hf
 have hg:=mkC_get p.2 ho
 rw[hk] at hg
 refine (hc.num w h.st h.blk h.ne hg hf.1 (hf.2 (by simp))).mono ?_
 rintro e w' ⟨rfl,h1,h2,h3⟩
 refine ⟨rfl,⟨?_,?_,h.ne,?_⟩,h3⟩
 ·simpa only[Codec.step,hk] using h1
 ·have:=mkC_set p.2 o (c.nF p.1 (p.2 o)).2
  rw[hk] at this
  rw[h2,this]
  simp only[Codec.step,hk]
 ·intro j hj
  simp only[Codec.step,hk,updI]
  by_cases e:j=o
  ·subst e
   rw[if_pos rfl,hk]
   exact ⟨hc.fN64 _ _ hf.1,fun _=>hc.ok _ _ hf.1 (hf.2 (by simp))⟩
  ·rw[if_neg e]
   exact h.fit j hj
theorem fr_sgn (hc:c.Right) (o:Nat) (ho:o<60) (hk:kindAt o=.i32) (w:World) (h:Fr c w B p (k+1)) :
  Calls Tryz.prog c.fS #[c.at,.pointer (some ⟨B,o,none⟩)] w fun e w'=>e=.returned (.tuple #[])∧Fr c w' B (c.step p o) k∧Keeps (ofFr c B) w w':=by
 have hf:=h.fit o ho
 rw[hk] at hf
 have hg:=mkC_get p.2 ho
 rw[hk] at hg
 refine (hc.sgn w h.st h.blk h.ne hg hf.1).mono ?_
 rintro e w' ⟨rfl,h1,h2,h3⟩
 refine ⟨rfl,⟨?_,?_,h.ne,?_⟩,h3⟩
 ·simpa only[Codec.step,hk] using h1
 ·have:=mkC_set p.2 o (c.sF p.1 (p.2 o)).2
  rw[hk] at this
  rw[h2,this]
  simp only[Codec.step,hk]
 ·intro j hj
  simp only[Codec.step,hk,updI]
  by_cases e:j=o
  ·subst e
   rw[if_pos rfl,hk]
   exact ⟨hc.fS32 _ _ hf.1,fun h=>absurd rfl h⟩
  ·rw[if_neg e]
   exact h.fit j hj
theorem Fr.drew (hc:c.Right) {w:World} (h:Fr c w B p k):Fr c w.drew B p k:=h.keeps hc (Keeps.refl (fun _=>False) w).drew id id
theorem fr_vec (hc:c.Right) (o:Nat) (ho:o+1<60) (h1:kindAt o=.i32) (h2:kindAt (o+1)=.i32) (w:World) (h:Fr c w B p (k+2)) :
  Calls Tryz.prog 381 #[c.val,.pointer (some ⟨B,o,none⟩)] w fun e w'=>e=.returned (.tuple #[])∧Fr c w' B (c.step (c.step p o) (o+1)) k∧Keeps (ofFr c B) w w':=by
 have hF:=h.drew hc
 have hA:=hc.aS
 have hM:=hc.mS
 have hE:=hc.eS
 have hG:=fun w p k=>fr_sgn (B:=B) (p:=p) (k:=k) hc o (by omega) h1 w
 have hH:=fun w p k=>fr_sgn (B:=B) (p:=p) (k:=k) hc (o+1) ho h2 w
 clear h
 go_enter Tryz.func381,Tryz.ntmps381
 go_wp2_with fail
 refine stages_start (by kernel_rfl) 8 rfl ?_
 refine stagek (fun _=>True) [0,1,2,3] [4,5,6,7] 0 rfl #[true,true,true,true,true,true,true,true] (by kernel_rfl) (by kernel_rfl) (fun _ _ _ d _ h=>by first|(cases d<;>exact h)|cases h.1) ?_
 simp only[opsAt,List.map_cons,List.map_nil,List.getElem?_toArray,List.getElem?_cons_zero,List.getElem?_cons_succ,Option.getD_some]
 repeat (go_big_quiet_step (fail))
 refine wpQuiet_nil ?_
 refine links_cons (by first|rfl|simp[go_sem]) (fun K hK=>?_)
 go_simp
 refine hK _ _ (keptS (Keeps.refl _ _)) ?_
 clear hK K
 try refine links_nil ?_
 refine links_cons (by first|rfl|simp[go_sem]) (fun K hK=>?_)
 go_simp
 refine hK _ _ (keptS (Keeps.refl _ _)) ?_
 clear hK K
 try refine links_nil ?_
 refine links_cons (by first|rfl|simp[go_sem]) (fun K hK=>?_)
 go_simp
 refine hK _ _ (keptS (Keeps.refl _ _)) ?_
 clear hK K
 try refine links_nil ?_
 refine links_cons (by first|rfl|simp[go_sem]) (fun K hK=>?_)
 go_simp
 refine (hG _ _ _ hF).mono ?_
 rintro e w1 ⟨rfl,hF1,hk1⟩
 refine hK _ _ (keptS (hk1.mono fun _ _ _=>trivial)) ?_
 clear hK K
 try refine links_nil ?_
 refine stages_end (by kernel_rfl) ?_
 have hF1d:=hF1.drew hc
 go_wp2_with fail
 refine stages_start (by kernel_rfl) 8 rfl ?_
 refine stagek (fun _=>True) [0,1,2,3] [4,5,6,7] 0 rfl #[true,true,true,true,true,true,true,true] (by kernel_rfl) (by kernel_rfl) (fun _ _ _ d _ h=>by first|(cases d<;>exact h)|cases h.1) ?_
 simp only[opsAt,List.map_cons,List.map_nil,List.getElem?_toArray,List.getElem?_cons_zero,List.getElem?_cons_succ,Option.getD_some]
 repeat (go_big_quiet_step (fail))
 refine wpQuiet_nil ?_
 refine links_cons (by first|rfl|simp[go_sem]) (fun K hK=>?_)
 go_simp
 refine hK _ _ (keptS (Keeps.refl _ _)) ?_
 clear hK K
 try refine links_nil ?_
 refine links_cons (by first|rfl|simp[go_sem]) (fun K hK=>?_)
 go_simp
 refine hK _ _ (keptS (Keeps.refl _ _)) ?_
 clear hK K
 try refine links_nil ?_
 refine links_cons (by first|rfl|simp[go_sem]) (fun K hK=>?_)
 go_simp
 refine hK _ _ (keptS (Keeps.refl _ _)) ?_
 clear hK K
 try refine links_nil ?_
 refine links_cons (by first|rfl|simp[go_sem]) (fun K hK=>?_)
 go_simp
 refine (hH _ _ _ hF1d).mono ?_
 rintro e w2 ⟨rfl,hF2,hk2⟩
 refine hK _ _ (keptS (hk2.mono fun _ _ _=>trivial)) ?_
 clear hK K
 try refine links_nil ?_
 refine stages_end (by kernel_rfl) ?_
 go_wp2
 refine bodyPost_end (v:=.tuple #[]) (by first|rfl|simp[results,go_sem]) rfl ?_
 exact ⟨rfl,hF2,((Keeps.refl _ w).drew.trans hk1).drew.trans hk2⟩
def Codec.steps (c:Codec σ) (p:σ×(Nat→Int)) (l:List Nat):σ×(Nat→Int):=l.foldl c.step p
def shotAt (o:Nat):List Nat:=[o,o+1,o+2,o+3,o+4,o+5]
theorem fr_shot (hc:c.Right) (o:Nat) (ho:o+5<60) (h0:kindAt o=.i32) (h1:kindAt (o+1)=.i32) (h2:kindAt (o+2)=.i32) (h3:kindAt (o+3)=.i32) (h4:kindAt (o+4)=.i64) (h5:kindAt (o+5)=.i64) (w:World) (h:Fr c w B p (k+6)) :
  Calls Tryz.prog 368 #[c.val,.pointer (some ⟨B,o,none⟩)] w fun e w'=>e=.returned (.tuple #[])∧Fr c w' B (c.steps p (shotAt o)) k∧Keeps (ofFr c B) w w':=by
 have hA:=hc.aN
 have hM:=hc.mN
 have hE:=hc.eN
 have hG:=fun w p k=>fr_num (B:=B) (p:=p) (k:=k) hc (o+4) (by omega) h4 w
 have hH:=fun w p k=>fr_num (B:=B) (p:=p) (k:=k) hc (o+5) ho h5 w
 have hV:=fun w p k=>fr_vec (B:=B) (p:=p) (k:=k) hc o (by omega) h0 h1 w
 have hW:=fun w p k=>fr_vec (B:=B) (p:=p) (k:=k) hc (o+2) (by omega) h2 h3 w
 go_enter Tryz.func368,Tryz.ntmps368
 go_wp2_with fail
 refine (hV _ _ _ h).mono ?_
 rintro e w1 ⟨rfl,hF1,hk1⟩
 go_wp2_with fail
 refine (hW _ _ _ hF1).mono ?_
 rintro e w2 ⟨rfl,hF2,hk2⟩
 have hF2d:=hF2.drew hc
 go_wp2_with fail
 refine stages_start (by kernel_rfl) 8 rfl ?_
 refine stagek (fun _=>True) [0,1,2,3] [4,5,6,7] 0 rfl #[true,true,true,true,true,true,true,true] (by kernel_rfl) (by kernel_rfl) (fun _ _ _ d _ h=>by first|(cases d<;>exact h)|cases h.1) ?_
 simp only[opsAt,List.map_cons,List.map_nil,List.getElem?_toArray,List.getElem?_cons_zero,List.getElem?_cons_succ,Option.getD_some]
 repeat (go_big_quiet_step (fail))
 refine wpQuiet_nil ?_
 refine links_cons (by first|rfl|simp[go_sem]) (fun K hK=>?_)
 go_simp
 refine hK _ _ (keptS (Keeps.refl _ _)) ?_
 clear hK K
 try refine links_nil ?_
 refine links_cons (by first|rfl|simp[go_sem]) (fun K hK=>?_)
 go_simp
 refine hK _ _ (keptS (Keeps.refl _ _)) ?_
 clear hK K
 try refine links_nil ?_
 refine links_cons (by first|rfl|simp[go_sem]) (fun K hK=>?_)
 go_simp
 refine hK _ _ (keptS (Keeps.refl _ _)) ?_
 clear hK K
 try refine links_nil ?_
 refine links_cons (by first|rfl|simp[go_sem]) (fun K hK=>?_)
 go_simp
 refine (hG _ _ _ hF2d).mono ?_
 rintro e w3 ⟨rfl,hF3,hk3⟩
 refine hK _ _ (keptS (hk3.mono fun _ _ _=>trivial)) ?_
 clear hK K
 try refine links_nil ?_
 refine stages_end (by kernel_rfl) ?_
 have hF3d:=hF3.drew hc
 go_wp2_with fail
 refine stages_start (by kernel_rfl) 8 rfl ?_
 refine stagek (fun _=>True) [0,1,2,3] [4,5,6,7] 0 rfl #[true,true,true,true,true,true,true,true] (by kernel_rfl) (by kernel_rfl) (fun _ _ _ d _ h=>by first|(cases d<;>exact h)|cases h.1) ?_
 simp only[opsAt,List.map_cons,List.map_nil,List.getElem?_toArray,List.getElem?_cons_zero,List.getElem?_cons_succ,Option.getD_some]
 repeat (go_big_quiet_step (fail))
 refine wpQuiet_nil ?_
 refine links_cons (by first|rfl|simp[go_sem]) (fun K hK=>?_)
 go_simp
 refine hK _ _ (keptS (Keeps.refl _ _)) ?_
 clear hK K
 try refine links_nil ?_
 refine links_cons (by first|rfl|simp[go_sem]) (fun K hK=>?_)
 go_simp
 refine hK _ _ (keptS (Keeps.refl _ _)) ?_
 clear hK K
 try refine links_nil ?_
 refine links_cons (by first|rfl|simp[go_sem]) (fun K hK=>?_)
 go_simp
 refine hK _ _ (keptS (Keeps.refl _ _)) ?_
 clear hK K
 try refine links_nil ?_
 refine links_cons (by first|rfl|simp[go_sem]) (fun K hK=>?_)
 go_simp
 refine (hH _ _ _ hF3d).mono ?_
 rintro e w4 ⟨rfl,hF4,hk4⟩
 refine hK _ _ (keptS (hk4.mono fun _ _ _=>trivial)) ?_
 clear hK K
 try refine links_nil ?_
 refine stages_end (by kernel_rfl) ?_
 go_wp2
 refine bodyPost_end (v:=.tuple #[]) (by first|rfl|simp[results,go_sem]) rfl ?_
 exact ⟨rfl,hF4,(((hk1.trans hk2).drew.trans hk3).drew.trans hk4)⟩
end
end
section
open Go.RowKit
set_option maxRecDepth 10000
variable {σ:Type} {c:Codec σ} {B:Nat} {p:σ×(Nat→Int)} {k:Nat}
def ptrs (B o:Nat):Array Value:=#[.pointer (some ⟨B,o+4,none⟩),.pointer (some ⟨B,o+5,none⟩),.pointer (some ⟨B,o+6,none⟩),.pointer (some ⟨B,o+7,none⟩),.pointer (some ⟨B,o+8,none⟩),.pointer (some ⟨B,o+9,none⟩)]
theorem ptrs_get (B o j:Nat) (h:j<6):(ptrs B o)[j]?=some (.pointer (some ⟨B,o+4+j,none⟩)):=by
 match j,h with
 | 0,_=>rfl
 | 1,_=>rfl
 | 2,_=>rfl
 | 3,_=>rfl
 | 4,_=>rfl
 | 5,_=>rfl
def plyTo (o j:Nat):List Nat:=[o,o+1,o+2,o+3]++(List.range j).map fun i=>o+4+i
theorem steps_ply (c:Codec σ) (p:σ×(Nat→Int)) (o j:Nat):c.steps p (plyTo o (j+1))=c.step (c.steps p (plyTo o j)) (o+4+j):=by
 unfold plyTo Codec.steps
 rw[List.range_succ,List.map_append,←List.append_assoc,List.foldl_append]
 rfl
structure PlySt (c:Codec σ) (w wr:World) (B N o k j:Nat) (p:σ×(Nat→Int)):Prop where
 fr:Fr c wr B (c.steps p (plyTo o j)) (k+(6-j))
 ptr:wr.heap[N]?=some (.cells (ptrs B o) 383 (0,0))
 new:N≠c.r∧N≠B
 keeps:Keeps (ofFr c B) w wr
theorem PlySt.cell {w wr:World} {N o j:Nat} (h:PlySt c w wr B N o k j p) (i:Nat) (hi:i<6):wr.cell? ⟨N,i,none⟩=some (.pointer (some ⟨B,o+4+i,none⟩)):=blk_cell h.ptr (ptrs_get B o i hi)
theorem fr_player (hc:c.Right) (o:Nat) (ho:o+9<60) (h0:kindAt o=.i32) (h1:kindAt (o+1)=.i32) (h2:kindAt (o+2)=.i32) (h3:kindAt (o+3)=.i32) (h4:∀ j,j<6→kindAt (o+4+j)=.i64) (w:World) (h:Fr c w B p (k+10)) :
  Calls Tryz.prog 367 #[c.val,.pointer (some ⟨B,o,none⟩)] w fun e w'=>e=.returned (.tuple #[])∧Fr c w' B (c.steps p (plyTo o 6)) k∧Keeps (ofFr c B) w w':=by
 have hM:=hc.mN
 have hE:=hc.eN
 have hG:=fun j (hj:j<6) w p k=>fr_num (B:=B) (p:=p) (k:=k) hc (o+4+j) (by omega) (h4 j hj) w
 have hV:=fun w p k=>fr_vec (B:=B) (p:=p) (k:=k) hc o (by omega) h0 h1 w
 have hW:=fun w p k=>fr_vec (B:=B) (p:=p) (k:=k) hc (o+2) (by omega) h2 h3 w
 go_enter Tryz.func367,Tryz.ntmps367
 go_wp2_with fail
 refine (hV _ _ _ h).mono ?_
 rintro e w1 ⟨rfl,hF1,hk1⟩
 go_wp2_with fail
 refine (hW _ _ _ hF1).mono ?_
 rintro e w2 ⟨rfl,hF2,hk2⟩
 go_wp2_with fail
 refine stages_start (by kernel_rfl) 21 rfl ?_
 refine stagek (fun _=>False) [0,1,2,3,4,5,6,7,8,9,10,11,12,13,14,15,16,17,20] [18,19] 0 rfl #[true,true,true,true,true,true,true,true,true,true,true,true,true,true,true,true,true,true,true,true,true] (by kernel_rfl) (by kernel_rfl) (fun _ _ _ d _ h=>by first|(cases d<;>exact h)|cases h.1) ?_
 simp only[opsAt,List.map_cons,List.map_nil,List.getElem?_toArray,List.getElem?_cons_zero,List.getElem?_cons_succ,Option.getD_some]
 repeat (go_big_quiet_step (fail))
 refine wpQuiet_nil ?_
 refine links_cons (by first|rfl|simp[go_sem]) (fun K hK=>?_)
 go_simp
 have hka:Keeps (fun _=>False) w2.drew (w2.alloc (.cells (ptrs B o) 383)).drew:=⟨rfl,rfl,rfl,by simp,fun k hk _=>Below.heap_alloc _ _ _ hk⟩
 refine hK _ _ (keptS (hka)) ?_
 clear hK K
 try refine links_nil ?_
 refine links_cons (by first|rfl|simp[go_sem]) (fun K hK=>?_)
 go_simp
 refine hK _ _ (keptS (hka)) ?_
 clear hK K
 try refine links_nil ?_
 refine stages_end (by kernel_rfl) ?_
 have hkb:Keeps (fun _=>False) w2 (w2.alloc (.cells (ptrs B o) 383)).drew:=((Keeps.refl _ w2).alloc _).drew
 have hP:(w2.alloc (.cells (ptrs B o) 383)).drew.heap[w2.heap.size]?=some (.cells (ptrs B o) 383 (0,0)):=blk_new w2 _
 have hF3:=hF2.keeps hc hkb id id
 have hlt1:=hc.there hF2.st
 have hlt2:=blk_lt hF2.blk
 have hst:PlySt c w (w2.alloc (.cells (ptrs B o) 383)).drew B w2.heap.size o k 0 p:=⟨hF3,hP,⟨by omega,by omega⟩,(hk1.trans hk2).trans (hkb.mono fun _ _ x=>x.elim)⟩
 have Hst:=hid hst
 clear hst hF3 hP hkb hka hF1 hF2 hk1 hk2 h hV hW hlt1 hlt2 h0 h1 h2 h3 h4
 change Exit.then _ _ _ _ (w2.alloc (.cells (ptrs B o) 383)).drew
 generalize (w2.alloc (.cells (ptrs B o) 383)).drew=w3 at *
 generalize w2.heap.size=N at *
 have HG:=hid hG
 clear hG
 go_wp2_with fail
 go_loopw [5,36] (fun _ i wr=>∃ j:Nat,j≤6∧i=.int .i64 j∧Hid (PlySt c w wr B N o k j p)) (fun _ i _=>6-(intOf i).toNat)
 case atStart=>exact ⟨0,by omega,rfl,Hst⟩
 case round=>
  obtain ⟨j,hj,rfl,hC⟩:=hrel
  obtain ⟨wo,rfl⟩:∃ wo:World,wo=wr:=⟨_,rfl⟩
  clear Hst
  by_cases hlt:(j:Int)<6
  ·have y0:=hC.out.cell j (by omega)
   have hF:=hC.out.fr
   rw[show k+(6-j)=(k+(6-(j+1)))+1 by omega] at hF
   go_wp2_with fail
   refine (HG.out j (by omega) _ _ _ hF).mono ?_
   rintro e w4 ⟨rfl,hF4,hk4⟩
   rw[←steps_ply] at hF4
   go_wp2_with fail
   go_roundw
   case rel=>
    obtain ⟨h1,h2,⟨h3,h4⟩,h5⟩:=hC.out
    exact ⟨j+1,by omega,by go_num,⟨hF4,hk4.heap h2 (fun h=>h.elim h3 h4),⟨h3,h4⟩,h5.trans hk4⟩⟩
   case measure=>simp[intOf];omega
  ·obtain rfl:j=6:=by omega
   obtain ⟨h1,h2,h3,h5⟩:=hC.out
   go_wp2
   refine bodyPost_end (v:=.tuple #[]) (by first|rfl|simp[results,go_sem]) rfl ?_
   exact ⟨rfl,h1,h5⟩
end
end Go.Proofs.YtalagblioepadaaGreatDoor
