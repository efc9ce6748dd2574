/- The proof, part 27. -/
import Derived.Test.YtalagblioepadaaGreatDoorZa18
import Derived.Test.YtalagblioepadaaGreatDoorZa14
import Derived.Test.YtalagblioepadaaGreatDoorZa08
import Derived.OwnWalkIn
import Derived.TacticsInMore
import Derived.Shelf.RegionOpen
import Derived.LoopNIn
import Derived.LoopIn
import Derived.Deep.Cut
import Derived.RangeFuncBox
import Derived.OneCell
namespace Go.Proofs.YtalagblioepadaaGreatDoor
section
open Go.RowKit
attribute [local go_sem] Oper.semAt_some
variable {w:World} {r B size first n:Nat} {A:List Int}
theorem ring_all (r:Nat) (w:World) :
  Calls Tryz.prog 310 #[.pointer (some ⟨r,0,none⟩)] w fun e w'=>e=.returned (.func (.func 335) #[] #[.pointer (some ⟨w.heap.size,0,none⟩)])∧w.alloc (.cells #[.pointer (some ⟨r,0,none⟩)] 119)=w':=by
 go_enter Tryz.func310,Tryz.ntmps310
 go_wp2
 go_ret
 exact ⟨rfl,rfl⟩
theorem zip_at {α:Type} (L:List α) (k:Nat) (h:k<L.length):L.zipIdx=L.zipIdx.take k++(L[k],k) :: L.zipIdx.drop (k+1)∧L.zipIdx.take (k+1)=L.zipIdx.take k++[(L[k],k)]:=by
 have h2:k<L.zipIdx.length:=by simpa using h
 have e:L.zipIdx[k]=(L[k],k):=by simp
 refine ⟨?_,?_⟩
 ·rw[←e,←List.drop_eq_getElem_cons h2,List.take_append_drop]
 ·rw[List.take_succ_eq_append_getElem h2,e]
theorem all1 {L:List Int} (hR:RingAt w r B size A first L.length) (hL:Holds A first size L) (Bn:Nat) (hBn:Bn<w.heap.size) (hc:w.cell? ⟨Bn,0,none⟩=some (.pointer (some ⟨r,0,none⟩)))
  (Wr:Nat→Prop) (hW:¬ Wr Bn∧¬ Wr r∧¬ Wr B) :
  YieldsAll Tryz.prog 335 #[.pointer (some ⟨Bn,0,none⟩)] (fun p:Int×Nat=>#[.int .i64 p.2,(Value.int .u8 p.1)]) L.zipIdx Wr (fun _=>False) w:=by
 intro l J W hl hk hsz hJ hY h0
 subst hl
 have lr:=blk_lt hR.head
 have lB:=blk_lt hR.body
 have HL:=hid hL
 have b1:=hR.cnt
 have b2:=hR.most
 refine callsIn_wide.2 ?_
 go_enter Tryz.func335,Tryz.ntmps335
 go_wp2_with fail
 go_loopw [3] (fun v wr=>∃ k:Nat,k≤L.length∧v=.int .i64 k∧wr.cell? ⟨Bn,0,none⟩=some (.pointer (some ⟨r,0,none⟩))∧RingAt wr r B size A first L.length∧J (L.zipIdx.take k) wr∧w.heap.size+2≤wr.heap.size)
  (fun v _=>L.length-(intOf v).toNat)
 case atStart=>exact ⟨0,Nat.zero_le _,rfl,hk.cell hc id,hR.keeps hk id id,by simpa using h0,by omega⟩
 case round=>
  obtain ⟨k,hkl,rfl,hcell,hRw,hJk,hsz2⟩:=hrel
  by_cases hlt:k<L.length
  ·obtain ⟨hz1,hz2⟩:=zip_at L k hlt
   have hA:A[(first+k)%size]?=some L[k]:=(HL.out k hlt).trans (by simp)
   obtain ⟨q,hq⟩:∃ q,(first+k)%size=q:=⟨_,rfl⟩
   rw[hq] at hA
   have c0:=hRw.c0
   have cq:=hRw.cell hA
   have hql:q<size:=hq▸Nat.mod_lt _ hR.pos
   have Hq:=hid hq
   have Hz1:=hid hz1
   have Hz2:=hid hz2
   clear hz1 hz2 hq hA
   go_upto_region 3 with ((go_at_call 55;refine (ring_Len hRw).mono ?_;rintro e w' ⟨rfl,rfl⟩))
   refine (wpIn_wide (n:=0)).1 ?_
   refine wpIn_region_taild (open_wide _ _) 11 (by kernel_rfl) (by kernel_rfl) (by kernel_rfl) ?_
   simp only[List.take_succ_cons,List.take_zero,List.drop_succ_cons,List.drop_zero]
   repeat (go_big_quiet_step ((go_at_call 283;first|exact Calls.quiet_of (ring_place (hRw.drew _) k q _ (by omega) (by omega) Hq.out)|exact quiet_d (ring_place (hRw.drew _) k q _ (by omega) (by omega) Hq.out))))
   refine wpQuiet_nil ?_
   intro _ hw'
   obtain ⟨nq,hw''⟩:=hw'
   subst hw''
   obtain ⟨fn,tmps,assign,body,hy,hRd⟩:=hY (L.zipIdx.take k) (L[k],k) (L.zipIdx.drop (k+1)) (wr.drewN nq) Hz1.out (hJ _ _ _ hJk ((Keeps.refl _ wr).drewN nq))
   dsimp only at hy
   gi_wp2
   refine ⟨rfl,hRd.mono ?_⟩
   rintro e W2 ⟨rfl,hJ2,hK2⟩
   clear hy hRd
   have hc2:=hK2.cell (p:=⟨Bn,0,none⟩) hcell (fun h=>h.elim hW.1 (fun h=>by simp at h;omega))
   have hR2:=(hRw.drew nq).keeps hK2 (fun h=>h.elim hW.2.1 (fun h=>by omega)) (fun h=>h.elim hW.2.2 (fun h=>by omega))
   have hs2:=hK2.size
   gi_wp2
   go_wp2
   go_roundw
   case rel=>exact ⟨k+1,by omega,by go_num,hc2,hR2,by rw[Hz2.out];exact hJ2,Nat.le_trans hsz2 hs2⟩
   case measure=>simp[intOf];omega
  ·have he:L.zipIdx.take k=L.zipIdx:=List.take_of_length_le (by simp;omega)
   have He:=hid he
   clear he
   go_wp2_with ((go_at_call 55;refine (ring_Len hRw).mono ?_;rintro e w' ⟨rfl,rfl⟩))
   go_end0
   exact ⟨⟨_,rfl⟩,by rw[←He.out];exact hJk⟩
theorem info_e:(Tryz.prog.info? 5).map (fun i=>(i.zero,i.size,i.bytes))=some (some (Value.int .u8 0),1,1):=by kernel_rfl
theorem zip_map (L:List Int):L.zipIdx.map (fun p=>(Value.int .u8 p.1))=L.map (fun x=>(Value.int .u8 x)):=by
 have:(fun p:Int×Nat=>((Value.int .u8 p.1):Value))=(fun x=>(Value.int .u8 x)) ∘ Prod.fst:=rfl
 rw[this,←List.map_map]
 congr 1
 exact List.zipIdx_map_fst 0 L
set_option maxHeartbeats 800000 in
theorem ring_List {L:List Int} (hR:RingAt w r B size A first L.length) (hL:Holds A first size L) :
  Calls Tryz.prog 263 #[.pointer (some ⟨r,0,none⟩)] w fun e w'=>∃ a cap,e=.returned (.slice a L.length cap)∧Vals w' 1 a L.length cap (L.map fun x=>(Value.int .u8 x))∧(∀ x,a=some x→w.heap.size≤x.block)∧Below w.heap.size w w':=by
 obtain ⟨i0,hi,hz0,hz1,hz2⟩:=info_parts info_e
 have lr:=blk_lt hR.head
 have lB:=blk_lt hR.body
 have HL:=hid hL
 have b1:=hR.cnt
 have b2:=hR.most
 have HI:=hid hi
 clear hi
 refine (callsIn_wide (n:=0)).1 ?_
 refine callsIn_of_wp_marks Tryz.func263 rfl trivial ?_ rfl
 simp only[Tryz.ntmps263,List.size_toArray,List.length_cons,List.length_nil,Nat.reduceAdd,Nat.reduceSub,Array.replicate_succ,Array.replicate_zero,List.push_toArray,List.append_toArray,List.nil_append,List.cons_append]
 gi_wp2_with (fail)
 refine ⟨trivial,rfl,callsIn_wide.2 ((ring_all r _).mono ?_)⟩
 rintro e w2 ⟨rfl,hw2⟩
 gi_wp2_with (fail)
 subst hw2
 have hR0:RingAt ((w.alloc (.cells #[.slice none 0 0] 51)).alloc (.cells #[.pointer (some ⟨r,0,none⟩)] 119)) r B size A first L.length:=
  hR.keeps (S:=fun _=>False) (((Keeps.refl _ w).alloc _).alloc _) id id
 refine wpIn_range (gf:=335) (lb:=#[.pointer (some ⟨w.heap.size+1,0,none⟩)]) rfl (enters_of Tryz.func335 (by kernel_rfl) rfl)
  (fun _=>rfl) L.zipIdx (fun k=>k=w.heap.size∨w.heap.size+3<k) (fun _=>False)
  (all1 hR0 HL.out (w.heap.size+1) (by simp) (by go_simp) _ ⟨by omega,by omega,by omega⟩)
  (by simp;omega) (by simp)
  (fun pre W=>(∃ v,W.heap[w.heap.size]?=some (.cells #[v] 51 (0,0))∧W.ownsRow (w.heap.size+4) 5 1 v pre.length (pre.map fun p=>(Value.int .u8 p.1)))∧Below w.heap.size w W∧w.heap.size+2≤W.heap.size)
  (fun pre A B ⟨⟨v,i1,i2⟩,i3,i4⟩ hsz hk=>⟨⟨v,hk.heap i1 (fun h=>by simp at h;omega),own_keeps i2 hk (fun b hb h=>by have:=(i2.lt b hb).1;simp at h;omega)⟩,i3.trans (hk.below i3.size (fun k h1 h2=>by simp at h2;omega)),Nat.le_trans i4 hk.size⟩)
  ⟨⟨_,blk_alloc (blk_new _ _) _,own_nil _ _ _ _⟩,((Below.refl _ w).alloc (Nat.le_refl _) _).alloc (by simp) _,by simp⟩
  (fun x=>{ tmps:=#[.pointer (some ⟨r,0,none⟩),undef,.slice none 0 0,.pointer (some ⟨w.heap.size,0,none⟩),undef,(Value.int .u8 x.1),.pointer (some ⟨r,0,none⟩),.func (.func 335) #[] #[.pointer (some ⟨w.heap.size+1,0,none⟩)],.int .i64 x.2,(Value.int .u8 x.1),undef,undef,undef,undef,undef],defers:=[] })
  ?assign ?body ?done
 case assign=>
  intro l x W K hK
  gi_wp2
  exact hK
 case body=>
  rintro l pre x rest A2 hl hx ⟨⟨v,i1,i2⟩,i3,i4⟩ hs4
  have hpl:=congrArg List.length hx
  simp at hpl
  have Hx:=hid hx
  have Hl:=hid hl
  have Hpl:=hid hpl
  have hpl2:pre.length+1≤4096:=by omega
  clear hx hl hpl
  have cv:=cell_of_one i1
  have fv:=free_of_one i1
  have H1:=hid i1
  clear i1
  gi_wp2_with (gi_at_builtin;refine wpListIn_append_own _ rfl _ _ 51 rfl (w.heap.size+4) 5 i0 (Value.int .u8 0) 1 1 Tryz.underlying51 HI.out hz0 hz1 hz2 rfl (by decide) _ _ _ rfl (i2.alloc _) ⟨A2.heap.size,0,none⟩ 1 1 [(Value.int .u8 x.1)] rfl rfl (cell_one_new _ _ _) (by simp[Value.oneCell']) (by simp only[maxLen];omega) (by omega) (by simp at hs4 ⊢;omega) ?_;intro v' w1 hown' hgrow _;have hk1:Keeps (fun k=>k=w.heap.size∨w.heap.size+3<k) A2 w1:=((Keeps.refl _ A2).alloc _).grown hgrow (fun k hk=>.inl (.inr (by have:=(i2.lt k hk).1;omega)));obtain ⟨g',cap',rfl⟩:=ownsRow_succ hown';have h2:=(hgrow.block w.heap.size (by simp;omega) (fun e=>by have:=(i2.lt _ e.symm).1;omega)).trans (blk_alloc H1.out _);have cv1:=cell_of_one h2;have fv1:=free_of_one h2;have Hb:=hid h2;clear h2 hgrow)
  have hk2:=hk1.setCell (p:=⟨w.heap.size,0,none⟩) (.inl rfl) (.slice (some ⟨g',0,none⟩) (pre.length+1) cap')
  refine ⟨hk2,⟨_,by simpa using blk_set Hb.out 0 _,own_keeps hown' ((Keeps.refl (fun k=>k=w.heap.size) w1).setCell (p:=⟨w.heap.size,0,none⟩) rfl _) (fun b hb h=>by have:=(hown'.lt b hb).1;omega)⟩,i3.trans (hk2.below i3.size (fun k h1 h2=>by omega)),?_⟩
  have:=hk1.size
  omega
 case done=>
  rintro W ⟨⟨v,i1,i2⟩,i3,i4⟩ hD
  have cv:=cell_of_one i1
  rw[List.length_zipIdx,zip_map] at i2
  obtain ⟨a,cap,rfl,hv,hb⟩:=vals_of_own i2
  gi_wp2
  refine ⟨by simp,.inl ⟨_,_,rfl,run_takeDeferred hD,?_⟩⟩
  refine ⟨_,results_tmp rfl _ _ _,a,cap,rfl,hv.keeps (S:=fun k=>k=w.heap.size+2) ((Keeps.refl _ W).putObj (by simp) _) (fun _ x hx=>by have:=(hb x hx).1;omega),fun x hx=>by have:=(hb x hx).1;omega,?_⟩
  exact i3.trans (((Keeps.refl (fun k=>w.heap.size≤k) W).putObj (by simp;omega) _).below i3.size (fun k h1 h2=>by omega))
theorem ring_New2 (size:Nat) (h1:1≤size) (h2:size≤4096) (w:World) :
  Calls Tryz.prog 195 #[.int .i64 size] w fun e w'=>e=.returned (.tuple #[.pointer (some ⟨w.heap.size+1,0,none⟩),.int .i64 0])∧RingAt w' (w.heap.size+1) w.heap.size size (List.replicate size 0) 0 0∧Below w.heap.size w w'∧w'.heap.size=w.heap.size+2:=by
 obtain ⟨i0,hi,hz0,hz1,hz2⟩:=info_parts info_e
 have hd:decide (1≤(size:Int)∧(size:Int)≤4096)=true:=by simp;omega
 have hmk:=run_make (P:=Tryz.prog) w 51 5 i0 (Value.int .u8 0) Tryz.underlying51 hi hz0 .i64 .i64 size size (by omega) (Int.le_refl _) (by rw[hz2];omega) (by omega)
 have hcells:madeCells ((Value.int .u8 0):Value).cells size=((List.replicate size (0:Int)).map fun x=>(Value.int .u8 x)).toArray:=by
  apply Array.toList_inj.1
  rw[show ((Value.int .u8 0):Value).cells=#[(Value.int .u8 0)] from rfl,toList_madeCells_one]
  simp
 rw[hz1,Int.toNat_natCast,Nat.mul_one,hcells] at hmk
 have Hhi:=hid hi
 clear hcells hi hz0 hz1 hz2
 go_enter Tryz.func195,Tryz.ntmps195
 go_wp2_with fail
 refine (ring_may size w).mono ?_
 rintro e w' ⟨rfl,rfl⟩
 rw[hd]
 clear hd
 go_wp2
 go_ret2
 refine ⟨rfl,⟨?_,?_,by simp,h1,h2,by omega,by omega,by omega⟩,((Below.refl _ w).alloc (Nat.le_refl _) _).alloc (by simp) _,by simp⟩
 ·have:=blk_new (w.alloc (.cells ((List.replicate size (0:Int)).map fun x=>(Value.int .u8 x)).toArray 5)) (.cells #[.slice (some ⟨w.heap.size,0,none⟩) size size,.int .i64 0,.int .i64 0] 181)
  simpa using this
 ·have:=blk_alloc (blk_new w (.cells ((List.replicate size (0:Int)).map fun x=>(Value.int .u8 x)).toArray 5)) (.cells #[.slice (some ⟨w.heap.size,0,none⟩) size size,.int .i64 0,.int .i64 0] 181)
  simpa using this
end
section
open Go.RowKit
attribute [local go_sem] Oper.semAt_some
def intsL (L:List Int):List Value:=L.map fun x=>.int .i64 x
theorem info_int:(Tryz.prog.info? 3).map (fun i=>(i.zero,i.size,i.bytes))=some (some (.int .i64 0),1,8):=by kernel_rfl
variable {w:World}
set_option maxHeartbeats 800000 in
theorem seq_Append {α:Type} (g:α→Int) (gf:Nat) (lb:Array Value) (hgf:∀ args w,(callFunc gf args).run Tryz.prog w=.ok (.enter gf args) w) (L:List α) (hL:L.length≤4096)
  (hit:YieldsAll Tryz.prog gf lb (fun x:α=>#[.int .i64 (g x)]) L (fun k=>k=w.heap.size∨w.heap.size+2<k) (fun _=>False) (w.alloc (.cells #[.slice none 0 0] 141))) :
  Calls Tryz.prog 124 #[.slice none 0 0,.func (.func gf) #[] lb] w fun e w'=>∃ v,e=.returned v∧w'.ownsRow (w.heap.size+3) 3 1 v L.length (intsL (L.map g))∧Below w.heap.size w w':=by
 obtain ⟨i0,hi,hz0,hz1,hz2⟩:=info_parts info_int
 have HI:=hid hi
 clear hi
 have Hit:=hid hit
 clear hit
 refine (callsIn_wide (n:=0)).1 ?_
 refine callsIn_of_wp_marks Tryz.func124 rfl trivial ?_ rfl
 simp only[Tryz.ntmps124,List.size_toArray,List.length_cons,List.length_nil,Nat.reduceAdd,Nat.reduceSub,Array.replicate_succ,Array.replicate_zero,List.push_toArray,List.append_toArray,List.nil_append,List.cons_append]
 gi_wp2_with (fail)
 refine wpIn_range (gf:=gf) (lb:=lb) rfl hgf (fun _=>rfl) L (fun k=>k=w.heap.size∨w.heap.size+2<k) (fun _=>False) Hit.out
  (by simp;omega) (by simp)
  (fun pre W=>(∃ v,W.heap[w.heap.size]?=some (.cells #[v] 141 (0,0))∧W.ownsRow (w.heap.size+3) 3 1 v pre.length (intsL (pre.map g)))∧Below w.heap.size w W∧w.heap.size+1≤W.heap.size)
  (fun pre A B ⟨⟨v,i1,i2⟩,i3,i4⟩ hsz hk=>⟨⟨v,hk.heap i1 (fun h=>by simp at h;omega),own_keeps i2 hk (fun b hb h=>by have:=(i2.lt b hb).1;simp at h;omega)⟩,i3.trans (hk.below i3.size (fun k h1 h2=>by simp at h2;omega)),Nat.le_trans i4 hk.size⟩)
  ⟨⟨_,blk_new _ _,own_nil _ _ _ _⟩,(Below.refl _ w).alloc (Nat.le_refl _) _,by simp⟩
  (fun x=>{ tmps:=#[.slice none 0 0,.func (.func gf) #[] lb,.pointer (some ⟨w.heap.size,0,none⟩),undef,.slice none 0 0,.int .i64 (g x),.func (.func gf) #[] lb,.int .i64 (g x),undef,undef,undef,undef,undef],defers:=[] })
  ?assign ?body ?done
 case assign=>
  intro l x W K hK
  gi_wp2
  exact hK
 case body=>
  rintro l pre x rest A2 hl hx ⟨⟨v,i1,i2⟩,i3,i4⟩ hs4
  have hpl:=congrArg List.length hx
  simp at hpl
  have Hx:=hid hx
  have Hl:=hid hl
  have Hpl:=hid hpl
  have hpl2:pre.length+1≤4096:=by omega
  clear hx hl hpl
  have cv:=cell_of_one i1
  have fv:=free_of_one i1
  have H1:=hid i1
  clear i1
  gi_wp2_with (gi_at_builtin;refine wpListIn_append_own _ rfl _ _ 141 rfl (w.heap.size+3) 3 i0 (.int .i64 0) 1 8 Tryz.underlying141 HI.out hz0 hz1 hz2 rfl (by decide) _ _ _ rfl (i2.alloc _) ⟨A2.heap.size,0,none⟩ 1 1 [.int .i64 (g x)] rfl rfl (cell_one_new _ _ _) (by simp[Value.oneCell']) (by simp only[maxLen];omega) (by omega) (by simp at hs4 ⊢;omega) ?_;intro v' w1 hown' hgrow _;have hk1:Keeps (fun k=>k=w.heap.size∨w.heap.size+2<k) A2 w1:=((Keeps.refl _ A2).alloc _).grown hgrow (fun k hk=>.inl (.inr (by have:=(i2.lt k hk).1;omega)));obtain ⟨g',cap',rfl⟩:=ownsRow_succ hown';have h2:=(hgrow.block w.heap.size (by simp;omega) (fun e=>by have:=(i2.lt _ e.symm).1;omega)).trans (blk_alloc H1.out _);have cv1:=cell_of_one h2;have fv1:=free_of_one h2;have Hb:=hid h2;clear h2 hgrow)
  have hk2:=hk1.setCell (p:=⟨w.heap.size,0,none⟩) (.inl rfl) (.slice (some ⟨g',0,none⟩) (pre.length+1) cap')
  refine ⟨hk2,⟨_,by simpa using blk_set Hb.out 0 _,by simpa[intsL] using own_keeps hown' ((Keeps.refl (fun k=>k=w.heap.size) w1).setCell (p:=⟨w.heap.size,0,none⟩) rfl _) (fun b hb h=>by have:=(hown'.lt b hb).1;omega)⟩,i3.trans (hk2.below i3.size (fun k h1 h2=>by omega)),?_⟩
  have:=hk1.size
  omega
 case done=>
  rintro W ⟨⟨v,i1,i2⟩,i3,i4⟩ hD
  have cv:=cell_of_one i1
  obtain ⟨a,cap,rfl,hv,hb⟩:=vals_of_own i2
  gi_wp2
  refine ⟨by simp,.inl ⟨_,_,rfl,run_takeDeferred hD,?_⟩⟩
  refine ⟨_,results_tmp rfl _ _ _,_,rfl,own_keeps i2 ((Keeps.refl (fun k=>k=w.heap.size+1) W).putObj (by simp) _) (fun b hb h=>by have:=(i2.lt b hb).1;omega),?_⟩
  exact i3.trans (((Keeps.refl (fun k=>w.heap.size≤k) W).putObj (by simp) _).below i3.size (fun k h1 h2=>by omega))
theorem seq_Collect {α:Type} (g:α→Int) (gf:Nat) (lb:Array Value) (hgf:∀ args w,(callFunc gf args).run Tryz.prog w=.ok (.enter gf args) w) (L:List α) (hL:L.length≤4096)
  (hit:YieldsAll Tryz.prog gf lb (fun x:α=>#[.int .i64 (g x)]) L (fun k=>k=w.heap.size∨w.heap.size+2<k) (fun _=>False) (w.alloc (.cells #[.slice none 0 0] 141))) :
  Calls Tryz.prog 78 #[.func (.func gf) #[] lb] w fun e w'=>∃ v,e=.returned v∧w'.ownsRow (w.heap.size+3) 3 1 v L.length (intsL (L.map g))∧Below w.heap.size w w':=by
 have hA:=hid (seq_Append g gf lb hgf L hL hit)
 clear hit
 go_enter Tryz.func78,Tryz.ntmps78
 go_wp2_with fail
 refine hA.out.mono ?_
 rintro e w' ⟨v,rfl,hown,hb⟩
 go_wp2
 go_ret
 exact ⟨_,rfl,hown,hb⟩
end
section
open Go.RowKit
def IsRing (w:World) (r B size:Nat) (L:List Int):Prop:=∃ A first,RingAt w r B size A first L.length∧Holds A first size L
variable {w:World} {r B size:Nat} {L:List Int}
theorem IsRing.keeps {w':World} {S:Nat→Prop} (h:IsRing w r B size L) (hk:Keeps S w w') (hr:¬ S r) (hB:¬ S B):IsRing w' r B size L:=by
 obtain ⟨A,f,h1,h2⟩:=h
 exact ⟨A,f,h1.keeps hk hr hB,h2⟩
theorem IsRing.le (h:IsRing w r B size L):L.length≤size∧1≤size∧size≤4096∧r<w.heap.size∧B<w.heap.size∧r≠B:=by
 obtain ⟨A,f,h1,h2⟩:=h
 exact ⟨h1.cnt,h1.pos,h1.most,blk_lt h1.head,blk_lt h1.body,h1.ne⟩
theorem is_Len (h:IsRing w r B size L):Calls Tryz.prog 55 #[.pointer (some ⟨r,0,none⟩)] w fun e w'=>e=.returned (.int .i64 L.length)∧w=w':=by
 obtain ⟨A,f,h1,h2⟩:=h
 exact ring_Len h1
theorem is_Push (h:IsRing w r B size L) (hn:L.length<size) (v:Int) :
  Calls Tryz.prog 217 #[.pointer (some ⟨r,0,none⟩),(Value.int .u8 v)] w fun e w'=>e=.returned (.int .i64 0)∧IsRing w' r B size (L++[v])∧Keeps (fun b=>b=r∨b=B) w w':=by
 obtain ⟨A,f,h1,h2⟩:=h
 refine (ring_Push h1 hn _ rfl v).mono ?_
 rintro e w' ⟨rfl,h3,h4⟩
 exact ⟨rfl,⟨_,f,by simpa using h3,h2.push h1.fst h1.alen hn v⟩,h4⟩
theorem is_Push_full (h:IsRing w r B size L) (hn:L.length=size) (v:Int) :
  Calls Tryz.prog 217 #[.pointer (some ⟨r,0,none⟩),(Value.int .u8 v)] w fun e w'=>e=.returned (.int .i64 8)∧IsRing w' r B size L∧Keeps (fun b=>b=r∨b=B) w w':=by
 obtain ⟨A,f,h1,h2⟩:=h
 refine (ring_Push_full h1 hn v).mono ?_
 rintro e w' ⟨rfl,m,rfl⟩
 exact ⟨rfl,⟨_,f,h1.drew m,h2⟩,(Keeps.refl _ w).drewN m⟩
theorem is_Pop {v:Int} (h:IsRing w r B size (v :: L)) :
  Calls Tryz.prog 333 #[.pointer (some ⟨r,0,none⟩)] w fun e w'=>e=.returned (.tuple #[(Value.int .u8 v),.bool true])∧IsRing w' r B size L∧Keeps (fun b=>b=r∨b=B) w w':=by
 obtain ⟨A,f,h1,h2⟩:=h
 have h0:=h2 0 (by simp)
 rw[Nat.add_zero,Nat.mod_eq_of_lt h1.fst] at h0
 refine (ring_Pop h1 (by simp) _ rfl v (by simpa using h0)).mono ?_
 rintro e w' ⟨rfl,h3,h4⟩
 exact ⟨rfl,⟨_,_,by simpa using h3,h2.pop h1.fst h1.cnt (by simp) _⟩,h4⟩
theorem is_List (h:IsRing w r B size L) :
  Calls Tryz.prog 263 #[.pointer (some ⟨r,0,none⟩)] w fun e w'=>∃ a cap,e=.returned (.slice a L.length cap)∧Vals w' 1 a L.length cap (L.map fun x=>(Value.int .u8 x))∧(∀ x,a=some x→w.heap.size≤x.block)∧Below w.heap.size w w':=by
 obtain ⟨A,f,h1,h2⟩:=h
 exact ring_List h1 h2
theorem is_New2 (size:Nat) (h1:1≤size) (h2:size≤4096) (w:World) :
  Calls Tryz.prog 195 #[.int .i64 size] w fun e w'=>e=.returned (.tuple #[.pointer (some ⟨w.heap.size+1,0,none⟩),.int .i64 0])∧IsRing w' (w.heap.size+1) w.heap.size size ([]:List Int)∧Below w.heap.size w w'∧w'.heap.size=w.heap.size+2:=by
 refine (ring_New2 size h1 h2 w).mono ?_
 rintro e w' ⟨rfl,h3,h4⟩
 exact ⟨rfl,⟨_,0,h3,fun t ht=>absurd ht (Nat.not_lt_zero _)⟩,h4⟩
end
section
open Go.RowKit
attribute [local go_sem] Oper.semAt_some
variable {w:World} {r B size first n:Nat} {A:List ByteArray}
theorem q_info_e:(Tryz.prog.info? 9).map (fun i=>(i.zero,i.size,i.bytes))=some (some (Value.string ByteArray.empty),1,16):=by kernel_rfl
theorem q_ring_New2 (size:Nat) (h1:1≤size) (h2:size≤4096) (w:World) :
  Calls Tryz.prog 83 #[.int .i64 size] w fun e w'=>e=.returned (.tuple #[.pointer (some ⟨w.heap.size+1,0,none⟩),.int .i64 0])∧QRingAt w' (w.heap.size+1) w.heap.size size (List.replicate size ByteArray.empty) 0 0∧Below w.heap.size w w'∧w'.heap.size=w.heap.size+2:=by
 obtain ⟨i0,hi,hz0,hz1,hz2⟩:=info_parts q_info_e
 have hd:decide (1≤(size:Int)∧(size:Int)≤4096)=true:=by simp;omega
 have hmk:=run_make (P:=Tryz.prog) w 33 9 i0 (Value.string ByteArray.empty) Tryz.underlying33 hi hz0 .i64 .i64 size size (by omega) (Int.le_refl _) (by rw[hz2];omega) (by omega)
 have hcells:madeCells ((Value.string ByteArray.empty):Value).cells size=((List.replicate size (ByteArray.empty:ByteArray)).map fun x=>(Value.string x)).toArray:=by
  apply Array.toList_inj.1
  rw[show ((Value.string ByteArray.empty):Value).cells=#[(Value.string ByteArray.empty)] from rfl,toList_madeCells_one]
  simp
 rw[hz1,Int.toNat_natCast,Nat.mul_one,hcells] at hmk
 have Hhi:=hid hi
 clear hcells hi hz0 hz1 hz2
 go_enter Tryz.func83,Tryz.ntmps83
 go_wp2_with fail
 refine (q_ring_may size w).mono ?_
 rintro e w' ⟨rfl,rfl⟩
 rw[hd]
 clear hd
 go_wp2
 go_ret2
 refine ⟨rfl,⟨?_,?_,by simp,h1,h2,by omega,by omega,by omega⟩,((Below.refl _ w).alloc (Nat.le_refl _) _).alloc (by simp) _,by simp⟩
 ·have:=blk_new (w.alloc (.cells ((List.replicate size (ByteArray.empty:ByteArray)).map fun x=>(Value.string x)).toArray 9)) (.cells #[.slice (some ⟨w.heap.size,0,none⟩) size size,.int .i64 0,.int .i64 0] 239)
  simpa using this
 ·have:=blk_alloc (blk_new w (.cells ((List.replicate size (ByteArray.empty:ByteArray)).map fun x=>(Value.string x)).toArray 9)) (.cells #[.slice (some ⟨w.heap.size,0,none⟩) size size,.int .i64 0,.int .i64 0] 239)
  simpa using this
end
section
open Go.RowKit
def QIsRing (w:World) (r B size:Nat) (L:List ByteArray):Prop:=∃ A first,QRingAt w r B size A first L.length∧Holds A first size L
variable {w:World} {r B size:Nat} {L:List ByteArray}
theorem QIsRing.keeps {w':World} {S:Nat→Prop} (h:QIsRing w r B size L) (hk:Keeps S w w') (hr:¬ S r) (hB:¬ S B):QIsRing w' r B size L:=by
 obtain ⟨A,f,h1,h2⟩:=h
 exact ⟨A,f,h1.keeps hk hr hB,h2⟩
theorem QIsRing.le (h:QIsRing w r B size L):L.length≤size∧1≤size∧size≤4096∧r<w.heap.size∧B<w.heap.size∧r≠B:=by
 obtain ⟨A,f,h1,h2⟩:=h
 exact ⟨h1.cnt,h1.pos,h1.most,blk_lt h1.head,blk_lt h1.body,h1.ne⟩
theorem q_is_Len (h:QIsRing w r B size L):Calls Tryz.prog 82 #[.pointer (some ⟨r,0,none⟩)] w fun e w'=>e=.returned (.int .i64 L.length)∧w=w':=by
 obtain ⟨A,f,h1,h2⟩:=h
 exact q_ring_Len h1
theorem q_is_At (h:QIsRing w r B size L) (i:Nat) (x:Int) (hx:x=i) (v:ByteArray) (hv:L[i]?=some v) :
  Calls Tryz.prog 165 #[.pointer (some ⟨r,0,none⟩),.int .i64 x] w fun e w'=>e=.returned (.tuple #[(Value.string v),.bool true])∧∃ m,w'=w.drewN m:=by
 obtain ⟨A,f,h1,h2⟩:=h
 have hi:=(List.getElem?_eq_some_iff.1 hv).1
 exact q_ring_At h1 i _ x hx hi rfl v ((h2 i hi).trans hv)
theorem q_is_At_no (h:QIsRing w r B size L) (x:Int) (hx:x<0∨(L.length:Int)≤x) :
  Calls Tryz.prog 165 #[.pointer (some ⟨r,0,none⟩),.int .i64 x] w fun e w'=>e=.returned (.tuple #[(Value.string ByteArray.empty),.bool false])∧w=w':=by
 obtain ⟨A,f,h1,h2⟩:=h
 exact q_ring_At_no h1 x hx
theorem q_is_Push (h:QIsRing w r B size L) (hn:L.length<size) (v:ByteArray) :
  Calls Tryz.prog 95 #[.pointer (some ⟨r,0,none⟩),(Value.string v)] w fun e w'=>e=.returned (.int .i64 0)∧QIsRing w' r B size (L++[v])∧Keeps (fun b=>b=r∨b=B) w w':=by
 obtain ⟨A,f,h1,h2⟩:=h
 refine (q_ring_Push h1 hn _ rfl v).mono ?_
 rintro e w' ⟨rfl,h3,h4⟩
 exact ⟨rfl,⟨_,f,by simpa using h3,h2.push h1.fst h1.alen hn v⟩,h4⟩
theorem q_is_Push_full (h:QIsRing w r B size L) (hn:L.length=size) (v:ByteArray) :
  Calls Tryz.prog 95 #[.pointer (some ⟨r,0,none⟩),(Value.string v)] w fun e w'=>e=.returned (.int .i64 8)∧QIsRing w' r B size L∧Keeps (fun b=>b=r∨b=B) w w':=by
 obtain ⟨A,f,h1,h2⟩:=h
 refine (q_ring_Push_full h1 hn v).mono ?_
 rintro e w' ⟨rfl,m,rfl⟩
 exact ⟨rfl,⟨_,f,h1.drew m,h2⟩,(Keeps.refl _ w).drewN m⟩
theorem q_is_Take (h:QIsRing w r B size L) (i:Nat) (x:Int) (hx:x=i) (v:ByteArray) (hv:L[i]?=some v) :
  Calls Tryz.prog 164 #[.pointer (some ⟨r,0,none⟩),.int .i64 x] w fun e w'=>e=.returned (.tuple #[(Value.string v),.bool true])∧QIsRing w' r B size (L.eraseIdx i)∧Keeps (fun b=>b=r∨b=B) w w':=by
 obtain ⟨A,f,h1,h2⟩:=h
 have hi:=(List.getElem?_eq_some_iff.1 hv).1
 refine (q_ring_Take h1 h2 i x hx hi v hv).mono ?_
 rintro e w' ⟨rfl,hk,A',h3,h4⟩
 exact ⟨rfl,⟨A',f,by rw[List.length_eraseIdx_of_lt hi];exact h3,h4⟩,hk⟩
theorem q_is_Take_no (h:QIsRing w r B size L) (x:Int) (hx:x<0∨(L.length:Int)≤x) :
  Calls Tryz.prog 164 #[.pointer (some ⟨r,0,none⟩),.int .i64 x] w fun e w'=>e=.returned (.tuple #[(Value.string ByteArray.empty),.bool false])∧w=w':=by
 obtain ⟨A,f,h1,h2⟩:=h
 exact q_ring_Take_no h1 x hx
theorem q_is_New2 (size:Nat) (h1:1≤size) (h2:size≤4096) (w:World) :
  Calls Tryz.prog 83 #[.int .i64 size] w fun e w'=>e=.returned (.tuple #[.pointer (some ⟨w.heap.size+1,0,none⟩),.int .i64 0])∧QIsRing w' (w.heap.size+1) w.heap.size size ([]:List ByteArray)∧Below w.heap.size w w'∧w'.heap.size=w.heap.size+2:=by
 refine (q_ring_New2 size h1 h2 w).mono ?_
 rintro e w' ⟨rfl,h3,h4⟩
 exact ⟨rfl,⟨_,0,h3,fun t ht=>absurd ht (Nat.not_lt_zero _)⟩,h4⟩
end
section
open Go.RowKit
theorem q_nil_Len (w:World):Calls Tryz.prog 82 #[.pointer none] w fun e w'=>e=.returned (.int .i64 0)∧w=w':=by
 go_enter Tryz.func82,Tryz.ntmps82
 go_wp2
 go_ret
 exact ⟨rfl,rfl⟩
theorem q_nil_At (x:Int) (w:World):Calls Tryz.prog 165 #[.pointer none,.int .i64 x] w fun e w'=>e=.returned (.tuple #[(Value.string ByteArray.empty),.bool false])∧w=w':=by
 go_enter Tryz.func165,Tryz.ntmps165
 go_wp2
 go_ret2
 exact ⟨rfl,rfl⟩
theorem q_nil_Take (x:Int) (w:World):Calls Tryz.prog 164 #[.pointer none,.int .i64 x] w fun e w'=>e=.returned (.tuple #[(Value.string ByteArray.empty),.bool false])∧w=w':=by
 go_enter Tryz.func164,Tryz.ntmps164
 go_wp2_with fail
 refine (q_nil_At x w).mono ?_
 rintro e w' ⟨rfl,rfl⟩
 go_wp2
 go_ret2
 exact ⟨rfl,rfl⟩
end
section
open Go.RowKit
structure CS where
 a:List ByteArray
 b:List ByteArray
 lost:Int
def CS.get (s:CS) (to:Int):List ByteArray:=if to=0 then s.a else s.b
def CS.put (s:CS) (to:Int) (L:List ByteArray):CS:=if to=0 then { s with a:=L } else { s with b:=L }
def okTo (to:Int):Prop:=to=0∨to=1
instance (to:Int):Decidable (okTo to):=by unfold okTo;infer_instance
def endR (c:Nat) (to:Int):Nat:=if to=0 then c+2 else c+4
def endB (c:Nat) (to:Int):Nat:=if to=0 then c+1 else c+3
def ofCable (c:Nat) (b:Nat):Prop:=c≤b∧b≤c+4
structure IsCable (w:World) (c most:Nat) (s:CS):Prop where
 head:w.heap[c]?=some (.cells #[.pointer (some ⟨c+2,0,none⟩),.pointer (some ⟨c+4,0,none⟩),.int .i64 s.lost] 184 (0,0))
 ra:QIsRing w (c+2) (c+1) most s.a
 rb:QIsRing w (c+4) (c+3) most s.b
theorem IsCable.keeps {w w':World} {c most:Nat} {s:CS} {S:Nat→Prop} (h:IsCable w c most s) (hk:Keeps S w w') (hs:∀ b,ofCable c b→¬ S b):IsCable w' c most s:=
 ⟨hk.heap h.head (hs c ⟨by omega,by omega⟩),h.ra.keeps hk (hs _ ⟨by omega,by omega⟩) (hs _ ⟨by omega,by omega⟩),h.rb.keeps hk (hs _ ⟨by omega,by omega⟩) (hs _ ⟨by omega,by omega⟩)⟩
section
variable {w w':World} {c most:Nat} {s:CS}
theorem IsCable.ring (h:IsCable w c most s) (to:Int):QIsRing w (endR c to) (endB c to) most (s.get to):=by
 unfold endR endB CS.get
 split
 ·exact h.ra
 ·exact h.rb
theorem IsCable.put (h:IsCable w c most s) (to:Int) {L:List ByteArray} (hr:QIsRing w' (endR c to) (endB c to) most L) (hk:Keeps (fun b=>b=endR c to∨b=endB c to) w w'):IsCable w' c most (s.put to L):=by
 unfold endR endB at hr hk
 unfold CS.put
 split
 ·rename_i e
  simp only[e,if_true] at hr hk
  exact ⟨hk.heap h.head (by omega),hr,h.rb.keeps hk (by omega) (by omega)⟩
 ·rename_i e
  simp only[e,if_false] at hr hk
  exact ⟨hk.heap h.head (by omega),h.ra.keeps hk (by omega) (by omega),hr⟩
theorem end_of (c:Nat) (to:Int) (b:Nat) (h:b=endR c to∨b=endB c to):ofCable c b:=by
 unfold endR endB at h
 unfold ofCable
 split at h<;>omega
theorem cable_end (h:IsCable w c most s) (to:Int) (ht:okTo to) :
  Calls Tryz.prog 81 #[.pointer (some ⟨c,0,none⟩),.int .i64 to] w fun e w'=>e=.returned (.pointer (some ⟨endR c to,0,none⟩))∧w=w':=by
 have c0:w.cell? ⟨c,0,none⟩=some (.pointer (some ⟨c+2,0,none⟩)):=blk_cell h.head rfl
 have c1:w.cell? ⟨c,1,none⟩=some (.pointer (some ⟨c+4,0,none⟩)):=blk_cell h.head rfl
 rcases ht with rfl|rfl
 ·go_enter Tryz.func81,Tryz.ntmps81
  go_wp2
  go_ret
  exact ⟨rfl,rfl⟩
 ·go_enter Tryz.func81,Tryz.ntmps81
  go_wp2
  go_ret
  exact ⟨rfl,rfl⟩
theorem cable_end_no (c:Nat) (to:Int) (ht:¬ okTo to) (w:World) :
  Calls Tryz.prog 81 #[.pointer (some ⟨c,0,none⟩),.int .i64 to] w fun e w'=>e=.returned (.pointer none)∧w=w':=by
 unfold okTo at ht
 by_cases h0:to<0
 ·clear ht
  go_enter Tryz.func81,Tryz.ntmps81
  go_wp2
  go_ret
  exact ⟨rfl,rfl⟩
 ·have h1:2≤to:=by omega
  clear ht
  go_enter Tryz.func81,Tryz.ntmps81
  go_wp2
  go_ret
  exact ⟨rfl,rfl⟩
def copyC (s:CS) (to i:Int):Option ByteArray:=if okTo to∧0≤i then (s.get to)[i.toNat]? else none
def takeC (s:CS) (to i:Int):CS:=if okTo to∧0≤i then s.put to ((s.get to).eraseIdx i.toNat) else s
def strV (o:Option ByteArray):Value:=.string (o.getD ByteArray.empty)
theorem CS.put_get (s:CS) (to:Int):s.put to (s.get to)=s:=by unfold CS.put CS.get;split<;>rfl
theorem copyC_no {to i:Int} (ht:okTo to) (h:i<0∨((s.get to).length:Int)≤i):copyC s to i=none∧takeC s to i=s:=by
 unfold copyC takeC
 by_cases h0:0≤i
 ·have:(s.get to).length≤i.toNat:=by omega
  rw[if_pos ⟨ht,h0⟩,if_pos ⟨ht,h0⟩,List.eraseIdx_of_length_le this,CS.put_get]
  exact ⟨by simpa using this,rfl⟩
 ·rw[if_neg (fun h=>h0 h.2),if_neg (fun h=>h0 h.2)]
  exact ⟨rfl,rfl⟩
theorem cable_Copy (h:IsCable w c most s) (to i:Int) :
  Calls Tryz.prog 99 #[.pointer (some ⟨c,0,none⟩),.int .i64 to,.int .i64 i] w fun e w'=>e=.returned (.tuple #[strV (copyC s to i),.bool (copyC s to i).isSome])∧∃ q,w'=w.drewN q:=by
 by_cases ht:okTo to
 ·by_cases hi:0≤i∧i<(s.get to).length
  ·obtain ⟨k,rfl⟩:=Int.eq_ofNat_of_zero_le hi.1
   have hk:k<(s.get to).length:=by omega
   have hcp:copyC s to k=some (s.get to)[k]:=by unfold copyC;rw[if_pos ⟨ht,hi.1⟩];simp[hk]
   rw[hcp]
   have hv:=hid (show (s.get to)[k]?=some (s.get to)[k] by simp)
   clear hi hcp
   go_enter Tryz.func99,Tryz.ntmps99
   go_wp2_with fail
   refine (cable_end h to ht).mono ?_
   rintro e w' ⟨rfl,rfl⟩
   go_wp2_with fail
   refine (q_is_At (h.ring to) k _ rfl _ hv.out).mono ?_
   rintro e w' ⟨rfl,q,rfl⟩
   go_wp2
   go_ret2
   exact ⟨rfl,_,rfl⟩
  ·have hno:i<0∨((s.get to).length:Int)≤i:=by omega
   rw[(copyC_no ht hno).1]
   clear hi
   go_enter Tryz.func99,Tryz.ntmps99
   go_wp2_with fail
   refine (cable_end h to ht).mono ?_
   rintro e w' ⟨rfl,rfl⟩
   go_wp2_with fail
   refine (q_is_At_no (h.ring to) i hno).mono ?_
   rintro e w' ⟨rfl,rfl⟩
   go_wp2
   go_ret2
   exact ⟨rfl,0,rfl⟩
 ·have hcp:copyC s to i=none:=by unfold copyC;rw[if_neg (fun h=>ht h.1)]
  rw[hcp]
  clear hcp
  go_enter Tryz.func99,Tryz.ntmps99
  go_wp2_with fail
  refine (cable_end_no c to ht w).mono ?_
  rintro e w' ⟨rfl,rfl⟩
  go_wp2_with fail
  refine (q_nil_At i w).mono ?_
  rintro e w' ⟨rfl,rfl⟩
  go_wp2
  go_ret2
  exact ⟨rfl,0,rfl⟩
theorem cable_Take (h:IsCable w c most s) (to i:Int) :
  Calls Tryz.prog 98 #[.pointer (some ⟨c,0,none⟩),.int .i64 to,.int .i64 i] w fun e w'=>e=.returned (.tuple #[strV (copyC s to i),.bool (copyC s to i).isSome])∧IsCable w' c most (takeC s to i)∧Keeps (ofCable c) w w':=by
 by_cases ht:okTo to
 ·by_cases hi:0≤i∧i<(s.get to).length
  ·obtain ⟨k,rfl⟩:=Int.eq_ofNat_of_zero_le hi.1
   have hk:k<(s.get to).length:=by omega
   have hcp:copyC s to k=some (s.get to)[k]:=by unfold copyC;rw[if_pos ⟨ht,hi.1⟩];simp[hk]
   have htk:takeC s to k=s.put to ((s.get to).eraseIdx k):=by unfold takeC;rw[if_pos ⟨ht,hi.1⟩];rfl
   rw[hcp,htk]
   have hv:=hid (show (s.get to)[k]?=some (s.get to)[k] by simp)
   clear hi hcp htk
   go_enter Tryz.func98,Tryz.ntmps98
   go_wp2_with fail
   refine (cable_end h to ht).mono ?_
   rintro e w' ⟨rfl,rfl⟩
   go_wp2_with fail
   refine (q_is_Take (h.ring to) k _ rfl _ hv.out).mono ?_
   rintro e w' ⟨rfl,hr,hk⟩
   go_wp2
   go_ret2
   exact ⟨rfl,h.put to hr hk,hk.mono (fun b _ hb=>end_of c to b hb)⟩
  ·have hno:i<0∨((s.get to).length:Int)≤i:=by omega
   rw[(copyC_no ht hno).1,(copyC_no ht hno).2]
   clear hi
   go_enter Tryz.func98,Tryz.ntmps98
   go_wp2_with fail
   refine (cable_end h to ht).mono ?_
   rintro e w' ⟨rfl,rfl⟩
   go_wp2_with fail
   refine (q_is_Take_no (h.ring to) i hno).mono ?_
   rintro e w' ⟨rfl,rfl⟩
   go_wp2
   go_ret2
   exact ⟨rfl,h,Keeps.refl _ _⟩
 ·have hcp:copyC s to i=none:=by unfold copyC;rw[if_neg (fun h=>ht h.1)]
  have htk:takeC s to i=s:=by unfold takeC;rw[if_neg (fun h=>ht h.1)]
  rw[hcp,htk]
  clear hcp htk
  go_enter Tryz.func98,Tryz.ntmps98
  go_wp2_with fail
  refine (cable_end_no c to ht w).mono ?_
  rintro e w' ⟨rfl,rfl⟩
  go_wp2_with fail
  refine (q_nil_Take i w).mono ?_
  rintro e w' ⟨rfl,rfl⟩
  go_wp2
  go_ret2
  exact ⟨rfl,h,Keeps.refl _ _⟩
def lenC (s:CS) (to:Int):Int:=if okTo to then ((s.get to).length:Int) else 0
theorem cable_Flying (h:IsCable w c most s) (to:Int) :
  Calls Tryz.prog 54 #[.pointer (some ⟨c,0,none⟩),.int .i64 to] w fun e w'=>e=.returned (.int .i64 (lenC s to))∧w=w':=by
 unfold lenC
 by_cases ht:okTo to
 ·rw[if_pos ht]
  go_enter Tryz.func54,Tryz.ntmps54
  go_wp2_with fail
  refine (cable_end h to ht).mono ?_
  rintro e w' ⟨rfl,rfl⟩
  go_wp2_with fail
  refine (q_is_Len (h.ring to)).mono ?_
  rintro e w' ⟨rfl,rfl⟩
  go_wp2
  go_ret
  exact ⟨rfl,rfl⟩
 ·rw[if_neg ht]
  go_enter Tryz.func54,Tryz.ntmps54
  go_wp2_with fail
  refine (cable_end_no c to ht w).mono ?_
  rintro e w' ⟨rfl,rfl⟩
  go_wp2_with fail
  refine (q_nil_Len w).mono ?_
  rintro e w' ⟨rfl,rfl⟩
  go_wp2
  go_ret
  exact ⟨rfl,rfl⟩
theorem IsCable.setLost (h:IsCable w c most s) (n:Int):IsCable (w.setCell ⟨c,2,none⟩ (.int .i64 n)) c most { s with lost:=n }:=
 ⟨by simpa using blk_set h.head 2 (.int .i64 n),h.ra.keeps (S:=fun b=>b=c) ((Keeps.refl (fun b=>b=c) w).setCell (p:=⟨c,2,none⟩) rfl _) (by omega) (by omega),h.rb.keeps (S:=fun b=>b=c) ((Keeps.refl (fun b=>b=c) w).setCell (p:=⟨c,2,none⟩) rfl _) (by omega) (by omega)⟩
def dropC (s:CS) (to i:Int):CS:=if (copyC s to i).isSome then { takeC s to i with lost:=s.lost+1 } else s
theorem takeC_lost (s:CS) (to i:Int):(takeC s to i).lost=s.lost:=by unfold takeC CS.put;split<;>(try split)<;>rfl
theorem takeC_none {to i:Int} (h:copyC s to i=none):takeC s to i=s:=by
 unfold copyC at h
 unfold takeC
 split
 ·rename_i hc
  rw[if_pos hc] at h
  rw[List.eraseIdx_of_length_le (by simpa using h),CS.put_get]
 ·rfl
theorem cable_Drop (h:IsCable w c most s) (hl:0≤s.lost∧s.lost≤1000000) (to i:Int) :
  Calls Tryz.prog 101 #[.pointer (some ⟨c,0,none⟩),.int .i64 to,.int .i64 i] w fun e w'=>e=.returned (.bool (copyC s to i).isSome)∧IsCable w' c most (dropC s to i)∧Keeps (ofCable c) w w':=by
 have hT:=hid (cable_Take h to i)
 have hlo:=takeC_lost s to i
 unfold dropC
 cases hc:(copyC s to i) with
 | none=>
  have htn:=takeC_none hc
  rw[hc,htn] at hT
  clear hc htn hlo
  go_enter Tryz.func101,Tryz.ntmps101
  go_wp2_with fail
  refine hT.out.mono ?_
  rintro e w2 ⟨rfl,h2,k2⟩
  go_wp2
  go_ret
  exact ⟨rfl,h2,k2⟩
 | some v=>
  rw[hc] at hT
  clear hc
  go_enter Tryz.func101,Tryz.ntmps101
  go_wp2_with fail
  refine hT.out.mono ?_
  rintro e w2 ⟨rfl,h2,k2⟩
  have c2:w2.cell? ⟨c,2,none⟩=some (.int .i64 s.lost):=by rw[←hlo];exact blk_cell h2.head rfl
  have f2:=blk_free h2.head 2
  clear hlo
  go_wp2
  go_ret
  exact ⟨rfl,h2.setLost _,k2.setCell (p:=⟨c,2,none⟩) ⟨by simp,by simp⟩ _⟩
end
end
section
open Go.RowKit
def okText (t:ByteArray):Prop:=0<t.size∧t.size≤256
instance (t:ByteArray):Decidable (okText t):=by unfold okText;infer_instance
def sendE (to:Int) (t:ByteArray):Int:=if ¬ okTo to∨t.size=0 then 1 else if 256<t.size then 5 else 0
def sendB (s:CS) (most:Nat) (to:Int) (t:ByteArray):Bool:=decide (okTo to∧okText t∧(s.get to).length<most)
def sendC (s:CS) (most:Nat) (to:Int) (t:ByteArray):CS:=if okTo to∧okText t then (if (s.get to).length<most then s.put to (s.get to++[t]) else { s with lost:=s.lost+1 }) else s
section
variable {w w':World} {c m most:Nat} {s:CS}
theorem empty_of (t:ByteArray) (h:t.size=0):t.toList.isEmpty=true:=by
 rw[ByteArray.toList_eq,show t.data.toList=[] from List.length_eq_zero_iff.1 (by simpa using h)];rfl
theorem nonempty_of (t:ByteArray) (h:0<t.size):t.toList.isEmpty=false:=by
 rw[ByteArray.toList_eq]
 cases hd:t.data.toList with
 | nil=>
  have h1:t.data.toList.length=t.size:=by simp
  rw[hd] at h1
  simp at h1
  omega
 | cons a l=>rfl
theorem send_no {to:Int} {t:ByteArray} (h:¬ (okTo to∧okText t)):sendB s most to t=false∧sendC s most to t=s:=by
 unfold sendB sendC
 rw[if_neg h]
 exact ⟨by simp;exact fun h1 h2=>absurd ⟨h1,h2⟩ h,rfl⟩
theorem cable_Send (h:IsCable w c most s) (hl:0≤s.lost∧s.lost≤1000000) (to:Int) (t:ByteArray) (hsz:t.size≤maxLen) :
  Calls Tryz.prog 61 #[.pointer (some ⟨c,0,none⟩),.int .i64 to,.string t] w fun e w'=>e=.returned (.tuple #[.bool (sendB s most to t),.int .i64 (sendE to t)])∧IsCable w' c most (sendC s most to t)∧Keeps (ofCable c) w w':=by
 unfold maxLen at hsz
 by_cases ht:okTo to
 ·by_cases h0:t.size=0
  ·have he:sendE to t=1:=by unfold sendE;rw[if_pos (.inr h0)]
   have hno:=send_no (s:=s) (most:=most) (to:=to) (t:=t) (fun hh=>by have:=hh.2.1;omega)
   rw[he,hno.1,hno.2]
   have hem:=empty_of t h0
   clear he hno h0
   go_enter Tryz.func61,Tryz.ntmps61
   go_wp2_with fail
   refine (cable_end h to ht).mono ?_
   rintro e w' ⟨rfl,rfl⟩
   go_wp2_with fail
   go_ret2
   exact ⟨rfl,h,Keeps.refl _ _⟩
  ·have hem:=nonempty_of t (by omega)
   by_cases h1:256<t.size
   ·have he:sendE to t=5:=by unfold sendE;rw[if_neg (by simp[ht,h0]),if_pos h1]
    have hno:=send_no (s:=s) (most:=most) (to:=to) (t:=t) (fun hh=>by have:=hh.2.2;omega)
    rw[he,hno.1,hno.2]
    clear he hno h0
    go_enter Tryz.func61,Tryz.ntmps61
    go_wp2_with fail
    refine (cable_end h to ht).mono ?_
    rintro e w' ⟨rfl,rfl⟩
    go_wp2_with fail
    go_ret2
    exact ⟨rfl,h,Keeps.refl _ _⟩
   ·have he:sendE to t=0:=by unfold sendE;rw[if_neg (by simp[ht,h0]),if_neg h1]
    have hok:okText t:=⟨by omega,by omega⟩
    by_cases hf:(s.get to).length<most
    ·have hb:sendB s most to t=true:=by unfold sendB;simp[ht,hok,hf]
     have hc:sendC s most to t=s.put to (s.get to++[t]):=by unfold sendC;rw[if_pos ⟨ht,hok⟩,if_pos hf]
     rw[he,hb,hc]
     clear he hb hc h0
     go_enter Tryz.func61,Tryz.ntmps61
     go_wp2_with fail
     refine (cable_end h to ht).mono ?_
     rintro e w' ⟨rfl,rfl⟩
     go_wp2_with fail
     refine (q_is_Push (h.ring to) hf t).mono ?_
     rintro e w' ⟨rfl,hr,hk⟩
     go_wp2_with fail
     go_ret2
     exact ⟨rfl,h.put to hr hk,hk.mono (fun b _ hb=>end_of c to b hb)⟩
    ·have hb:sendB s most to t=false:=by unfold sendB;simp[hf]
     have hc:sendC s most to t={ s with lost:=s.lost+1 }:=by unfold sendC;rw[if_pos ⟨ht,hok⟩,if_neg hf]
     rw[he,hb,hc]
     have hfl:(s.get to).length=most:=by have:=(h.ring to).le.1;omega
     have Hfl:=hid hfl
     clear he hb hc h0 hf hfl
     go_enter Tryz.func61,Tryz.ntmps61
     go_wp2_with fail
     refine (cable_end h to ht).mono ?_
     rintro e w' ⟨rfl,rfl⟩
     go_wp2_with fail
     refine (q_is_Push_full (h.ring to) Hfl.out t).mono ?_
     rintro e w2 ⟨rfl,hr,hk⟩
     have h2:=h.put to hr hk
     rw[CS.put_get] at h2
     have c2:w2.cell? ⟨c,2,none⟩=some (.int .i64 s.lost):=blk_cell h2.head rfl
     have f2:=blk_free h2.head 2
     go_wp2_with fail
     go_ret2
     exact ⟨rfl,h2.setLost _,(hk.mono (fun b _ hb=>end_of c to b hb)).setCell (p:=⟨c,2,none⟩) ⟨by simp,by simp⟩ _⟩
 ·have he:sendE to t=1:=by unfold sendE;rw[if_pos (.inl ht)]
  have hno:=send_no (s:=s) (most:=most) (to:=to) (t:=t) (fun hh=>ht hh.1)
  rw[he,hno.1,hno.2]
  clear he hno
  go_enter Tryz.func61,Tryz.ntmps61
  go_wp2_with fail
  refine (cable_end_no c to ht w).mono ?_
  rintro e w' ⟨rfl,rfl⟩
  go_wp2_with fail
  go_ret2
  exact ⟨rfl,h,Keeps.refl _ _⟩
end
end
section
open Go.RowKit
section
variable {w w':World} {c m most:Nat} {s:CS}
def NewSt (w0 w:World) (c most:Nat) (k:Nat):Prop:=Below w0.heap.size w0 w∧w0.heap.size≤c∧
 ((k=0∧w.heap[c]?=some (.cells #[.pointer none,.pointer none,.int .i64 0] 184 (0,0))∧w.heap.size=c+1)∨
 (k=1∧w.heap[c]?=some (.cells #[.pointer (some ⟨c+2,0,none⟩),.pointer none,.int .i64 0] 184 (0,0))∧QIsRing w (c+2) (c+1) most ([]:List ByteArray)∧w.heap.size=c+3)∨
 (k=2∧IsCable w c most ⟨[],[],0⟩))
set_option maxHeartbeats 800000 in
theorem cable_New (most:Nat) (h1:1≤most) (h2:most≤64) (w:World) :
  Calls Tryz.prog 57 #[.int .i64 most] w fun e w'=>e=.returned (.tuple #[.pointer (some ⟨w.heap.size,0,none⟩),.int .i64 0])∧IsCable w' w.heap.size most ⟨[],[],0⟩∧Below w.heap.size w w':=by
 have h0:=hid (show NewSt w (w.alloc (.cells #[.pointer none,.pointer none,.int .i64 0] 184)) w.heap.size most 0 from ⟨(Below.refl _ w).alloc (Nat.le_refl _) _,Nat.le_refl _,.inl ⟨rfl,blk_new _ _,by simp⟩⟩)
 go_enter Tryz.func57,Tryz.ntmps57
 go_wp2_with fail
 go_loopw [16] (fun i wr=>∃ k:Nat,k≤2∧i=.int .i64 k∧Hid (NewSt w wr w.heap.size most k)) (fun i _=>2-(intOf i).toNat)
 case atStart=>exact ⟨0,by omega,rfl,h0⟩
 case round=>
  obtain ⟨k,hk,rfl,hN⟩:=hrel
  clear h0
  obtain ⟨b1,b2,hst⟩:=hN.out
  clear hN
  rcases hst with ⟨rfl,hh,hs⟩|⟨rfl,hh,hr,hs⟩|⟨rfl,hc⟩
  ·go_wp2_with fail
   refine (q_is_New2 most h1 (by omega) wr).mono ?_
   rintro e w2 ⟨rfl,hr2,hb2,hs2⟩
   rw[hs] at hr2 hs2 hb2
   have Hs:=hid hs
   have hh2:=(hb2.block w.heap.size (by omega)).trans hh
   have f0:=blk_free hh2 0
   have c0:w2.cell? ⟨w.heap.size,0,none⟩=some (.pointer none):=blk_cell hh2 rfl
   have Hs2:=hid hs2
   rw[hs]
   clear hs hs2
   go_wp2_with fail
   go_roundw
   case rel=>
    have hk:=(Keeps.refl (fun b=>b=w.heap.size) w2).setCell (p:=⟨w.heap.size,0,none⟩) rfl (.pointer (some ⟨w.heap.size+2,0,none⟩))
    refine ⟨1,by omega,rfl,b1.trans ((hb2.mono (by omega)).setCell (by simp) _),b2,.inr (.inl ⟨rfl,blk_set hh2 0 (.pointer (some ⟨w.heap.size+2,0,none⟩)),hr2.keeps hk (by omega) (by omega),?_⟩)⟩
    rw[World.size_setCell,Hs2.out]
   case measure=>simp[intOf]
  ·go_wp2_with fail
   refine (q_is_New2 most h1 (by omega) wr).mono ?_
   rintro e w2 ⟨rfl,hr2,hb2,hs2⟩
   rw[hs] at hr2 hs2 hb2
   have Hs:=hid hs
   have hh2:=(hb2.block w.heap.size (by omega)).trans hh
   have f0:=blk_free hh2 1
   have c0:w2.cell? ⟨w.heap.size,1,none⟩=some (.pointer none):=blk_cell hh2 rfl
   have hra:=hr.keeps (S:=fun b=>w.heap.size+3≤b) (Keeps.of_below hb2 (fun _ _ h=>h)) (by omega) (by omega)
   rw[hs]
   clear hs hs2 hr
   go_wp2_with fail
   go_roundw
   case rel=>
    have hk:=(Keeps.refl (fun b=>b=w.heap.size) w2).setCell (p:=⟨w.heap.size,1,none⟩) rfl (.pointer (some ⟨w.heap.size+4,0,none⟩))
    exact ⟨2,by omega,rfl,b1.trans ((hb2.mono (by omega)).setCell (by simp) _),b2,.inr (.inr ⟨rfl,⟨blk_set hh2 1 (.pointer (some ⟨w.heap.size+4,0,none⟩)),hra.keeps hk (by omega) (by omega),hr2.keeps hk (by omega) (by omega)⟩⟩)⟩
   case measure=>simp[intOf]
  ·go_wp2_with fail
   go_ret2
   exact ⟨rfl,hc,b1⟩
end
end
end Go.Proofs.YtalagblioepadaaGreatDoor
