/- The proof, part 45. -/
import Derived.Test.YtalagblioepadaaGreatDoorZa44
import Derived.Test.YtalagblioepadaaGreatDoorZa22
import Derived.Maps.RangeWalk
import Derived.Test.YtalagblioepadaaGreatDoorZa15
import Derived.Test.YtalagblioepadaaGreatDoorZa13
import Derived.Test.YtalagblioepadaaGreatDoorZa43
namespace Go.Proofs.YtalagblioepadaaGreatDoor
section
open Go.RowKit
open Go.Maps
set_option maxRecDepth 10000
variable {w w':World}
theorem ev_Index0 (f:Value) (w:World):Calls Tryz.prog 339 #[.slice none 0 0,f] w fun e w'=>e=.returned (.int .i64 (-1))∧w=w':=by
 go_enter Tryz.func339,Tryz.ntmps339
 go_wp2_with fail
 go_loopg [8] 0 (fun g i wr=>i=.int .i64 0∧w=wr)
 case atStart=>exact ⟨rfl,rfl⟩
 case round=>
  obtain ⟨rfl,rfl⟩:=hrel
  go_wp2
  go_ret
  exact ⟨rfl,rfl⟩
theorem fe_Index0 (f:Value) (w:World):Calls Tryz.prog 228 #[.slice none 0 0,f] w fun e w'=>e=.returned (.int .i64 (-1))∧w=w':=by
 go_enter Tryz.func228,Tryz.ntmps228
 go_wp2_with fail
 go_loopg [8] 0 (fun g i wr=>i=.int .i64 0∧w=wr)
 case atStart=>exact ⟨rfl,rfl⟩
 case round=>
  obtain ⟨rfl,rfl⟩:=hrel
  go_wp2
  go_ret
  exact ⟨rfl,rfl⟩
theorem ev_Contains0 (f:Value) (w:World):Calls Tryz.prog 316 #[.slice none 0 0,f] w fun e w'=>e=.returned (.bool false)∧w=w':=by
 go_enter Tryz.func316,Tryz.ntmps316
 go_wp2_with fail
 refine (ev_Index0 f _).mono ?_
 rintro e _ ⟨rfl,rfl⟩
 go_wp2
 go_ret
 exact ⟨rfl,rfl⟩
theorem ev_Delete0 (f:Value) (w:World):Calls Tryz.prog 340 #[.slice none 0 0,f] w fun e w'=>e=.returned (.slice none 0 0)∧w=w':=by
 go_enter Tryz.func340,Tryz.ntmps340
 go_wp2_with fail
 refine (ev_Index0 f _).mono ?_
 rintro e _ ⟨rfl,rfl⟩
 go_wp2
 go_ret
 exact ⟨rfl,rfl⟩
theorem fe_Delete0 (f:Value) (w:World):Calls Tryz.prog 153 #[.slice none 0 0,f] w fun e w'=>e=.returned (.slice none 0 0)∧w=w':=by
 go_enter Tryz.func153,Tryz.ntmps153
 go_wp2_with fail
 refine (fe_Index0 f _).mono ?_
 rintro e _ ⟨rfl,rfl⟩
 go_wp2
 go_ret
 exact ⟨rfl,rfl⟩
theorem ev_Clone0 (w:World):Calls Tryz.prog 276 #[.slice none 0 0] w fun e w'=>e=.returned (.slice none 0 0)∧w=w':=by
 have heq:∀ W,(binOp .eql 66 (.slice none 0 0) (.slice none 0 0)).run Tryz.prog W=.ok (.bool true) W:=fun W=>by kernel_rfl
 go_enter Tryz.func276,Tryz.ntmps276
 go_wp2
 go_ret
 exact ⟨rfl,rfl⟩
theorem cm_Clone0 (w:World):Calls Tryz.prog 41 #[.slice none 0 0] w fun e w'=>e=.returned (.slice none 0 0)∧w=w':=by
 have heq:∀ W,(binOp .eql 32 (.slice none 0 0) (.slice none 0 0)).run Tryz.prog W=.ok (.bool true) W:=fun W=>by kernel_rfl
 go_enter Tryz.func41,Tryz.ntmps41
 go_wp2
 go_ret
 exact ⟨rfl,rfl⟩
theorem ev_keys (w:World):Calls Tryz.prog 338 #[.slice none 0 0] w fun e w'=>e=.returned (.func (.func 358) #[] #[.pointer (some ⟨w.heap.size,0,none⟩)])∧w.alloc (.cells #[.slice none 0 0] 66)=w':=by
 go_enter Tryz.func338,Tryz.ntmps338
 go_wp2
 go_ret
 exact ⟨rfl,rfl⟩
theorem ev_keys1 (b:Nat) (Wr:Nat→Prop) (hc:w.cell? ⟨b,0,none⟩=some (.slice none 0 0)) (encs:Empty→Array Value) :
  YieldsAll Tryz.prog 358 #[.pointer (some ⟨b,0,none⟩)] encs [] Wr (fun _=>False) w:=by
 intro l J W hl hk hsz hJ hY h0
 refine callsIn_wide.2 ?_
 have hcW:=hk.cell hc id
 clear hk hsz hJ hY hc
 go_enter Tryz.func358,Tryz.ntmps358
 go_wp2_with fail
 go_loopg [7] 0 (fun g i wr=>i=.int .i64 0∧W=wr)
 case atStart=>exact ⟨rfl,rfl⟩
 case round=>
  obtain ⟨rfl,rfl⟩:=hrel
  go_wp2
  go_end0
  exact ⟨⟨_,rfl⟩,h0⟩
theorem mp_Values1 (b c n:Nat) (R:Value→Option (DataW Unit×List MemPlace)) (Wr:Nat→Prop) (hm:w.ownsMap Tryz.prog 43 R b n (.map [])) (hc:w.cell? ⟨c,0,none⟩=some (.map (some b))) (encs:Empty→Array Value) :
  YieldsAll Tryz.prog 73 #[.pointer (some ⟨c,0,none⟩)] encs [] Wr (fun _=>False) w:=by
 intro l J W hl hk hsz hJ hY h0
 refine callsIn_wide.2 ?_
 have hcW:=hk.cell hc id
 have hmW:=map_keeps hm hk id
 have h0':=hid h0
 have hJ':=hid (fun B (hB:Keeps (fun _=>False) W B)=>hJ _ _ _ h0 hB)
 clear hk hsz hJ hY hc hm h0
 go_enter Tryz.func73,Tryz.ntmps73
 go_wp2_with (first|(refine wpList_range_own _ rfl _ _ rfl _ _ key_law Tryz.underlying115 R b n _ rfl hmW ?_;intro w1 hr1 hg1 hs1)|fail)
 have hn:(Instr.next (.pointer (some ⟨W.heap.size,0,none⟩)) false 0).run Tryz.prog w1=.ok (.tuple #[.bool false]) w1:=by
  rcases hr1.next key_law 0 with ⟨_,_,h⟩|⟨_,_,_,_,_,_,_,_,_,_,_,_,hlt,_⟩
  ·exact h
  ·exact absurd hlt (by simp[Maps.size])
 have hB1:=hJ'.out w1 ((Keeps.refl (fun _=>False) W).grown hg1 (fun k hk=>by cases hk))
 have HB:=hid hB1
 clear hB1 hr1 hg1 hs1
 simp only[Act.put,List.setIfInBounds_toArray,List.set_cons_succ,List.set_cons_zero]
 go_loopg [] 0 (fun g wr=>w1=wr)
 case atStart=>exact rfl
 case round=>
  subst hrel
  go_wp2_with fail
  go_end0
  exact ⟨⟨_,rfl⟩,HB.out⟩
attribute [local go_sem] Oper.semAt_some
theorem ev_rising0 (b:Nat) (hc:w.cell? ⟨b,0,none⟩=some (.slice none 0 0)):Calls Tryz.prog 337 #[.func (.func 358) #[] #[.pointer (some ⟨b,0,none⟩)]] w fun e w'=>e=.returned (.bool true)∧Keeps (fun _=>False) w w':=by
 have hlt:=World.block_lt_of_cell? w _ hc
 have hgf:∀ args w,(callFunc 358 args).run Tryz.prog w=.ok (.enter 358 args) w:=enters_of Tryz.func358 (by kernel_rfl) rfl
 have Hit:=hid (fun (W:World) (hk:Keeps (fun _=>False) w W)=>ev_keys1 (w:=W) b (fun _=>False) (hk.cell hc id) (fun x:Empty=>x.elim))
 clear hc
 refine (callsIn_wide (n:=0)).1 ?_
 refine callsIn_of_wp_marks Tryz.func337 rfl trivial ?_ rfl
 simp only[Tryz.ntmps337,List.size_toArray,List.length_cons,List.length_nil,Nat.reduceAdd,Nat.reduceSub,Array.replicate_succ,Array.replicate_zero,List.push_toArray,List.append_toArray,List.nil_append,List.cons_append]
 gi_wp2_with (fail)
 have k0:Keeps (fun _=>False) w ((w.alloc (.cells #[.bool false] 4)).alloc (.cells #[.int .i64 (-1),.int .i64 0,.int .i64 0,.int .i64 0] 43)):=((Keeps.refl _ w).alloc _).alloc _
 have hR:((w.alloc (.cells #[.bool false] 4)).alloc (.cells #[.int .i64 (-1),.int .i64 0,.int .i64 0,.int .i64 0] 43)).heap[w.heap.size]?=some (.cells #[.bool false] 4 (0,0)):=blk_alloc (blk_new w _) _
 have hs2:((w.alloc (.cells #[.bool false] 4)).alloc (.cells #[.int .i64 (-1),.int .i64 0,.int .i64 0,.int .i64 0] 43)).heap.size=w.heap.size+2:=by simp
 generalize (w.alloc (.cells #[.bool false] 4)).alloc (.cells #[.int .i64 (-1),.int .i64 0,.int .i64 0,.int .i64 0] 43)=w0 at *
 refine wpIn_range (α:=Empty) (gf:=358) (lb:=#[.pointer (some ⟨b,0,none⟩)]) rfl hgf (fun x=>x.elim) [] (fun _=>False) (fun _=>False) (Hit.out _ k0) (by simp) (by simp)
  (fun pre W=>Keeps (fun _=>False) w W∧W.heap[w.heap.size]?=some (.cells #[.bool false] 4 (0,0)))
  (fun pre A B ⟨i1,i2⟩ hsz hk=>⟨keeps_past i1 hk (fun k hk' e=>by rw[hs2] at e;simp at e;omega),hk.heap i2 (fun e=>by rw[hs2] at e;simp at e;omega)⟩)
  ⟨k0,hR⟩ (fun x=>x.elim) ?assign ?body ?done
 case assign=>intro l x;exact x.elim
 case body=>intro l pre x;exact x.elim
 case done=>
  rintro W ⟨i1,i2⟩ hD
  have cv:=cell_of_one i2
  have fv:=free_of_one i2
  gi_wp2
  have hD2:=(Keeps.setCell (S:=fun j=>j=w.heap.size) (Keeps.refl _ W) (p:=⟨w.heap.size,0,none⟩) rfl (.bool true)).heap hD (by omega)
  have hr2:=blk_set i2 0 (.bool true)
  have hk3:=keeps_past i1 (Keeps.setCell (S:=fun j=>j=w.heap.size) (Keeps.refl _ W) (p:=⟨w.heap.size,0,none⟩) rfl (.bool true)) (fun k hk e=>by omega)
  generalize W.setCell ⟨w.heap.size,0,none⟩ (.bool true)=W2 at *
  refine ⟨by simp,.inl ⟨_,_,rfl,run_takeDeferred hD2,?_⟩⟩
  have hr3:=((Keeps.refl (fun j=>j=w0.heap.size) W2).putObj (l:=w0.heap.size) rfl (.deferred none)).heap hr2 (by omega)
  have hk4:=keeps_past hk3 ((Keeps.refl (fun j=>j=w0.heap.size) W2).putObj (l:=w0.heap.size) rfl (.deferred none)) (fun k hk e=>by omega)
  have cv3:=cell_of_one (v:=.bool true) (by simpa using hr3)
  refine ⟨.bool true,by simp[results,Tryz.results337,asAddr,loadVar,Tryz.isAgg4,go_sem,cv3],rfl,hk4⟩
end
section
open Go.RowKit
open Go.Maps
set_option maxRecDepth 10000
attribute [local go_sem] Oper.semAt_some
variable {w w':World}
theorem ev_Append0 (gf:Nat) (lb:Array Value) (hgf:∀ args w,(callFunc gf args).run Tryz.prog w=.ok (.enter gf args) w)
  (hit:∀ W,Keeps (fun _=>False) w W→YieldsAll Tryz.prog gf lb (fun x:Empty=>x.elim) [] (fun _=>False) (fun _=>False) W) :
  Calls Tryz.prog 120 #[.slice none 0 0,.func (.func gf) #[] lb] w fun e w'=>e=.returned (.slice none 0 0)∧Keeps (fun _=>False) w w':=by
 have Hit:=hid hit
 clear hit
 refine (callsIn_wide (n:=0)).1 ?_
 refine callsIn_of_wp_marks Tryz.func120 rfl trivial ?_ rfl
 simp only[Tryz.ntmps120,List.size_toArray,List.length_cons,List.length_nil,Nat.reduceAdd,Nat.reduceSub,Array.replicate_succ,Array.replicate_zero,List.push_toArray,List.append_toArray,List.nil_append,List.cons_append]
 gi_wp2_with (fail)
 have k0:Keeps (fun _=>False) w (w.alloc (.cells #[.slice none 0 0] 66)):=(Keeps.refl _ w).alloc _
 have hB:=blk_new w (.cells #[.slice none 0 0] 66)
 have hs2:(w.alloc (.cells #[.slice none 0 0] 66)).heap.size=w.heap.size+1:=by simp
 generalize w.alloc (.cells #[.slice none 0 0] 66)=w0 at *
 refine wpIn_range (α:=Empty) (gf:=gf) (lb:=lb) rfl hgf (fun x=>x.elim) [] (fun _=>False) (fun _=>False) (Hit.out _ k0) (by simp) (by simp)
  (fun pre W=>Keeps (fun _=>False) w W∧W.heap[w.heap.size]?=some (.cells #[.slice none 0 0] 66 (0,0)))
  (fun pre A B ⟨i1,i2⟩ hsz hk=>⟨keeps_past i1 hk (fun k hk' e=>by rw[hs2] at e;simp at e;omega),hk.heap i2 (fun e=>by rw[hs2] at e;simp at e;omega)⟩)
  ⟨k0,hB⟩ (fun x=>x.elim) ?assign ?body ?done
 case assign=>intro l x;exact x.elim
 case body=>intro l pre x;exact x.elim
 case done=>
  rintro W ⟨i1,i2⟩ hD
  have cv:=cell_of_one i2
  gi_wp2
  refine ⟨by simp,.inl ⟨_,_,rfl,run_takeDeferred hD,?_⟩⟩
  refine ⟨_,results_tmp rfl _ _ _,rfl,keeps_past i1 ((Keeps.refl (fun j=>j=w0.heap.size) W).putObj (l:=w0.heap.size) rfl (.deferred none)) (fun k hk e=>by omega)⟩
theorem ev_Insert0 (f:Value) (w:World):Calls Tryz.prog 179 #[.slice none 0 0,.int .i64 0,.int .i64 0,f] w fun e w'=>e=.returned (.tuple #[])∧w=w':=by
 go_enter Tryz.func179,Tryz.ntmps179
 go_wp2_with fail
 go_loopg [8] 0 (fun g i wr=>i=.int .i64 1∧w=wr)
 case atStart=>exact ⟨rfl,rfl⟩
 case round=>
  obtain ⟨rfl,rfl⟩:=hrel
  go_wp2
  go_end0
  exact ⟨rfl,rfl⟩
theorem ev_Pdq0 (k:Int) (f:Value) (w:World):Calls Tryz.prog 121 #[.slice none 0 0,.int .i64 0,.int .i64 0,.int .i64 k,f] w fun e w'=>e=.returned (.tuple #[])∧w=w':=by
 go_enter Tryz.func121,Tryz.ntmps121
 go_wp2_with fail
 go_loopg [1,2] 0 (fun g a b wr=>a=.int .i64 0∧b=.int .i64 0∧w=wr)
 case atStart=>exact ⟨rfl,rfl,rfl⟩
 case round=>
  obtain ⟨rfl,rfl,rfl⟩:=hrel
  go_wp2_with fail
  refine (ev_Insert0 f _).mono ?_
  rintro e _ ⟨rfl,rfl⟩
  go_wp2
  refine bodyPost_ret (v:=.tuple #[]) (by first|rfl|simp[results,go_sem]) rfl ?_
  exact ⟨rfl,rfl⟩
theorem bt_Len0 (w:World):Calls Tryz.prog 122 #[.int .u64 0] w fun e w'=>e=.returned (.int .i64 0)∧w=w':=by
 have h:=hid (bt_Len64 0 (by omega))
 go_enter Tryz.func122,Tryz.ntmps122
 go_wp2_with fail
 refine (h.out _).mono ?_
 rintro e _ ⟨rfl,rfl⟩
 go_wp2
 go_ret
 exact ⟨rfl,rfl⟩
theorem ev_Sort0 (f:Value) (w:World):Calls Tryz.prog 72 #[.slice none 0 0,f] w fun e w'=>e=.returned (.tuple #[])∧w=w':=by
 go_enter Tryz.func72,Tryz.ntmps72
 go_wp2_with fail
 refine (bt_Len0 _).mono ?_
 rintro e _ ⟨rfl,rfl⟩
 go_wp2_with fail
 refine (ev_Pdq0 _ f _).mono ?_
 rintro e _ ⟨rfl,rfl⟩
 go_wp2
 go_end0
 exact ⟨rfl,rfl⟩
theorem ev_Live0 (b n:Nat) (R:Value→Option (DataW Unit×List MemPlace)) (hm:w.ownsMap Tryz.prog 43 R b n (.map [])) (f:Value) :
  Calls Tryz.prog 45 #[.func (.func 73) #[] #[.pointer (some ⟨w.heap.size,0,none⟩)],f] (w.alloc (.cells #[.map (some b)] 115)) fun e w'=>e=.returned (.slice none 0 0)∧Keeps (fun _=>False) w w':=by
 have k0:Keeps (fun _=>False) w (w.alloc (.cells #[.map (some b)] 115)):=(Keeps.refl _ w).alloc _
 have hm0:=map_keeps hm k0 id
 have hc0:=blk_cell (k:=0) (blk_new w (.cells #[.map (some b)] 115)) rfl
 have hgf:∀ args w,(callFunc 73 args).run Tryz.prog w=.ok (.enter 73 args) w:=enters_of Tryz.func73 (by kernel_rfl) rfl
 generalize w.alloc (.cells #[.map (some b)] 115)=w0 at *
 have hA:=hid (ev_Append0 (w:=w0) 73 #[.pointer (some ⟨w.heap.size,0,none⟩)] hgf (fun W hk=>mp_Values1 (w:=W) b w.heap.size n R (fun _=>False) (map_keeps hm0 hk id) (hk.cell hc0 id) (fun x=>x.elim)))
 have hC:Calls Tryz.prog 71 #[.func (.func 73) #[] #[.pointer (some ⟨w.heap.size,0,none⟩)]] w0 fun e w'=>e=.returned (.slice none 0 0)∧Keeps (fun _=>False) w0 w':=by
  go_enter Tryz.func71,Tryz.ntmps71
  go_wp2_with fail
  refine hA.out.mono ?_
  rintro e w1 ⟨rfl,hk1⟩
  go_wp2
  go_ret
  exact ⟨rfl,hk1⟩
 clear hgf hm0 hc0 hA
 have HC:=hid hC
 clear hC
 go_enter Tryz.func45,Tryz.ntmps45
 go_wp2_with fail
 refine HC.out.mono ?_
 rintro e w1 ⟨rfl,hk1⟩
 go_wp2_with fail
 refine (ev_Sort0 f _).mono ?_
 rintro e _ ⟨rfl,rfl⟩
 go_wp2
 go_ret
 exact ⟨rfl,k0.trans hk1⟩
end
section
open Go.RowKit
open Go.Maps
set_option maxRecDepth 10000
variable {w w':World} {b:PeB} {s:Pe}
theorem le_Committed (h:IsPeer w b s):Calls Tryz.prog 17 #[.pointer (some ⟨b.ld,0,none⟩)] w fun e w'=>e=.returned (.int .i64 s.com)∧w=w':=by
 have d3:=blk_cell (k:=3) h.led rfl
 go_enter Tryz.func17,Tryz.ntmps17
 go_wp2
 go_ret
 exact ⟨rfl,rfl⟩
theorem le_Live (h:IsPeer w b s):Calls Tryz.prog 23 #[.pointer (some ⟨b.ld,0,none⟩)] w fun e w'=>e=.returned (.slice none 0 0)∧Keeps (fun _=>False) w w':=by
 have d1:=blk_cell (k:=1) h.led rfl
 have hL:=hid (ev_Live0 b.lv 0 noKey h.live (.func (.func 47) #[] #[]))
 have hV:∀ (m:Nat) (W:World),Calls Tryz.prog 46 #[.map (some m)] W fun e w'=>e=.returned (.func (.func 73) #[] #[.pointer (some ⟨W.heap.size,0,none⟩)])∧W.alloc (.cells #[.map (some m)] 115)=w':=by
  intro m W
  go_enter Tryz.func46,Tryz.ntmps46
  go_wp2
  go_ret
  exact ⟨rfl,rfl⟩
 have HV:=hid hV
 clear hV h
 go_enter Tryz.func23,Tryz.ntmps23
 go_wp2_with fail
 refine (HV.out b.lv _).mono ?_
 rintro e w1 ⟨rfl,rfl⟩
 go_wp2_with fail
 refine hL.out.mono ?_
 rintro e w1 ⟨rfl,hk⟩
 go_wp2
 go_ret
 exact ⟨rfl,hk⟩
theorem le_of (h:IsPeer w b s) (f:Int):Calls Tryz.prog 317 #[.pointer (some ⟨b.ld,0,none⟩),.int .i64 f] w fun e w'=>e=.returned (.slice none 0 0)∧Keeps (fun _=>False) w w':=by
 have k0:=(Keeps.refl (fun _=>False) w).alloc (.cells #[.int .i64 f] 3)
 have hL:=hid (le_Live (h.keep k0))
 clear h
 go_enter Tryz.func317,Tryz.ntmps317
 go_wp2_with fail
 refine hL.out.mono ?_
 rintro e w1 ⟨rfl,hk⟩
 go_wp2_with fail
 refine (ev_Delete0 _ _).mono ?_
 rintro e _ ⟨rfl,rfl⟩
 go_wp2
 go_ret
 exact ⟨rfl,k0.trans hk⟩
theorem ev_Ordered0 (w:World):Calls Tryz.prog 315 #[.slice none 0 0] w fun e w'=>e=.returned (.bool true)∧Keeps (fun _=>False) w w':=by
 have k0:=(Keeps.refl (fun _=>False) w).alloc (.cells #[.slice none 0 0] 66)
 have hR:=hid (ev_rising0 w.heap.size (blk_cell (k:=0) (blk_new w (.cells #[.slice none 0 0] 66)) rfl))
 go_enter Tryz.func315,Tryz.ntmps315
 go_wp2_with fail
 refine (ev_Contains0 _ _).mono ?_
 rintro e _ ⟨rfl,rfl⟩
 go_wp2_with fail
 refine (ev_keys _).mono ?_
 rintro e _ ⟨rfl,rfl⟩
 go_wp2_with fail
 refine hR.out.mono ?_
 rintro e w1 ⟨rfl,hk⟩
 go_wp2
 go_ret
 exact ⟨rfl,k0.trans hk⟩
theorem le_cancel (h:IsPeer w b s) (f:Int):Calls Tryz.prog 274 #[.pointer (some ⟨b.ld,0,none⟩),.agg #[.int .i64 f,.slice none 0 0]] w fun e w'=>e=.returned (.slice none 0 0)∧Keeps (fun _=>False) w w':=by
 have k0:=(Keeps.refl (fun _=>False) w).alloc (.cells #[.int .i64 f,.slice none 0 0] 271)
 have hO:=hid (le_of (h.keep k0) f)
 clear h
 go_enter Tryz.func274,Tryz.ntmps274
 go_wp2_with fail
 refine hO.out.mono ?_
 rintro e w1 ⟨rfl,hk⟩
 have hk2:=k0.trans hk
 clear hk k0
 go_wp2_with fail
 go_loopg [5,14] 0 (fun g o i wr=>o=.slice none 0 0∧i=.int .i64 0∧w1=wr)
 case atStart=>exact ⟨rfl,rfl,rfl⟩
 case round=>
  obtain ⟨rfl,rfl,rfl⟩:=hrel
  go_wp2
  go_ret
  exact ⟨rfl,hk2⟩
theorem le_fits (h:IsPeer w b s) (f now:Int) (hh:s.lh=false) (hc:s.com<f) (hn:f≤now∧now≤1073741824):Calls Tryz.prog 273 #[.pointer (some ⟨b.ld,0,none⟩),.agg #[.int .i64 f,.slice none 0 0],.int .i64 now] w fun e w'=>e=.returned (.int .i64 0)∧Keeps (fun _=>False) w w':=by
 have k0:=(Keeps.refl (fun _=>False) w).alloc (.cells #[.int .i64 f,.slice none 0 0] 271)
 have hled:=h.led
 simp only[ldC,hh] at hled
 have hB:=blk_new w (.cells #[.int .i64 f,.slice none 0 0] 271)
 have hled:=k0.heap hled id
 obtain ⟨d3,d4⟩:=bc2 3 4 hled ⟨rfl,rfl⟩
 clear h
 go_enter Tryz.func273,Tryz.ntmps273
 go_wp2_with fail
 refine (ev_Ordered0 _).mono ?_
 rintro e w1 ⟨rfl,hk⟩
 obtain ⟨b0,b1⟩:=bc2 0 1 (hk.heap hB id) ⟨rfl,rfl⟩
 have d3:=blk_cell (k:=3) (hk.heap hled id) rfl
 have hk2:=k0.trans hk
 clear hk k0 hB hled
 go_wp2_with fail
 refine (ev_Contains0 _ _).mono ?_
 rintro e _ ⟨rfl,rfl⟩
 go_wp2_with fail
 go_quiet (fail)
 go_wp2
 go_ret
 exact ⟨rfl,hk2.drewN _⟩
section
variable {P:Program} {o:Oper} {a:Act} {K:Act→World→Prop} {Q:Exit→Act→World→Prop} {w w':World}
theorem wp_run_update {t:TypeId} {m x y:Operand} {mv key v:Value} (ho:o.op=.mapUpdate t m x y) (hm:a.eval m=mv) (hx:a.eval x=key) (hy:a.eval y=v) (hrun:(Instr.mapUpdate t mv key v).run P w=.ok () w') (h:K (a.put o.dst undef) w'):o.wp P a w K Q:=by
 unfold Oper.wp
 simp only[execOp,ho,hm,hx,hy,Sem.run_bind,hrun,Result.andThen_ok,Sem.run_pure]
 exact h
theorem map_clear {k e t ty:TypeId} {R:Value→Option (DataW Unit×List MemPlace)} {b:Nat} (h:w.ownsMap P k R b 0 (.map [])) (ht:P.underlying t=some (.map k e)):∃ w',(Builtin.clear_ #[t] ty #[.map (some b)]).run P w=.ok (.tuple #[]) w'∧w'.ownsMap P k R b 0 (.map [])∧Keeps (fun j=>j=b) w w':=by
 obtain ⟨es,clock,hb,F,hs,hD⟩:=h
 have he:es=#[]:=Array.eq_empty_of_size_eq_zero (by omega)
 subst he
 refine ⟨w.putObj b (.map #[] clock),?_,⟨#[],clock,World.putObj_heap_same (Array.getElem?_eq_some_iff.1 hb).1,F,hs,hD⟩,(Keeps.refl (fun j=>j=b) w).putObj (l:=b) rfl _⟩
 simp[Builtin.clear_,run_underlying ht,MapKept.run_getObj_map hb,MapKept.run_setObj_map _ hb,Result.andThen]
 rfl
end
theorem i64_wf {n:Int} (h:-9223372036854775808≤n∧n≤9223372036854775807):(Lit.int .i64 n).wf=true:=by
 show (decide (-9223372036854775808≤n)&&decide (n≤9223372036854775807))=true
 simp[h]
set_option maxHeartbeats 1000000 in
theorem le_Tell (h:IsPeer w b s) (f now:Int) (hf:0≤f) (hh:s.lh=false) (hc:s.com<f) (hn:f≤now∧now≤1073741824) (ht:s.tn≤1000000) :
  Calls Tryz.prog 210 #[.pointer (some ⟨b.ld,0,none⟩),.agg #[.int .i64 f,.slice none 0 0],.int .i64 now] w fun e w'=>e=.returned (.tuple #[.slice none 0 0,.int .i64 0])∧IsPeer w' b { s with tn:=s.tn+1 }∧Keeps (fun j=>j=b.tl) w w':=by
 have k0:=(Keeps.refl (fun _=>False) w).alloc (.cells #[.int .i64 f,.slice none 0 0] 271)
 have hB:=blk_new w (.cells #[.int .i64 f,.slice none 0 0] 271)
 obtain ⟨b0,b1⟩:=bc2 0 1 hB ⟨rfl,rfl⟩
 have h0:=h.keep k0
 have hF:=hid (le_fits h0 f now hh hc hn)
 have H0:=hid h0
 have HB:=hid hB
 clear h h0 hB
 go_enter Tryz.func210,Tryz.ntmps210
 go_wp2_with fail
 refine hF.out.mono ?_
 rintro e w1 ⟨rfl,hk1⟩
 have h1:=H0.out.keep hk1
 have hB1:=hk1.heap HB.out id
 obtain ⟨b0,b1⟩:=bc2 0 1 hB1 ⟨rfl,rfl⟩
 have hC:=hid (le_cancel h1 f)
 have k01:=k0.trans hk1
 have H1:=hid h1
 have HB1:=hid hB1
 clear hF H0 HB hk1 k0 h1 hB1
 go_wp2_with fail
 refine hC.out.mono ?_
 rintro e w2 ⟨rfl,hk2⟩
 have h2:=H1.out.keep hk2
 have hB2:=hk2.heap HB1.out id
 obtain ⟨c0,c1⟩:=bc2 0 1 hB2 ⟨rfl,rfl⟩
 have k02:=k01.trans hk2
 clear hC H1 HB1 hk2 k01 b0 b1
 go_wp2_with fail
 go_loopg [9,29] 0 (fun g o i wr=>o=.slice none 0 0∧i=.int .i64 0∧w2=wr)
 case atStart=>exact ⟨rfl,rfl,rfl⟩
 case round=>
  obtain ⟨rfl,rfl,rfl⟩:=hrel
  have q0:∀ x:KeptS (fun _=>False) w2.drew,_:=keptS_cell (S:=fun _=>False) (w:=w2.drew) c0 id
  have q1:∀ x:KeptS (fun _=>False) w2.drew,_:=keptS_cell (S:=fun _=>False) (w:=w2.drew) c1 id
  have q2:∀ x:KeptS (fun _=>False) w2.drew,_:=keptS_cell (S:=fun _=>False) (w:=w2.drew) (blk_cell (k:=2) h2.led rfl) id
  obtain ⟨D,hD⟩:=h2.told
  obtain ⟨w3,hrun,hD3,hturn⟩:=World.ownsMap.store (w:=w2.drew) hD int_law Tryz.underlying116 (by simp only[maxLen];omega) (key:=.int .i64 f) (val:=.slice none 0 0) (keyOf_int_mk Tryz.underlying3 (i64_wf (by omega))) (show noEl (.slice none 0 0)=some (.nil,[]) from rfl)
  have k3:=map_turned_keeps hturn
  have h3:=(h2.keep (Keeps.refl _ w2).drew).setTold ⟨_,hD3⟩ k3
  go_wp2_with fail
  refine stages_start (by kernel_rfl) 10 rfl ?_
  refine stagek (fun _=>False) [0,1,2,3,4,5,6,7] [8] 1 rfl #[true,true,true,true,true,true,true,true,true,false] (by kernel_rfl) (by kernel_rfl) (fun _ _ _ d _ h=>by first|(cases d<;>exact h)|cases h.1) ?_
  simp only[opsAt,List.map_cons,List.map_nil,List.getElem?_toArray,List.getElem?_cons_zero,List.getElem?_cons_succ,Option.getD_some]
  repeat (go_big_quiet_step (fail))
  refine wpQuiet_nil ?_
  refine links_cons (by first|rfl|simp[go_sem]) (fun K hK=>?_)
  go_simp
  refine (ev_Clone0 _).mono ?_
  rintro e _ ⟨rfl,rfl⟩
  refine hK _ _ (keptS (Keeps.refl _ _)) ?_
  clear hK K
  try refine links_nil ?_
  refine ht_start (fun _=>True) [9] 0 1 rfl #[true,true,true,true,true,true,true,true,true,true] ?_
  refine ht_one (m:=0) 9 #[true,true,true,true,true,true,true,true,true,true] (by kernel_rfl) (by kernel_rfl) (by kernel_rfl) (by kernel_rfl) (by simp only[opAt,List.getElem?_toArray,List.getElem?_cons_zero,List.getElem?_cons_succ,Option.getD_some];first|rfl|simp[go_sem]) (fun K hK=>?_)
  simp only[opAt,List.getElem?_toArray,List.getElem?_cons_zero,List.getElem?_cons_succ,Option.getD_some]
  refine wp_run_update rfl rfl rfl rfl hrun ?_
  refine hK _ _ (trivial) ?_
  clear hK K
  simp only[Act.put]
  refine ht_nil (by kernel_rfl) ?_
  refine stages_end (by kernel_rfl) ?_
  have H3:=hid h3
  clear h3 h2 hD3 hturn hD hrun q0 q1 q2 c0 c1
  go_wp2
  go_ret2
  exact ⟨rfl,H3.out,((k02.trans (Keeps.refl (fun _=>False) w2).drew).mono (fun _ _ x=>x.elim)).trans k3⟩
set_option maxHeartbeats 1000000 in
theorem le_Commit (h:IsPeer w b s) (f:Int) (hf:f=s.com+1) (hr:-1≤s.com∧s.com≤1073741824) (hh:s.lh=false) :
  Calls Tryz.prog 147 #[.pointer (some ⟨b.ld,0,none⟩),.int .i64 f] w fun e w'=>e=.returned (.tuple #[.slice none 0 0,.int .i64 0])∧IsPeer w' b { s with com:=f }∧Keeps (fun j=>j=b.tl∨j=b.ld) w w':=by
 have hled:=h.led
 simp only[ldC,hh] at hled
 obtain ⟨d2,d3,d4⟩:=bc3 2 3 4 hled ⟨rfl,rfl,rfl⟩
 have e1:IntKind.i64.wrap (s.com+1)=s.com+1:=IntWalk.i64_in _ (by omega)
 have hkey:keyOf Tryz.prog 3 (.int .i64 f)=some (.int .i64 f):=keyOf_int_mk Tryz.underlying3 (i64_wf (by omega))
 have hz:(zeroValue 66).run Tryz.prog w=.ok (.slice none 0 0) w:=by kernel_rfl
 obtain ⟨D,hD⟩:=h.told
 obtain ⟨v,ps,hl,hv⟩:=World.ownsMap.lookup hD int_law Tryz.underlying116 hz (zd:=.nil) (zp:=[]) rfl hkey
 obtain ⟨rfl,_⟩:=noEl_inv hv
 obtain ⟨w2,hdel,hD2,hturn⟩:=hD.drop int_law Tryz.underlying116 hkey 0
 have k2:=map_turned_keeps hturn
 have h2:=h.setTold (n:=s.tn) ⟨_,hD2⟩ k2
 have hled2:=h2.led
 simp only[ldC,hh] at hled2
 have g3:=blk_free hled2 3
 have d32:=blk_cell (k:=3) hled2 rfl
 have hl3:=blk_set hled2 3 (.int .i64 f)
 have k3:=(Keeps.refl (fun j=>j=b.ld) w2).setCell (p:=⟨b.ld,3,none⟩) rfl (.int .i64 f)
 have h3:=h2.setLed (s':={ s with com:=f }) (by simpa[ldC,hh] using hl3) k3 rfl
 have kf:=(k2.mono (T:=fun j=>j=b.tl∨j=b.ld) (fun _ _ e=>.inl e)).trans (k3.mono fun _ _ e=>.inr e)
 have H3:=hid h3
 clear h h2 h3 hl3 hled hled2 hD hD2 hv hturn hz k2 k3
 subst hf
 go_enter Tryz.func147,Tryz.ntmps147
 go_wp2_with fail
 go_loopg [6,34] 0 (fun g o i wr=>o=.slice none 0 0∧i=.int .i64 0∧w=wr)
 case atStart=>exact ⟨rfl,rfl,rfl⟩
 case round=>
  obtain ⟨rfl,rfl,rfl⟩:=hrel
  go_wp2
  go_ret2
  exact ⟨rfl,H3.out,kf⟩
set_option maxHeartbeats 1000000 in
theorem le_Halt (h:IsPeer w b s) (hh:s.lh=false) :
  Calls Tryz.prog 97 #[.pointer (some ⟨b.ld,0,none⟩)] w fun e w'=>e=.returned (.slice none 0 0)∧IsPeer w' b { s with lh:=true }∧Keeps (fun j=>j=b.lv∨j=b.ld) w w':=by
 have hled:=h.led
 simp only[ldC,hh] at hled
 have d4:=blk_cell (k:=4) hled rfl
 have g4:=blk_free hled 4
 have hl2:=blk_set hled 4 (.bool true)
 have k2:=(Keeps.refl (fun j=>j=b.ld) w).setCell (p:=⟨b.ld,4,none⟩) rfl (.bool true)
 have h2:=h.setLed (s':={ s with lh:=true }) (by simpa[ldC,hh] using hl2) k2 rfl
 have hL:=hid (le_Live h2)
 have H2:=hid h2
 clear h h2 hl2 hled
 go_enter Tryz.func97,Tryz.ntmps97
 go_wp2_with fail
 refine hL.out.mono ?_
 rintro e w3 ⟨rfl,hk3⟩
 have h3:=H2.out.keep hk3
 have d1:w3.cell? ⟨b.ld,1,none⟩=some (.map (some b.lv)):=blk_cell (k:=1) h3.led rfl
 obtain ⟨w4,hclr,hm4,k4⟩:=map_clear (ty:=0) h3.live Tryz.underlying115
 have h4:=h3.setLive hm4 k4
 have kf:=(k2.mono (T:=fun j=>j=b.lv∨j=b.ld) (fun _ _ e=>.inr e)).trans ((hk3.mono fun _ _ x=>x.elim).trans (k4.mono fun _ _ e=>.inl e))
 have H4:=hid h4
 clear h3 h4 hm4 k4 k2 hk3 hL H2
 go_wp2_with fail
 go_loopg [3,20] 0 (fun g o i wr=>o=.slice none 0 0∧i=.int .i64 0∧w3=wr)
 case atStart=>exact ⟨rfl,rfl,rfl⟩
 case round=>
  obtain ⟨rfl,rfl,rfl⟩:=hrel
  go_wp2
  go_ret
  exact ⟨rfl,H4.out,kf⟩
end
section
open Go.RowKit
set_option maxRecDepth 100000
variable {w w':World}
theorem ea_Less0 (w:World):Calls Tryz.prog 142 #[.int .i32 0] w fun e w'=>e=.returned (.int .i32 0)∧w=w':=by
 go_enter Tryz.func142,Tryz.ntmps142
 go_wp2
 go_ret
 exact ⟨rfl,rfl⟩
theorem ea_New (w:World):Calls Tryz.prog 133 #[] w fun e w'=>e=.returned (.pointer (some ⟨w.heap.size,0,none⟩))∧w'=w.alloc (.cells #[.int .i32 0,.int .i32 0,.int .i32 0,.int .i32 0] 278):=by
 go_enter Tryz.func133,Tryz.ntmps133
 go_wp2
 go_ret
 exact ⟨rfl,rfl⟩
structure EaZ (b:Nat) (w w':World):Prop where
 blk:w'.heap[b]?=some (.cells #[.int .i32 0,.int .i32 0,.int .i32 0,.int .i32 0] 278 (0,0))
 kp:Keeps (fun j=>j=b) w w'
theorem EaZ.store {b:Nat} (h:EaZ b w w') (k:Nat) (hk:k<4):EaZ b w (w'.setCell ⟨b,k,none⟩ (.int .i32 0)):=by
 refine ⟨?_,h.kp.setCell rfl _⟩
 rw[blk_set h.blk]
 match k,hk with
 | 0,_=>rfl
 | 1,_=>rfl
 | 2,_=>rfl
 | 3,_=>rfl
set_option maxHeartbeats 1000000 in
theorem ea_Tick0 (b:Nat) (h:w.heap[b]?=some (.cells #[.int .i32 0,.int .i32 0,.int .i32 0,.int .i32 0] 278 (0,0))):Calls Tryz.prog 87 #[.pointer (some ⟨b,0,none⟩)] w fun e w'=>e=.returned (.bool false)∧w'.heap[b]?=some (.cells #[.int .i32 0,.int .i32 0,.int .i32 0,.int .i32 0] 278 (0,0))∧Keeps (fun j=>j=b) w w':=by
 go_enter Tryz.func87,Tryz.ntmps87
 go_wp2_with fail
 go_loopg [7] 2 (fun g i wr=>∃ k:Nat,g=2-k∧k≤2∧i=.int .i64 k∧wr.heap[b]?=some (.cells #[.int .i32 0,.int .i32 0,.int .i32 0,.int .i32 0] 278 (0,0))∧Keeps (fun j=>j=b) w wr)
 case atStart=>exact ⟨0,rfl,by omega,rfl,h,Keeps.refl _ w⟩
 case round=>
  obtain ⟨k,hg,hk,rfl,hB,hkk⟩:=hrel
  obtain ⟨c0,c1,c2,c3⟩:=bc4 0 1 2 3 hB ⟨rfl,rfl,rfl,rfl⟩
  obtain ⟨g0,g1,g2,g3⟩:=bf4 hB 0 1 2 3
  by_cases hlt:k<2
  ·have hk01:k=0∨k=1:=by omega
   rcases hk01 with rfl|rfl
   ·go_wp2_with fail
    have q0:∀ x:HeldC (EaZ b wr.drew),_:=heldC_blk (k:=0) (v:=.int .i32 0) (fun _ h=>h.blk) rfl
    have q1:∀ x:HeldC (EaZ b wr.drew),_:=heldC_blk (k:=1) (v:=.int .i32 0) (fun _ h=>h.blk) rfl
    have hZ:EaZ b wr.drew wr.drew:=⟨hB,Keeps.refl _ _⟩
    refine stages_start (by kernel_rfl) 18 rfl ?_
    have hne:Nonempty (HeldC (EaZ b wr.drew)):=⟨⟨_,hZ⟩⟩
    refine stageh (EaZ b wr.drew) (hZ) [0,1,2,3,4,5,7,8,9,10] [6,11,12,13,14,15,16,17] 0 rfl #[true,true,true,true,true,true,true,true,true,true,true,true,true,true,true,true,true,true] (by kernel_rfl) (by kernel_rfl) (fun _ _ _ d _ h=>by first|(cases d<;>exact h)|cases h.1) ?_
    simp only[opsAt,List.map_cons,List.map_nil,List.getElem?_toArray,List.getElem?_cons_zero,List.getElem?_cons_succ,Option.getD_some]
    repeat (go_big_quiet_step (fail))
    refine wpQuiet_nil ?_
    refine links_cons (by first|rfl|simp[go_sem]) (fun K hK=>?_)
    go_simp
    refine (ea_Less0 _).mono ?_
    rintro e _ ⟨rfl,rfl⟩
    refine hK _ _ (heldC (hZ)) ?_
    clear hK K
    try refine links_nil ?_
    refine links_cons (by first|rfl|simp[go_sem]) (fun K hK=>?_)
    go_simp
    refine (ea_Less0 _).mono ?_
    rintro e _ ⟨rfl,rfl⟩
    refine hK _ _ (heldC (hZ)) ?_
    clear hK K
    try refine links_nil ?_
    refine links_cons (by first|rfl|simp[go_sem]) (fun K hK=>?_)
    go_simp
    refine hK _ _ (heldC (hZ)) ?_
    clear hK K
    try refine links_nil ?_
    refine links_cons (by first|rfl|simp[go_sem]) (fun K hK=>?_)
    go_simp
    refine hK _ _ (heldC (hZ)) ?_
    clear hK K
    try refine links_nil ?_
    refine links_cons (by first|rfl|simp[go_sem]) (fun K hK=>?_)
    go_simp
    refine hK _ _ (heldC (hZ.store 0 (by omega))) ?_
    clear hK K
    try refine links_nil ?_
    refine links_cons (by first|rfl|simp[go_sem]) (fun K hK=>?_)
    go_simp
    refine hK _ _ (heldC (hZ.store 0 (by omega))) ?_
    clear hK K
    try refine links_nil ?_
    refine links_cons (by first|rfl|simp[go_sem]) (fun K hK=>?_)
    go_simp
    refine hK _ _ (heldC (hZ.store 0 (by omega))) ?_
    clear hK K
    try refine links_nil ?_
    refine links_cons (by first|rfl|simp[go_sem]) (fun K hK=>?_)
    go_simp
    refine hK _ _ (heldC ((hZ.store 0 (by omega)).store 1 (by omega))) ?_
    clear hK K
    try refine links_nil ?_
    refine stages_end (by kernel_rfl) ?_
    go_wp2_with fail
    have hf:=(hZ.store 0 (by omega)).store 1 (by omega)
    go_roundg 1
    case rel=>exact ⟨1,rfl,by omega,by go_num,hf.blk,hkk.trans ((Keeps.refl _ wr).drew.trans hf.kp)⟩
    case measure=>omega
   ·go_wp2_with fail
    have q0:∀ x:HeldC (EaZ b wr.drew),_:=heldC_blk (k:=2) (v:=.int .i32 0) (fun _ h=>h.blk) rfl
    have q1:∀ x:HeldC (EaZ b wr.drew),_:=heldC_blk (k:=3) (v:=.int .i32 0) (fun _ h=>h.blk) rfl
    have hZ:EaZ b wr.drew wr.drew:=⟨hB,Keeps.refl _ _⟩
    refine stages_start (by kernel_rfl) 18 rfl ?_
    have hne:Nonempty (HeldC (EaZ b wr.drew)):=⟨⟨_,hZ⟩⟩
    refine stageh (EaZ b wr.drew) (hZ) [0,1,2,3,4,5,7,8,9,10] [6,11,12,13,14,15,16,17] 0 rfl #[true,true,true,true,true,true,true,true,true,true,true,true,true,true,true,true,true,true] (by kernel_rfl) (by kernel_rfl) (fun _ _ _ d _ h=>by first|(cases d<;>exact h)|cases h.1) ?_
    simp only[opsAt,List.map_cons,List.map_nil,List.getElem?_toArray,List.getElem?_cons_zero,List.getElem?_cons_succ,Option.getD_some]
    repeat (go_big_quiet_step (fail))
    refine wpQuiet_nil ?_
    refine links_cons (by first|rfl|simp[go_sem]) (fun K hK=>?_)
    go_simp
    refine (ea_Less0 _).mono ?_
    rintro e _ ⟨rfl,rfl⟩
    refine hK _ _ (heldC (hZ)) ?_
    clear hK K
    try refine links_nil ?_
    refine links_cons (by first|rfl|simp[go_sem]) (fun K hK=>?_)
    go_simp
    refine (ea_Less0 _).mono ?_
    rintro e _ ⟨rfl,rfl⟩
    refine hK _ _ (heldC (hZ)) ?_
    clear hK K
    try refine links_nil ?_
    refine links_cons (by first|rfl|simp[go_sem]) (fun K hK=>?_)
    go_simp
    refine hK _ _ (heldC (hZ)) ?_
    clear hK K
    try refine links_nil ?_
    refine links_cons (by first|rfl|simp[go_sem]) (fun K hK=>?_)
    go_simp
    refine hK _ _ (heldC (hZ)) ?_
    clear hK K
    try refine links_nil ?_
    refine links_cons (by first|rfl|simp[go_sem]) (fun K hK=>?_)
    go_simp
    refine hK _ _ (heldC (hZ.store 2 (by omega))) ?_
    clear hK K
    try refine links_nil ?_
    refine links_cons (by first|rfl|simp[go_sem]) (fun K hK=>?_)
    go_simp
    refine hK _ _ (heldC (hZ.store 2 (by omega))) ?_
    clear hK K
    try refine links_nil ?_
    refine links_cons (by first|rfl|simp[go_sem]) (fun K hK=>?_)
    go_simp
    refine hK _ _ (heldC (hZ.store 2 (by omega))) ?_
    clear hK K
    try refine links_nil ?_
    refine links_cons (by first|rfl|simp[go_sem]) (fun K hK=>?_)
    go_simp
    refine hK _ _ (heldC ((hZ.store 2 (by omega)).store 3 (by omega))) ?_
    clear hK K
    try refine links_nil ?_
    refine stages_end (by kernel_rfl) ?_
    go_wp2_with fail
    have hf:=(hZ.store 2 (by omega)).store 3 (by omega)
    go_roundg 0
    case rel=>exact ⟨2,rfl,by omega,by go_num,hf.blk,hkk.trans ((Keeps.refl _ wr).drew.trans hf.kp)⟩
    case measure=>omega
  ·obtain rfl:k=2:=by omega
   have hne:∀ W,(binOp .neq 274 (.agg #[.int .i32 0,.int .i32 0,.int .i32 0,.int .i32 0]) (.agg #[.int .i32 0,.int .i32 0,.int .i32 0,.int .i32 0])).run Tryz.prog W=.ok (.bool false) W:=fun W=>by kernel_rfl
   go_wp2_with fail
   go_ret
   exact ⟨rfl,hB,hkk⟩
theorem fe_New (w:World):Calls Tryz.prog 132 #[] w fun e w'=>e=.returned (.pointer (some ⟨w.heap.size,0,none⟩))∧w'=w.alloc (.cells #[.slice none 0 0] 291):=by
 go_enter Tryz.func132,Tryz.ntmps132
 go_wp2
 go_ret
 exact ⟨rfl,rfl⟩
theorem fe_Drop0 (b:Nat) (h:w.heap[b]?=some (.cells #[.slice none 0 0] 291 (0,0))) (f:Int):Calls Tryz.prog 92 #[.pointer (some ⟨b,0,none⟩),.int .i64 f] w fun e w'=>e=.returned (.int .i64 0)∧w'.heap[b]?=some (.cells #[.slice none 0 0] 291 (0,0))∧Keeps (fun j=>j=b) w w':=by
 have hk0:=(Keeps.refl (fun _=>False) w).alloc (.cells #[.int .i64 f] 3)
 have hB:=hk0.heap h id
 have c0:=blk_cell (k:=0) hB rfl
 have g0:=blk_free hB 0
 have hs:=blk_set hB 0 (.slice none 0 0)
 have hk:=(hk0.mono fun _ _ x=>x.elim).trans ((Keeps.refl (fun j=>j=b) _).setCell (p:=⟨b,0,none⟩) rfl (.slice none 0 0))
 go_enter Tryz.func92,Tryz.ntmps92
 go_wp2_with fail
 refine (fe_Delete0 _ _).mono ?_
 rintro e _ ⟨rfl,rfl⟩
 go_wp2
 go_ret
 exact ⟨rfl,by simpa using hs,hk⟩
end
end Go.Proofs.YtalagblioepadaaGreatDoor
