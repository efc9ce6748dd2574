/- The proof, part 47. -/
import Derived.Test.YtalagblioepadaaGreatDoorZa46
namespace Go.Proofs.YtalagblioepadaaGreatDoor
section
open Go.RowKit
set_option maxRecDepth 10000
variable {w:World}
def freV (x f:Int):Array Value:=#[.int .i32 x,.int .i32 0,.int .i32 0,.int .i32 0,.int .i64 f,.int .i64 3,.int .i64 0,.int .i64 0,.int .i64 0,.int .i64 0]
theorem freV_one (x f:Int):(freV x f).toList.all (fun v=>v.oneCell')=true:=by kernel_rfl
theorem gm_fresh0 (w:World):Calls Tryz.prog 259 #[.int .i64 0] w fun e w'=>e=.returned (.agg (freV (-2097152) 0))∧Below w.heap.size w w':=by
 have hZ0:=blk_alloc (blk_new w (.cells #[.int .i32 0,.int .i32 0,.int .i32 0,.int .i32 0,.int .i64 0,.int .i64 0,.int .i64 0,.int .i64 0,.int .i64 0,.int .i64 0] 93)) (.cells #[.int .i32 0,.int .i32 0,.int .i32 0,.int .i32 0,.int .i64 0,.int .i64 0,.int .i64 0,.int .i64 0,.int .i64 0,.int .i64 0] 93)
 have hZ1:=blk_new (w.alloc (.cells #[.int .i32 0,.int .i32 0,.int .i32 0,.int .i32 0,.int .i64 0,.int .i64 0,.int .i64 0,.int .i64 0,.int .i64 0,.int .i64 0] 93)) (.cells #[.int .i32 0,.int .i32 0,.int .i32 0,.int .i32 0,.int .i64 0,.int .i64 0,.int .i64 0,.int .i64 0,.int .i64 0,.int .i64 0] 93)
 rw[World.size_alloc] at hZ1
 obtain ⟨hst,_,hk1⟩:=store_all _ 93 10 (w.heap.size+1) (freV (-2097152) 0) _ Tryz.sizeOf93 rfl rfl hZ1 (freV_one _ _)
 have hB1:=setRow_at _ (w.heap.size+1) _ (freV (-2097152) 0) 93 hZ1
 have hZ2:=hk1.heap hZ0 (by omega)
 have k1:=(((Keeps.refl (fun j=>j=w.heap.size∨j=w.heap.size+1) w).alloc (.cells #[.int .i32 0,.int .i32 0,.int .i32 0,.int .i32 0,.int .i64 0,.int .i64 0,.int .i64 0,.int .i64 0,.int .i64 0,.int .i64 0] 93)).alloc (.cells #[.int .i32 0,.int .i32 0,.int .i32 0,.int .i32 0,.int .i64 0,.int .i64 0,.int .i64 0,.int .i64 0,.int .i64 0,.int .i64 0] 93)).trans (hk1.mono fun _ _ e=>.inr e)
 clear hZ0 hZ1 hk1
 generalize World.setRow _ _ _=w1 at *
 unfold freV at hst
 have hl:=run_load_agg (P:=Tryz.prog) 93 10 (w.heap.size+1) 0 (freV (-2097152) 0) _ _ Tryz.isAgg93 Tryz.sizeOf93 rfl hB1 (fun j u hj=>by rw[Nat.zero_add];exact hj)
 obtain ⟨hst2,hload,hk2⟩:=store_all _ 93 10 w.heap.size (freV (-2097152) 0) _ Tryz.sizeOf93 rfl rfl hZ2 (freV_one _ _)
 have kf:=(k1.trans (hk2.mono fun _ _ e=>.inl e)).below (B:=w.heap.size) (Nat.le_refl _) (fun k h1 h2=>by omega)
 clear hB1 hZ2 k1 hk2
 have e0:((0:Int) == 1)=false:=by decide
 go_enter Tryz.func259,Tryz.ntmps259
 go_wp2_with (first|(refine wpList_run_store hst rfl rfl rfl rfl ?_)|(refine wpList_run_load hl rfl rfl rfl ?_)|(refine wpList_run_store hst2 rfl rfl rfl rfl ?_)|fail)
 refine bodyPost_ret (v:=.agg (freV (-2097152) 0)) (by simp[results,Act.put,Tryz.results259,asAddr,loadVar,loadCells,Tryz.isAgg93,Tryz.sizeOf93,hload]) rfl ?_
 exact ⟨rfl,kf⟩
theorem gm_fresh1 (w:World):Calls Tryz.prog 259 #[.int .i64 1] w fun e w'=>e=.returned (.agg (freV 2097152 32768))∧Below w.heap.size w w':=by
 have hZ0:=blk_alloc (blk_new w (.cells #[.int .i32 0,.int .i32 0,.int .i32 0,.int .i32 0,.int .i64 0,.int .i64 0,.int .i64 0,.int .i64 0,.int .i64 0,.int .i64 0] 93)) (.cells #[.int .i32 0,.int .i32 0,.int .i32 0,.int .i32 0,.int .i64 0,.int .i64 0,.int .i64 0,.int .i64 0,.int .i64 0,.int .i64 0] 93)
 have hZ1:=blk_new (w.alloc (.cells #[.int .i32 0,.int .i32 0,.int .i32 0,.int .i32 0,.int .i64 0,.int .i64 0,.int .i64 0,.int .i64 0,.int .i64 0,.int .i64 0] 93)) (.cells #[.int .i32 0,.int .i32 0,.int .i32 0,.int .i32 0,.int .i64 0,.int .i64 0,.int .i64 0,.int .i64 0,.int .i64 0,.int .i64 0] 93)
 rw[World.size_alloc] at hZ1
 obtain ⟨hst,_,hk1⟩:=store_all _ 93 10 (w.heap.size+1) (freV (-2097152) 0) _ Tryz.sizeOf93 rfl rfl hZ1 (freV_one _ _)
 have hB1:=setRow_at _ (w.heap.size+1) _ (freV (-2097152) 0) 93 hZ1
 have hZ2:=hk1.heap hZ0 (by omega)
 have k1:=(((Keeps.refl (fun j=>j=w.heap.size∨j=w.heap.size+1) w).alloc (.cells #[.int .i32 0,.int .i32 0,.int .i32 0,.int .i32 0,.int .i64 0,.int .i64 0,.int .i64 0,.int .i64 0,.int .i64 0,.int .i64 0] 93)).alloc (.cells #[.int .i32 0,.int .i32 0,.int .i32 0,.int .i32 0,.int .i64 0,.int .i64 0,.int .i64 0,.int .i64 0,.int .i64 0,.int .i64 0] 93)).trans (hk1.mono fun _ _ e=>.inr e)
 clear hZ0 hZ1 hk1
 generalize World.setRow _ _ _=w1 at *
 unfold freV at hst
 obtain ⟨g0,g4⟩:=bf2 hB1 0 4
 obtain ⟨c0,c4⟩:=bc2 0 4 hB1 ⟨rfl,rfl⟩
 have hB2:=blk_set hB1 0 (.int .i32 2097152)
 have hB3:=blk_set hB2 4 (.int .i64 32768)
 rw[show ((freV (-2097152) 0).setIfInBounds 0 (.int .i32 2097152)).setIfInBounds 4 (.int .i64 32768)=freV 2097152 32768 from rfl] at hB3
 have hZ3:=blk_other (blk_other hZ2 (p:=⟨w.heap.size+1,0,none⟩) (by simp) (.int .i32 2097152)) (p:=⟨w.heap.size+1,4,none⟩) (by simp) (.int .i64 32768)
 have k3:=(k1.setCell (p:=⟨w.heap.size+1,0,none⟩) (.inr rfl) (.int .i32 2097152)).setCell (p:=⟨w.heap.size+1,4,none⟩) (.inr rfl) (.int .i64 32768)
 have hl:=run_load_agg (P:=Tryz.prog) 93 10 (w.heap.size+1) 0 (freV 2097152 32768) _ _ Tryz.isAgg93 Tryz.sizeOf93 rfl hB3 (fun j u hj=>by rw[Nat.zero_add];exact hj)
 obtain ⟨hst2,hload,hk2⟩:=store_all _ 93 10 w.heap.size (freV 2097152 32768) _ Tryz.sizeOf93 rfl rfl hZ3 (freV_one _ _)
 have kf:=(k3.trans (hk2.mono fun _ _ e=>.inl e)).below (B:=w.heap.size) (Nat.le_refl _) (fun k h1 h2=>by omega)
 clear hB1 hZ2 k1 hk2 hB2 hB3 hZ3 k3
 go_enter Tryz.func259,Tryz.ntmps259
 go_upto_region 2 with (first|(refine wpList_run_store hst rfl rfl rfl rfl ?_)|fail)
 clear hst
 go_upto_region 4 with fail
 generalize (w1.setCell ⟨w.heap.size+1,0,none⟩ (.int .i32 2097152)).setCell ⟨w.heap.size+1,4,none⟩ (.int .i64 32768)=w3 at *
 go_wp2_with (first|(refine wpList_run_load hl rfl rfl rfl ?_)|(refine wpList_run_store hst2 rfl rfl rfl rfl ?_)|fail)
 refine bodyPost_ret (v:=.agg (freV 2097152 32768)) (by simp[results,Act.put,Tryz.results259,asAddr,loadVar,loadCells,Tryz.isAgg93,Tryz.sizeOf93,hload]) rfl ?_
 exact ⟨rfl,kf⟩
theorem run_build_two (w:World):(Instr.build 94 #[(0,.agg (freV (-2097152) 0)),(1,.agg (freV 2097152 32768))]).run Tryz.prog w=.ok (.agg (freV (-2097152) 0++freV 2097152 32768)) w:=by kernel_rfl
theorem run_build_begin (seed:Int) (w:World):(Instr.build 99 #[(1,.int .u32 seed),(3,.int .i64 600),(4,.agg (freV (-2097152) 0++freV 2097152 32768))]).run Tryz.prog w=.ok (.agg (mkC (standV seed 0))) w:=by kernel_rfl
section
variable {P:Program} {o:Oper} {a:Act} {Q:Exit→Act→World→Prop} {ops:Array Oper} {rest:List Oper} {w':World} {v:Value}
theorem wpList_run_build3 {T:TypeId} {i j k:Nat} {x y z:Operand} {u u' u'':Value} (hrun:(Instr.build T #[(i,u),(j,u'),(k,u'')]).run P w=.ok v w') (hgd:o.guard=none) (ho:o.op=.build T #[(i,x),(j,y),(k,z)]) (hx:a.eval x=u) (hy:a.eval y=u') (hz:a.eval z=u'') (h:wpList P ops Q rest (a.put o.dst v) w'):wpList P ops Q (o :: rest) a w:=
 wpList_run_build hrun hgd ho (by simp[hx,hy,hz]) h
end
theorem gm_Begin (seed:Int) (w:World):Calls Tryz.prog 193 #[.int .u32 seed] w fun e w'=>e=.returned (.agg (mkC (standV seed 0)))∧Below w.heap.size w w':=by
 have hal:=run_alloc_st w
 have hk0:=(Keeps.refl (fun _=>False) w).alloc (.cells (mkC zeroV) 99)
 have hZ:=blk_new w (.cells (mkC zeroV) 99)
 have hT:=run_build_two
 have hS:=run_build_begin seed
 generalize freV (-2097152) 0++freV 2097152 32768=pl at *
 go_enter Tryz.func193,Tryz.ntmps193
 go_wp2_with (first|(refine wpList_run_alloc hal rfl rfl ?_)|fail)
 generalize w.alloc (.cells (mkC zeroV) 99)=w0 at *
 refine (gm_fresh0 _).mono ?_
 rintro e w1 ⟨rfl,hb1⟩
 go_wp2_with fail
 refine (gm_fresh1 _).mono ?_
 rintro e w2 ⟨rfl,hb2⟩
 have hk2:=(hk0.then_below hb1).then_below hb2
 have hZ2:=(((Keeps.refl (fun _=>False) w0).then_below hb1).then_below hb2).heap hZ id
 obtain ⟨hst,hload,hk3⟩:=store_all w2 99 60 w.heap.size (mkC (standV seed 0)) _ Tryz.sizeOf99 (mkC_size _) (mkC_size _) hZ2 (List.all_eq_true.2 (mkC_one _))
 have hbf:Below w.heap.size w (w2.setRow w.heap.size (mkC (standV seed 0))):=((hk2.mono fun _ _ x=>x.elim).trans hk3).below (Nat.le_refl _) (fun k h1 h2=>by omega)
 generalize w2.setRow w.heap.size (mkC (standV seed 0))=w3 at *
 clear hZ hk0 hb1 hb2 hZ2 hk2 hk3 hal
 go_wp2_with (first|(refine wpList_run_build2 (hT _) rfl rfl rfl rfl ?_)|(refine wpList_run_build3 (hS _) rfl rfl rfl rfl rfl ?_)|(refine wpList_run_store hst rfl rfl rfl rfl ?_)|fail)
 refine bodyPost_ret (v:=.agg (mkC (standV seed 0))) (by simp[results,Tryz.results193,Act.put,asAddr,loadVar,loadCells,Tryz.isAgg99,Tryz.sizeOf99,hload]) rfl ?_
 exact ⟨rfl,hbf⟩
end
end Go.Proofs.YtalagblioepadaaGreatDoor
