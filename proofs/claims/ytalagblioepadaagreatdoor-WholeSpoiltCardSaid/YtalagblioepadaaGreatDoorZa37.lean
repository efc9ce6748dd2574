/- The proof, part 37. -/
import Derived.Test.YtalagblioepadaaGreatDoorZa31
import Derived.Test.YtalagblioepadaaGreatDoorZa09
import Derived.Laws.StructEq
import Derived.Test.YtalagblioepadaaGreatDoorZa12
import Derived.Test.YtalagblioepadaaGreatDoorZa13
import Derived.Test.YtalagblioepadaaGreatDoorZa11
namespace Go.Proofs.YtalagblioepadaaGreatDoor
section
open Go.RowKit
set_option maxRecDepth 10000
def shoC (v:Nat→Int) (j:Nat):Array Value:=#[.int .i32 (v (24+6*j)),.int .i32 (v (25+6*j)),.int .i32 (v (26+6*j)),.int .i32 (v (27+6*j)),.int .i64 (v (28+6*j)),.int .i64 (v (29+6*j))]
def noSho (v:Nat→Int) (j:Nat):Prop:=v (24+6*j)=0∧v (25+6*j)=0∧v (26+6*j)=0∧v (27+6*j)=0∧v (28+6*j)=0∧v (29+6*j)=0
instance (v:Nat→Int) (j:Nat):Decidable (noSho v j):=by unfold noSho;infer_instance
def shosC (v:Nat→Int):Array Value:=((List.range 36).map fun j=>Value.int (kindAt (24+j)) (v (24+j))).toArray
theorem run_index_sho0 (v:Nat→Int) (w:World):(Instr.index 97 (.agg (shosC v)) (.int .i64 0)).run Tryz.prog w=.ok (.agg (shoC v 0)) w:=by kernel_rfl
theorem run_index_sho1 (v:Nat→Int) (w:World):(Instr.index 97 (.agg (shosC v)) (.int .i64 1)).run Tryz.prog w=.ok (.agg (shoC v 1)) w:=by kernel_rfl
theorem run_index_sho2 (v:Nat→Int) (w:World):(Instr.index 97 (.agg (shosC v)) (.int .i64 2)).run Tryz.prog w=.ok (.agg (shoC v 2)) w:=by kernel_rfl
theorem run_index_sho3 (v:Nat→Int) (w:World):(Instr.index 97 (.agg (shosC v)) (.int .i64 3)).run Tryz.prog w=.ok (.agg (shoC v 3)) w:=by kernel_rfl
theorem run_index_sho4 (v:Nat→Int) (w:World):(Instr.index 97 (.agg (shosC v)) (.int .i64 4)).run Tryz.prog w=.ok (.agg (shoC v 4)) w:=by kernel_rfl
theorem run_index_sho5 (v:Nat→Int) (w:World):(Instr.index 97 (.agg (shosC v)) (.int .i64 5)).run Tryz.prog w=.ok (.agg (shoC v 5)) w:=by kernel_rfl
theorem run_index_sho (v:Nat→Int) (j:Nat) (h:j<6) (w:World):(Instr.index 97 (.agg (shosC v)) (.int .i64 (j:Nat))).run Tryz.prog w=.ok (.agg (shoC v j)) w:=by
 match j,h with
 | 0,_=>exact run_index_sho0 v w
 | 1,_=>exact run_index_sho1 v w
 | 2,_=>exact run_index_sho2 v w
 | 3,_=>exact run_index_sho3 v w
 | 4,_=>exact run_index_sho4 v w
 | 5,_=>exact run_index_sho5 v w
theorem run_load_shos (v:Nat→Int) (B:Nat) (w:World) (t:TypeId) (hB:w.heap[B]?=some (.cells (mkC v) t (0,0))):(Instr.loadAt 97 (.pointer (some ⟨B,24,none⟩))).run Tryz.prog w=.ok (.agg (shosC v)) w:=by
 refine run_load_agg 97 36 B 24 (shosC v) (mkC v) t Tryz.isAgg97 Tryz.sizeOf97 (by simp[shosC]) hB ?_
 intro j x hj
 have h:j<36:=by
  have:=(Array.getElem?_eq_some_iff.1 hj).1
  simpa[shosC] using this
 rw[mkC_get _ (by omega)]
 simpa[shosC,h] using hj
theorem vec_eq0 (a b:Int) (w:World):(Op.equalIn 9999 91 (.agg #[.int .i32 a,.int .i32 b]) (.agg #[.int .i32 0,.int .i32 0])).run Tryz.prog w=.ok (decide (a=0)&&decide (b=0)) w:=by
 have u4:=Tryz.underlying89
 have a4:=Tryz.isAgg89
 have z4:=Tryz.sizeOf89
 have hS2:Tryz.prog.underlying 91=some (.struct (Tryz.prog.fieldsOf 91)):=by kernel_rfl
 have hp2:Tryz.prog.stoodInHeld 91=false:=by kernel_rfl
 rw[show (9999:Nat)=9998+1 from rfl,run_equalIn_agg w 9998 91 _ _ hS2 hp2]
 simp only[Program.fieldsOf,Tryz.underlying91]
 clear hS2 hp2
 go_simp
 by_cases h1:a=0<;>by_cases h2:b=0<;>simp[h1,h2]
theorem sho_neq (a b c d e f:Int) (w:World):(binOp .neq 96 (.agg #[.int .i32 a,.int .i32 b,.int .i32 c,.int .i32 d,.int .i64 e,.int .i64 f]) (.agg #[.int .i32 0,.int .i32 0,.int .i32 0,.int .i32 0,.int .i64 0,.int .i64 0])).run Tryz.prog w=.ok (.bool (decide ¬ (a=0∧b=0∧c=0∧d=0∧e=0∧f=0))) w:=by
 have u3:=Tryz.underlying3
 have a3:=Tryz.isAgg3
 have z3:=Tryz.sizeOf3
 have u4:=Tryz.underlying89
 have a4:=Tryz.isAgg89
 have z4:=Tryz.sizeOf89
 have a5:=Tryz.isAgg91
 have z5:=Tryz.sizeOf91
 have hS:Tryz.prog.underlying 96=some (.struct (Tryz.prog.fieldsOf 96)):=by kernel_rfl
 have hp:Tryz.prog.stoodInHeld 96=false:=by kernel_rfl
 have hv:=vec_eq0
 rw[run_neq_struct,show (10000:Nat)=9999+1 from rfl,run_equalIn_agg w 9999 96 _ _ hS hp]
 simp only[Program.fieldsOf,Tryz.underlying96]
 clear hS hp
 go_simp
 by_cases h1:a=0<;>by_cases h2:b=0<;>by_cases h3:c=0<;>by_cases h4:d=0<;>by_cases h5:e=0<;>by_cases h6:f=0<;>simp[h1,h2,h3,h4,h5,h6]
theorem sho_none (v:Nat→Int) (j:Nat) (h:noSho v j) (w:World):(binOp .neq 96 (.agg #[.int .i32 (v (24+6*j)),.int .i32 (v (25+6*j)),.int .i32 (v (26+6*j)),.int .i32 (v (27+6*j)),.int .i64 (v (28+6*j)),.int .i64 (v (29+6*j))]) (.agg #[.int .i32 0,.int .i32 0,.int .i32 0,.int .i32 0,.int .i64 0,.int .i64 0])).run Tryz.prog w=.ok (.bool false) w:=by
 rw[sho_neq]
 congr 2
 exact decide_eq_false (not_not_intro h)
theorem sho_some (v:Nat→Int) (j:Nat) (h:¬ noSho v j) (w:World):(binOp .neq 96 (.agg #[.int .i32 (v (24+6*j)),.int .i32 (v (25+6*j)),.int .i32 (v (26+6*j)),.int .i32 (v (27+6*j)),.int .i64 (v (28+6*j)),.int .i64 (v (29+6*j))]) (.agg #[.int .i32 0,.int .i32 0,.int .i32 0,.int .i32 0,.int .i64 0,.int .i64 0])).run Tryz.prog w=.ok (.bool true) w:=by
 rw[sho_neq]
 congr 2
 exact decide_eq_true h
end
section
open Go.RowKit
set_option maxRecDepth 10000
variable {w:World}
theorem gm_within (n a b:Int) (w:World):Calls Tryz.prog 345 #[.int .i64 n,.int .i64 a,.int .i64 b] w fun e w'=>e=.returned (.bool (decide (a≤n)&&decide (n≤b)))∧w=w':=by
 by_cases h1:a≤n
 ·by_cases h2:n≤b
  ·go_enter Tryz.func345,Tryz.ntmps345
   go_wp2
   go_ret
   exact ⟨by simp[h1,h2],rfl⟩
  ·go_enter Tryz.func345,Tryz.ntmps345
   go_wp2
   go_ret
   exact ⟨by simp[h2],rfl⟩
 ·go_enter Tryz.func345,Tryz.ntmps345
  go_wp2
  go_ret
  exact ⟨by rw[show decide (a≤n)=false by simpa using h1];simp,rfl⟩
def inB (a b c d x y:Int):Bool:=decide (a≤x)&&decide (x≤c)&&decide (b≤y)&&decide (y≤d)
theorem sh_Inside (a b c d x y:Int) (w:World):Calls Tryz.prog 353 #[.agg #[.int .i32 a,.int .i32 b,.int .i32 c,.int .i32 d],.agg #[.int .i32 x,.int .i32 y]] w fun e w'=>e=.returned (.bool (inB a b c d x y))∧Below w.heap.size w w':=by
 by_cases h1:a≤x
 ·by_cases h2:x≤c
  ·by_cases h3:b≤y
   ·by_cases h4:y≤d
    ·rw[show inB a b c d x y=true by simp[inB,h1,h2,h3,h4]]
     go_enter Tryz.func353,Tryz.ntmps353
     go_wp2
     go_ret
     exact ⟨rfl,((Below.refl _ w).alloc (Nat.le_refl _) _).alloc (by simp) _⟩
    ·rw[show inB a b c d x y=false by simp[inB,h4]]
     go_enter Tryz.func353,Tryz.ntmps353
     go_wp2
     go_ret
     exact ⟨rfl,((Below.refl _ w).alloc (Nat.le_refl _) _).alloc (by simp) _⟩
   ·rw[show inB a b c d x y=false by simp[inB,h3]]
    go_enter Tryz.func353,Tryz.ntmps353
    go_wp2
    go_ret
    exact ⟨rfl,((Below.refl _ w).alloc (Nat.le_refl _) _).alloc (by simp) _⟩
  ·rw[show inB a b c d x y=false by simp[inB,h2]]
   go_enter Tryz.func353,Tryz.ntmps353
   go_wp2
   go_ret
   exact ⟨rfl,((Below.refl _ w).alloc (Nat.le_refl _) _).alloc (by simp) _⟩
 ·rw[show inB a b c d x y=false by simp[inB,h1]]
  go_enter Tryz.func353,Tryz.ntmps353
  go_wp2
  go_ret
  exact ⟨rfl,((Below.refl _ w).alloc (Nat.le_refl _) _).alloc (by simp) _⟩
theorem gm_arena (w:World):Calls Tryz.prog 354 #[] w fun e w'=>e=.returned (.agg #[.int .i32 (-4194304),.int .i32 (-4194304),.int .i32 4194304,.int .i32 4194304])∧Below w.heap.size w w':=by
 have hload:=box_load _ _ _ _ (blk_new w (.cells #[.int .i32 (-4194304),.int .i32 (-4194304),.int .i32 4194304,.int .i32 4194304] 214)) 4 rfl
 go_enter Tryz.func354,Tryz.ntmps354
 go_wp2
 refine bodyPost_ret (v:=.agg #[.int .i32 (-4194304),.int .i32 (-4194304),.int .i32 4194304,.int .i32 4194304]) (by simp[results,Tryz.results354,asAddr,loadVar,loadCells,Tryz.isAgg214,Tryz.sizeOf214,hload]) rfl ?_
 exact ⟨rfl,(Below.refl _ w).alloc (Nat.le_refl _) _⟩
end
section
open Go.RowKit
set_option maxRecDepth 10000
variable {w:World}
theorem fx_within (n:Int) (h:-2147483648≤n∧n≤2147483647) (w:World):Calls Tryz.prog 282 #[.int .i64 n,.int .i64 (-2147483648),.int .i64 2147483647] w fun e w'=>e=.returned (.int .i64 n)∧w=w':=by
 have e1:min n 2147483647=n:=by omega
 go_enter Tryz.func282,Tryz.ntmps282
 go_wp2
 all_goals go_ret
 all_goals exact ⟨by first|rfl|(rw[show n=-2147483648 by omega];rfl),rfl⟩
theorem fx_Sat (n:Int) (h:-2147483648≤n∧n≤2147483647) (w:World):Calls Tryz.prog 214 #[.int .i64 n] w fun e w'=>e=.returned (.int .i32 n)∧w=w':=by
 have e1:IntKind.i32.wrap n=n:=by rw[IntKind.wrap_i32];omega
 go_enter Tryz.func214,Tryz.ntmps214
 go_wp2_with fail
 refine (fx_within n h w).mono ?_
 rintro e w' ⟨rfl,rfl⟩
 go_wp2
 go_ret
 exact ⟨rfl,rfl⟩
theorem fx_Add (a b n:Int) (ha:-2147483648≤a∧a≤2147483647) (hb:-2147483648≤b∧b≤2147483647) (h:-2147483648≤n∧n≤2147483647) (hn:a+b=n) (w:World):Calls Tryz.prog 278 #[.int .i32 a,.int .i32 b] w fun e w'=>e=.returned (.int .i32 n)∧w=w':=by
 have e1:IntKind.i64.wrap a=a:=IntWalk.i64_in _ (by omega)
 have e2:IntKind.i64.wrap b=b:=IntWalk.i64_in _ (by omega)
 have e3:IntKind.i64.wrap (a+b)=n:=by rw[IntWalk.i64_in _ (by omega),hn]
 go_enter Tryz.func278,Tryz.ntmps278
 go_wp2_with fail
 refine (fx_Sat n h w).mono ?_
 rintro e w' ⟨rfl,rfl⟩
 go_wp2
 go_ret
 exact ⟨rfl,rfl⟩
theorem fx_Sub (a b n:Int) (ha:-2147483648≤a∧a≤2147483647) (hb:-2147483648≤b∧b≤2147483647) (h:-2147483648≤n∧n≤2147483647) (hn:a-b=n) (w:World):Calls Tryz.prog 281 #[.int .i32 a,.int .i32 b] w fun e w'=>e=.returned (.int .i32 n)∧w=w':=by
 have e1:IntKind.i64.wrap a=a:=IntWalk.i64_in _ (by omega)
 have e2:IntKind.i64.wrap b=b:=IntWalk.i64_in _ (by omega)
 have e3:IntKind.i64.wrap (a-b)=n:=by rw[IntWalk.i64_in _ (by omega),hn]
 go_enter Tryz.func281,Tryz.ntmps281
 go_wp2_with fail
 refine (fx_Sat n h w).mono ?_
 rintro e w' ⟨rfl,rfl⟩
 go_wp2
 go_ret
 exact ⟨rfl,rfl⟩
theorem sh_each1 (a d x:Int) (hf:∀ w,Calls Tryz.prog 278 #[.int .i32 a,.int .i32 d] w fun e w'=>e=.returned (.int .i32 x)∧w=w') (w:World) :
  Calls Tryz.prog 277 #[.agg #[.int .i32 a,.int .i32 a],.agg #[.int .i32 d,.int .i32 d],.func (.func 278) #[] #[]] w fun e w'=>e=.returned (.agg #[.int .i32 x,.int .i32 x])∧Below w.heap.size w w':=by
 go_enter Tryz.func277,Tryz.ntmps277
 go_wp2_with fail
 refine wp_region_taild 13 (by kernel_rfl) (by kernel_rfl) ?_
 simp only[List.take_succ_cons,List.take_zero,List.drop_succ_cons,List.drop_zero]
 repeat (go_big_quiet_step ((exact (hf _).mono fun _ _ h=>⟨h.1,_,h.2.symm⟩)))
 refine wpQuiet_nil ?_
 intro _ hw'
 obtain ⟨nq,hw''⟩:=hw'
 subst hw''
 go_wp2_with fail
 refine bodyPost_ret (v:=.agg #[.int .i32 x,.int .i32 x]) (by simp[results,Tryz.results277,go_sem]) rfl ?_
 have b3:=(((Below.refl w.heap.size w).alloc (Nat.le_refl _) (.cells #[.int .i32 a,.int .i32 a] 91)).alloc (by simp) (.cells #[.int .i32 d,.int .i32 d] 91)).alloc (by simp;omega) (.cells #[.int .i32 0,.int .i32 0] 91)
 refine ⟨rfl,Below.setCell (Below.setCell ?_ ?_ _) ?_ _⟩
 ·exact ⟨b3.os,b3.tape,b3.output,b3.size,b3.block⟩
 all_goals show w.heap.size≤w.heap.size+1+1
 all_goals omega
theorem sh_each2 (a d x:Int) (hf:∀ w,Calls Tryz.prog 281 #[.int .i32 a,.int .i32 d] w fun e w'=>e=.returned (.int .i32 x)∧w=w') (w:World) :
  Calls Tryz.prog 277 #[.agg #[.int .i32 a,.int .i32 a],.agg #[.int .i32 d,.int .i32 d],.func (.func 281) #[] #[]] w fun e w'=>e=.returned (.agg #[.int .i32 x,.int .i32 x])∧Below w.heap.size w w':=by
 go_enter Tryz.func277,Tryz.ntmps277
 go_wp2_with fail
 refine wp_region_taild 13 (by kernel_rfl) (by kernel_rfl) ?_
 simp only[List.take_succ_cons,List.take_zero,List.drop_succ_cons,List.drop_zero]
 repeat (go_big_quiet_step ((exact (hf _).mono fun _ _ h=>⟨h.1,_,h.2.symm⟩)))
 refine wpQuiet_nil ?_
 intro _ hw'
 obtain ⟨nq,hw''⟩:=hw'
 subst hw''
 go_wp2_with fail
 refine bodyPost_ret (v:=.agg #[.int .i32 x,.int .i32 x]) (by simp[results,Tryz.results277,go_sem]) rfl ?_
 have b3:=(((Below.refl w.heap.size w).alloc (Nat.le_refl _) (.cells #[.int .i32 a,.int .i32 a] 91)).alloc (by simp) (.cells #[.int .i32 d,.int .i32 d] 91)).alloc (by simp;omega) (.cells #[.int .i32 0,.int .i32 0] 91)
 refine ⟨rfl,Below.setCell (Below.setCell ?_ ?_ _) ?_ _⟩
 ·exact ⟨b3.os,b3.tape,b3.output,b3.size,b3.block⟩
 all_goals show w.heap.size≤w.heap.size+1+1
 all_goals omega
end
section
open Go.RowKit
set_option maxRecDepth 10000
variable {w:World}
theorem sh_Add (a d x:Int) (hf:∀ w,Calls Tryz.prog 278 #[.int .i32 a,.int .i32 d] w fun e w'=>e=.returned (.int .i32 x)∧w=w') (w:World) :
  Calls Tryz.prog 211 #[.agg #[.int .i32 a,.int .i32 a],.agg #[.int .i32 d,.int .i32 d]] w fun e w'=>e=.returned (.agg #[.int .i32 x,.int .i32 x])∧Below w.heap.size w w':=by
 have b3:=(((Below.refl w.heap.size w).alloc (Nat.le_refl _) (.cells #[.int .i32 a,.int .i32 a] 91)).alloc (by simp) (.cells #[.int .i32 d,.int .i32 d] 91)).alloc (by simp;omega) (.cells #[.int .i32 0,.int .i32 0] 91)
 have hB:=blk_new ((w.alloc (.cells #[.int .i32 a,.int .i32 a] 91)).alloc (.cells #[.int .i32 d,.int .i32 d] 91)) (.cells #[.int .i32 0,.int .i32 0] 91)
 have hC:=fun W=>sh_each1 a d x hf W
 go_enter Tryz.func211,Tryz.ntmps211
 go_wp2_with fail
 refine (hC _).mono ?_
 rintro e w1 ⟨rfl,hb⟩
 have hb1:=b3.trans (hb.mono b3.size)
 have hB1:=(Keeps.of_below (S:=fun _=>False) hb (fun k h1 h2=>by omega)).heap hB id
 have hs:((w.alloc (.cells #[.int .i32 a,.int .i32 a] 91)).alloc (.cells #[.int .i32 d,.int .i32 d] 91)).heap.size=w.heap.size+1+1:=by simp
 rw[hs] at hB1
 obtain ⟨y0,y1⟩:=bc2 0 1 hB1 ⟨rfl,rfl⟩
 obtain ⟨z0,z1⟩:=bf2 hB1 0 1
 go_wp2_with fail
 have hB2:=blk_set (blk_set hB1 0 (.int .i32 x)) 1 (.int .i32 x)
 have hload:=box_load _ _ _ _ hB2 2 rfl
 simp only[List.setIfInBounds_toArray,List.set_cons_zero,List.set_cons_succ] at hload
 refine bodyPost_ret (v:=.agg #[.int .i32 x,.int .i32 x]) (by simp[results,Tryz.results211,asAddr,loadVar,loadCells,Tryz.isAgg91,Tryz.sizeOf91,hload]) rfl ?_
 refine ⟨rfl,Below.setCell (Below.setCell hb1 ?_ _) ?_ _⟩
 all_goals show w.heap.size≤w.heap.size+1+1
 all_goals omega
theorem sh_Sub (a d x:Int) (hf:∀ w,Calls Tryz.prog 281 #[.int .i32 a,.int .i32 d] w fun e w'=>e=.returned (.int .i32 x)∧w=w') (w:World) :
  Calls Tryz.prog 213 #[.agg #[.int .i32 a,.int .i32 a],.agg #[.int .i32 d,.int .i32 d]] w fun e w'=>e=.returned (.agg #[.int .i32 x,.int .i32 x])∧Below w.heap.size w w':=by
 have b3:=(((Below.refl w.heap.size w).alloc (Nat.le_refl _) (.cells #[.int .i32 a,.int .i32 a] 91)).alloc (by simp) (.cells #[.int .i32 d,.int .i32 d] 91)).alloc (by simp;omega) (.cells #[.int .i32 0,.int .i32 0] 91)
 have hB:=blk_new ((w.alloc (.cells #[.int .i32 a,.int .i32 a] 91)).alloc (.cells #[.int .i32 d,.int .i32 d] 91)) (.cells #[.int .i32 0,.int .i32 0] 91)
 have hC:=fun W=>sh_each2 a d x hf W
 go_enter Tryz.func213,Tryz.ntmps213
 go_wp2_with fail
 refine (hC _).mono ?_
 rintro e w1 ⟨rfl,hb⟩
 have hb1:=b3.trans (hb.mono b3.size)
 have hB1:=(Keeps.of_below (S:=fun _=>False) hb (fun k h1 h2=>by omega)).heap hB id
 have hs:((w.alloc (.cells #[.int .i32 a,.int .i32 a] 91)).alloc (.cells #[.int .i32 d,.int .i32 d] 91)).heap.size=w.heap.size+1+1:=by simp
 rw[hs] at hB1
 obtain ⟨y0,y1⟩:=bc2 0 1 hB1 ⟨rfl,rfl⟩
 obtain ⟨z0,z1⟩:=bf2 hB1 0 1
 go_wp2_with fail
 have hB2:=blk_set (blk_set hB1 0 (.int .i32 x)) 1 (.int .i32 x)
 have hload:=box_load _ _ _ _ hB2 2 rfl
 simp only[List.setIfInBounds_toArray,List.set_cons_zero,List.set_cons_succ] at hload
 refine bodyPost_ret (v:=.agg #[.int .i32 x,.int .i32 x]) (by simp[results,Tryz.results213,asAddr,loadVar,loadCells,Tryz.isAgg91,Tryz.sizeOf91,hload]) rfl ?_
 refine ⟨rfl,Below.setCell (Below.setCell hb1 ?_ _) ?_ _⟩
 all_goals show w.heap.size≤w.heap.size+1+1
 all_goals omega
theorem sh_Right (a b c d:Int) (h1:a≤c) (h2:b≤d) (w:World):Calls Tryz.prog 375 #[.agg #[.int .i32 a,.int .i32 b,.int .i32 c,.int .i32 d]] w fun e w'=>e=.returned (.bool true)∧Below w.heap.size w w':=by
 go_enter Tryz.func375,Tryz.ntmps375
 go_wp2
 go_ret
 exact ⟨by first|rfl|simp[h2],(Below.refl _ w).alloc (Nat.le_refl _) _⟩
end
section
open Go.RowKit
set_option maxRecDepth 10000
variable {w:World}
theorem blk_store4' {w:World} {b:Nat} {t:TypeId} {c0 c1 c2 c3:Value} (h:w.heap[b]?=some (.cells #[c0,c1,c2,c3] t (0,0))) (v0 v1 v2 v3:Value) :
  ((((w.setCell ⟨b,0,none⟩ v0).setCell ⟨b,1,none⟩ v1).setCell ⟨b,2,none⟩ v2).setCell ⟨b,3,none⟩ v3).heap[b]?=some (.cells #[v0,v1,v2,v3] t (0,0)):=by
 have:=blk_set (blk_set (blk_set (blk_set h 0 v0) 1 v1) 2 v2) 3 v3
 simpa using this
theorem keeps_store4 {S:Nat→Prop} {w0 w:World} {b:Nat} (h:Keeps S w0 w) (hb:S b) (v0 v1 v2 v3:Value) :
  Keeps S w0 ((((w.setCell ⟨b,0,none⟩ v0).setCell ⟨b,1,none⟩ v1).setCell ⟨b,2,none⟩ v2).setCell ⟨b,3,none⟩ v3):=
 (((h.setCell (p:=⟨b,0,none⟩) hb v0).setCell (p:=⟨b,1,none⟩) hb v1).setCell (p:=⟨b,2,none⟩) hb v2).setCell (p:=⟨b,3,none⟩) hb v3
theorem sh_Shrink (w:World):Calls Tryz.prog 369 #[.agg #[.int .i32 (-4194304),.int .i32 (-4194304),.int .i32 4194304,.int .i32 4194304],.int .i32 262144] w fun e w'=>e=.returned (.tuple #[.agg #[.int .i32 (-3932160),.int .i32 (-3932160),.int .i32 3932160,.int .i32 3932160],.bool true])∧Below w.heap.size w w':=by
 have hA:=fun W=>sh_Add (-4194304) 262144 (-3932160) (fun w=>fx_Add _ _ _ (by decide) (by decide) (by decide) (by decide) w) W
 have hS:=fun W=>sh_Sub 4194304 262144 3932160 (fun w=>fx_Sub _ _ _ (by decide) (by decide) (by decide) (by decide) w) W
 have hR:=fun W=>sh_Right (-3932160) (-3932160) 3932160 3932160 (by decide) (by decide) W
 have b0:=blk_new w (.cells #[.int .i32 (-4194304),.int .i32 (-4194304),.int .i32 4194304,.int .i32 4194304] 214)
 have b1:=blk_alloc (blk_alloc b0 (.cells #[.int .i32 0,.int .i32 0,.int .i32 0,.int .i32 0] 214)) (.cells #[.int .i32 262144,.int .i32 262144] 91)
 have b2:=blk_alloc (blk_new (w.alloc (.cells #[.int .i32 (-4194304),.int .i32 (-4194304),.int .i32 4194304,.int .i32 4194304] 214)) (.cells #[.int .i32 0,.int .i32 0,.int .i32 0,.int .i32 0] 214)) (.cells #[.int .i32 262144,.int .i32 262144] 91)
 have b3:=blk_new ((w.alloc (.cells #[.int .i32 (-4194304),.int .i32 (-4194304),.int .i32 4194304,.int .i32 4194304] 214)).alloc (.cells #[.int .i32 0,.int .i32 0,.int .i32 0,.int .i32 0] 214)) (.cells #[.int .i32 262144,.int .i32 262144] 91)
 have hk0:=((((Keeps.refl (fun _=>False) w).alloc (.cells #[.int .i32 (-4194304),.int .i32 (-4194304),.int .i32 4194304,.int .i32 4194304] 214)).alloc (.cells #[.int .i32 0,.int .i32 0,.int .i32 0,.int .i32 0] 214))).alloc (.cells #[.int .i32 262144,.int .i32 262144] 91)
 simp only[World.size_alloc] at b2 b3
 clear b0
 go_enter Tryz.func369,Tryz.ntmps369
 go_wp2_with fail
 generalize ((w.alloc (.cells #[.int .i32 (-4194304),.int .i32 (-4194304),.int .i32 4194304,.int .i32 4194304] 214)).alloc (.cells #[.int .i32 0,.int .i32 0,.int .i32 0,.int .i32 0] 214)).alloc (.cells #[.int .i32 262144,.int .i32 262144] 91)=w0 at *
 have y0:=keptS_cell (S:=fun _=>False) (w:=w0.drew) (blk_cell b1 (k:=0) rfl) id
 have y1:=keptS_cell (S:=fun _=>False) (w:=w0.drew) (blk_cell b1 (k:=1) rfl) id
 have y2:=keptS_cell (S:=fun _=>False) (w:=w0.drew) (blk_cell b1 (k:=2) rfl) id
 have y3:=keptS_cell (S:=fun _=>False) (w:=w0.drew) (blk_cell b1 (k:=3) rfl) id
 have y4:=keptS_cell (S:=fun _=>False) (w:=w0.drew) (blk_cell b3 (k:=0) rfl) id
 have y5:=keptS_cell (S:=fun _=>False) (w:=w0.drew) (blk_cell b3 (k:=1) rfl) id
 refine stages_start (by kernel_rfl) 11 rfl ?_
 refine staget (fun _=>False) [0,1,2,4,5,6] [3,7,8,9] 1 rfl #[true,true,true,true,true,true,true,true,true,true,false] #[true,true,true,false,true,true,true,false,false,false,false] (by kernel_rfl) (by kernel_rfl) (fun _ _ _ d _ h=>by first|(cases d<;>exact h)|cases h.1) ?_
 simp only[opsAt,List.map_cons,List.map_nil,List.getElem?_toArray,List.getElem?_cons_zero,List.getElem?_cons_succ,Option.getD_some]
 repeat (go_big_quiet_step (fail))
 refine wpQuiet_nil ?_
 clear y0 y1 y2 y3 y4 y5
 have hkc:Keeps (fun _=>False) w0 w0.drew:=(Keeps.refl _ w0).drew
 refine tree_two 3 9 #[true,true,true,true,true,true,true,false,false,false,false] #[true,true,true,false,true,true,true,false,false,true,false] (by kernel_rfl) (by kernel_rfl) (by kernel_rfl) (by kernel_rfl) (by kernel_rfl) (by kernel_rfl) (by kernel_rfl) (by simp only[opAt,List.getElem?_toArray,List.getElem?_cons_zero,List.getElem?_cons_succ,Option.getD_some];first|rfl|simp[go_sem]) (by simp only[opAt,List.getElem?_toArray,List.getElem?_cons_zero,List.getElem?_cons_succ,Option.getD_some];first|rfl|simp[go_sem]) (fun K hK=>?_) (fun K hK=>?_)
 all_goals simp only[opAt,List.getElem?_toArray,List.getElem?_cons_zero,List.getElem?_cons_succ,Option.getD_some]
 ·go_simp
  refine (hA _).mono ?_
  rintro e w1 ⟨rfl,hbn⟩
  have hkn:=(hkc:Keeps (fun _=>False) w0 w0.drew).then_below hbn
  refine hK _ _ (keeps_drew hkn) ?_
  clear hK K hkc hbn
  have hkc:=hkn
  clear hkn
  try simp only[Act.put,List.setIfInBounds_toArray,List.set_cons_succ,List.set_cons_zero]
  refine tree_two 7 9 #[true,true,true,true,true,true,true,true,false,false,false] #[true,true,true,true,true,true,true,false,false,true,false] (by kernel_rfl) (by kernel_rfl) (by kernel_rfl) (by kernel_rfl) (by kernel_rfl) (by kernel_rfl) (by kernel_rfl) (by simp only[opAt,List.getElem?_toArray,List.getElem?_cons_zero,List.getElem?_cons_succ,Option.getD_some];first|rfl|simp[go_sem]) (by simp only[opAt,List.getElem?_toArray,List.getElem?_cons_zero,List.getElem?_cons_succ,Option.getD_some];first|rfl|simp[go_sem]) (fun K hK=>?_) (fun K hK=>?_)
  all_goals simp only[opAt,List.getElem?_toArray,List.getElem?_cons_zero,List.getElem?_cons_succ,Option.getD_some]
  ·go_simp
   refine (hS _).mono ?_
   rintro e w2 ⟨rfl,hbn⟩
   have hkn:=(hkc:Keeps (fun _=>False) w0 w1).then_below hbn
   refine hK _ _ (keeps_drew hkn) ?_
   clear hK K hkc hbn
   have hkc:=hkn
   clear hkn
   try simp only[Act.put,List.setIfInBounds_toArray,List.set_cons_succ,List.set_cons_zero]
   refine tree_two 8 9 #[true,true,true,true,true,true,true,true,true,false,false] #[true,true,true,true,true,true,true,true,false,true,false] (by kernel_rfl) (by kernel_rfl) (by kernel_rfl) (by kernel_rfl) (by kernel_rfl) (by kernel_rfl) (by kernel_rfl) (by simp only[opAt,List.getElem?_toArray,List.getElem?_cons_zero,List.getElem?_cons_succ,Option.getD_some];first|rfl|simp[go_sem]) (by simp only[opAt,List.getElem?_toArray,List.getElem?_cons_zero,List.getElem?_cons_succ,Option.getD_some];first|rfl|simp[go_sem]) (fun K hK=>?_) (fun K hK=>?_)
   all_goals simp only[opAt,List.getElem?_toArray,List.getElem?_cons_zero,List.getElem?_cons_succ,Option.getD_some]
   ·go_simp
    refine hK _ _ (keeps_drew hkc) ?_
    clear hK K
    try simp only[Act.put,List.setIfInBounds_toArray,List.set_cons_succ,List.set_cons_zero]
    refine tree_one 9 #[true,true,true,true,true,true,true,true,true,true,false] (by kernel_rfl) (by kernel_rfl) (by kernel_rfl) (by kernel_rfl) (by simp only[opAt,List.getElem?_toArray,List.getElem?_cons_zero,List.getElem?_cons_succ,Option.getD_some];first|rfl|simp[go_sem]) (fun K hK=>?_)
    simp only[opAt,List.getElem?_toArray,List.getElem?_cons_zero,List.getElem?_cons_succ,Option.getD_some]
    go_simp
    have hZ:=blk_new w2 (.cells #[.int .i32 0,.int .i32 0,.int .i32 0,.int .i32 0] 214)
    have hle:=hkc.size
    have hkn:=hkc.alloc (.cells #[.int .i32 0,.int .i32 0,.int .i32 0,.int .i32 0] 214)
    refine hK _ _ (keeps_drew hkn) ?_
    clear hK K hkc
    have hkc:=hkn
    clear hkn
    try simp only[show ∀ W:World,W.drew.heap=W.heap from fun _=>rfl] at hZ hle hkc ⊢
    generalize (w2).alloc (.cells #[.int .i32 0,.int .i32 0,.int .i32 0,.int .i32 0] 214)=wn at *
    generalize (w2).heap.size=D at *
    try simp only[Act.put,List.setIfInBounds_toArray,List.set_cons_succ,List.set_cons_zero]
    refine tree_nil (by kernel_rfl) ?_
    try simp only[Act.put,List.setIfInBounds_toArray,List.set_cons_succ,List.set_cons_zero]
    obtain ⟨f0,f1,f2,f3⟩:=bf4 hZ 0 1 2 3
    obtain ⟨g0,g1,g2,g3⟩:=bc4 0 1 2 3 hZ ⟨rfl,rfl,rfl,rfl⟩
    refine stagek (fun _=>True) [] [10] 0 rfl #[true,true,true,true,true,true,true,true,true,true,true] (by kernel_rfl) (by kernel_rfl) (fun _ _ _ d _ h=>by first|(cases d<;>exact h)|cases h.1) ?_
    simp only[opsAt,List.map_cons,List.map_nil,List.getElem?_toArray,List.getElem?_cons_zero,List.getElem?_cons_succ,Option.getD_some]
    repeat (go_big_quiet_step (fail))
    refine wpQuiet_nil ?_
    refine links_cons (by first|rfl|simp[go_sem]) (fun K hK=>?_)
    go_simp
    refine hK _ _ (keptS (keeps_store4 (Keeps.refl (fun _=>True) wn) trivial _ _ _ _)) ?_
    clear hK K
    refine links_nil ?_
    refine stages_end (by kernel_rfl) ?_
    have hB1:=hkc.heap b2 id
    have hl1:w.heap.size+1<w0.heap.size:=blk_lt b2
    have hne:w.heap.size+1≠D:=by omega
    have hZ2:=blk_store4' hZ (.int .i32 (-3932160)) (.int .i32 (-3932160)) (.int .i32 3932160) (.int .i32 3932160)
    have hR2:=(((blk_other (blk_other (blk_other (blk_other hB1 hne _) hne _) hne _) hne _):(((((wn).setCell ⟨D,0,none⟩ (.int .i32 (-3932160))).setCell ⟨D,1,none⟩ (.int .i32 (-3932160))).setCell ⟨D,2,none⟩ (.int .i32 3932160)).setCell ⟨D,3,none⟩ (.int .i32 3932160)).heap[w.heap.size+1]?=some (.cells #[.int .i32 0,.int .i32 0,.int .i32 0,.int .i32 0] 214 (0,0))))
    have hkk:=keeps_store4 ((hk0.trans hkc).mono (T:=fun k=>k=D) (fun _ _ x=>x.elim)) (b:=D) rfl (.int .i32 (-3932160)) (.int .i32 (-3932160)) (.int .i32 3932160) (.int .i32 3932160)
    clear g0 g1 g2 g3 f0 f1 f2 f3 hZ hB1 hkc
    generalize ((((wn).setCell ⟨D,0,none⟩ (.int .i32 (-3932160))).setCell ⟨D,1,none⟩ (.int .i32 (-3932160))).setCell ⟨D,2,none⟩ (.int .i32 3932160)).setCell ⟨D,3,none⟩ (.int .i32 3932160)=w5 at *
    obtain ⟨g0,g1,g2,g3⟩:=bc4 0 1 2 3 hZ2 ⟨rfl,rfl,rfl,rfl⟩
    go_wp2_with fail
    refine (hR _).mono ?_
    rintro e w6 ⟨rfl,hb6⟩
    clear g0 g1 g2 g3
    have hk6:Keeps (fun _=>False) w5 w6:=(Keeps.refl _ w5).then_below hb6
    have hZ6:=hk6.heap hZ2 id
    have hR6:=hk6.heap hR2 id
    obtain ⟨g0,g1,g2,g3⟩:=bc4 0 1 2 3 hZ6 ⟨rfl,rfl,rfl,rfl⟩
    obtain ⟨f0,f1,f2,f3⟩:=bf4 hR6 0 1 2 3
    obtain ⟨r0,r1,r2,r3⟩:=bc4 0 1 2 3 hR6 ⟨rfl,rfl,rfl,rfl⟩
    go_wp2_with fail
    have hR7:=blk_store4' hR6 (.int .i32 (-3932160)) (.int .i32 (-3932160)) (.int .i32 3932160) (.int .i32 3932160)
    obtain ⟨d0,d1,d2,d3⟩:=bc4 0 1 2 3 hR7 ⟨rfl,rfl,rfl,rfl⟩
    refine bodyPost_ret (v:=.tuple #[.agg #[.int .i32 (-3932160),.int .i32 (-3932160),.int .i32 3932160,.int .i32 3932160],.bool true]) (by simp[results,Tryz.results369,go_sem,d0,d1,d2,d3]) rfl ?_
    refine ⟨rfl,(keeps_store4 ((hkk.then_below hb6).mono (T:=fun k=>k=D∨k=w.heap.size+1) fun _ _=>Or.inl) (Or.inr rfl) _ _ _ _).below (Nat.le_refl _) (fun k hk=>?_)⟩
    have:=hk0.size
    omega
   ·go_simp
    have hZ:=blk_new w2 (.cells #[.int .i32 0,.int .i32 0,.int .i32 0,.int .i32 0] 214)
    have hle:=hkc.size
    have hkn:=hkc.alloc (.cells #[.int .i32 0,.int .i32 0,.int .i32 0,.int .i32 0] 214)
    refine hK _ _ (keeps_drew hkn) ?_
    clear hK K hkc
    have hkc:=hkn
    clear hkn
    try simp only[show ∀ W:World,W.drew.heap=W.heap from fun _=>rfl] at hZ hle hkc ⊢
    generalize (w2).alloc (.cells #[.int .i32 0,.int .i32 0,.int .i32 0,.int .i32 0] 214)=wn at *
    generalize (w2).heap.size=D at *
    try simp only[Act.put,List.setIfInBounds_toArray,List.set_cons_succ,List.set_cons_zero]
    refine tree_one 8 #[true,true,true,true,true,true,true,true,true,true,false] (by kernel_rfl) (by kernel_rfl) (by kernel_rfl) (by kernel_rfl) (by simp only[opAt,List.getElem?_toArray,List.getElem?_cons_zero,List.getElem?_cons_succ,Option.getD_some];first|rfl|simp[go_sem]) (fun K hK=>?_)
    simp only[opAt,List.getElem?_toArray,List.getElem?_cons_zero,List.getElem?_cons_succ,Option.getD_some]
    go_simp
    refine hK _ _ (keeps_drew hkc) ?_
    clear hK K
    try simp only[Act.put,List.setIfInBounds_toArray,List.set_cons_succ,List.set_cons_zero]
    refine tree_nil (by kernel_rfl) ?_
    try simp only[Act.put,List.setIfInBounds_toArray,List.set_cons_succ,List.set_cons_zero]
    obtain ⟨f0,f1,f2,f3⟩:=bf4 hZ 0 1 2 3
    obtain ⟨g0,g1,g2,g3⟩:=bc4 0 1 2 3 hZ ⟨rfl,rfl,rfl,rfl⟩
    refine stagek (fun _=>True) [] [10] 0 rfl #[true,true,true,true,true,true,true,true,true,true,true] (by kernel_rfl) (by kernel_rfl) (fun _ _ _ d _ h=>by first|(cases d<;>exact h)|cases h.1) ?_
    simp only[opsAt,List.map_cons,List.map_nil,List.getElem?_toArray,List.getElem?_cons_zero,List.getElem?_cons_succ,Option.getD_some]
    repeat (go_big_quiet_step (fail))
    refine wpQuiet_nil ?_
    refine links_cons (by first|rfl|simp[go_sem]) (fun K hK=>?_)
    go_simp
    refine hK _ _ (keptS (keeps_store4 (Keeps.refl (fun _=>True) wn) trivial _ _ _ _)) ?_
    clear hK K
    refine links_nil ?_
    refine stages_end (by kernel_rfl) ?_
    have hB1:=hkc.heap b2 id
    have hl1:w.heap.size+1<w0.heap.size:=blk_lt b2
    have hne:w.heap.size+1≠D:=by omega
    have hZ2:=blk_store4' hZ (.int .i32 (-3932160)) (.int .i32 (-3932160)) (.int .i32 3932160) (.int .i32 3932160)
    have hR2:=(((blk_other (blk_other (blk_other (blk_other hB1 hne _) hne _) hne _) hne _):(((((wn).setCell ⟨D,0,none⟩ (.int .i32 (-3932160))).setCell ⟨D,1,none⟩ (.int .i32 (-3932160))).setCell ⟨D,2,none⟩ (.int .i32 3932160)).setCell ⟨D,3,none⟩ (.int .i32 3932160)).heap[w.heap.size+1]?=some (.cells #[.int .i32 0,.int .i32 0,.int .i32 0,.int .i32 0] 214 (0,0))))
    have hkk:=keeps_store4 ((hk0.trans hkc).mono (T:=fun k=>k=D) (fun _ _ x=>x.elim)) (b:=D) rfl (.int .i32 (-3932160)) (.int .i32 (-3932160)) (.int .i32 3932160) (.int .i32 3932160)
    clear g0 g1 g2 g3 f0 f1 f2 f3 hZ hB1 hkc
    generalize ((((wn).setCell ⟨D,0,none⟩ (.int .i32 (-3932160))).setCell ⟨D,1,none⟩ (.int .i32 (-3932160))).setCell ⟨D,2,none⟩ (.int .i32 3932160)).setCell ⟨D,3,none⟩ (.int .i32 3932160)=w5 at *
    obtain ⟨g0,g1,g2,g3⟩:=bc4 0 1 2 3 hZ2 ⟨rfl,rfl,rfl,rfl⟩
    go_wp2_with fail
    refine (hR _).mono ?_
    rintro e w6 ⟨rfl,hb6⟩
    clear g0 g1 g2 g3
    have hk6:Keeps (fun _=>False) w5 w6:=(Keeps.refl _ w5).then_below hb6
    have hZ6:=hk6.heap hZ2 id
    have hR6:=hk6.heap hR2 id
    obtain ⟨g0,g1,g2,g3⟩:=bc4 0 1 2 3 hZ6 ⟨rfl,rfl,rfl,rfl⟩
    obtain ⟨f0,f1,f2,f3⟩:=bf4 hR6 0 1 2 3
    obtain ⟨r0,r1,r2,r3⟩:=bc4 0 1 2 3 hR6 ⟨rfl,rfl,rfl,rfl⟩
    go_wp2_with fail
    have hR7:=blk_store4' hR6 (.int .i32 (-3932160)) (.int .i32 (-3932160)) (.int .i32 3932160) (.int .i32 3932160)
    obtain ⟨d0,d1,d2,d3⟩:=bc4 0 1 2 3 hR7 ⟨rfl,rfl,rfl,rfl⟩
    refine bodyPost_ret (v:=.tuple #[.agg #[.int .i32 (-3932160),.int .i32 (-3932160),.int .i32 3932160,.int .i32 3932160],.bool true]) (by simp[results,Tryz.results369,go_sem,d0,d1,d2,d3]) rfl ?_
    refine ⟨rfl,(keeps_store4 ((hkk.then_below hb6).mono (T:=fun k=>k=D∨k=w.heap.size+1) fun _ _=>Or.inl) (Or.inr rfl) _ _ _ _).below (Nat.le_refl _) (fun k hk=>?_)⟩
    have:=hk0.size
    omega
  ·go_simp
   have hZ:=blk_new w1 (.cells #[.int .i32 0,.int .i32 0,.int .i32 0,.int .i32 0] 214)
   have hle:=hkc.size
   have hkn:=hkc.alloc (.cells #[.int .i32 0,.int .i32 0,.int .i32 0,.int .i32 0] 214)
   refine hK _ _ (keeps_drew hkn) ?_
   clear hK K hkc
   have hkc:=hkn
   clear hkn
   try simp only[show ∀ W:World,W.drew.heap=W.heap from fun _=>rfl] at hZ hle hkc ⊢
   generalize (w1).alloc (.cells #[.int .i32 0,.int .i32 0,.int .i32 0,.int .i32 0] 214)=wn at *
   generalize (w1).heap.size=D at *
   try simp only[Act.put,List.setIfInBounds_toArray,List.set_cons_succ,List.set_cons_zero]
   refine tree_one 7 #[true,true,true,true,true,true,true,true,false,true,false] (by kernel_rfl) (by kernel_rfl) (by kernel_rfl) (by kernel_rfl) (by simp only[opAt,List.getElem?_toArray,List.getElem?_cons_zero,List.getElem?_cons_succ,Option.getD_some];first|rfl|simp[go_sem]) (fun K hK=>?_)
   simp only[opAt,List.getElem?_toArray,List.getElem?_cons_zero,List.getElem?_cons_succ,Option.getD_some]
   go_simp
   refine (hS _).mono ?_
   rintro e w2 ⟨rfl,hbn⟩
   have hkn:=(hkc:Keeps (fun _=>False) w0 wn).then_below hbn
   have hz:=(Keeps.of_below (S:=fun _=>False) hbn (fun k h1 h2=>by omega)).heap hZ id
   refine hK _ _ (keeps_drew hkn) ?_
   clear hK K hkc hbn hZ
   have hkc:=hkn
   have hZ:=hz
   clear hkn hz
   try simp only[Act.put,List.setIfInBounds_toArray,List.set_cons_succ,List.set_cons_zero]
   refine tree_one 8 #[true,true,true,true,true,true,true,true,true,true,false] (by kernel_rfl) (by kernel_rfl) (by kernel_rfl) (by kernel_rfl) (by simp only[opAt,List.getElem?_toArray,List.getElem?_cons_zero,List.getElem?_cons_succ,Option.getD_some];first|rfl|simp[go_sem]) (fun K hK=>?_)
   simp only[opAt,List.getElem?_toArray,List.getElem?_cons_zero,List.getElem?_cons_succ,Option.getD_some]
   go_simp
   refine hK _ _ (keeps_drew hkc) ?_
   clear hK K
   try simp only[Act.put,List.setIfInBounds_toArray,List.set_cons_succ,List.set_cons_zero]
   refine tree_nil (by kernel_rfl) ?_
   try simp only[Act.put,List.setIfInBounds_toArray,List.set_cons_succ,List.set_cons_zero]
   obtain ⟨f0,f1,f2,f3⟩:=bf4 hZ 0 1 2 3
   obtain ⟨g0,g1,g2,g3⟩:=bc4 0 1 2 3 hZ ⟨rfl,rfl,rfl,rfl⟩
   refine stagek (fun _=>True) [] [10] 0 rfl #[true,true,true,true,true,true,true,true,true,true,true] (by kernel_rfl) (by kernel_rfl) (fun _ _ _ d _ h=>by first|(cases d<;>exact h)|cases h.1) ?_
   simp only[opsAt,List.map_cons,List.map_nil,List.getElem?_toArray,List.getElem?_cons_zero,List.getElem?_cons_succ,Option.getD_some]
   repeat (go_big_quiet_step (fail))
   refine wpQuiet_nil ?_
   refine links_cons (by first|rfl|simp[go_sem]) (fun K hK=>?_)
   go_simp
   refine hK _ _ (keptS (keeps_store4 (Keeps.refl (fun _=>True) w2) trivial _ _ _ _)) ?_
   clear hK K
   refine links_nil ?_
   refine stages_end (by kernel_rfl) ?_
   have hB1:=hkc.heap b2 id
   have hl1:w.heap.size+1<w0.heap.size:=blk_lt b2
   have hne:w.heap.size+1≠D:=by omega
   have hZ2:=blk_store4' hZ (.int .i32 (-3932160)) (.int .i32 (-3932160)) (.int .i32 3932160) (.int .i32 3932160)
   have hR2:=(((blk_other (blk_other (blk_other (blk_other hB1 hne _) hne _) hne _) hne _):(((((w2).setCell ⟨D,0,none⟩ (.int .i32 (-3932160))).setCell ⟨D,1,none⟩ (.int .i32 (-3932160))).setCell ⟨D,2,none⟩ (.int .i32 3932160)).setCell ⟨D,3,none⟩ (.int .i32 3932160)).heap[w.heap.size+1]?=some (.cells #[.int .i32 0,.int .i32 0,.int .i32 0,.int .i32 0] 214 (0,0))))
   have hkk:=keeps_store4 ((hk0.trans hkc).mono (T:=fun k=>k=D) (fun _ _ x=>x.elim)) (b:=D) rfl (.int .i32 (-3932160)) (.int .i32 (-3932160)) (.int .i32 3932160) (.int .i32 3932160)
   clear g0 g1 g2 g3 f0 f1 f2 f3 hZ hB1 hkc
   generalize ((((w2).setCell ⟨D,0,none⟩ (.int .i32 (-3932160))).setCell ⟨D,1,none⟩ (.int .i32 (-3932160))).setCell ⟨D,2,none⟩ (.int .i32 3932160)).setCell ⟨D,3,none⟩ (.int .i32 3932160)=w5 at *
   obtain ⟨g0,g1,g2,g3⟩:=bc4 0 1 2 3 hZ2 ⟨rfl,rfl,rfl,rfl⟩
   go_wp2_with fail
   refine (hR _).mono ?_
   rintro e w6 ⟨rfl,hb6⟩
   clear g0 g1 g2 g3
   have hk6:Keeps (fun _=>False) w5 w6:=(Keeps.refl _ w5).then_below hb6
   have hZ6:=hk6.heap hZ2 id
   have hR6:=hk6.heap hR2 id
   obtain ⟨g0,g1,g2,g3⟩:=bc4 0 1 2 3 hZ6 ⟨rfl,rfl,rfl,rfl⟩
   obtain ⟨f0,f1,f2,f3⟩:=bf4 hR6 0 1 2 3
   obtain ⟨r0,r1,r2,r3⟩:=bc4 0 1 2 3 hR6 ⟨rfl,rfl,rfl,rfl⟩
   go_wp2_with fail
   have hR7:=blk_store4' hR6 (.int .i32 (-3932160)) (.int .i32 (-3932160)) (.int .i32 3932160) (.int .i32 3932160)
   obtain ⟨d0,d1,d2,d3⟩:=bc4 0 1 2 3 hR7 ⟨rfl,rfl,rfl,rfl⟩
   refine bodyPost_ret (v:=.tuple #[.agg #[.int .i32 (-3932160),.int .i32 (-3932160),.int .i32 3932160,.int .i32 3932160],.bool true]) (by simp[results,Tryz.results369,go_sem,d0,d1,d2,d3]) rfl ?_
   refine ⟨rfl,(keeps_store4 ((hkk.then_below hb6).mono (T:=fun k=>k=D∨k=w.heap.size+1) fun _ _=>Or.inl) (Or.inr rfl) _ _ _ _).below (Nat.le_refl _) (fun k hk=>?_)⟩
   have:=hk0.size
   omega
 ·go_simp
  have hZ:(w0.alloc (.cells #[.int .i32 0,.int .i32 0,.int .i32 0,.int .i32 0] 214)).drew.heap[w0.heap.size]?=some (.cells #[.int .i32 0,.int .i32 0,.int .i32 0,.int .i32 0] 214 (0,0)):=blk_new w0 (.cells #[.int .i32 0,.int .i32 0,.int .i32 0,.int .i32 0] 214)
  have hkn:=((Keeps.refl (fun _=>False) w0).alloc (.cells #[.int .i32 0,.int .i32 0,.int .i32 0,.int .i32 0] 214)).drew
  refine hK _ _ (keeps_drew hkn) ?_
  clear hK K hkc
  have hkc:=hkn
  clear hkn
  obtain ⟨D,hD⟩:∃ D,D=w0.heap.size:=⟨_,rfl⟩
  have hle:w0.heap.size≤D:=by omega
  rw[←hD] at hZ ⊢
  clear hD
  generalize (w0.alloc (.cells #[.int .i32 0,.int .i32 0,.int .i32 0,.int .i32 0] 214)).drew=wn at *
  try simp only[Act.put,List.setIfInBounds_toArray,List.set_cons_succ,List.set_cons_zero]
  refine tree_one 3 #[true,true,true,true,true,true,true,false,false,true,false] (by kernel_rfl) (by kernel_rfl) (by kernel_rfl) (by kernel_rfl) (by simp only[opAt,List.getElem?_toArray,List.getElem?_cons_zero,List.getElem?_cons_succ,Option.getD_some];first|rfl|simp[go_sem]) (fun K hK=>?_)
  simp only[opAt,List.getElem?_toArray,List.getElem?_cons_zero,List.getElem?_cons_succ,Option.getD_some]
  go_simp
  refine (hA _).mono ?_
  rintro e w1 ⟨rfl,hbn⟩
  have hkn:=(hkc:Keeps (fun _=>False) w0 wn).then_below hbn
  have hz:=(Keeps.of_below (S:=fun _=>False) hbn (fun k h1 h2=>by omega)).heap hZ id
  refine hK _ _ (keeps_drew hkn) ?_
  clear hK K hkc hbn hZ
  have hkc:=hkn
  have hZ:=hz
  clear hkn hz
  try simp only[Act.put,List.setIfInBounds_toArray,List.set_cons_succ,List.set_cons_zero]
  refine tree_one 7 #[true,true,true,true,true,true,true,true,false,true,false] (by kernel_rfl) (by kernel_rfl) (by kernel_rfl) (by kernel_rfl) (by simp only[opAt,List.getElem?_toArray,List.getElem?_cons_zero,List.getElem?_cons_succ,Option.getD_some];first|rfl|simp[go_sem]) (fun K hK=>?_)
  simp only[opAt,List.getElem?_toArray,List.getElem?_cons_zero,List.getElem?_cons_succ,Option.getD_some]
  go_simp
  refine (hS _).mono ?_
  rintro e w2 ⟨rfl,hbn⟩
  have hkn:=(hkc:Keeps (fun _=>False) w0 w1).then_below hbn
  have hz:=(Keeps.of_below (S:=fun _=>False) hbn (fun k h1 h2=>by omega)).heap hZ id
  refine hK _ _ (keeps_drew hkn) ?_
  clear hK K hkc hbn hZ
  have hkc:=hkn
  have hZ:=hz
  clear hkn hz
  try simp only[Act.put,List.setIfInBounds_toArray,List.set_cons_succ,List.set_cons_zero]
  refine tree_one 8 #[true,true,true,true,true,true,true,true,true,true,false] (by kernel_rfl) (by kernel_rfl) (by kernel_rfl) (by kernel_rfl) (by simp only[opAt,List.getElem?_toArray,List.getElem?_cons_zero,List.getElem?_cons_succ,Option.getD_some];first|rfl|simp[go_sem]) (fun K hK=>?_)
  simp only[opAt,List.getElem?_toArray,List.getElem?_cons_zero,List.getElem?_cons_succ,Option.getD_some]
  go_simp
  refine hK _ _ (keeps_drew hkc) ?_
  clear hK K
  try simp only[Act.put,List.setIfInBounds_toArray,List.set_cons_succ,List.set_cons_zero]
  refine tree_nil (by kernel_rfl) ?_
  try simp only[Act.put,List.setIfInBounds_toArray,List.set_cons_succ,List.set_cons_zero]
  obtain ⟨f0,f1,f2,f3⟩:=bf4 hZ 0 1 2 3
  obtain ⟨g0,g1,g2,g3⟩:=bc4 0 1 2 3 hZ ⟨rfl,rfl,rfl,rfl⟩
  refine stagek (fun _=>True) [] [10] 0 rfl #[true,true,true,true,true,true,true,true,true,true,true] (by kernel_rfl) (by kernel_rfl) (fun _ _ _ d _ h=>by first|(cases d<;>exact h)|cases h.1) ?_
  simp only[opsAt,List.map_cons,List.map_nil,List.getElem?_toArray,List.getElem?_cons_zero,List.getElem?_cons_succ,Option.getD_some]
  repeat (go_big_quiet_step (fail))
  refine wpQuiet_nil ?_
  refine links_cons (by first|rfl|simp[go_sem]) (fun K hK=>?_)
  go_simp
  refine hK _ _ (keptS (keeps_store4 (Keeps.refl (fun _=>True) w2) trivial _ _ _ _)) ?_
  clear hK K
  refine links_nil ?_
  refine stages_end (by kernel_rfl) ?_
  have hB1:=hkc.heap b2 id
  have hl1:w.heap.size+1<w0.heap.size:=blk_lt b2
  have hne:w.heap.size+1≠D:=by omega
  have hZ2:=blk_store4' hZ (.int .i32 (-3932160)) (.int .i32 (-3932160)) (.int .i32 3932160) (.int .i32 3932160)
  have hR2:=(((blk_other (blk_other (blk_other (blk_other hB1 hne _) hne _) hne _) hne _):(((((w2).setCell ⟨D,0,none⟩ (.int .i32 (-3932160))).setCell ⟨D,1,none⟩ (.int .i32 (-3932160))).setCell ⟨D,2,none⟩ (.int .i32 3932160)).setCell ⟨D,3,none⟩ (.int .i32 3932160)).heap[w.heap.size+1]?=some (.cells #[.int .i32 0,.int .i32 0,.int .i32 0,.int .i32 0] 214 (0,0))))
  have hkk:=keeps_store4 ((hk0.trans hkc).mono (T:=fun k=>k=D) (fun _ _ x=>x.elim)) (b:=D) rfl (.int .i32 (-3932160)) (.int .i32 (-3932160)) (.int .i32 3932160) (.int .i32 3932160)
  clear g0 g1 g2 g3 f0 f1 f2 f3 hZ hB1 hkc
  generalize ((((w2).setCell ⟨D,0,none⟩ (.int .i32 (-3932160))).setCell ⟨D,1,none⟩ (.int .i32 (-3932160))).setCell ⟨D,2,none⟩ (.int .i32 3932160)).setCell ⟨D,3,none⟩ (.int .i32 3932160)=w5 at *
  obtain ⟨g0,g1,g2,g3⟩:=bc4 0 1 2 3 hZ2 ⟨rfl,rfl,rfl,rfl⟩
  go_wp2_with fail
  refine (hR _).mono ?_
  rintro e w6 ⟨rfl,hb6⟩
  clear g0 g1 g2 g3
  have hk6:Keeps (fun _=>False) w5 w6:=(Keeps.refl _ w5).then_below hb6
  have hZ6:=hk6.heap hZ2 id
  have hR6:=hk6.heap hR2 id
  obtain ⟨g0,g1,g2,g3⟩:=bc4 0 1 2 3 hZ6 ⟨rfl,rfl,rfl,rfl⟩
  obtain ⟨f0,f1,f2,f3⟩:=bf4 hR6 0 1 2 3
  obtain ⟨r0,r1,r2,r3⟩:=bc4 0 1 2 3 hR6 ⟨rfl,rfl,rfl,rfl⟩
  go_wp2_with fail
  have hR7:=blk_store4' hR6 (.int .i32 (-3932160)) (.int .i32 (-3932160)) (.int .i32 3932160) (.int .i32 3932160)
  obtain ⟨d0,d1,d2,d3⟩:=bc4 0 1 2 3 hR7 ⟨rfl,rfl,rfl,rfl⟩
  refine bodyPost_ret (v:=.tuple #[.agg #[.int .i32 (-3932160),.int .i32 (-3932160),.int .i32 3932160,.int .i32 3932160],.bool true]) (by simp[results,Tryz.results369,go_sem,d0,d1,d2,d3]) rfl ?_
  refine ⟨rfl,(keeps_store4 ((hkk.then_below hb6).mono (T:=fun k=>k=D∨k=w.heap.size+1) fun _ _=>Or.inl) (Or.inr rfl) _ _ _ _).below (Nat.le_refl _) (fun k hk=>?_)⟩
  have:=hk0.size
  omega
theorem gm_yard (w:World):Calls Tryz.prog 359 #[] w fun e w'=>e=.returned (.agg #[.int .i32 (-3932160),.int .i32 (-3932160),.int .i32 3932160,.int .i32 3932160])∧Below w.heap.size w w':=by
 have hA:=fun W=>gm_arena W
 have hS:=fun W=>sh_Shrink W
 have hZ:=blk_new w (.cells #[.int .i32 0,.int .i32 0,.int .i32 0,.int .i32 0] 214)
 have hk0:=(Keeps.refl (fun _=>False) w).alloc (.cells #[.int .i32 0,.int .i32 0,.int .i32 0,.int .i32 0] 214)
 go_enter Tryz.func359,Tryz.ntmps359
 go_wp2_with fail
 generalize w.alloc (.cells #[.int .i32 0,.int .i32 0,.int .i32 0,.int .i32 0] 214)=w0 at *
 refine (hA _).mono ?_
 rintro e w1 ⟨rfl,hb1⟩
 go_wp2_with fail
 refine (hS _).mono ?_
 rintro e w2 ⟨rfl,hb2⟩
 have hk2:=(hk0.then_below hb1).then_below hb2
 have hZ2:=(((Keeps.refl (fun _=>False) w0).then_below hb1).then_below hb2).heap hZ id
 clear hZ hk0 hb1 hb2
 have hZ3:=blk_alloc hZ2 (.cells #[.int .i32 (-3932160),.int .i32 (-3932160),.int .i32 3932160,.int .i32 3932160] 214)
 obtain ⟨f0,f1,f2,f3⟩:=bf4 hZ3 0 1 2 3
 obtain ⟨r0,r1,r2,r3⟩:=bc4 0 1 2 3 hZ3 ⟨rfl,rfl,rfl,rfl⟩
 have hs:=hk2.size
 go_wp2_with fail
 have hR7:=blk_store4' hZ3 (.int .i32 (-3932160)) (.int .i32 (-3932160)) (.int .i32 3932160) (.int .i32 3932160)
 obtain ⟨d0,d1,d2,d3⟩:=bc4 0 1 2 3 hR7 ⟨rfl,rfl,rfl,rfl⟩
 refine bodyPost_ret (v:=.agg #[.int .i32 (-3932160),.int .i32 (-3932160),.int .i32 3932160,.int .i32 3932160]) (by simp[results,Tryz.results359,go_sem,d0,d1,d2,d3]) rfl ?_
 refine ⟨rfl,(keeps_store4 (((hk2.alloc _)).mono (T:=fun k=>k=w.heap.size) fun _ _ x=>x.elim) rfl _ _ _ _).below (Nat.le_refl _) (fun k hk=>?_)⟩
 omega
end
section
open Go.RowKit
set_option maxRecDepth 10000
variable {w:World}
theorem after_cell {w:World} {p:Addr} {v:Value} (h:w.cell? p=some v) (x:After w):x.to.cell? p=some v:=
 (World.cell?_of_block (x.below.block p.block (World.block_lt_of_cell? w p h))).trans h
def inR (n a b:Int):Bool:=decide (a≤n)&&decide (n≤b)
def plyOk (f hp co wi dn sc x y:Int):Bool:=inR f 0 65535&&(inR hp 0 3&&(inR co 0 8&&(inR wi 0 20&&(inR dn 0 30&&(inR sc 0 2&&(inB (-3932160) (-3932160) 3932160 3932160 x y&&(decide (hp>0) == decide (dn=0))))))))
set_option maxHeartbeats 4000000 in
theorem gm_player (x y u v f hp co wi dn sc:Int) (w:World):Calls Tryz.prog 344 #[.agg #[.int .i32 x,.int .i32 y,.int .i32 u,.int .i32 v,.int .i64 f,.int .i64 hp,.int .i64 co,.int .i64 wi,.int .i64 dn,.int .i64 sc]] w fun e w'=>e=.returned (.bool (plyOk f hp co wi dn sc x y))∧Below w.heap.size w w':=by
 have h1:=fun W=>gm_within f 0 65535 W
 have h2:=fun W=>gm_within hp 0 3 W
 have h3:=fun W=>gm_within co 0 8 W
 have h4:=fun W=>gm_within wi 0 20 W
 have h5:=fun W=>gm_within dn 0 30 W
 have h6:=fun W=>gm_within sc 0 2 W
 have h7:=fun W=>sh_Inside (-3932160) (-3932160) 3932160 3932160 x y W
 unfold plyOk inR
 generalize (decide (0≤f)&&decide (f≤65535))=c1 at *
 generalize (decide (0≤hp)&&decide (hp≤3))=c2 at *
 generalize (decide (0≤co)&&decide (co≤8))=c3 at *
 generalize (decide (0≤wi)&&decide (wi≤20))=c4 at *
 generalize (decide (0≤dn)&&decide (dn≤30))=c5 at *
 generalize (decide (0≤sc)&&decide (sc≤2))=c6 at *
 generalize inB (-3932160) (-3932160) 3932160 3932160 x y=c7 at *
 have y0:=after_cell (blk_cell (blk_new w (.cells #[.int .i32 x,.int .i32 y,.int .i32 u,.int .i32 v,.int .i64 f,.int .i64 hp,.int .i64 co,.int .i64 wi,.int .i64 dn,.int .i64 sc] 93)) (k:=0) rfl)
 have y1:=after_cell (blk_cell (blk_new w (.cells #[.int .i32 x,.int .i32 y,.int .i32 u,.int .i32 v,.int .i64 f,.int .i64 hp,.int .i64 co,.int .i64 wi,.int .i64 dn,.int .i64 sc] 93)) (k:=1) rfl)
 have y2:=after_cell (blk_cell (blk_new w (.cells #[.int .i32 x,.int .i32 y,.int .i32 u,.int .i32 v,.int .i64 f,.int .i64 hp,.int .i64 co,.int .i64 wi,.int .i64 dn,.int .i64 sc] 93)) (k:=2) rfl)
 have y3:=after_cell (blk_cell (blk_new w (.cells #[.int .i32 x,.int .i32 y,.int .i32 u,.int .i32 v,.int .i64 f,.int .i64 hp,.int .i64 co,.int .i64 wi,.int .i64 dn,.int .i64 sc] 93)) (k:=3) rfl)
 have y4:=after_cell (blk_cell (blk_new w (.cells #[.int .i32 x,.int .i32 y,.int .i32 u,.int .i32 v,.int .i64 f,.int .i64 hp,.int .i64 co,.int .i64 wi,.int .i64 dn,.int .i64 sc] 93)) (k:=4) rfl)
 have y5:=after_cell (blk_cell (blk_new w (.cells #[.int .i32 x,.int .i32 y,.int .i32 u,.int .i32 v,.int .i64 f,.int .i64 hp,.int .i64 co,.int .i64 wi,.int .i64 dn,.int .i64 sc] 93)) (k:=5) rfl)
 have y6:=after_cell (blk_cell (blk_new w (.cells #[.int .i32 x,.int .i32 y,.int .i32 u,.int .i32 v,.int .i64 f,.int .i64 hp,.int .i64 co,.int .i64 wi,.int .i64 dn,.int .i64 sc] 93)) (k:=6) rfl)
 have y7:=after_cell (blk_cell (blk_new w (.cells #[.int .i32 x,.int .i32 y,.int .i32 u,.int .i32 v,.int .i64 f,.int .i64 hp,.int .i64 co,.int .i64 wi,.int .i64 dn,.int .i64 sc] 93)) (k:=7) rfl)
 have y8:=after_cell (blk_cell (blk_new w (.cells #[.int .i32 x,.int .i32 y,.int .i32 u,.int .i32 v,.int .i64 f,.int .i64 hp,.int .i64 co,.int .i64 wi,.int .i64 dn,.int .i64 sc] 93)) (k:=8) rfl)
 have y9:=after_cell (blk_cell (blk_new w (.cells #[.int .i32 x,.int .i32 y,.int .i32 u,.int .i32 v,.int .i64 f,.int .i64 hp,.int .i64 co,.int .i64 wi,.int .i64 dn,.int .i64 sc] 93)) (k:=9) rfl)
 cases c1
 ·go_enter Tryz.func344,Tryz.ntmps344
  go_wp2_with fail
  refine wp_region_after (by kernel_rfl) (by kernel_rfl) ?_
  repeat (go_big_quiet_step (first|(go_at_call 345;first|(with_reducible exact Calls.after_same (h1 _))|(with_reducible exact Calls.after_same (h2 _))|(with_reducible exact Calls.after_same (h3 _))|(with_reducible exact Calls.after_same (h4 _))|(with_reducible exact Calls.after_same (h5 _))|(with_reducible exact Calls.after_same (h6 _)))|(go_at_call 359;exact Calls.after_of (gm_yard _))|(go_at_call 353;exact Calls.after_of (h7 _))))
  refine wpQuiet_nil ?_
  intro _ hw2
  obtain ⟨x2,hw3⟩:=hw2
  subst hw3
  go_wp2_with fail
  go_ret
  exact ⟨by first|rfl|simp_all,(((Below.refl _ w).alloc (Nat.le_refl _) _).trans (x2.below.mono (by simp)))⟩
 ·skip
  cases c2
  ·go_enter Tryz.func344,Tryz.ntmps344
   go_wp2_with fail
   refine wp_region_after (by kernel_rfl) (by kernel_rfl) ?_
   repeat (go_big_quiet_step (first|(go_at_call 345;first|(with_reducible exact Calls.after_same (h1 _))|(with_reducible exact Calls.after_same (h2 _))|(with_reducible exact Calls.after_same (h3 _))|(with_reducible exact Calls.after_same (h4 _))|(with_reducible exact Calls.after_same (h5 _))|(with_reducible exact Calls.after_same (h6 _)))|(go_at_call 359;exact Calls.after_of (gm_yard _))|(go_at_call 353;exact Calls.after_of (h7 _))))
   refine wpQuiet_nil ?_
   intro _ hw2
   obtain ⟨x2,hw3⟩:=hw2
   subst hw3
   go_wp2_with fail
   go_ret
   exact ⟨by first|rfl|simp_all,(((Below.refl _ w).alloc (Nat.le_refl _) _).trans (x2.below.mono (by simp)))⟩
  ·skip
   cases c3
   ·go_enter Tryz.func344,Tryz.ntmps344
    go_wp2_with fail
    refine wp_region_after (by kernel_rfl) (by kernel_rfl) ?_
    repeat (go_big_quiet_step (first|(go_at_call 345;first|(with_reducible exact Calls.after_same (h1 _))|(with_reducible exact Calls.after_same (h2 _))|(with_reducible exact Calls.after_same (h3 _))|(with_reducible exact Calls.after_same (h4 _))|(with_reducible exact Calls.after_same (h5 _))|(with_reducible exact Calls.after_same (h6 _)))|(go_at_call 359;exact Calls.after_of (gm_yard _))|(go_at_call 353;exact Calls.after_of (h7 _))))
    refine wpQuiet_nil ?_
    intro _ hw2
    obtain ⟨x2,hw3⟩:=hw2
    subst hw3
    go_wp2_with fail
    go_ret
    exact ⟨by first|rfl|simp_all,(((Below.refl _ w).alloc (Nat.le_refl _) _).trans (x2.below.mono (by simp)))⟩
   ·skip
    cases c4
    ·go_enter Tryz.func344,Tryz.ntmps344
     go_wp2_with fail
     refine wp_region_after (by kernel_rfl) (by kernel_rfl) ?_
     repeat (go_big_quiet_step (first|(go_at_call 345;first|(with_reducible exact Calls.after_same (h1 _))|(with_reducible exact Calls.after_same (h2 _))|(with_reducible exact Calls.after_same (h3 _))|(with_reducible exact Calls.after_same (h4 _))|(with_reducible exact Calls.after_same (h5 _))|(with_reducible exact Calls.after_same (h6 _)))|(go_at_call 359;exact Calls.after_of (gm_yard _))|(go_at_call 353;exact Calls.after_of (h7 _))))
     refine wpQuiet_nil ?_
     intro _ hw2
     obtain ⟨x2,hw3⟩:=hw2
     subst hw3
     go_wp2_with fail
     go_ret
     exact ⟨by first|rfl|simp_all,(((Below.refl _ w).alloc (Nat.le_refl _) _).trans (x2.below.mono (by simp)))⟩
    ·skip
     cases c5
     ·go_enter Tryz.func344,Tryz.ntmps344
      go_wp2_with fail
      refine wp_region_after (by kernel_rfl) (by kernel_rfl) ?_
      repeat (go_big_quiet_step (first|(go_at_call 345;first|(with_reducible exact Calls.after_same (h1 _))|(with_reducible exact Calls.after_same (h2 _))|(with_reducible exact Calls.after_same (h3 _))|(with_reducible exact Calls.after_same (h4 _))|(with_reducible exact Calls.after_same (h5 _))|(with_reducible exact Calls.after_same (h6 _)))|(go_at_call 359;exact Calls.after_of (gm_yard _))|(go_at_call 353;exact Calls.after_of (h7 _))))
      refine wpQuiet_nil ?_
      intro _ hw2
      obtain ⟨x2,hw3⟩:=hw2
      subst hw3
      go_wp2_with fail
      go_ret
      exact ⟨by first|rfl|simp_all,(((Below.refl _ w).alloc (Nat.le_refl _) _).trans (x2.below.mono (by simp)))⟩
     ·skip
      cases c6
      ·go_enter Tryz.func344,Tryz.ntmps344
       go_wp2_with fail
       refine wp_region_after (by kernel_rfl) (by kernel_rfl) ?_
       repeat (go_big_quiet_step (first|(go_at_call 345;first|(with_reducible exact Calls.after_same (h1 _))|(with_reducible exact Calls.after_same (h2 _))|(with_reducible exact Calls.after_same (h3 _))|(with_reducible exact Calls.after_same (h4 _))|(with_reducible exact Calls.after_same (h5 _))|(with_reducible exact Calls.after_same (h6 _)))|(go_at_call 359;exact Calls.after_of (gm_yard _))|(go_at_call 353;exact Calls.after_of (h7 _))))
       refine wpQuiet_nil ?_
       intro _ hw2
       obtain ⟨x2,hw3⟩:=hw2
       subst hw3
       go_wp2_with fail
       go_ret
       exact ⟨by first|rfl|simp_all,(((Below.refl _ w).alloc (Nat.le_refl _) _).trans (x2.below.mono (by simp)))⟩
      ·skip
       cases c7
       ·go_enter Tryz.func344,Tryz.ntmps344
        go_wp2_with fail
        refine wp_region_after (by kernel_rfl) (by kernel_rfl) ?_
        repeat (go_big_quiet_step (first|(go_at_call 345;first|(with_reducible exact Calls.after_same (h1 _))|(with_reducible exact Calls.after_same (h2 _))|(with_reducible exact Calls.after_same (h3 _))|(with_reducible exact Calls.after_same (h4 _))|(with_reducible exact Calls.after_same (h5 _))|(with_reducible exact Calls.after_same (h6 _)))|(go_at_call 359;exact Calls.after_of (gm_yard _))|(go_at_call 353;exact Calls.after_of (h7 _))))
        refine wpQuiet_nil ?_
        intro _ hw2
        obtain ⟨x2,hw3⟩:=hw2
        subst hw3
        go_wp2_with fail
        go_ret
        exact ⟨by first|rfl|simp_all,(((Below.refl _ w).alloc (Nat.le_refl _) _).trans (x2.below.mono (by simp)))⟩
       ·skip
        by_cases e1:hp>0<;>by_cases e2:dn=0
        all_goals
         try subst e2
         go_enter Tryz.func344,Tryz.ntmps344
         go_wp2_with fail
         refine wp_region_after (by kernel_rfl) (by kernel_rfl) ?_
         repeat (go_big_quiet_step (first|(go_at_call 345;first|(with_reducible exact Calls.after_same (h1 _))|(with_reducible exact Calls.after_same (h2 _))|(with_reducible exact Calls.after_same (h3 _))|(with_reducible exact Calls.after_same (h4 _))|(with_reducible exact Calls.after_same (h5 _))|(with_reducible exact Calls.after_same (h6 _)))|(go_at_call 359;exact Calls.after_of (gm_yard _))|(go_at_call 353;exact Calls.after_of (h7 _))))
         refine wpQuiet_nil ?_
         intro _ hw2
         obtain ⟨x2,hw3⟩:=hw2
         subst hw3
         go_wp2_with fail
         go_ret
         exact ⟨by first|rfl|simp_all,(((Below.refl _ w).alloc (Nat.le_refl _) _).trans (x2.below.mono (by simp)))⟩
def isNo (x y u v ow li:Int):Bool:=decide (x=0∧y=0∧u=0∧v=0∧ow=0∧li=0)
theorem sho_eql (a b c d e f:Int) (w:World):(binOp .eql 96 (.agg #[.int .i32 a,.int .i32 b,.int .i32 c,.int .i32 d,.int .i64 e,.int .i64 f]) (.agg #[.int .i32 0,.int .i32 0,.int .i32 0,.int .i32 0,.int .i64 0,.int .i64 0])).run Tryz.prog w=.ok (.bool (isNo a b c d e f)) w:=by
 have u3:=Tryz.underlying3
 have a3:=Tryz.isAgg3
 have z3:=Tryz.sizeOf3
 have u4:=Tryz.underlying89
 have a4:=Tryz.isAgg89
 have z4:=Tryz.sizeOf89
 have a5:=Tryz.isAgg91
 have z5:=Tryz.sizeOf91
 have hS:Tryz.prog.underlying 96=some (.struct (Tryz.prog.fieldsOf 96)):=by kernel_rfl
 have hp:Tryz.prog.stoodInHeld 96=false:=by kernel_rfl
 have hv:=vec_eq0
 rw[run_eql_struct,show (10000:Nat)=9999+1 from rfl,run_equalIn_agg w 9999 96 _ _ hS hp]
 simp only[Program.fieldsOf,Tryz.underlying96]
 unfold isNo
 clear hS hp
 go_simp
 by_cases h1:a=0<;>by_cases h2:b=0<;>by_cases h3:c=0<;>by_cases h4:d=0<;>by_cases h5:e=0<;>by_cases h6:f=0<;>simp[h1,h2,h3,h4,h5,h6]
def shoOk (x y u v ow li:Int):Bool:=isNo x y u v ow li || (inR ow 1 2&&(inR li 1 40&&inB (-4194304) (-4194304) 4194304 4194304 x y))
theorem gm_shot (x y u v ow li:Int) (w:World):Calls Tryz.prog 343 #[.agg #[.int .i32 x,.int .i32 y,.int .i32 u,.int .i32 v,.int .i64 ow,.int .i64 li]] w fun e w'=>e=.returned (.bool (shoOk x y u v ow li))∧Below w.heap.size w w':=by
 have h1:=fun W=>gm_within ow 1 2 W
 have h2:=fun W=>gm_within li 1 40 W
 have h7:=fun W=>sh_Inside (-4194304) (-4194304) 4194304 4194304 x y W
 have hq:=fun W=>sho_eql x y u v ow li W
 unfold shoOk inR
 generalize (decide (1≤ow)&&decide (ow≤2))=c1 at *
 generalize (decide (1≤li)&&decide (li≤40))=c2 at *
 generalize inB (-4194304) (-4194304) 4194304 4194304 x y=c7 at *
 generalize isNo x y u v ow li=c0 at *
 have y0:=after_cell (blk_cell (blk_new w (.cells #[.int .i32 x,.int .i32 y,.int .i32 u,.int .i32 v,.int .i64 ow,.int .i64 li] 96)) (k:=0) rfl)
 have y1:=after_cell (blk_cell (blk_new w (.cells #[.int .i32 x,.int .i32 y,.int .i32 u,.int .i32 v,.int .i64 ow,.int .i64 li] 96)) (k:=1) rfl)
 have y2:=after_cell (blk_cell (blk_new w (.cells #[.int .i32 x,.int .i32 y,.int .i32 u,.int .i32 v,.int .i64 ow,.int .i64 li] 96)) (k:=2) rfl)
 have y3:=after_cell (blk_cell (blk_new w (.cells #[.int .i32 x,.int .i32 y,.int .i32 u,.int .i32 v,.int .i64 ow,.int .i64 li] 96)) (k:=3) rfl)
 have y4:=after_cell (blk_cell (blk_new w (.cells #[.int .i32 x,.int .i32 y,.int .i32 u,.int .i32 v,.int .i64 ow,.int .i64 li] 96)) (k:=4) rfl)
 have y5:=after_cell (blk_cell (blk_new w (.cells #[.int .i32 x,.int .i32 y,.int .i32 u,.int .i32 v,.int .i64 ow,.int .i64 li] 96)) (k:=5) rfl)
 cases c0
 ·cases c1
  ·go_enter Tryz.func343,Tryz.ntmps343
   go_wp2_with fail
   refine wp_region_after (by kernel_rfl) (by kernel_rfl) ?_
   repeat (go_big_quiet_step (first|(go_at_call 345;first|(with_reducible exact Calls.after_same (h1 _))|(with_reducible exact Calls.after_same (h2 _)))|(go_at_call 354;exact Calls.after_of (gm_arena _))|(go_at_call 353;exact Calls.after_of (h7 _))))
   refine wpQuiet_nil ?_
   intro _ hw2
   obtain ⟨x2,hw3⟩:=hw2
   subst hw3
   go_wp2_with fail
   go_ret
   exact ⟨by first|rfl|simp_all,(((Below.refl _ w).alloc (Nat.le_refl _) _).trans (x2.below.mono (by simp)))⟩
  ·cases c2
   ·go_enter Tryz.func343,Tryz.ntmps343
    go_wp2_with fail
    refine wp_region_after (by kernel_rfl) (by kernel_rfl) ?_
    repeat (go_big_quiet_step (first|(go_at_call 345;first|(with_reducible exact Calls.after_same (h1 _))|(with_reducible exact Calls.after_same (h2 _)))|(go_at_call 354;exact Calls.after_of (gm_arena _))|(go_at_call 353;exact Calls.after_of (h7 _))))
    refine wpQuiet_nil ?_
    intro _ hw2
    obtain ⟨x2,hw3⟩:=hw2
    subst hw3
    go_wp2_with fail
    go_ret
    exact ⟨by first|rfl|simp_all,(((Below.refl _ w).alloc (Nat.le_refl _) _).trans (x2.below.mono (by simp)))⟩
   ·cases c7
    ·go_enter Tryz.func343,Tryz.ntmps343
     go_wp2_with fail
     refine wp_region_after (by kernel_rfl) (by kernel_rfl) ?_
     repeat (go_big_quiet_step (first|(go_at_call 345;first|(with_reducible exact Calls.after_same (h1 _))|(with_reducible exact Calls.after_same (h2 _)))|(go_at_call 354;exact Calls.after_of (gm_arena _))|(go_at_call 353;exact Calls.after_of (h7 _))))
     refine wpQuiet_nil ?_
     intro _ hw2
     obtain ⟨x2,hw3⟩:=hw2
     subst hw3
     go_wp2_with fail
     go_ret
     exact ⟨by first|rfl|simp_all,(((Below.refl _ w).alloc (Nat.le_refl _) _).trans (x2.below.mono (by simp)))⟩
    ·go_enter Tryz.func343,Tryz.ntmps343
     go_wp2_with fail
     refine wp_region_after (by kernel_rfl) (by kernel_rfl) ?_
     repeat (go_big_quiet_step (first|(go_at_call 345;first|(with_reducible exact Calls.after_same (h1 _))|(with_reducible exact Calls.after_same (h2 _)))|(go_at_call 354;exact Calls.after_of (gm_arena _))|(go_at_call 353;exact Calls.after_of (h7 _))))
     refine wpQuiet_nil ?_
     intro _ hw2
     obtain ⟨x2,hw3⟩:=hw2
     subst hw3
     go_wp2_with fail
     go_ret
     exact ⟨by first|rfl|simp_all,(((Below.refl _ w).alloc (Nat.le_refl _) _).trans (x2.below.mono (by simp)))⟩
 ·go_enter Tryz.func343,Tryz.ntmps343
  go_wp2_with fail
  refine wp_region_after (by kernel_rfl) (by kernel_rfl) ?_
  repeat (go_big_quiet_step (first|(go_at_call 345;first|(with_reducible exact Calls.after_same (h1 _))|(with_reducible exact Calls.after_same (h2 _)))|(go_at_call 354;exact Calls.after_of (gm_arena _))|(go_at_call 353;exact Calls.after_of (h7 _))))
  refine wpQuiet_nil ?_
  intro _ hw2
  obtain ⟨x2,hw3⟩:=hw2
  subst hw3
  go_wp2_with fail
  go_ret
  exact ⟨by first|rfl|simp_all,(((Below.refl _ w).alloc (Nat.le_refl _) _).trans (x2.below.mono (by simp)))⟩
end
section
open Go.RowKit
set_option maxRecDepth 10000
variable {w:World}
def shoAt (v:Nat→Int) (j:Nat):Bool:=shoOk (v (24+6*j)) (v (25+6*j)) (v (26+6*j)) (v (27+6*j)) (v (28+6*j)) (v (29+6*j))
def plyAt (v:Nat→Int) (o:Nat):Bool:=plyOk (v (o+4)) (v (o+5)) (v (o+6)) (v (o+7)) (v (o+8)) (v (o+9)) (v o) (v (o+1))
def shosOk (v:Nat→Int):Nat→Bool
 | 0=>true
 | j+1=>shosOk v j&&shoAt v j
def rightS (v:Nat→Int):Bool:=shosOk v 6&&(plyAt v 4&&(plyAt v 14&&(inR (v 0) 0 1073741824&&(inR (v 2) 0 1073741824&&inR (v 3) 1 600))))
theorem shosOk_false {v:Nat→Int} {j:Nat} (h:shoAt v j=false) (hj:j<6):shosOk v 6=false:=by
 have:∀ k,j+1+k≤6→shosOk v (j+1+k)=false:=by
  intro k
  induction k with
  | zero=>intro _;simp[shosOk,h]
  | succ k ih=>intro hk;rw[show j+1+(k+1)=(j+1+k)+1 by omega];simp[shosOk,ih (by omega)]
 have:=this (6-(j+1)) (by omega)
 rwa [show j+1+(6-(j+1))=6 by omega] at this
def plyC (v:Nat→Int) (o:Nat):Array Value:=#[.int .i32 (v o),.int .i32 (v (o+1)),.int .i32 (v (o+2)),.int .i32 (v (o+3)),.int .i64 (v (o+4)),.int .i64 (v (o+5)),.int .i64 (v (o+6)),.int .i64 (v (o+7)),.int .i64 (v (o+8)),.int .i64 (v (o+9))]
structure Rgt (w wr:World) (v:Nat→Int) (B:Nat) (j:Nat):Prop where
 blk:wr.heap[B]?=some (.cells (mkC v) 99 (0,0))
 bel:Below w.heap.size w wr
 ok:shosOk v j=true
set_option maxHeartbeats 1000000 in
theorem gm_Right (v:Nat→Int) (w:World):Calls Tryz.prog 322 #[.agg (mkC v)] w fun e w'=>e=.returned (.bool (rightS v))∧Below w.heap.size w w':=by
 go_enter Tryz.func322,Tryz.ntmps322
 have hB:=blk_new w (.cells (mkC v) 99)
 have hb:=(Below.refl w.heap.size w).alloc (Nat.le_refl _) (.cells (mkC v) 99)
 have hload:=run_load_shos v w.heap.size _ _ hB
 have hR:=hid (show Rgt w (w.alloc (.cells (mkC v) 99)) v w.heap.size 0 from ⟨hB,hb,rfl⟩)
 clear hb
 go_wp2_with (refine wpList_run_load hload rfl rfl rfl ?_)
 clear hload
 generalize w.alloc (.cells (mkC v) 99)=w0 at *
 generalize hBe:w.heap.size=B at *
 clear hB
 go_loopw [7] (fun i wr=>∃ j:Nat,j≤6∧i=.int .i64 j∧Hid (Rgt w wr v B j)) (fun i _=>6-(intOf i).toNat)
 case atStart=>exact ⟨0,by omega,rfl,hR⟩
 case round=>
  obtain ⟨j,hj,rfl,hC⟩:=hrel
  obtain ⟨wo,rfl⟩:∃ wo:World,wo=wr:=⟨_,rfl⟩
  clear hR
  by_cases hlt:(j:Int)<6
  ·have hI:=run_index_sho v j (by omega)
   unfold shoC at hI
   have hG:=fun W=>gm_shot (v (24+6*j)) (v (25+6*j)) (v (26+6*j)) (v (27+6*j)) (v (28+6*j)) (v (29+6*j)) W
   rw[show shoOk (v (24+6*j)) (v (25+6*j)) (v (26+6*j)) (v (27+6*j)) (v (28+6*j)) (v (29+6*j))=shoAt v j from rfl] at hG
   go_wp2_with fail
   refine (hG _).mono ?_
   rintro e w1 ⟨rfl,hb1⟩
   have hk1:Keeps (fun _=>False) wo w1:=((Keeps.refl _ wo).alloc _).then_below hb1
   clear hb1 hG hI
   cases hs:shoAt v j
   ·have hf:=shosOk_false hs (by omega)
    have hbe:=hC.out.bel.trans (hk1.below hC.out.bel.size (fun k _ x=>x))
    go_wp2_with fail
    go_ret
    exact ⟨by simp[rightS,hf],hbe⟩
   ·go_wp2_with fail
    go_roundw
    case rel=>
     exact ⟨j+1,by omega,by go_num,⟨hk1.heap hC.out.blk id,hC.out.bel.trans (hk1.below hC.out.bel.size (fun k _ x=>x)),by simp[shosOk,hC.out.ok,hs]⟩⟩
    case measure=>simp[intOf];omega
  ·obtain rfl:j=6:=by omega
   obtain ⟨h1,h2,h3⟩:=hC.out
   clear hC
   have hP0:=fun W=>gm_player (v 4) (v 5) (v 6) (v 7) (v 8) (v 9) (v 10) (v 11) (v 12) (v 13) W
   have hP1:=fun W=>gm_player (v 14) (v 15) (v 16) (v 17) (v 18) (v 19) (v 20) (v 21) (v 22) (v 23) W
   rw[show plyOk (v 8) (v 9) (v 10) (v 11) (v 12) (v 13) (v 4) (v 5)=plyAt v 4 from rfl] at hP0
   rw[show plyOk (v 18) (v 19) (v 20) (v 21) (v 22) (v 23) (v 14) (v 15)=plyAt v 14 from rfl] at hP1
   have hW0:=fun W=>gm_within (v 0) 0 1073741824 W
   have hW2:=fun W=>gm_within (v 2) 0 1073741824 W
   have hW3:=fun W=>gm_within (v 3) 1 600 W
   rw[show (decide (0≤v 0)&&decide (v 0≤1073741824))=inR (v 0) 0 1073741824 from rfl] at hW0
   rw[show (decide (0≤v 2)&&decide (v 2≤1073741824))=inR (v 2) 0 1073741824 from rfl] at hW2
   rw[show (decide (1≤v 3)&&decide (v 3≤600))=inR (v 3) 1 600 from rfl] at hW3
   have hr:rightS v=(plyAt v 4&&(plyAt v 14&&(inR (v 0) 0 1073741824&&(inR (v 2) 0 1073741824&&inR (v 3) 1 600)))):=by simp[rightS,h3]
   generalize plyAt v 4=c1 at *
   generalize plyAt v 14=c2 at *
   generalize inR (v 0) 0 1073741824=c3 at *
   generalize inR (v 2) 0 1073741824=c4 at *
   generalize inR (v 3) 1 600=c5 at *
   have Hr:=hid hr
   clear hr h3
   have y4:wo.cell? ⟨B,4,none⟩=some (.int .i32 (v 4)):=blk_cell h1 (mkC_get v (o:=4) (by omega))
   have y5:wo.cell? ⟨B,5,none⟩=some (.int .i32 (v 5)):=blk_cell h1 (mkC_get v (o:=5) (by omega))
   have y6:wo.cell? ⟨B,6,none⟩=some (.int .i32 (v 6)):=blk_cell h1 (mkC_get v (o:=6) (by omega))
   have y7:wo.cell? ⟨B,7,none⟩=some (.int .i32 (v 7)):=blk_cell h1 (mkC_get v (o:=7) (by omega))
   have y8:wo.cell? ⟨B,8,none⟩=some (.int .i64 (v 8)):=blk_cell h1 (mkC_get v (o:=8) (by omega))
   have y9:wo.cell? ⟨B,9,none⟩=some (.int .i64 (v 9)):=blk_cell h1 (mkC_get v (o:=9) (by omega))
   have y10:wo.cell? ⟨B,10,none⟩=some (.int .i64 (v 10)):=blk_cell h1 (mkC_get v (o:=10) (by omega))
   have y11:wo.cell? ⟨B,11,none⟩=some (.int .i64 (v 11)):=blk_cell h1 (mkC_get v (o:=11) (by omega))
   have y12:wo.cell? ⟨B,12,none⟩=some (.int .i64 (v 12)):=blk_cell h1 (mkC_get v (o:=12) (by omega))
   have y13:wo.cell? ⟨B,13,none⟩=some (.int .i64 (v 13)):=blk_cell h1 (mkC_get v (o:=13) (by omega))
   go_wp2_with fail
   refine (hP0 _).mono ?_
   rintro e w1 ⟨rfl,hb1⟩
   have hk1:=(Keeps.refl (fun _=>False) wo).then_below hb1
   have g1:=hk1.heap h1 id
   have hbe:=h2.trans (hk1.below h2.size (fun k _ x=>x))
   clear y4 y5 y6 y7 y8 y9 y10 y11 y12 y13
   clear h1 h2 hP0 hb1 hk1
   cases c1
   ·go_wp2_with fail
    go_ret
    exact ⟨by rw[Hr.out];first|rfl|simp,hbe⟩
   have y14:w1.cell? ⟨B,14,none⟩=some (.int .i32 (v 14)):=blk_cell g1 (mkC_get v (o:=14) (by omega))
   have y15:w1.cell? ⟨B,15,none⟩=some (.int .i32 (v 15)):=blk_cell g1 (mkC_get v (o:=15) (by omega))
   have y16:w1.cell? ⟨B,16,none⟩=some (.int .i32 (v 16)):=blk_cell g1 (mkC_get v (o:=16) (by omega))
   have y17:w1.cell? ⟨B,17,none⟩=some (.int .i32 (v 17)):=blk_cell g1 (mkC_get v (o:=17) (by omega))
   have y18:w1.cell? ⟨B,18,none⟩=some (.int .i64 (v 18)):=blk_cell g1 (mkC_get v (o:=18) (by omega))
   have y19:w1.cell? ⟨B,19,none⟩=some (.int .i64 (v 19)):=blk_cell g1 (mkC_get v (o:=19) (by omega))
   have y20:w1.cell? ⟨B,20,none⟩=some (.int .i64 (v 20)):=blk_cell g1 (mkC_get v (o:=20) (by omega))
   have y21:w1.cell? ⟨B,21,none⟩=some (.int .i64 (v 21)):=blk_cell g1 (mkC_get v (o:=21) (by omega))
   have y22:w1.cell? ⟨B,22,none⟩=some (.int .i64 (v 22)):=blk_cell g1 (mkC_get v (o:=22) (by omega))
   have y23:w1.cell? ⟨B,23,none⟩=some (.int .i64 (v 23)):=blk_cell g1 (mkC_get v (o:=23) (by omega))
   go_wp2_with fail
   refine (hP1 _).mono ?_
   rintro e w2 ⟨rfl,hb1⟩
   have hk1:=(Keeps.refl (fun _=>False) w1).then_below hb1
   have g2:=hk1.heap g1 id
   have hbf:=hbe.trans (hk1.below hbe.size (fun k _ x=>x))
   clear y14 y15 y16 y17 y18 y19 y20 y21 y22 y23
   clear g1 hbe hP1 hb1 hk1
   cases c2
   ·go_wp2_with fail
    go_ret
    exact ⟨by rw[Hr.out];first|rfl|simp,hbf⟩
   have y0:w2.cell? ⟨B,0,none⟩=some (.int .i64 (v 0)):=blk_cell g2 (mkC_get v (o:=0) (by omega))
   have y2:w2.cell? ⟨B,2,none⟩=some (.int .i64 (v 2)):=blk_cell g2 (mkC_get v (o:=2) (by omega))
   have y3:w2.cell? ⟨B,3,none⟩=some (.int .i64 (v 3)):=blk_cell g2 (mkC_get v (o:=3) (by omega))
   go_wp2_with fail
   refine (hW0 _).mono ?_
   rintro e _ ⟨rfl,rfl⟩
   cases c3
   ·go_wp2_with fail
    go_ret
    exact ⟨by rw[Hr.out];first|rfl|simp,hbf⟩
   go_wp2_with fail
   refine (hW2 _).mono ?_
   rintro e _ ⟨rfl,rfl⟩
   cases c4
   ·go_wp2_with fail
    go_ret
    exact ⟨by rw[Hr.out];first|rfl|simp,hbf⟩
   go_wp2_with fail
   refine (hW3 _).mono ?_
   rintro e _ ⟨rfl,rfl⟩
   cases c5
   ·go_wp2_with fail
    go_ret
    exact ⟨by rw[Hr.out];first|rfl|simp,hbf⟩
   go_wp2_with fail
   go_ret
   exact ⟨by rw[Hr.out];first|rfl|simp,hbf⟩
end
section
open Go.RowKit
set_option maxRecDepth 10000
variable {w w':World}
theorem tw_body (x y u v f hp co wi dn sc:Int) (w:World):Calls Tryz.prog 206 #[.agg #[.int .i32 x,.int .i32 y,.int .i32 u,.int .i32 v,.int .i64 f,.int .i64 hp,.int .i64 co,.int .i64 wi,.int .i64 dn,.int .i64 sc]] w fun e w'=>e=.returned (.agg #[.int .i32 x,.int .i32 y,.int .i64 f,.bool (decide (dn=0))])∧Below w.heap.size w w':=by
 have hS:=blk_alloc (blk_new w (.cells #[.int .i32 x,.int .i32 y,.int .i32 u,.int .i32 v,.int .i64 f,.int .i64 hp,.int .i64 co,.int .i64 wi,.int .i64 dn,.int .i64 sc] 93)) (.cells #[.int .i32 0,.int .i32 0,.int .i64 0,.bool false] 258)
 have hZ:=blk_new (w.alloc (.cells #[.int .i32 x,.int .i32 y,.int .i32 u,.int .i32 v,.int .i64 f,.int .i64 hp,.int .i64 co,.int .i64 wi,.int .i64 dn,.int .i64 sc] 93)) (.cells #[.int .i32 0,.int .i32 0,.int .i64 0,.bool false] 258)
 rw[World.size_alloc] at hZ
 obtain ⟨hst,hload,hk⟩:=store_all _ 258 4 (w.heap.size+1) #[.int .i32 x,.int .i32 y,.int .i64 f,.bool (decide (dn=0))] #[.int .i32 0,.int .i32 0,.int .i64 0,.bool false] Tryz.sizeOf258 rfl rfl hZ rfl
 have hbe:=(((Keeps.refl (fun j=>j=w.heap.size+1) w).alloc (.cells #[.int .i32 x,.int .i32 y,.int .i32 u,.int .i32 v,.int .i64 f,.int .i64 hp,.int .i64 co,.int .i64 wi,.int .i64 dn,.int .i64 sc] 93)).alloc (.cells #[.int .i32 0,.int .i32 0,.int .i64 0,.bool false] 258)).trans hk
 have hbe:=hbe.below (B:=w.heap.size) (Nat.le_refl _) (fun k h1 h2=>by omega)
 clear hZ hk
 obtain ⟨y0,y1,y4,y8⟩:=bc4 0 1 4 8 hS ⟨rfl,rfl,rfl,rfl⟩
 clear hS
 go_enter Tryz.func206,Tryz.ntmps206
 go_wp2_with (first|(refine wpList_run_store hst rfl rfl rfl rfl ?_)|fail)
 refine bodyPost_ret (v:=.agg #[.int .i32 x,.int .i32 y,.int .i64 f,.bool (decide (dn=0))]) (by simp[results,Tryz.results206,Act.put,asAddr,loadVar,loadCells,Tryz.isAgg258,Tryz.sizeOf258,hload]) rfl ?_
 exact ⟨rfl,hbe⟩
theorem tw_spot (x y u v ow li:Int) (w:World):Calls Tryz.prog 207 #[.agg #[.int .i32 x,.int .i32 y,.int .i32 u,.int .i32 v,.int .i64 ow,.int .i64 li]] w fun e w'=>e=.returned (.agg #[.int .i32 x,.int .i32 y,.int .i64 ow])∧Below w.heap.size w w':=by
 have hS:=blk_alloc (blk_new w (.cells #[.int .i32 x,.int .i32 y,.int .i32 u,.int .i32 v,.int .i64 ow,.int .i64 li] 96)) (.cells #[.int .i32 0,.int .i32 0,.int .i64 0] 261)
 have hZ:=blk_new (w.alloc (.cells #[.int .i32 x,.int .i32 y,.int .i32 u,.int .i32 v,.int .i64 ow,.int .i64 li] 96)) (.cells #[.int .i32 0,.int .i32 0,.int .i64 0] 261)
 rw[World.size_alloc] at hZ
 obtain ⟨hst,hload,hk⟩:=store_all _ 261 3 (w.heap.size+1) #[.int .i32 x,.int .i32 y,.int .i64 ow] #[.int .i32 0,.int .i32 0,.int .i64 0] Tryz.sizeOf261 rfl rfl hZ rfl
 have hbe:=(((Keeps.refl (fun j=>j=w.heap.size+1) w).alloc (.cells #[.int .i32 x,.int .i32 y,.int .i32 u,.int .i32 v,.int .i64 ow,.int .i64 li] 96)).alloc (.cells #[.int .i32 0,.int .i32 0,.int .i64 0] 261)).trans hk
 have hbe:=hbe.below (B:=w.heap.size) (Nat.le_refl _) (fun k h1 h2=>by omega)
 clear hZ hk
 obtain ⟨y0,y1,y4⟩:=bc3 0 1 4 hS ⟨rfl,rfl,rfl⟩
 clear hS
 go_enter Tryz.func207,Tryz.ntmps207
 go_wp2_with (first|(refine wpList_run_store hst rfl rfl rfl rfl ?_)|fail)
 refine bodyPost_ret (v:=.agg #[.int .i32 x,.int .i32 y,.int .i64 ow]) (by simp[results,Tryz.results207,Act.put,asAddr,loadVar,loadCells,Tryz.isAgg261,Tryz.sizeOf261,hload]) rfl ?_
 exact ⟨rfl,hbe⟩
def plysC (v:Nat→Int):Array Value:=((List.range 20).map fun j=>Value.int (kindAt (4+j)) (v (4+j))).toArray
theorem run_index_ply0 (v:Nat→Int) (w:World):(Instr.index 94 (.agg (plysC v)) (.int .i64 0)).run Tryz.prog w=.ok (.agg (plyC v 4)) w:=by kernel_rfl
theorem run_index_ply1 (v:Nat→Int) (w:World):(Instr.index 94 (.agg (plysC v)) (.int .i64 1)).run Tryz.prog w=.ok (.agg (plyC v 14)) w:=by kernel_rfl
theorem run_index_ply (v:Nat→Int) (k:Nat) (h:k<2) (w:World):(Instr.index 94 (.agg (plysC v)) (.int .i64 (k:Nat))).run Tryz.prog w=.ok (.agg (plyC v (4+10*k))) w:=by
 match k,h with
 | 0,_=>exact run_index_ply0 v w
 | 1,_=>exact run_index_ply1 v w
theorem run_load_plys (v:Nat→Int) (B:Nat) (w:World) (t:TypeId) (hB:w.heap[B]?=some (.cells (mkC v) t (0,0))):(Instr.loadAt 94 (.pointer (some ⟨B,4,none⟩))).run Tryz.prog w=.ok (.agg (plysC v)) w:=by
 refine run_load_agg 94 20 B 4 (plysC v) (mkC v) t Tryz.isAgg94 Tryz.sizeOf94 (by simp[plysC]) hB ?_
 intro j x hj
 have h:j<20:=by
  have:=(Array.getElem?_eq_some_iff.1 hj).1
  simpa[plysC] using this
 rw[mkC_get _ (by omega)]
 simpa[plysC,h] using hj
def zvC:Array Value:=#[.int .i32 0,.int .i32 0,.int .i64 0,.bool false,.int .i32 0,.int .i32 0,.int .i64 0,.bool false,.int .i32 0,.int .i32 0,.int .i64 0,.int .i32 0,.int .i32 0,.int .i64 0,.int .i32 0,.int .i32 0,.int .i64 0,.int .i32 0,.int .i32 0,.int .i64 0,.int .i32 0,.int .i32 0,.int .i64 0,.int .i32 0,.int .i32 0,.int .i64 0]
theorem run_alloc_vw (w:World):(Instr.alloc 264 true (.tuple #[])).run Tryz.prog w=.ok (.pointer (some ⟨w.heap.size,0,none⟩)) (w.alloc (.cells zvC 264)):=by kernel_rfl
structure Vw (w:World) (v:Nat→Int) (c:Array Value) (w':World):Prop where
 box:w'.heap[w.heap.size]?=some (.cells (mkC v) 99 (0,0))
 res:w'.heap[w.heap.size+1]?=some (.cells zvC 264 (0,0))
 st:w'.heap[w.heap.size+2]?=some (.cells c 264 (0,0))
 sz:c.size=26
 one:∀ u∈c.toList,u.oneCell'=true
 kp:Keeps (fun _=>False) w w'
namespace Vw
variable {v:Nat→Int} {c:Array Value}
theorem keep {w'':World} (h:Vw w v c w') (hk:Keeps (fun _=>False) w' w''):Vw w v c w'':=
 ⟨hk.heap h.box id,hk.heap h.res id,hk.heap h.st id,h.sz,h.one,h.kp.trans hk⟩
theorem put (h:Vw w v c w') (o:Nat) (p:Array Value) (hp:o+p.size≤26) (h1:∀ u∈p.toList,u.oneCell'=true):Vw w v (spliceA c o p) (w'.setRow (w.heap.size+2) (spliceA c o p)):=by
 have hk:=keeps_setRow w' (w.heap.size+2) (spliceA c o p)
 refine ⟨hk.heap h.box (by omega),hk.heap h.res (by omega),setRow_at w' _ _ _ _ h.st,by rw[spliceA_size _ _ _ (by rw[h.sz];omega),h.sz],fun u hu=>?_,?_⟩
 ·unfold spliceA at hu
  simp only[List.mem_append] at hu
  rcases hu with (hu|hu)|hu
  ·exact h.one u (List.mem_of_mem_take hu)
  ·exact h1 u hu
  ·exact h.one u (List.mem_of_mem_drop hu)
 ·exact keeps_past h.kp hk (fun k hk e=>by omega)
end Vw
set_option maxHeartbeats 1000000 in
theorem tw_Of (v:Nat→Int) (w:World):Calls Tryz.prog 136 #[.agg (mkC v)] w fun e w'=>(∃ c,e=.returned (.agg c)∧c.size=26∧∀ u∈c.toList,u.oneCell'=true)∧Below w.heap.size w w':=by
 have hal1:=run_alloc_vw (w.alloc (.cells (mkC v) 99))
 rw[World.size_alloc] at hal1
 have hal2:=run_alloc_vw ((w.alloc (.cells (mkC v) 99)).alloc (.cells zvC 264))
 simp only[World.size_alloc] at hal2
 have hV:Vw w v zvC (((w.alloc (.cells (mkC v) 99)).alloc (.cells zvC 264)).alloc (.cells zvC 264)):=by
  refine ⟨blk_alloc (blk_alloc (blk_new w _) _) _,?_,?_,rfl,by decide,(((Keeps.refl _ w).alloc _).alloc _).alloc _⟩
  ·have:=blk_alloc (blk_new (w.alloc (.cells (mkC v) 99)) (.cells zvC 264)) (.cells zvC 264)
   rwa [World.size_alloc] at this
  ·have:=blk_new ((w.alloc (.cells (mkC v) 99)).alloc (.cells zvC 264)) (.cells zvC 264)
   rwa [World.size_alloc,World.size_alloc] at this
 have hload:=run_load_plys v w.heap.size _ _ hV.box
 have hload2:=fun W (h:W.heap[w.heap.size]?=some (.cells (mkC v) 99 (0,0)))=>run_load_shos v w.heap.size W _ h
 have HV:=hid hV
 clear hV
 generalize hzv:zvC=zv at *
 have Hz:=hid hzv
 clear hzv
 go_enter Tryz.func136,Tryz.ntmps136
 go_wp2_with (first|(refine wpList_run_alloc hal1 rfl rfl ?_)|(refine wpList_run_alloc hal2 rfl rfl ?_)|(refine wpList_run_load hload rfl rfl rfl ?_)|fail)
 go_loopg [10] 2 (fun g i wr=>∃ k:Nat,∃ c,g=2-k∧k≤2∧i=.int .i64 k∧Vw w v c wr)
 case atStart=>exact ⟨0,zv,rfl,by omega,rfl,HV.out⟩
 case round=>
  obtain ⟨k,c,hg,hk,rfl,hC⟩:=hrel
  clear HV hal1 hal2 hload
  by_cases hlt:k<2
  ·have hI:=run_index_ply v k hlt
   unfold plyC at hI
   have hG:=hid (fun W=>tw_body (v (4+10*k)) (v (4+10*k+1)) (v (4+10*k+2)) (v (4+10*k+3)) (v (4+10*k+4)) (v (4+10*k+5)) (v (4+10*k+6)) (v (4+10*k+7)) (v (4+10*k+8)) (v (4+10*k+9)) W)
   go_wp2_with fail
   refine (hG.out _).mono ?_
   rintro e w1 ⟨rfl,hb1⟩
   have hk1:Keeps (fun _=>False) wr w1:=((Keeps.refl _ wr).alloc _).then_below hb1
   have hC1:=hC.keep hk1
   obtain ⟨hst⟩:Nonempty ((Instr.storeAt 258 (.pointer (some ⟨w.heap.size+1+1,k*4,none⟩)) (.agg #[.int .i32 (v (4+10*k)),.int .i32 (v (4+10*k+1)),.int .i64 (v (4+10*k+4)),.bool (decide (v (4+10*k+8)=0))])).run Tryz.prog w1=.ok () (w1.setRow (w.heap.size+2) (spliceA c (k*4) #[.int .i32 (v (4+10*k)),.int .i32 (v (4+10*k+1)),.int .i64 (v (4+10*k+4)),.bool (decide (v (4+10*k+8)=0))]))):=
    ⟨run_store_agg 258 4 (w.heap.size+1+1) (k*4) _ c 264 Tryz.sizeOf258 rfl hC1.st (by rw[hC1.sz];omega) (by intro u hu;simp at hu;rcases hu with rfl|rfl|rfl|rfl<;>rfl)⟩
   have hP:=hC1.put (k*4) #[.int .i32 (v (4+10*k)),.int .i32 (v (4+10*k+1)),.int .i64 (v (4+10*k+4)),.bool (decide (v (4+10*k+8)=0))] (by simp;omega) (by intro u hu;simp at hu;rcases hu with rfl|rfl|rfl|rfl<;>rfl)
   clear hk1 hb1 hC1 hG hC
   go_wp2_with (first|(refine wpList_run_store hst rfl rfl rfl rfl ?_)|fail)
   go_roundg (2-(k+1))
   case rel=>exact ⟨k+1,_,rfl,by omega,by go_num,hP⟩
   case measure=>omega
  ·obtain rfl:k=2:=by omega
   have hl2:=hload2 _ hC.box
   clear hload2
   go_wp2_with (first|(refine wpList_run_load hl2 rfl rfl rfl ?_)|fail)
   clear hl2
   go_loopg [22] 6 (fun g i wr=>∃ k:Nat,∃ c,g=6-k∧k≤6∧i=.int .i64 k∧Vw w v c wr)
   case atStart=>exact ⟨0,c,rfl,by omega,rfl,hC⟩
   case round=>
    obtain ⟨k,c,hg,hk,rfl,hC⟩:=hrel
    by_cases hlt:k<6
    ·have hI:=run_index_sho v k hlt
     unfold shoC at hI
     have hG:=hid (fun W=>tw_spot (v (24+6*k)) (v (25+6*k)) (v (26+6*k)) (v (27+6*k)) (v (28+6*k)) (v (29+6*k)) W)
     go_wp2_with fail
     refine (hG.out _).mono ?_
     rintro e w1 ⟨rfl,hb1⟩
     have hk1:Keeps (fun _=>False) wr w1:=((Keeps.refl _ wr).alloc _).then_below hb1
     have hC1:=hC.keep hk1
     have hst:(Instr.storeAt 261 (.pointer (some ⟨w.heap.size+1+1,8+k*3,none⟩)) (.agg #[.int .i32 (v (24+6*k)),.int .i32 (v (25+6*k)),.int .i64 (v (28+6*k))])).run Tryz.prog w1=.ok () (w1.setRow (w.heap.size+2) (spliceA c (8+k*3) #[.int .i32 (v (24+6*k)),.int .i32 (v (25+6*k)),.int .i64 (v (28+6*k))])):=
      run_store_agg 261 3 (w.heap.size+1+1) (8+k*3) _ c 264 Tryz.sizeOf261 rfl hC1.st (by rw[hC1.sz];omega) (by intro u hu;simp at hu;rcases hu with rfl|rfl|rfl<;>rfl)
     have hP:=hC1.put (8+k*3) #[.int .i32 (v (24+6*k)),.int .i32 (v (25+6*k)),.int .i64 (v (28+6*k))] (by simp;omega) (by intro u hu;simp at hu;rcases hu with rfl|rfl|rfl<;>rfl)
     clear hk1 hb1 hC1 hG hC
     go_wp2_with (first|(refine wpList_run_store hst rfl rfl rfl rfl ?_)|fail)
     go_roundg (6-(k+1))
     case rel=>exact ⟨k+1,_,rfl,by omega,by go_num,hP⟩
     case measure=>omega
    ·obtain rfl:k=6:=by omega
     have hl3:=run_load_agg (P:=Tryz.prog) 264 26 (w.heap.size+1+1) 0 c c _ Tryz.isAgg264 Tryz.sizeOf264 hC.sz hC.st (fun j u hj=>by rw[Nat.zero_add];exact hj)
     obtain ⟨hst,hload,hkf⟩:=store_all wr 264 26 (w.heap.size+1) c zvC Tryz.sizeOf264 hC.sz rfl hC.res (List.all_eq_true.2 hC.one)
     have hfin:=(hC.kp.mono fun _ _ x=>x.elim).trans hkf
     have hsz:=hC.sz
     have hone:=hid hC.one
     clear hC
     go_wp2_with (first|(refine wpList_run_load hl3 rfl rfl rfl ?_)|(refine wpList_run_store hst rfl rfl rfl rfl ?_)|fail)
     refine bodyPost_ret (v:=.agg c) (by simp[results,Tryz.results136,Act.put,asAddr,loadVar,loadCells,Tryz.isAgg264,Tryz.sizeOf264,hload]) rfl ?_
     exact ⟨⟨_,rfl,hsz,hone.out⟩,hfin.below (Nat.le_refl _) (fun k h1 h2=>by omega)⟩
end
section
open Go.RowKit
set_option maxRecDepth 10000
variable {σ:Type} {c:Codec σ} {B:Nat} {p:σ×(Nat→Int)} {k:Nat}
theorem step_dice (c:Codec σ) (p:σ×(Nat→Int)):c.step p 1=((c.nF p.1 (p.2 1)).1,updI p.2 1 (IntKind.u32.wrap (c.nF p.1 (p.2 1)).2)):=rfl
theorem fr_dice (hc:c.Right) {w w':World} {n:Int} {k':Nat} (hn:p.2 1=n) (h:Fr c w B p k') (h1:c.St (c.nF p.1 n).1 k w') (h2:w'.heap[B]?=w.heap[B]?) :
  Fr c (w'.setCell ⟨B,1,none⟩ (.int .u32 (IntKind.u32.wrap (c.nF p.1 n).2))) B (c.step p 1) k:=by
 subst hn
 rw[step_dice]
 have h3:=h2.trans h.blk
 refine ⟨hc.keeps (S:=fun b=>b=B) h1 (Keeps.setCell (S:=fun b=>b=B) (Keeps.refl _ _) (p:=⟨B,1,none⟩) rfl _) (fun e=>h.ne e.symm),?_,h.ne,fun j hj=>?_⟩
 ·rw[blk_set h3]
  exact congrArg some (congrArg (fun a=>Obj.cells a _ (0,0)) (mkC_set p.2 1 _))
 ·simp only[updI]
  by_cases e:j=1
  ·subst e
   rw[if_pos rfl]
   have hf:=h.fit 1 (by omega)
   refine ⟨?_,fun _=>hc.okW _ _ hf.1 (hf.2 (by decide))⟩
   show 0≤IntKind.u32.wrap _∧_
   rw[wrap_u32]
   omega
  ·rw[if_neg e]
   exact h.fit j hj
def headL:List Nat:=[0,1,2,3]
def plyL (j:Nat):List Nat:=headL++(List.range j).flatMap fun i=>plyTo (4+10*i) 6
theorem steps_plyL (c:Codec σ) (p:σ×(Nat→Int)) (j:Nat):c.steps p (plyL (j+1))=c.steps (c.steps p (plyL j)) (plyTo (4+10*j) 6):=by
 unfold plyL Codec.steps
 rw[List.range_succ,List.flatMap_append,←List.append_assoc,List.foldl_append]
 simp
structure Two (c:Codec σ) (w wr:World) (B k:Nat) (p:σ×(Nat→Int)) (j:Nat):Prop where
 fr:Fr c wr B (c.steps p (plyL j)) (k+37+10*(2-j))
 keeps:Keeps (ofFr c B) w wr
def bitsTo (v:Nat→Int):Nat→Nat
 | 0=>0
 | j+1=>bitsTo v j+if noSho v j then 0 else 2 ^ j
theorem bitsTo_lt (v:Nat→Int):∀ j,bitsTo v j<2 ^ j
 | 0=>by simp[bitsTo]
 | j+1=>by
  have h:=bitsTo_lt v j
  have h2:2 ^ (j+1)=2*2 ^ j:=by rw[Nat.pow_succ,Nat.mul_comm]
  unfold bitsTo
  split<;>omega
theorem or_all:∀ j:Fin 6,∀ b:Fin 64,b.val<2 ^ j.val→bits .or .i64 (b.val:Int) (wrap64 (2 ^ j.val))=((b.val+2 ^ j.val:Nat):Int):=by decide +kernel
theorem or_bit (v:Nat→Int) (j:Nat) (h:j<6) (hz:¬ noSho v j):bits .or .i64 (bitsTo v j:Nat) (wrap64 (2 ^ j))=(bitsTo v (j+1):Nat):=by
 have h1:=bitsTo_lt v j
 have h2:2 ^ j≤2 ^ 6:=Nat.pow_le_pow_right (by decide) (by omega)
 have h3:=or_all ⟨j,h⟩ ⟨bitsTo v j,by omega⟩ h1
 rw[show bitsTo v (j+1)=bitsTo v j+2 ^ j by simp[bitsTo,hz]]
 exact h3
structure Bit (c:Codec σ) (w wr:World) (B N k:Nat) (p:σ×(Nat→Int)) (j:Nat):Prop where
 fr:Fr c wr B p (k+37)
 bit:wr.heap[N]?=some (.cells #[.int .i64 (bitsTo p.2 j:Nat)] 3 (0,0))
 ne1:N≠c.r
 ne2:N≠B
 new:w.heap.size≤N
 keeps:Keeps (ofFr c B) w wr
def shoLoop (c:Codec σ) (y:Int) (p:σ×(Nat→Int)):Nat→σ×(Nat→Int)
 | 0=>p
 | j+1=>if bits .and .i64 (y / 2 ^ j) 1=1 then c.steps (shoLoop c y p j) (shotAt (24+6*j)) else shoLoop c y p j
structure Shs (c:Codec σ) (w wr:World) (B N k:Nat) (y:Int) (p:σ×(Nat→Int)) (j:Nat):Prop where
 fr:Fr c wr B (shoLoop c y p j) (k+6*(6-j))
 bit:wr.heap[N]?=some (.cells #[.int .i64 y] 3 (0,0))
 ne1:N≠c.r
 ne2:N≠B
 keeps:Keeps (ofFr c B) w wr
def stateF (c:Codec σ) (p:σ×(Nat→Int)):σ×(Nat→Int):=
 shoLoop c (c.nF (c.steps p (plyL 2)).1 (bitsTo (c.steps p (plyL 2)).2 6:Nat)).2 ((c.nF (c.steps p (plyL 2)).1 (bitsTo (c.steps p (plyL 2)).2 6:Nat)).1,(c.steps p (plyL 2)).2) 6
theorem shot_kinds (j:Nat) (h:j<6):kindAt (24+6*j)=.i32∧kindAt (24+6*j+1)=.i32∧kindAt (24+6*j+2)=.i32∧kindAt (24+6*j+3)=.i32∧kindAt (24+6*j+4)=.i64∧kindAt (24+6*j+5)=.i64:=by
 match j,h with
 | 0,_=>decide
 | 1,_=>decide
 | 2,_=>decide
 | 3,_=>decide
 | 4,_=>decide
 | 5,_=>decide
set_option maxHeartbeats 2000000 in
theorem fr_state (hc:c.Right) (w:World) (h:Fr c w B p (k+61)) :
  Calls Tryz.prog 356 #[c.val,.pointer (some ⟨B,0,none⟩)] w fun e w'=>e=.returned (.tuple #[])∧Fr c w' B (stateF c p) k∧Keeps (ofFr c B) w w':=by
 have hN:=hc.aN
 have hM:=hc.mN
 have hE:=hc.eN
 have y0:w.cell? ⟨B,1,none⟩=some (.int .u32 (p.2 1)):=blk_cell h.blk (mkC_get p.2 (o:=1) (by omega))
 have hf:=h.fit 1 (by omega)
 have hf1:0≤p.2 1∧p.2 1≤4294967295:=hf.1
 have e0:IntKind.i64.wrap (p.2 1)=p.2 1:=IntWalk.i64_in _ (by omega)
 have hk0:Keeps (fun _=>False) w (w.alloc (.cells #[.int .i64 (p.2 1)] 3)):=(Keeps.refl _ w).alloc _
 have hD0:=blk_new w (.cells #[.int .i64 (p.2 1)] 3)
 have hF0:=h.keeps hc hk0 id id
 have hok:c.okN (p.2 1):=hf.2 (by decide)
 have hlB:=blk_lt h.blk
 have hlr:=hc.there h.st
 clear hf h
 generalize hn:p.2 1=n at *
 go_enter Tryz.func356,Tryz.ntmps356
 go_wp2_with fail
 generalize w.alloc (.cells #[.int .i64 n] 3)=w0 at *
 generalize hDe:w.heap.size=D at *
 have hF0d:=hF0.drew hc
 refine stages_start (by kernel_rfl) 8 rfl ?_
 refine stagek (fun _=>True) [0,1,2,3] [4,5,6,7] 0 rfl #[true,true,true,true,true,true,true,true] (by kernel_rfl) (by kernel_rfl) (fun _ _ _ d _ h=>by first|(cases d<;>exact h)|cases h.1) ?_
 simp only[opsAt,List.map_cons,List.map_nil,List.getElem?_toArray,List.getElem?_cons_zero,List.getElem?_cons_succ,Option.getD_some]
 repeat (go_big_quiet_step (fail))
 refine wpQuiet_nil ?_
 refine links_cons (by first|rfl|simp[go_sem]) (fun K hK=>?_)
 go_simp
 refine hK _ _ (keptS (Keeps.refl _ _)) ?_
 clear hK K
 try refine links_nil ?_
 refine links_cons (by first|rfl|simp[go_sem]) (fun K hK=>?_)
 go_simp
 refine hK _ _ (keptS (Keeps.refl _ _)) ?_
 clear hK K
 try refine links_nil ?_
 refine links_cons (by first|rfl|simp[go_sem]) (fun K hK=>?_)
 go_simp
 refine hK _ _ (keptS (Keeps.refl _ _)) ?_
 clear hK K
 try refine links_nil ?_
 refine links_cons (by first|rfl|simp[go_sem]) (fun K hK=>?_)
 go_simp
 refine (fr_num hc 0 (by omega) rfl _ hF0d).mono ?_
 rintro e w1 ⟨rfl,hF1,hk1⟩
 refine hK _ _ (keptS (hk1.mono fun _ _ _=>trivial)) ?_
 clear hK K
 try refine links_nil ?_
 refine stages_end (by kernel_rfl) ?_
 have hD1:=hk1.heap (k:=D) hD0 (fun h=>h.elim (fun h=>by omega) (fun h=>by omega))
 have hn1:(c.step p 0).2 1=n:=hn
 generalize hq1:c.step p 0=p1 at *
 go_wp2_with fail
 refine (hc.num _ hF1.st hD1 (by omega) rfl (by unfold fitsI;omega) hok).mono ?_
 rintro e w2 ⟨rfl,hS2,hD2,hk2⟩
 have hB2:w2.heap[B]?=w1.heap[B]?:=hk2.block B (blk_lt hF1.blk) (fun h=>h.elim hF1.ne (fun h=>by omega))
 have hF2:=fr_dice hc hn1 hF1 hS2 hB2
 have yD:=blk_cell hD2 (k:=0) rfl
 have yB:=blk_cell (hB2.trans hF1.blk) (mkC_get p1.2 (o:=1) (by omega))
 have yF:=blk_free (hB2.trans hF1.blk) 1
 have hk3:Keeps (fun b=>b=B) w2 (w2.setCell ⟨B,1,none⟩ (.int .u32 (IntKind.u32.wrap (c.nF p1.1 n).2))):=Keeps.setCell (S:=fun b=>b=B) (Keeps.refl _ _) (p:=⟨B,1,none⟩) rfl _
 have hK3:=keeps_past (keeps_past (keeps_past (S:=ofFr c B) (hk0.mono fun _ _ x=>x.elim) ((Keeps.refl _ w0).drew.trans hk1) (fun _ _ x=>x)) hk2 (fun j hj hx=>hx.elim Or.inl (fun e=>by omega))) hk3 (fun j hj hx=>Or.inr hx)
 go_wp2_with fail
 clear hk3
 rw[wrap_u32] at hK3 hF2
 generalize w2.setCell ⟨B,1,none⟩ (.int .u32 ((c.nF p1.1 n).2%4294967296))=w3 at *
 generalize hq2:c.step p1 1=p2 at *
 have hF2d:=hF2.drew hc
 clear yD yB yF hB2 hk2 hk1 hk0 hD2 hS2 hD1 hD0 hF1 hF0 hF0d y0 e0 hn1 hok hf1 hn
 refine stages_start (by kernel_rfl) 8 rfl ?_
 refine stagek (fun _=>True) [0,1,2,3] [4,5,6,7] 0 rfl #[true,true,true,true,true,true,true,true] (by kernel_rfl) (by kernel_rfl) (fun _ _ _ d _ h=>by first|(cases d<;>exact h)|cases h.1) ?_
 simp only[opsAt,List.map_cons,List.map_nil,List.getElem?_toArray,List.getElem?_cons_zero,List.getElem?_cons_succ,Option.getD_some]
 repeat (go_big_quiet_step (fail))
 refine wpQuiet_nil ?_
 refine links_cons (by first|rfl|simp[go_sem]) (fun K hK=>?_)
 go_simp
 refine hK _ _ (keptS (Keeps.refl _ _)) ?_
 clear hK K
 try refine links_nil ?_
 refine links_cons (by first|rfl|simp[go_sem]) (fun K hK=>?_)
 go_simp
 refine hK _ _ (keptS (Keeps.refl _ _)) ?_
 clear hK K
 try refine links_nil ?_
 refine links_cons (by first|rfl|simp[go_sem]) (fun K hK=>?_)
 go_simp
 refine hK _ _ (keptS (Keeps.refl _ _)) ?_
 clear hK K
 try refine links_nil ?_
 refine links_cons (by first|rfl|simp[go_sem]) (fun K hK=>?_)
 go_simp
 refine (fr_num hc 2 (by omega) rfl _ hF2d).mono ?_
 rintro e w4 ⟨rfl,hF4,hk4⟩
 refine hK _ _ (keptS (hk4.mono fun _ _ _=>trivial)) ?_
 clear hK K
 try refine links_nil ?_
 refine stages_end (by kernel_rfl) ?_
 have hF4d:=hF4.drew hc
 go_wp2_with fail
 refine stages_start (by kernel_rfl) 8 rfl ?_
 refine stagek (fun _=>True) [0,1,2,3] [4,5,6,7] 0 rfl #[true,true,true,true,true,true,true,true] (by kernel_rfl) (by kernel_rfl) (fun _ _ _ d _ h=>by first|(cases d<;>exact h)|cases h.1) ?_
 simp only[opsAt,List.map_cons,List.map_nil,List.getElem?_toArray,List.getElem?_cons_zero,List.getElem?_cons_succ,Option.getD_some]
 repeat (go_big_quiet_step (fail))
 refine wpQuiet_nil ?_
 refine links_cons (by first|rfl|simp[go_sem]) (fun K hK=>?_)
 go_simp
 refine hK _ _ (keptS (Keeps.refl _ _)) ?_
 clear hK K
 try refine links_nil ?_
 refine links_cons (by first|rfl|simp[go_sem]) (fun K hK=>?_)
 go_simp
 refine hK _ _ (keptS (Keeps.refl _ _)) ?_
 clear hK K
 try refine links_nil ?_
 refine links_cons (by first|rfl|simp[go_sem]) (fun K hK=>?_)
 go_simp
 refine hK _ _ (keptS (Keeps.refl _ _)) ?_
 clear hK K
 try refine links_nil ?_
 refine links_cons (by first|rfl|simp[go_sem]) (fun K hK=>?_)
 go_simp
 refine (fr_num hc 3 (by omega) rfl _ hF4d).mono ?_
 rintro e w5 ⟨rfl,hF5,hk5⟩
 refine hK _ _ (keptS (hk5.mono fun _ _ _=>trivial)) ?_
 clear hK K
 try refine links_nil ?_
 refine stages_end (by kernel_rfl) ?_
 have hK5:=(hK3.drew.trans hk4).drew.trans hk5
 clear hk4 hk5 hK3 hF4d hF4 hF2d hF2
 have hq:c.step (c.step p2 2) 3=c.steps p headL:=by subst hq2;subst hq1;rfl
 rw[hq] at hF5
 clear hq hq1 hq2
 have H5:=hid (show Two c w w5 B k p 0 from ⟨hF5,hK5⟩)
 clear hF5 hK5
 generalize (c.nF p1.1 n).2%4294967296=z1 at *
 generalize (c.nF p1.1 n).2=z2 at *
 go_wp2_with fail
 go_loopw [5,46] (fun _ i wr=>∃ j:Nat,j≤2∧i=.int .i64 j∧Hid (Two c w wr B k p j)) (fun _ i _=>2-(intOf i).toNat)
 case atStart=>exact ⟨0,by omega,rfl,H5⟩
 case round=>
  obtain ⟨j,hj,rfl,hC⟩:=hrel
  obtain ⟨wo,rfl⟩:∃ wo:World,wo=wr:=⟨_,rfl⟩
  clear H5
  by_cases hlt:(j:Int)<2
  ·have hP:Calls Tryz.prog 367 #[c.val,.pointer (some ⟨B,4+10*j,none⟩)] wo fun e w'=>e=.returned (.tuple #[])∧Fr c w' B (c.steps (c.steps p (plyL j)) (plyTo (4+10*j) 6)) (k+37+10*(2-(j+1)))∧Keeps (ofFr c B) wo w':=by
    have hF:=hC.out.fr
    rw[show k+37+10*(2-j)=(k+37+10*(2-(j+1)))+10 by omega] at hF
    obtain rfl|rfl:j=0∨j=1:=by omega
    ·exact fr_player hc 4 (by omega) rfl rfl rfl rfl (by decide) _ hF
    ·exact fr_player hc 14 (by omega) rfl rfl rfl rfl (by decide) _ hF
   rw[←steps_plyL] at hP
   rw[show 4+10*j=4+j*10 by omega] at hP
   go_wp2_with fail
   refine hP.mono ?_
   rintro e w6 ⟨rfl,hF6,hk6⟩
   go_wp2_with fail
   go_roundw
   case rel=>exact ⟨j+1,by omega,by go_num,⟨hF6,hC.out.keeps.trans hk6⟩⟩
   case measure=>simp[intOf];omega
  ·obtain rfl:j=2:=by omega
   have hF:=hC.out.fr
   have hK:=hC.out.keeps
   clear hC
   have hB1:=blk_lt hF.blk
   have hB2:=hc.there hF.st
   have hka:Keeps (fun _=>False) wo (wo.alloc (.cells #[.int .i64 0] 3)):=(Keeps.refl _ wo).alloc _
   have hFa:=hF.keeps hc hka id id
   generalize hp7:c.steps p (plyL 2)=p7 at *
   have H7:=hid (show Bit c w (wo.alloc (.cells #[.int .i64 0] 3)) B wo.heap.size k p7 0 from ⟨hFa,blk_new wo _,by omega,by omega,hK.size,hK.trans (hka.mono fun _ _ x=>x.elim)⟩)
   have hload:=run_load_shos p7.2 B _ _ hFa.blk
   clear hF hK hka hFa
   go_wp2_with (refine wpList_run_load hload rfl rfl rfl ?_)
   generalize wo.alloc (.cells #[.int .i64 0] 3)=w7 at *
   generalize hN7:wo.heap.size=N at *
   go_loopw [7,8,61] (fun _ _ i wr=>∃ j:Nat,j≤6∧i=.int .i64 j∧Hid (Bit c w wr B N k p7 j)) (fun _ _ i _=>6-(intOf i).toNat)
   case atStart=>exact ⟨0,by omega,rfl,H7⟩
   case round=>
    obtain ⟨j,hj,rfl,hC⟩:=hrel
    obtain ⟨w8,rfl⟩:∃ w8:World,w8=wr:=⟨_,rfl⟩
    clear H7 hload
    by_cases hlt:(j:Int)<6
    ·have hI:=run_index_sho p7.2 j (by omega)
     have hb:=hC.out.bit
     unfold shoC at hI
     by_cases hz:noSho p7.2 j
     ·have hq:=sho_none p7.2 j hz
      go_wp2_with fail
      go_roundw
      case rel=>
       obtain ⟨h1,h2,h3,h4,h6,h5⟩:=hC.out
       exact ⟨j+1,by omega,by go_num,⟨h1.keeps hc ((Keeps.refl (fun _=>False) w8).alloc _) id id,by rw[show bitsTo p7.2 (j+1)=bitsTo p7.2 j by simp[bitsTo,hz]];exact blk_alloc h2 _,h3,h4,h6,h5.alloc _⟩⟩
      case measure=>simp[intOf];omega
     ·have hq:=sho_some p7.2 j hz
      go_wp2_with fail
      generalize hw9:w8.alloc _=w9
      have hb9:w9.heap[N]?=some (.cells #[.int .i64 (bitsTo p7.2 j:Nat)] 3 (0,0)):=hw9▸blk_alloc hb _
      have hk9:Keeps (fun _=>False) w8 w9:=hw9▸(Keeps.refl _ w8).alloc _
      have y0:=blk_cell hb9 (k:=0) rfl
      have y1:=blk_free hb9 0
      clear hI hq hw9
      refine wp_region_taild 4 (by kernel_rfl) (by kernel_rfl) ?_
      simp only[List.take_succ_cons,List.take_zero,List.drop_succ_cons,List.drop_zero]
      repeat (go_big_quiet_step ((fail)))
      refine wpQuiet_nil ?_
      intro _ hw'
      obtain ⟨nq,hw''⟩:=hw'
      subst hw''
      rw[or_bit p7.2 j (by omega) hz]
      generalize wrap64 (2 ^ j)=x5
      go_wp2_with fail
      go_roundw
      case rel=>
       obtain ⟨h1,h2,h3,h4,h6,h5⟩:=hC.out
       have hk10:Keeps (fun b=>b=N) w8 ((w9.drewN nq).setCell ⟨N,0,none⟩ (.int .i64 (bitsTo p7.2 (j+1):Nat))):=Keeps.setCell (S:=fun b=>b=N) ((hk9.drewN nq).mono fun _ _ x=>x.elim) (p:=⟨N,0,none⟩) rfl _
       exact ⟨j+1,by omega,by go_num,⟨h1.keeps hc hk10 (fun e=>h3 e.symm) (fun e=>h4 e.symm),by have:=blk_set (w:=w9.drewN nq) hb9 0 (.int .i64 (bitsTo p7.2 (j+1):Nat));simpa using this,h3,h4,h6,keeps_past h5 hk10 (fun x hx e=>by omega)⟩⟩
      case measure=>simp[intOf];omega
    ·obtain rfl:j=6:=by omega
     have hC2:=hC.out
     clear hC
     obtain ⟨h1,h2,h3,h4,h6,h5⟩:=hC2
     have hb6:=bitsTo_lt p7.2 6
     have hnum:=hc.num (n:=(bitsTo p7.2 6:Nat)) (o:=0) _ h1.st h2 h3 rfl (by unfold fitsI;omega) (hc.okB _ (by omega))
     generalize hb7:(bitsTo p7.2 6:Int)=b6 at *
     go_wp2_with fail
     refine hnum.mono ?_
     rintro e w9 ⟨rfl,g1,g2,g3⟩
     have hk9:Keeps (ofFr c B) w w9:=keeps_past h5 g3 (fun x hx e=>e.elim Or.inl (fun e=>by omega))
     have hF9:Fr c w9 B ((c.nF p7.1 b6).1,p7.2) (k+36):=⟨g1,(g3.block B (blk_lt h1.blk) (fun e=>e.elim h1.ne (fun e=>h4 e.symm))).trans h1.blk,h1.ne,h1.fit⟩
     have H9:=hid (show Shs c w w9 B N k (c.nF p7.1 b6).2 ((c.nF p7.1 b6).1,p7.2) 0 from ⟨hF9,g2,h3,h4,hk9⟩)
     clear h1 h2 h3 h4 h5 h6 hb6 hnum g1 g2 g3 hk9 hF9
     generalize hy:(c.nF p7.1 b6).2=y at *
     generalize hp8:((c.nF p7.1 b6).1,p7.2)=p8 at *
     go_wp2_with fail
     go_loopw [9,75] (fun _ i wr=>∃ j:Nat,j≤6∧i=.int .i64 j∧Hid (Shs c w wr B N k y p8 j)) (fun _ i _=>6-(intOf i).toNat)
     case atStart=>exact ⟨0,by omega,rfl,H9⟩
     case round=>
      obtain ⟨j,hj,rfl,hC⟩:=hrel
      obtain ⟨wo,rfl⟩:∃ wo:World,wo=wr:=⟨_,rfl⟩
      clear H9
      by_cases hlt:(j:Int)<6
      ·have y0:=blk_cell hC.out.bit (k:=0) rfl
       by_cases hz:bits .and .i64 (y / 2 ^ j) 1=1
       ·have hz2:(bits .and .i64 (y / 2 ^ j) 1 == 1)=true:=by rw[beq_iff_eq];exact hz
        have hF:=hC.out.fr
        rw[show k+6*(6-j)=(k+6*(6-(j+1)))+6 by omega] at hF
        obtain ⟨k0,k1,k2,k3,k4,k5⟩:=shot_kinds j (by omega)
        have hS:=fr_shot hc (24+6*j) (by omega) k0 k1 k2 k3 k4 k5 _ hF
        rw[show c.steps (shoLoop c y p8 j) (shotAt (24+6*j))=shoLoop c y p8 (j+1) by simp[shoLoop,hz],show 24+6*j=24+j*6 by omega] at hS
        clear hF k0 k1 k2 k3 k4 k5 hz
        go_wp2_with fail
        refine hS.mono ?_
        rintro e w10 ⟨rfl,hF10,hk10⟩
        go_wp2_with fail
        go_roundw
        case rel=>
         obtain ⟨h1,h2,h3,h4,h5⟩:=hC.out
         exact ⟨j+1,by omega,by go_num,⟨hF10,hk10.heap h2 (fun e=>e.elim h3 h4),h3,h4,h5.trans hk10⟩⟩
        case measure=>simp[intOf];omega
       ·have hz2:(bits .and .i64 (y / 2 ^ j) 1 == 1)=false:=by rw[beq_eq_false_iff_ne];exact hz
        have hq:shoLoop c y p8 (j+1)=shoLoop c y p8 j:=by simp[shoLoop,hz]
        clear hz
        go_wp2_with fail
        go_roundw
        case rel=>
         obtain ⟨h1,h2,h3,h4,h5⟩:=hC.out
         have h6:Fr c wo B (shoLoop c y p8 j) ((k+6*(6-(j+1)))+6):=by rw[show (k+6*(6-(j+1)))+6=k+6*(6-j) by omega];exact h1
         exact ⟨j+1,by omega,by go_num,⟨by rw[hq];exact ⟨hc.less h6.st,h6.blk,h6.ne,h6.fit⟩,h2,h3,h4,h5⟩⟩
        case measure=>simp[intOf];omega
      ·obtain rfl:j=6:=by omega
       obtain ⟨h1,h2,h3,h4,h5⟩:=hC.out
       clear hC
       go_wp2
       refine bodyPost_end (v:=.tuple #[]) (by first|rfl|simp[results,go_sem]) rfl ?_
       subst hp8;subst hy;subst hb7;subst hp7
       exact ⟨rfl,h1,h5⟩
end
section
open Go.RowKit
set_option maxRecDepth 10000
variable {w:World}
def wrC (r:Nat):Codec (List UInt8) where
 T:=482
 r:=r
 fN:=424
 fS:=425
 St S k w:=IsWr w r S∧S.length+10*k≤9223372036854775807
 nF S n:=(S++num n.toNat,n)
 sF S n:=(S++num (zz n),n)
 okN n:=0≤n
theorem nil_num (r:Nat) (w:World):(nilAhead 647 482 (.pointer (some ⟨r,0,none⟩)) "promptbook/freeze.number").run Tryz.prog w=.ok (some false) w:=by kernel_rfl
theorem nil_sgn (r:Nat) (w:World):(nilAhead 647 482 (.pointer (some ⟨r,0,none⟩)) "promptbook/freeze.signed").run Tryz.prog w=.ok (some false) w:=by kernel_rfl
theorem met_num (r:Nat) (w:World):(method 647 482 (.pointer (some ⟨r,0,none⟩)) "promptbook/freeze.number").run Tryz.prog w=.ok (424,.pointer (some ⟨r,0,none⟩)) w:=by kernel_rfl
theorem met_sgn (r:Nat) (w:World):(method 647 482 (.pointer (some ⟨r,0,none⟩)) "promptbook/freeze.signed").run Tryz.prog w=.ok (425,.pointer (some ⟨r,0,none⟩)) w:=by kernel_rfl
theorem ent_num (x y:Value) (w:World):(callFunc 424 #[x,y]).run Tryz.prog w=.ok (.enter 424 #[x,y]) w:=by kernel_rfl
theorem ent_sgn (x y:Value) (w:World):(callFunc 425 #[x,y]).run Tryz.prog w=.ok (.enter 425 #[x,y]) w:=by kernel_rfl
theorem wrC_right (r:Nat):(wrC r).Right where
 aN:=nil_num r
 aS:=nil_sgn r
 mN:=met_num r
 mS:=met_sgn r
 eN:=ent_num
 eS:=ent_sgn
 keeps h hk hr:=⟨hk.heap h.1 hr,h.2⟩
 less h:=⟨h.1,by have:=h.2;omega⟩
 there h:=blk_lt h.1
 num:=by
  intro S k B o cs t n w h hB hne hc hf ho
  obtain ⟨m,rfl⟩:=Int.eq_ofNat_of_zero_le ho
  have hf:-9223372036854775808≤(m:Int)∧(m:Int)≤9223372036854775807:=hf
  have hl:=num_len10 m (by unfold two64;omega)
  have h2:=h.2
  refine (wr_number r B o S cs t m h.1 hB hne hc (by omega) (by omega)).mono ?_
  rintro e w' ⟨rfl,h3,h4,h5⟩
  refine ⟨rfl,⟨h3,?_⟩,?_,h5.mono fun _ _=>Or.inl⟩
  ·show (S++num _).length+_≤_
   rw[List.length_append]
   simp only[Int.toNat_natCast]
   omega
  ·show w'.heap[B]?=some (.cells (cs.setIfInBounds o (.int .i64 (m:Int))) t (0,0))
   rw[set_same hc]
   exact h4
 sgn:=by
  intro S k B o cs t n w h hB hne hc hf
  have hf:-2147483648≤n∧n≤2147483647:=hf
  have hl:=num_len10 (zz n) (by unfold two64 zz;split<;>omega)
  have h2:=h.2
  refine (wr_signed r B o S cs t n h.1 hB hne hc hf (by omega)).mono ?_
  rintro e w' ⟨rfl,h3,h4,h5⟩
  refine ⟨rfl,⟨h3,?_⟩,?_,h5.mono fun _ _=>Or.inl⟩
  ·show (S++num _).length+_≤_
   rw[List.length_append]
   omega
  ·show w'.heap[B]?=some (.cells (cs.setIfInBounds o (.int .i32 n)) t (0,0))
   rw[set_same hc]
   exact h4
 fN64 _ _ h:=h
 ok _ _ _ h:=h
 okB _ h:=h
 okW _ n _ _:=by
  show 0≤IntKind.u32.wrap _
  rw[wrap_u32]
  omega
 fS32 _ _ h:=h
def tellAt (v:Nat→Int) (o:Nat):List UInt8:=if kindAt o=.i32 then num (zz (v o)) else num (v o).toNat
def told (v:Nat→Int) (l:List Nat):List UInt8:=l.flatMap (tellAt v)
def shotsTo (v:Nat→Int):Nat→List UInt8
 | 0=>[]
 | j+1=>shotsTo v j++if noSho v j then [] else told v (shotAt (24+6*j))
def packSt (v:Nat→Int):List UInt8:=told v (plyL 2)++num (bitsTo v 6)++shotsTo v 6
theorem updI_self (v:Nat→Int) (o:Nat):updI v o (v o)=v:=by
 funext j
 unfold updI
 split<;>simp_all
theorem wr_step (r:Nat) (S:List UInt8) (v:Nat→Int) (hv:0≤v 1∧v 1≤4294967295) (o:Nat):(wrC r).step (S,v) o=(S++tellAt v o,v):=by
 unfold Codec.step tellAt
 split
 ·rename_i h
  rw[if_pos h]
  show ((S++num (zz (v o))),updI v o (v o))=_
  rw[updI_self]
 ·rename_i h
  have ho:o=1:=by
   unfold kindAt at h
   split at h
   ·assumption
   ·split at h<;>(try cases h)
    split at h<;>split at h<;>cases h
  subst ho
  rw[if_neg (by rw[h];decide)]
  show ((S++num (v 1).toNat),updI v 1 (IntKind.u32.wrap (v 1)))=_
  rw[show IntKind.u32.wrap (v 1)=v 1 by rw[wrap_u32];omega,updI_self]
 ·rename_i h1 h2
  rw[if_neg h1]
  show ((S++num (v o).toNat),updI v o (v o))=_
  rw[updI_self]
theorem wr_steps (r:Nat) (v:Nat→Int) (hv:0≤v 1∧v 1≤4294967295):∀ (l:List Nat) (S:List UInt8),(wrC r).steps (S,v) l=(S++told v l,v)
 | [],S=>by simp[Codec.steps,told]
 | o :: l,S=>by
  have h:=wr_steps r v hv l (S++tellAt v o)
  unfold Codec.steps at h ⊢
  rw[List.foldl_cons,wr_step r S v hv o,h]
  simp[told]
theorem bit_is (v:Nat→Int) (i m:Nat):∃ x,(if noSho v i then 0 else m)=x*m∧((x=0∧noSho v i)∨(x=1∧¬ noSho v i)):=by
 by_cases h:noSho v i
 ·exact ⟨0,by simp[h],.inl ⟨rfl,h⟩⟩
 ·exact ⟨1,by simp[h],.inr ⟨rfl,h⟩⟩
theorem bits_at (v:Nat→Int) (j:Nat) (h:j<6):bitsTo v 6 / 2 ^ j%2=1↔¬ noSho v j:=by
 obtain ⟨x0,e0,q0⟩:=bit_is v 0 1
 obtain ⟨x1,e1,q1⟩:=bit_is v 1 2
 obtain ⟨x2,e2,q2⟩:=bit_is v 2 4
 obtain ⟨x3,e3,q3⟩:=bit_is v 3 8
 obtain ⟨x4,e4,q4⟩:=bit_is v 4 16
 obtain ⟨x5,e5,q5⟩:=bit_is v 5 32
 have hs:bitsTo v 6=(0+x0*1+x1*2+x2*4+x3*8+x4*16+x5*32):=by
  rw[←e0,←e1,←e2,←e3,←e4,←e5]
  rfl
 rw[hs]
 clear hs
 have b0:x0≤1:=by omega
 have b1:x1≤1:=by omega
 have b2:x2≤1:=by omega
 have b3:x3≤1:=by omega
 have b4:x4≤1:=by omega
 have b5:x5≤1:=by omega
 match j,h with
 | 0,_=>
  rw[show (0+x0*1+x1*2+x2*4+x3*8+x4*16+x5*32) / 2 ^ 0%2=x0 by omega]
  exact q0.elim (fun h=>⟨fun e=>by omega,fun e=>absurd h.2 e⟩) fun h=>⟨fun _=>h.2,fun _=>h.1⟩
 | 1,_=>
  rw[show (0+x0*1+x1*2+x2*4+x3*8+x4*16+x5*32) / 2 ^ 1%2=x1 by omega]
  exact q1.elim (fun h=>⟨fun e=>by omega,fun e=>absurd h.2 e⟩) fun h=>⟨fun _=>h.2,fun _=>h.1⟩
 | 2,_=>
  rw[show (0+x0*1+x1*2+x2*4+x3*8+x4*16+x5*32) / 2 ^ 2%2=x2 by omega]
  exact q2.elim (fun h=>⟨fun e=>by omega,fun e=>absurd h.2 e⟩) fun h=>⟨fun _=>h.2,fun _=>h.1⟩
 | 3,_=>
  rw[show (0+x0*1+x1*2+x2*4+x3*8+x4*16+x5*32) / 2 ^ 3%2=x3 by omega]
  exact q3.elim (fun h=>⟨fun e=>by omega,fun e=>absurd h.2 e⟩) fun h=>⟨fun _=>h.2,fun _=>h.1⟩
 | 4,_=>
  rw[show (0+x0*1+x1*2+x2*4+x3*8+x4*16+x5*32) / 2 ^ 4%2=x4 by omega]
  exact q4.elim (fun h=>⟨fun e=>by omega,fun e=>absurd h.2 e⟩) fun h=>⟨fun _=>h.2,fun _=>h.1⟩
 | 5,_=>
  rw[show (0+x0*1+x1*2+x2*4+x3*8+x4*16+x5*32) / 2 ^ 5%2=x5 by omega]
  exact q5.elim (fun h=>⟨fun e=>by omega,fun e=>absurd h.2 e⟩) fun h=>⟨fun _=>h.2,fun _=>h.1⟩
theorem and_all:∀ j:Fin 6,∀ b:Fin 64,(bits .and .i64 ((b.val:Int) / 2 ^ j.val) 1=1)↔b.val / 2 ^ j.val%2=1:=by decide +kernel
theorem and_at (v:Nat→Int) (j:Nat) (h:j<6):bits .and .i64 ((bitsTo v 6:Nat) / 2 ^ j) 1=1↔¬ noSho v j:=by
 rw[←bits_at v j h]
 exact and_all ⟨j,h⟩ ⟨bitsTo v 6,bitsTo_lt v 6⟩
theorem wr_loop (r:Nat) (v:Nat→Int) (hv:0≤v 1∧v 1≤4294967295) (S:List UInt8):∀ j,j≤6→shoLoop (wrC r) (bitsTo v 6:Nat) (S,v) j=(S++shotsTo v j,v)
 | 0,_=>by simp[shoLoop,shotsTo]
 | j+1,h=>by
  unfold shoLoop shotsTo
  rw[wr_loop r v hv S j (by omega)]
  by_cases hz:noSho v j
  ·rw[if_neg (fun e=>(and_at v j (by omega)).1 e hz),if_pos hz,List.append_nil]
  ·rw[if_pos ((and_at v j (by omega)).2 hz),if_neg hz,wr_steps r v hv,List.append_assoc]
theorem wr_state (r:Nat) (v:Nat→Int) (hv:0≤v 1∧v 1≤4294967295):stateF (wrC r) ([],v)=(packSt v,v):=by
 unfold stateF
 rw[wr_steps r v hv]
 show shoLoop (wrC r) (bitsTo v 6:Nat) (([]++told v (plyL 2))++num (Int.toNat (bitsTo v 6:Nat)),v) 6=_
 rw[wr_loop r v hv _ 6 (by omega),Int.toNat_natCast]
 rfl
end
section
open Go.RowKit
set_option maxRecDepth 10000
variable {w:World}
def WfS (v:Nat→Int):Prop:=∀ j,j<60→fitsI (kindAt j) (v j)
theorem run_load_state (v:Nat→Int) (B:Nat) (w:World) (t:TypeId) (hB:w.heap[B]?=some (.cells (mkC v) t (0,0))):(Instr.loadAt 99 (.pointer (some ⟨B,0,none⟩))).run Tryz.prog w=.ok (.agg (mkC v)) w:=
 run_load_agg 99 60 B 0 (mkC v) (mkC v) t Tryz.isAgg99 Tryz.sizeOf99 (mkC_size v) hB (fun j x hj=>by rw[Nat.zero_add];exact hj)
theorem inR_pos {n a b:Int} (h:inR n a b=true) (ha:0≤a):0≤n:=by
 simp[inR] at h
 omega
theorem ply_pos {v:Nat→Int} {o:Nat} (h:plyAt v o=true) (j:Nat) (h1:4≤j) (h2:j<10):0≤v (o+j):=by
 simp only[plyAt,plyOk,Bool.and_eq_true] at h
 obtain ⟨a1,a2,a3,a4,a5,a6,_⟩:=h
 obtain rfl|rfl|rfl|rfl|rfl|rfl:j=4∨j=5∨j=6∨j=7∨j=8∨j=9:=by omega
 ·exact inR_pos a1 (by omega)
 ·exact inR_pos a2 (by omega)
 ·exact inR_pos a3 (by omega)
 ·exact inR_pos a4 (by omega)
 ·exact inR_pos a5 (by omega)
 ·exact inR_pos a6 (by omega)
theorem shosOk_at {v:Nat→Int} {j:Nat} (h:shosOk v 6=true) (hj:j<6):shoAt v j=true:=by
 cases hs:shoAt v j with
 | true=>rfl
 | false=>rw[shosOk_false hs hj] at h;cases h
theorem sho_pos {v:Nat→Int} {j:Nat} (h:shoAt v j=true) (k:Nat) (h1:28≤k) (h2:k<30):0≤v (k+6*j):=by
 simp only[shoAt,shoOk,isNo,Bool.or_eq_true,Bool.and_eq_true,decide_eq_true_eq] at h
 obtain rfl|rfl:k=28∨k=29:=by omega
 ·rcases h with h|h
  ·omega
  ·exact inR_pos h.1 (by omega)
 ·rcases h with h|h
  ·omega
  ·exact inR_pos h.2.1 (by omega)
theorem right_pos {v:Nat→Int} (hw:WfS v) (h:rightS v=true) (j:Nat) (hj:j<60) (hk:kindAt j≠.i32):0≤v j:=by
 simp only[rightS,Bool.and_eq_true] at h
 obtain ⟨a1,a2,a3,a4,a5,a6⟩:=h
 by_cases h1:j<4
 ·obtain rfl|rfl|rfl|rfl:j=0∨j=1∨j=2∨j=3:=by omega
  ·exact inR_pos a4 (by omega)
  ·exact (hw 1 (by omega)).1
  ·exact inR_pos a5 (by omega)
  ·exact inR_pos a6 (by omega)
 ·by_cases h2:j<24
  ·have hq:4≤(j-4)%10:=by
    by_cases e:(j-4)%10<4
    ·exact absurd (by unfold kindAt;rw[if_neg (by omega),if_neg h1,if_pos h2,if_pos e]) hk
    ·omega
   rcases (show j-4<10∨10≤j-4 by omega) with h3|h3
   ·have:=ply_pos a2 (j-4) (by omega) (by omega)
    rwa [show 4+(j-4)=j by omega] at this
   ·have:=ply_pos a3 (j-14) (by omega) (by omega)
    rwa [show 14+(j-14)=j by omega] at this
  ·have hq:4≤(j-24)%6:=by
    by_cases e:(j-24)%6<4
    ·exact absurd (by unfold kindAt;rw[if_neg (by omega),if_neg h1,if_neg h2,if_pos e]) hk
    ·omega
   have h3:=shosOk_at (j:=(j-24) / 6) a1 (by omega)
   have:=sho_pos h3 (24+(j-24)%6) (by omega) (by omega)
   rwa [show 24+(j-24)%6+6*((j-24) / 6)=j by omega] at this
theorem mkI_wr (x:Value) (w:World):(Instr.makeInterface 482 x).run Tryz.prog w=.ok (.iface 482 x) w:=run_makeInterface w 482 x (by kernel_rfl)
theorem fz_Pack (v:Nat→Int) (hv:WfS v) (w:World):Calls Tryz.prog 329 #[.agg (mkC v)] w fun e w'=>
  e=.returned (.tuple #[.string (if rightS v then ⟨(packSt v).toArray⟩ else ByteArray.empty),.int .i64 (if rightS v then 0 else 1)])∧Below w.heap.size w w':=by
 have hB:=blk_new w (.cells (mkC v) 99)
 have hb:=(Below.refl w.heap.size w).alloc (Nat.le_refl _) (.cells (mkC v) 99)
 have hload:=run_load_state v w.heap.size _ _ hB
 have hG:=fun W=>gm_Right v W
 have hI:=mkI_wr
 have hp:=right_pos hv
 cases hr:rightS v
 ·rw[hr] at hG
  go_enter Tryz.func329,Tryz.ntmps329
  go_wp2_with (refine wpList_run_load hload rfl rfl rfl ?_)
  refine (hG _).mono ?_
  rintro e w1 ⟨rfl,hb1⟩
  have hbe:=hb.trans (hb1.mono hb.size)
  go_wp2_with fail
  go_ret2
  exact ⟨rfl,hbe⟩
 ·rw[hr] at hG
  go_enter Tryz.func329,Tryz.ntmps329
  go_wp2_with (refine wpList_run_load hload rfl rfl rfl ?_)
  refine (hG _).mono ?_
  rintro e w1 ⟨rfl,hb1⟩
  have hbe:=hb.trans (hb1.mono hb.size)
  have hB1:=(Keeps.of_below (S:=fun _=>False) hb1 (fun k h1 h2=>by omega)).heap hB id
  have hlt:=blk_lt hB1
  have hFr:Fr (wrC w1.heap.size) (w1.alloc (.cells #[.string ⟨#[]⟩] 484)) w.heap.size ([],v) (0+61):=
   ⟨⟨blk_new w1 (.cells #[.string ⟨#[]⟩] 484),by show 0+10*(0+61)≤_;omega⟩,blk_alloc hB1 _,by show w.heap.size≠w1.heap.size;omega,fun j hj=>⟨hv j hj,fun hk=>hp hr j hj hk⟩⟩
  have hS:=fr_state (wrC_right w1.heap.size) _ hFr
  go_wp2_with fail
  refine hS.mono ?_
  rintro e w2 ⟨rfl,hF,hk⟩
  rw[wr_state _ v ((hv 1 (by omega)))] at hF
  have hr2:w2.heap[w1.heap.size]?=some (.cells #[.string ⟨(packSt v).toArray⟩] 484 (0,0)):=hF.st.1
  have y0:=blk_cell hr2 (k:=0) rfl
  have hbf:Below w.heap.size w w2:=(hbe.alloc (by omega) _).trans (hk.below (B:=w.heap.size) (by simp;omega) (fun k hk hx=>by simp only[ofFr] at hx;rcases hx with hx|hx;(· have:k=w1.heap.size:=hx;omega);(· omega)))
  go_wp2_with fail
  go_ret2
  exact ⟨rfl,hbf⟩
end
end Go.Proofs.YtalagblioepadaaGreatDoor
