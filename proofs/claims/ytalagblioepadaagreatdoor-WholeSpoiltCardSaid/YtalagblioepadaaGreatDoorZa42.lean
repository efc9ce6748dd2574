/- The proof, part 42. -/
import Derived.Test.YtalagblioepadaaGreatDoorZa36
import Derived.Test.YtalagblioepadaaGreatDoorZa31
import Derived.Test.YtalagblioepadaaGreatDoorZa12
import Derived.IntWalk
import Derived.Shelf.SlicesE.DeleteFunc
import Derived.Lib.SliceRun
import Derived.Test.YtalagblioepadaaGreatDoorZa29
import Derived.Test.YtalagblioepadaaGreatDoorZa05
namespace Go.Proofs.YtalagblioepadaaGreatDoor
section
open Go.RowKit
def stC (v:Nat→Int) (b:Bool):Array Value:=(mkC v).push (.bool b)
theorem stC_size (v:Nat→Int) (b:Bool):(stC v b).size=61:=by simp[stC,mkC_size]
theorem stC_at (v:Nat→Int) (b:Bool) (j:Nat) (hj:j<60):(stC v b)[j]?=(mkC v)[j]?:=by
 rw[stC,Array.getElem?_push,if_neg (by rw[mkC_size];omega)]
theorem stC_has (v:Nat→Int) (b:Bool):(stC v b)[60]?=some (.bool b):=by
 rw[stC,Array.getElem?_push,if_pos (by rw[mkC_size])]
def s_slots (S:List ((Nat→Int)×Bool)):List Value:=S.flatMap fun p=>(stC p.1 p.2).toList
theorem s_slots_len (S:List ((Nat→Int)×Bool)):(s_slots S).length=S.length*61:=by
 induction S with
 | nil=>rfl
 | cons c S ih=>
  simp only[s_slots,List.flatMap_cons,List.length_append,List.length_cons] at ih ⊢
  rw[ih,Array.length_toList,stC_size]
  omega
theorem s_slots_get (S:List ((Nat→Int)×Bool)) (i:Nat) (h:i<S.length) (j:Nat) (hj:j<61):(s_slots S)[i*61+j]?=(stC S[i].1 S[i].2)[j]?:=by
 induction S generalizing i with
 | nil=>exact absurd h (Nat.not_lt_zero _)
 | cons c S ih=>
  simp only[s_slots,List.flatMap_cons] at ih ⊢
  have hl:(stC c.1 c.2).toList.length=61:=by rw[Array.length_toList,stC_size]
  cases i with
  | zero=>
   rw[Nat.zero_mul,Nat.zero_add,List.getElem?_append_left (by omega)]
   simp
  | succ i=>
   rw[List.getElem?_append_right (by rw[hl,Nat.succ_mul];omega),hl,show (i+1)*61+j-61=i*61+j by rw[Nat.succ_mul];omega]
   exact ih i (by simpa using h)
theorem s_slots_has (S:List ((Nat→Int)×Bool)) (i:Nat) (h:i<S.length):(s_slots S)[i*61+60]?=some (.bool S[i].2):=by
 rw[s_slots_get S i h 60 (by omega),stC_has]
theorem s_slots_set (S:List ((Nat→Int)×Bool)) (i:Nat) (h:i<S.length) (x:(Nat→Int)) (b:Bool):spliceA (s_slots S).toArray (i*61) (stC x b)=(s_slots (S.set i (x,b))).toArray:=by
 have hs:(s_slots S).toArray.size=S.length*61:=by rw[List.size_toArray,s_slots_len]
 have hi:i*61+61≤S.length*61:=by have:=Nat.mul_le_mul_right 61 h;rw[Nat.succ_mul] at this;omega
 apply Array.ext_getElem?
 intro m
 rw[splice_get _ _ _ (by rw[stC_size,hs];exact hi),stC_size]
 have e:=Nat.div_add_mod m 61
 have hm:=Nat.mod_lt m (show 0<61 by omega)
 have em:m / 61*61+m%61=m:=by omega
 by_cases hl:m / 61<S.length
 ·have g1:=s_slots_get S (m / 61) hl (m%61) hm
  have g2:=s_slots_get (S.set i (x,b)) (m / 61) (by simpa using hl) (m%61) hm
  rw[em] at g1 g2
  rw[show (s_slots S).toArray[m]?=(s_slots S)[m]? from by simp,show (s_slots (S.set i (x,b))).toArray[m]?=(s_slots (S.set i (x,b)))[m]? from by simp,g1,g2]
  by_cases hc:m / 61=i
  ·rw[if_pos (by omega)]
   subst hc
   rw[List.getElem_set_self]
   congr 1
   omega
  ·rw[if_neg (by omega),List.getElem_set_ne (by omega)]
 ·rw[if_neg (by omega),show (s_slots S).toArray[m]?=(s_slots S)[m]? from by simp,show (s_slots (S.set i (x,b))).toArray[m]?=(s_slots (S.set i (x,b)))[m]? from by simp,List.getElem?_eq_none (by rw[s_slots_len];omega),List.getElem?_eq_none (by rw[s_slots_len,List.length_set];omega)]
structure SWinAt (w:World) (r B size first:Nat) (S:List ((Nat→Int)×Bool)):Prop where
 head:w.heap[r]?=some (.cells #[.int .i64 first,.slice (some ⟨B,0,none⟩) size size] 233 (0,0))
 body:w.heap[B]?=some (.cells (s_slots S).toArray 237 (0,0))
 slen:S.length=size
 pos:0<size
 most:size≤4096
 fst:first≤1073741824
 ne:r≠B
namespace SWinAt
variable {w w':World} {r B size first:Nat} {S:List ((Nat→Int)×Bool)}
theorem keeps {T:Nat→Prop} (h:SWinAt w r B size first S) (hk:Keeps T w w') (h1:¬ T r) (h2:¬ T B):SWinAt w' r B size first S:=
 ⟨hk.heap h.head h1,hk.heap h.body h2,h.slen,h.pos,h.most,h.fst,h.ne⟩
theorem drew (h:SWinAt w r B size first S) (n:Nat):SWinAt (w.drewN n) r B size first S:=⟨h.head,h.body,h.slen,h.pos,h.most,h.fst,h.ne⟩
theorem c0 (h:SWinAt w r B size first S):w.cell? ⟨r,0,none⟩=some (.int .i64 first):=blk_cell h.head rfl
theorem c1 (h:SWinAt w r B size first S):w.cell? ⟨r,1,none⟩=some (.slice (some ⟨B,0,none⟩) size size):=blk_cell h.head rfl
end SWinAt
section
variable {w w':World} {r B size first:Nat} {S:List ((Nat→Int)×Bool)}
theorem s_win_inside_no (h:SWinAt w r B size first S) (f:Int) (hf:¬ inW first size f) (hr:-9223372036854775808≤f∧f≤9223372036854775807) :
  Calls Tryz.prog 126 #[.pointer (some ⟨r,0,none⟩),.int .i64 f] w fun e w'=>e=.returned (.pointer none)∧∃ q,w'=w.drewN q:=by
 have c0:=h.c0
 have c1:=h.c1
 have b1:=h.fst
 have b2:=h.most
 unfold inW at hf
 by_cases h1:f<first
 ·clear hf
  go_enter Tryz.func126,Tryz.ntmps126
  go_wp2
  go_quiet (fail)
  go_wp2
  go_ret
  exact ⟨rfl,_,rfl⟩
 ·by_cases h2:f<first+size
  ·have h3:1073741824<f:=by omega
   have h4:f-first<size:=by omega
   have h5:(first:Int)≤f:=by omega
   have hw:IntKind.i64.wrap (f-first)=f-first:=IntWalk.i64_in _ (by omega)
   clear hf
   go_enter Tryz.func126,Tryz.ntmps126
   go_wp2
   go_quiet (fail)
   go_wp2
   go_ret
   exact ⟨rfl,_,rfl⟩
  ·have h4:(size:Int)≤f-first:=by omega
   have h5:(first:Int)≤f:=by omega
   have hw:IntKind.i64.wrap (f-first)=f-first:=IntWalk.i64_in _ (by omega)
   clear hf
   go_enter Tryz.func126,Tryz.ntmps126
   go_wp2
   go_quiet (fail)
   go_wp2
   go_ret
   exact ⟨rfl,_,rfl⟩
theorem s_win_inside (h:SWinAt w r B size first S) (n k:Nat) (f:Int) (hfn:f=n) (hf:inW first size f) (hk:n%size=k) :
  Calls Tryz.prog 126 #[.pointer (some ⟨r,0,none⟩),.int .i64 f] w fun e w'=>e=.returned (.pointer (some ⟨B,k*61,none⟩))∧∃ q,w'=w.drewN q:=by
 have c0:=h.c0
 have c1:=h.c1
 have b1:=h.fst
 have b2:=h.most
 obtain ⟨h1,h2,h3⟩:=hf
 have h4:f-first<size:=by omega
 have hw:IntKind.i64.wrap (f-first)=f-first:=IntWalk.i64_in _ (by omega)
 have hkl:k<size:=hk▸Nat.mod_lt _ h.pos
 have ht:f.tmod (size:Int)=(k:Int):=by
  rw[hfn,Int.tmod_eq_emod_of_nonneg (by omega),←hk]
  simp
 have hz:((size:Int) == 0)=false:=by have:=h.pos;rw[beq_eq_false_iff_ne];omega
 have h0:0≤f:=by omega
 clear hk hfn
 go_enter Tryz.func126,Tryz.ntmps126
 go_wp2
 go_quiet (fail)
 go_wp2
 go_quiet (fail)
 go_wp2
 go_ret
 exact ⟨rfl,_,by rw[World.drewN_drewN]⟩
end
end
section
open Go.RowKit
set_option maxRecDepth 100000
variable {w w':World} {r B size first:Nat} {S:List ((Nat→Int)×Bool)}
theorem mkC_one (v:Nat→Int):∀ u∈(mkC v).toList,u.oneCell'=true:=by
 intro u hu
 simp only[mkC,List.mem_map] at hu
 obtain ⟨j,_,rfl⟩:=hu
 rfl
theorem stC_one (v:Nat→Int) (b:Bool):∀ u∈(stC v b).toList,u.oneCell'=true:=by
 intro u hu
 simp only[stC,Array.toList_push,List.mem_append,List.mem_singleton] at hu
 rcases hu with hu|rfl
 ·exact mkC_one v u hu
 ·rfl
theorem SWinAt.has (h:SWinAt w r B size first S) {k:Nat} {x:Nat→Int} {b:Bool} (hk:S[k]?=some (x,b)):w.cell? ⟨B,k*61+60,none⟩=some (.bool b):=by
 obtain ⟨hl,hx⟩:=List.getElem?_eq_some_iff.1 hk
 have h1:=s_slots_has S k hl
 rw[hx] at h1
 exact blk_cell h.body (by simpa using h1)
theorem SWinAt.load (h:SWinAt w r B size first S) {k:Nat} {x:Nat→Int} {b:Bool} (hk:S[k]?=some (x,b)):(Instr.loadAt 99 (.pointer (some ⟨B,k*61,none⟩))).run Tryz.prog w=.ok (.agg (mkC x)) w:=by
 obtain ⟨hl,hx⟩:=List.getElem?_eq_some_iff.1 hk
 refine run_load_agg (P:=Tryz.prog) 99 60 B (k*61) (mkC x) _ _ Tryz.isAgg99 Tryz.sizeOf99 (mkC_size x) h.body (fun j v hj=>?_)
 have hj60:j<60:=by
  have:=(Array.getElem?_eq_some_iff.1 hj).1
  rw[mkC_size] at this
  exact this
 have h1:=s_slots_get S k hl j (by omega)
 rw[hx,stC_at x b j hj60,hj] at h1
 simpa using h1
theorem SWinAt.setSlot (h:SWinAt w r B size first S) (k:Nat) (hk:k<S.length) (x:Nat→Int) (b:Bool):SWinAt (w.setRow B (spliceA (s_slots S).toArray (k*61) (stC x b))) r B size first (S.set k (x,b)):=
 ⟨(keeps_setRow w B _).heap h.head h.ne,by rw[s_slots_set S k hk];exact setRow_at w B _ _ _ h.body,by simpa using h.slen,h.pos,h.most,h.fst,h.ne⟩
theorem SWinAt.store (h:SWinAt w r B size first S) (k:Nat) (hk:k<S.length) (x:Nat→Int) (b:Bool):(Instr.storeAt 237 (.pointer (some ⟨B,k*61,none⟩)) (.agg (stC x b))).run Tryz.prog w=.ok () (w.setRow B (spliceA (s_slots S).toArray (k*61) (stC x b))):=by
 have hs:(s_slots S).toArray.size=S.length*61:=by rw[List.size_toArray,s_slots_len]
 have hi:k*61+61≤S.length*61:=by have:=Nat.mul_le_mul_right 61 hk;rw[Nat.succ_mul] at this;omega
 exact run_store_agg (P:=Tryz.prog) 237 61 B (k*61) (stC x b) _ _ Tryz.sizeOf237 (stC_size x b) h.body (by omega) (stC_one x b)
def zeroV:Nat→Int:=fun _=>0
theorem run_alloc_st (w:World):(Instr.alloc 99 true (.tuple #[])).run Tryz.prog w=.ok (.pointer (some ⟨w.heap.size,0,none⟩)) (w.alloc (.cells (mkC zeroV) 99)):=by kernel_rfl
theorem load_st {w:World} {b:Nat} {v:Nat→Int} {t:TypeId} (hB:w.heap[b]?=some (.cells (mkC v) t (0,0))):(Instr.loadAt 99 (.pointer (some ⟨b,0,none⟩))).run Tryz.prog w=.ok (.agg (mkC v)) w:=
 run_load_agg (P:=Tryz.prog) 99 60 b 0 (mkC v) _ _ Tryz.isAgg99 Tryz.sizeOf99 (mkC_size v) hB (fun j u hj=>by rw[Nat.zero_add];exact hj)
theorem mkC_all (v:Nat→Int):(mkC v).toList.all (fun u=>u.oneCell')=true:=List.all_eq_true.2 (mkC_one v)
structure Boxes (w w':World):Prop where
 res:w'.heap[w.heap.size]?=some (.cells (mkC zeroV) 99 (0,0))
 none:w'.heap[w.heap.size+1]?=some (.cells (mkC zeroV) 99 (0,0))
 keep:Keeps (fun _=>False) w w'
theorem boxes_new (w:World):Boxes w ((w.alloc (.cells (mkC zeroV) 99)).alloc (.cells (mkC zeroV) 99)):=by
 refine ⟨blk_alloc (blk_new w _) _,?_,((Keeps.refl _ w).alloc _).alloc _⟩
 have:=blk_new (w.alloc (.cells (mkC zeroV) 99)) (.cells (mkC zeroV) 99)
 rwa [World.size_alloc] at this
theorem Boxes.keeps {w w1 w2:World} (h:Boxes w w1) (hk:Keeps (fun _=>False) w1 w2):Boxes w w2:=⟨hk.heap h.res id,hk.heap h.none id,h.keep.trans hk⟩
theorem s_win_Get_no (h:SWinAt w r B size first S) (f:Int) (hf:¬ inW first size f) (hr:-9223372036854775808≤f∧f≤9223372036854775807) :
  Calls Tryz.prog 271 #[.pointer (some ⟨r,0,none⟩),.int .i64 f] w fun e w'=>e=.returned (.tuple #[.agg (mkC zeroV),.bool false])∧Keeps (fun _=>False) w w':=by
 have hal:=run_alloc_st w
 have hal2:=run_alloc_st (w.alloc (.cells (mkC zeroV) 99))
 have hsz:(w.alloc (.cells (mkC zeroV) 99)).heap.size=w.heap.size+1:=World.size_alloc _ _
 have hb:=boxes_new w
 rw[hsz] at hal2
 generalize (w.alloc (.cells (mkC zeroV) 99)).alloc (.cells (mkC zeroV) 99)=w1 at *
 have hI:=hid (s_win_inside_no (h.keeps hb.keep id id) f hf hr)
 generalize w.alloc (.cells (mkC zeroV) 99)=w0 at *
 have Hb:=hid hb
 clear hf hr hb hsz
 go_enter Tryz.func271,Tryz.ntmps271
 go_wp2_with (first|(refine wpList_run_alloc hal rfl rfl ?_)|(refine wpList_run_alloc hal2 rfl rfl ?_)|fail)
 refine hI.out.mono ?_
 rintro e w2 ⟨rfl,q,hq⟩
 have hb2:=Hb.out.keeps (show Keeps (fun _=>False) w1 w2 by rw[hq];exact (Keeps.refl _ _).drewN q)
 have hld:=load_st hb2.none
 obtain ⟨hst,hlf,hkf⟩:=store_all w2 99 60 w.heap.size (mkC zeroV) (mkC zeroV) Tryz.sizeOf99 (mkC_size _) (mkC_size _) hb2.res (mkC_all _)
 generalize w2.setRow w.heap.size (mkC zeroV)=w3 at *
 clear hq
 go_wp2_with (first|(refine wpList_run_load hld rfl rfl rfl ?_)|(refine wpList_run_store hst rfl rfl rfl rfl ?_)|fail)
 refine bodyPost_ret (v:=.tuple #[.agg (mkC zeroV),.bool false]) (by simp[results,Tryz.results271,asAddr,loadVar,loadCells,Tryz.isAgg99,Tryz.sizeOf99,hlf]) rfl ?_
 exact ⟨rfl,keeps_past hb2.keep hkf (fun k hk e=>by omega)⟩
theorem s_win_Get (h:SWinAt w r B size first S) (n k:Nat) (f:Int) (hfn:f=n) (hf:inW first size f) (hk:n%size=k) (x:Nat→Int) (b:Bool) (hS:S[k]?=some (x,b)) :
  Calls Tryz.prog 271 #[.pointer (some ⟨r,0,none⟩),.int .i64 f] w fun e w'=>e=.returned (.tuple #[.agg (mkC (if b then x else zeroV)),.bool b])∧Keeps (fun _=>False) w w':=by
 have hal:=run_alloc_st w
 have hal2:=run_alloc_st (w.alloc (.cells (mkC zeroV) 99))
 have hsz:(w.alloc (.cells (mkC zeroV) 99)).heap.size=w.heap.size+1:=World.size_alloc _ _
 have hb:=boxes_new w
 rw[hsz] at hal2
 generalize (w.alloc (.cells (mkC zeroV) 99)).alloc (.cells (mkC zeroV) 99)=w1 at *
 have h1:=h.keeps hb.keep id id
 have hI:=hid (s_win_inside h1 n k f hfn hf hk)
 generalize w.alloc (.cells (mkC zeroV) 99)=w0 at *
 have Hb:=hid hb
 have H1:=hid h1
 clear hf hfn hk hb hsz h h1
 cases b with
 | false=>
  go_enter Tryz.func271,Tryz.ntmps271
  go_wp2_with (first|(refine wpList_run_alloc hal rfl rfl ?_)|(refine wpList_run_alloc hal2 rfl rfl ?_)|fail)
  refine hI.out.mono ?_
  rintro e w2 ⟨rfl,q,hq⟩
  have hkq:Keeps (fun _=>False) w1 w2:=by rw[hq];exact (Keeps.refl _ _).drewN q
  have hb2:=Hb.out.keeps hkq
  have s1:=(H1.out.keeps hkq id id).has hS
  have hld:=load_st hb2.none
  obtain ⟨hst,hlf,hkf⟩:=store_all w2 99 60 w.heap.size (mkC zeroV) (mkC zeroV) Tryz.sizeOf99 (mkC_size _) (mkC_size _) hb2.res (mkC_all _)
  generalize w2.setRow w.heap.size (mkC zeroV)=w3 at *
  clear hq hkq
  go_wp2_with (first|(refine wpList_run_load hld rfl rfl rfl ?_)|(refine wpList_run_store hst rfl rfl rfl rfl ?_)|fail)
  refine bodyPost_ret (v:=.tuple #[.agg (mkC zeroV),.bool false]) (by simp[results,Tryz.results271,asAddr,loadVar,loadCells,Tryz.isAgg99,Tryz.sizeOf99,hlf]) rfl ?_
  exact ⟨rfl,keeps_past hb2.keep hkf (fun k hk e=>by omega)⟩
 | true=>
  go_enter Tryz.func271,Tryz.ntmps271
  go_wp2_with (first|(refine wpList_run_alloc hal rfl rfl ?_)|(refine wpList_run_alloc hal2 rfl rfl ?_)|fail)
  refine hI.out.mono ?_
  rintro e w2 ⟨rfl,q,hq⟩
  have hkq:Keeps (fun _=>False) w1 w2:=by rw[hq];exact (Keeps.refl _ _).drewN q
  have hb2:=Hb.out.keeps hkq
  have s1:=(H1.out.keeps hkq id id).has hS
  have hld:=(H1.out.keeps hkq id id).load hS
  obtain ⟨hst,hlf,hkf⟩:=store_all w2 99 60 w.heap.size (mkC x) (mkC zeroV) Tryz.sizeOf99 (mkC_size _) (mkC_size _) hb2.res (mkC_all _)
  generalize w2.setRow w.heap.size (mkC x)=w3 at *
  clear hq hkq
  go_wp2_with (first|(refine wpList_run_load hld rfl rfl rfl ?_)|(refine wpList_run_store hst rfl rfl rfl rfl ?_)|fail)
  refine bodyPost_ret (v:=.tuple #[.agg (mkC x),.bool true]) (by simp[results,Tryz.results271,asAddr,loadVar,loadCells,Tryz.isAgg99,Tryz.sizeOf99,hlf]) rfl ?_
  exact ⟨rfl,keeps_past hb2.keep hkf (fun k hk e=>by omega)⟩
theorem slot_push (z:Array Value) (c:Array Value) (hz:z.size=61) (hc:c.size=60):spliceA (spliceA z 0 c) 60 #[.bool true]=c.push (.bool true):=by
 have h1:(spliceA z 0 c).size=61:=by rw[spliceA_size _ _ _ (by omega),hz]
 apply Array.ext_getElem?
 intro k
 rw[splice_get _ _ _ (by simp[h1]),splice_get _ _ _ (by omega),Array.getElem?_push]
 simp only[List.size_toArray,List.length_cons,List.length_nil,Nat.zero_add,hc]
 by_cases h2:k<60
 ·rw[if_neg (by omega),if_pos (by omega),if_neg (by omega)]
  simp
 ·by_cases h3:k=60
  ·subst h3
   simp
  ·rw[if_neg (by omega),if_neg (by omega),if_neg h3,Array.getElem?_eq_none (by omega),Array.getElem?_eq_none (by omega)]
theorem run_build_slot (c:Array Value) (hc:c.size=60) (w:World):(Instr.build 237 #[(0,.agg c),(1,.bool true)]).run Tryz.prog w=.ok (.agg (c.push (.bool true))) w:=by
 have z:=Tryz.zeroValue237 w
 have u:=run_underlying Tryz.underlying237
 have s1:=Tryz.sizeOf99
 have s2:=Tryz.sizeOf4
 unfold Instr.build
 simp only[Sem.run_bind,z,Result.andThen_ok,u]
 rw[show ∀ (g:Array Field),g=#[{ name:="x",type:=99,offset:=0,embedded:=false,tag:="",pkgPath:="promptbook/ring",byteOffset:=0 },{ name:="has",type:=4,offset:=60,embedded:=false,tag:="",pkgPath:="promptbook/ring",byteOffset:=352 }]→Sem.run Tryz.prog (Array.mapM (fun f:Field=>do let k ←Go.sizeOf f.type;pure (f.offset,k)) g) w=.ok #[(0,60),(60,1)] w from fun g hg=>by subst hg;simp[s1,s2]]
 rotate_left
 ·rfl
 simp only[Result.andThen_ok]
 generalize hzz:(Value.agg _).cells=zz
 have hz61:zz.size=61:=by rw[←hzz];rfl
 clear hzz z
 rw[fill_step _ _ 0 0 (.agg c) _ (by simp[Value.cells,hc]) (by simp[Value.cells,hc,hz61]),fill_step _ _ 1 60 (.bool true) _ (by simp[Value.cells]) (by rw[spliceA_size _ _ _ (by simp[Value.cells,hc,hz61]),hz61];simp[Value.cells])]
 simp only[Instr.fill,Sem.run_pure]
 rw[show spliceA (spliceA zz 0 (Value.agg c).cells) 60 (Value.bool true).cells=c.push (.bool true) from slot_push zz c hz61 hc]
theorem s_win_Put (h:SWinAt w r B size first S) (n k:Nat) (f:Int) (hfn:f=n) (hf:inW first size f) (hk:n%size=k) (y:Nat→Int) :
  Calls Tryz.prog 192 #[.pointer (some ⟨r,0,none⟩),.int .i64 f,.agg (mkC y)] w fun e w'=>e=.returned (.int .i64 0)∧SWinAt w' r B size first (S.set k (y,true))∧Keeps (fun b=>b=B) w w':=by
 have hk0:Keeps (fun _=>False) w (w.alloc (.cells (mkC y) 99)):=(Keeps.refl _ w).alloc _
 have h0:=h.keeps hk0 id id
 have hI:=hid (s_win_inside h0 n k f hfn hf hk)
 have hS0:=blk_new w (.cells (mkC y) 99)
 have hkl:k<S.length:=by rw[h.slen,←hk];exact Nat.mod_lt _ h.pos
 have h1:=hf.1
 have H0:=hid h0
 have HS:=hid hS0
 have Hk:=hid hk0
 clear h h0 hS0 hk0 hfn hf hk
 go_enter Tryz.func192,Tryz.ntmps192
 go_wp2_with fail
 refine hI.out.mono ?_
 rintro e w1 ⟨rfl,q,hw1⟩
 have hk1:Keeps (fun _=>False) (w.alloc (.cells (mkC y) 99)) w1:=by rw[hw1];exact (Keeps.refl _ _).drewN q
 have hS1:=hk1.heap HS.out id
 have hW1:=H0.out.keeps hk1 id id
 have hkk:=Hk.out.trans hk1
 have c0:=hW1.c0
 have hld:=load_st hS1
 have hbd:=run_build_slot (mkC y) (mkC_size y) w1
 have hst:=hW1.store k hkl y true
 have hfin:=(keeps_any hkk (S:=fun b=>b=B)).trans (keeps_setRow w1 B (spliceA (s_slots S).toArray (k*61) (stC y true)))
 have hset:=hW1.setSlot k hkl y true
 unfold stC at hst
 unfold stC at hfin
 unfold stC at hset
 generalize w1.setRow B (spliceA (s_slots S).toArray (k*61) ((mkC y).push (.bool true)))=w2 at *
 have Hset:=hid hset
 clear hw1 hk1 hS1 hkk hset hW1
 go_wp2_with (first|(refine wpList_run_load hld rfl rfl rfl ?_)|(refine wpList_run_build2 hbd rfl rfl rfl rfl ?_)|(refine wpList_run_store hst rfl rfl rfl rfl ?_))
 go_ret
 exact ⟨rfl,Hset.out,hfin⟩
end
section
open Go.RowKit
set_option maxRecDepth 100000
theorem info_slotS:(Tryz.prog.info? 237).map (fun i=>(i.zero,i.size,i.bytes))=some (some (.agg (stC zeroV false)),61,360):=by kernel_rfl
theorem s_slots_zero (n:Nat):madeCells (Value.agg (stC zeroV false)).cells (n*61)=(s_slots (List.replicate n (zeroV,false))).toArray:=by
 apply Array.ext_getElem?
 intro m
 by_cases hm:m<n*61
 ·have hl:m / 61<(List.replicate n (zeroV,false)).length:=by simp;omega
  have h2:=Nat.mod_lt m (show 0<61 by omega)
  have h1:=s_slots_get (List.replicate n (zeroV,false)) (m / 61) hl (m%61) h2
  simp only[List.getElem_replicate] at h1
  rw[show m / 61*61+m%61=m by omega] at h1
  rw[show (s_slots (List.replicate n (zeroV,false))).toArray[m]?=(s_slots (List.replicate n (zeroV,false)))[m]? from by simp,h1]
  simp only[Value.cells]
  have hs:=stC_size zeroV false
  have hg:=Array.getElem?_eq_getElem (xs:=stC zeroV false) (i:=m%61) (by omega)
  unfold madeCells
  simp[hm,hs]
  rw[hg,getElem!_pos (stC zeroV false) (m%61) (by omega)]
 ·rw[Array.getElem?_eq_none (by simp[madeCells];omega),Array.getElem?_eq_none (by rw[List.size_toArray,s_slots_len];simp;omega)]
theorem s_win_Open (size:Nat) (h1:1≤size) (h2:size≤4096) (w:World) :
  Calls Tryz.prog 190 #[.int .i64 size,.int .i64 0] w fun e w'=>e=.returned (.tuple #[.pointer (some ⟨w.heap.size+1,0,none⟩),.int .i64 0])∧SWinAt w' (w.heap.size+1) w.heap.size size 0 (List.replicate size (zeroV,false))∧Below w.heap.size w w'∧w'.heap.size=w.heap.size+2:=by
 obtain ⟨i0,hi,hz0,hz1,hz2⟩:=info_parts info_slotS
 have hd:decide (1≤(size:Int)∧(size:Int)≤4096)=true:=by simp;omega
 have hmk:=run_make (P:=Tryz.prog) w 231 237 i0 (.agg (stC zeroV false)) Tryz.underlying231 hi hz0 .i64 .i64 size size (by omega) (Int.le_refl _) (by rw[hz2];omega) (by omega)
 rw[hz1,Int.toNat_natCast,s_slots_zero] at hmk
 clear hi hz0 hz1 hz2
 obtain ⟨Z,hZ⟩:∃ Z,Z=List.replicate size (zeroV,false):=⟨_,rfl⟩
 have HZ:=hid hZ
 rw[←hZ] at hmk
 rw[←hZ]
 clear hZ
 go_enter Tryz.func190,Tryz.ntmps190
 go_wp2_with fail
 refine (ring_may size w).mono ?_
 rintro e w' ⟨rfl,rfl⟩
 rw[hd]
 clear hd
 go_wp2
 go_ret2
 refine ⟨rfl,⟨?_,?_,by rw[HZ.out];simp,h1,h2,by omega,by omega⟩,((Below.refl _ w).alloc (Nat.le_refl _) _).alloc (by simp) _,by simp⟩
 ·have:=blk_new (w.alloc (.cells (s_slots Z).toArray 237)) (.cells #[.int .i64 0,.slice (some ⟨w.heap.size,0,none⟩) size size] 233)
  simpa using this
 ·have:=blk_alloc (blk_new w (.cells (s_slots Z).toArray 237)) (.cells #[.int .i64 0,.slice (some ⟨w.heap.size,0,none⟩) size size] 233)
  simpa using this
end
section
open Go.RowKit
attribute [local go_sem] Oper.semAt_some
def s_hasW (S:List ((Nat→Int)×Bool)) (size f:Nat):Bool:=decide (f≤1073741824)&&((S[f%size]?).map (·.2)).getD false
def s_framesW (S:List ((Nat→Int)×Bool)) (size first:Nat) (fr:Int) (k:Nat):List Nat:=((List.range k).map (first+·)).filter fun f=>decide (fr≤(f:Int))&&s_hasW S size f
theorem s_framesW_succ (S:List ((Nat→Int)×Bool)) (size first:Nat) (fr:Int) (k:Nat):s_framesW S size first fr (k+1)=s_framesW S size first fr k++if (decide (fr≤((first+k:Nat):Int))&&s_hasW S size (first+k))=true then [first+k] else []:=by
 unfold s_framesW
 rw[List.range_succ,List.map_append,List.filter_append,List.map_singleton,List.filter_cons,List.filter_nil]
theorem s_framesW_split (S:List ((Nat→Int)×Bool)) (size first:Nat) (fr:Int) (k:Nat) (hk:k<size) (h:(decide (fr≤((first+k:Nat):Int))&&s_hasW S size (first+k))=true) :
  ∃ rest,s_framesW S size first fr size=s_framesW S size first fr k++(first+k) :: rest:=by
 have:∀ d,∃ rest,s_framesW S size first fr (k+1+d)=s_framesW S size first fr k++(first+k) :: rest:=by
  intro d
  induction d with
  | zero=>exact ⟨[],by rw[Nat.add_zero,s_framesW_succ,if_pos h]⟩
  | succ d ih=>
   obtain ⟨r,hr⟩:=ih
   exact ⟨r++_,by rw[←Nat.add_assoc,s_framesW_succ,hr,List.append_assoc,List.cons_append]⟩
 obtain ⟨r,hr⟩:=this (size-(k+1))
 exact ⟨r,by rw[←hr];congr 1;omega⟩
section
variable {w w':World} {r B size first:Nat} {S:List ((Nat→Int)×Bool)}
theorem s_win_frames (r:Nat) (f:Int) (w:World):Calls Tryz.prog 79 #[.pointer (some ⟨r,0,none⟩),.int .i64 f] w fun e w'=>e=.returned (.func (.func 125) #[] #[.pointer (some ⟨w.heap.size,0,none⟩),.pointer (some ⟨w.heap.size+1,0,none⟩)])∧(w.alloc (.cells #[.pointer (some ⟨r,0,none⟩)] 127)).alloc (.cells #[.int .i64 f] 3)=w':=by
 go_enter Tryz.func79,Tryz.ntmps79
 go_wp2
 go_ret
 exact ⟨rfl,rfl⟩
theorem s_hasW_of (h:SWinAt w r B size first S) (n:Nat):s_hasW S size n=(decide (n≤1073741824)&&(S[n%size]'(by rw[h.slen];exact Nat.mod_lt _ h.pos)).2):=by
 unfold s_hasW
 rw[List.getElem?_eq_getElem (by rw[h.slen];exact Nat.mod_lt _ h.pos)]
 rfl
set_option maxHeartbeats 1600000 in
theorem s_frames1 (h:SWinAt w r B size first S) (Bn Bf:Nat) (fr:Int) (hc:w.cell? ⟨Bn,0,none⟩=some (.pointer (some ⟨r,0,none⟩))) (hf:w.cell? ⟨Bf,0,none⟩=some (.int .i64 fr))
  (Wr:Nat→Prop) (hW:¬ Wr Bn∧¬ Wr Bf∧¬ Wr r∧¬ Wr B) (hBn:Bn<w.heap.size∧Bf<w.heap.size) :
  YieldsAll Tryz.prog 125 #[.pointer (some ⟨Bn,0,none⟩),.pointer (some ⟨Bf,0,none⟩)] (fun f:Nat=>#[.int .i64 f]) (s_framesW S size first fr size) Wr (fun _=>False) w:=by
 intro l J W hl hk hsz hJ hY h0
 subst hl
 have lr:=blk_lt h.head
 have lB:=blk_lt h.body
 have b1:=h.fst
 have b2:=h.most
 refine callsIn_wide.2 ?_
 have hcW:=hk.cell hc id
 have hRW:=h.keeps hk id id
 have c1W:=hRW.c1
 go_enter Tryz.func125,Tryz.ntmps125
 go_wp2_with fail
 go_loopw [14] (fun v wr=>∃ k:Nat,k≤size∧v=.int .i64 k∧wr.cell? ⟨Bn,0,none⟩=some (.pointer (some ⟨r,0,none⟩))∧wr.cell? ⟨Bf,0,none⟩=some (.int .i64 fr)∧SWinAt wr r B size first S∧J (s_framesW S size first fr k) wr∧w.heap.size+2≤wr.heap.size)
  (fun v _=>size-(intOf v).toNat)
 case atStart=>exact ⟨0,Nat.zero_le _,rfl,hcW,hk.cell hf id,hRW,by simpa[s_framesW] using h0,by omega⟩
 case round=>
  obtain ⟨k,hkl,rfl,hcell,hfell,hRw,hJk,hsz2⟩:=hrel
  by_cases hlt:k<size
  ·have c0:=hRw.c0
   have hsucc:=s_framesW_succ S size first fr k
   have hhas:=s_hasW_of hRw (first+k)
   have hfn:(first:Int)+(k:Int)=((first+k:Nat):Int):=by omega
   by_cases hbig:1073741824<first+k
   ·have hno:=hid (s_win_inside_no hRw ((first:Int)+k) (by unfold inW;omega) (by omega))
    have hh:s_hasW S size (first+k)=false:=by rw[hhas];simp;omega
    rw[hh,Bool.and_false,if_neg (by simp),List.append_nil] at hsucc
    have Hs:=hid hsucc
    clear hh hhas hsucc hfn hbig
    by_cases hfr:fr≤(first:Int)+k
    ·go_wp2_with fail
     refine hno.out.mono ?_
     rintro e w2 ⟨rfl,q,rfl⟩
     go_wp2_with fail
     go_roundw
     case rel=>exact ⟨k+1,by omega,by go_num,hcell,hfell,hRw.drew q,by rw[Hs.out];exact hJ _ _ _ hJk ((Keeps.refl _ wr).drewN q),hsz2⟩
     case measure=>simp[intOf];omega
    ·go_wp2_with fail
     refine hno.out.mono ?_
     rintro e w2 ⟨rfl,q,rfl⟩
     go_wp2_with fail
     go_roundw
     case rel=>exact ⟨k+1,by omega,by go_num,hcell,hfell,hRw.drew q,by rw[Hs.out];exact hJ _ _ _ hJk ((Keeps.refl _ wr).drewN q),hsz2⟩
     case measure=>simp[intOf];omega
   ·obtain ⟨k',hk'⟩:∃ k',(first+k)%size=k':=⟨_,rfl⟩
    have hk'l:k'<S.length:=by rw[hRw.slen,←hk'];exact Nat.mod_lt _ hRw.pos
    have hin:=hid (s_win_inside hRw (first+k) k' ((first:Int)+k) hfn (by unfold inW;omega) hk')
    have hS:S[k']?=some ((S[k'].1:(Nat→Int)),S[k'].2):=List.getElem?_eq_getElem hk'l
    have s1:=hRw.has hS
    have hh:s_hasW S size (first+k)=S[k'].2:=by rw[hhas];simp only[hk'];rw[show decide (first+k≤1073741824)=true from decide_eq_true (by omega),Bool.true_and]
    have hspl:=s_framesW_split S size first fr k hlt
    rw[hh] at hsucc hspl
    generalize S[k'].2=bv at *
    have Hspl:=hid hspl
    have Hs:=hid hsucc
    have Hfn:=hid hfn
    clear hspl hsucc hhas hh hS hk' hfn
    by_cases hfr:fr≤(first:Int)+k
    ·cases bv with
     | false=>
      go_wp2_with fail
      refine hin.out.mono ?_
      rintro e w2 ⟨rfl,q,rfl⟩
      go_wp2_with fail
      go_roundw
      case rel=>exact ⟨k+1,by omega,by go_num,hcell,hfell,hRw.drew q,by rw[Hs.out,Bool.and_false,if_neg (by simp),List.append_nil];exact hJ _ _ _ hJk ((Keeps.refl _ wr).drewN q),hsz2⟩
      case measure=>simp[intOf];omega
     | true=>
      go_wp2_with fail
      refine hin.out.mono ?_
      rintro e w2 ⟨rfl,q,rfl⟩
      have hJk2:=hJ _ _ _ hJk ((Keeps.refl _ wr).drewN q)
      obtain ⟨rest,hrest⟩:=Hspl.out (by simp;have:=Hfn.out;omega)
      obtain ⟨fn,tmps,assign,body,hy,hRd⟩:=hY (s_framesW S size first fr k) (first+k) rest (wr.drewN q) hrest hJk2
      have Hrest:=hid hrest
      clear hrest
      rw[←Hfn.out] at hy
      go_upto_region 6 with fail
      refine (wpIn_wide (n:=0)).1 ?_
      gi_wp2
      refine ⟨rfl,hRd.mono ?_⟩
      rintro e W2 ⟨rfl,hJ2,hK2⟩
      clear hy hRd
      have hz2:=hK2.cell (p:=⟨Bn,0,none⟩) hcell (fun h=>h.elim hW.1 (fun h=>by simp at h;omega))
      have hz3:=hK2.cell (p:=⟨Bf,0,none⟩) hfell (fun h=>h.elim hW.2.1 (fun h=>by simp at h;omega))
      have hR2:=(hRw.drew q).keeps hK2 (fun h=>h.elim hW.2.2.1 (fun h=>by omega)) (fun h=>h.elim hW.2.2.2 (fun h=>by omega))
      have hs2:=hK2.size
      gi_wp2
      go_wp2
      go_roundw
      case rel=>exact ⟨k+1,by omega,by go_num,hz2,hz3,hR2,by rw[Hs.out,if_pos (by have:=Hfn.out;simp;omega)];exact hJ2,Nat.le_trans hsz2 hs2⟩
      case measure=>simp[intOf];omega
    ·go_wp2_with fail
     refine hin.out.mono ?_
     rintro e w2 ⟨rfl,q,rfl⟩
     go_wp2_with fail
     go_roundw
     case rel=>exact ⟨k+1,by omega,by go_num,hcell,hfell,hRw.drew q,by rw[Hs.out,if_neg (by have:=Hfn.out;simp;omega),List.append_nil];exact hJ _ _ _ hJk ((Keeps.refl _ wr).drewN q),hsz2⟩
     case measure=>simp[intOf];omega
  ·have he:k=size:=by omega
   subst he
   go_wp2_with fail
   go_end0
   exact ⟨⟨_,rfl⟩,hJk⟩
end
end
section
open Go.RowKit
theorem s_framesW_len (S:List ((Nat→Int)×Bool)) (size first:Nat) (fr:Int) (k:Nat):(s_framesW S size first fr k).length≤k:=by
 unfold s_framesW
 exact Nat.le_trans (List.length_filter_le _ _) (by simp)
section
variable {w w':World} {r B size first:Nat} {S:List ((Nat→Int)×Bool)}
theorem s_win_collect (h:SWinAt w r B size first S) (fr:Int) :
  Calls Tryz.prog 78 #[.func (.func 125) #[] #[.pointer (some ⟨w.heap.size,0,none⟩),.pointer (some ⟨w.heap.size+1,0,none⟩)]] ((w.alloc (.cells #[.pointer (some ⟨r,0,none⟩)] 127)).alloc (.cells #[.int .i64 fr] 3)) fun e w'=>
   ∃ v,e=.returned v∧w'.ownsRow (w.heap.size+5) 3 1 v (s_framesW S size first fr size).length (intsL (natsL (s_framesW S size first fr size)))∧Below w.heap.size w w':=by
 obtain ⟨w2,hw2⟩:∃ w2,(w.alloc (.cells #[.pointer (some ⟨r,0,none⟩)] 127)).alloc (.cells #[.int .i64 fr] 3)=w2:=⟨_,rfl⟩
 have hk:Keeps (fun _=>False) w w2:=by rw[←hw2];exact ((Keeps.refl _ w).alloc _).alloc _
 have hs:w2.heap.size=w.heap.size+2:=by rw[←hw2];simp
 have hc:w2.cell? ⟨w.heap.size,0,none⟩=some (.pointer (some ⟨r,0,none⟩)):=by rw[←hw2];exact cell_past (cell_one_new' _ _ _) _
 have hf:w2.cell? ⟨w.heap.size+1,0,none⟩=some (.int .i64 fr):=by rw[←hw2];have:=cell_one_new' (w.alloc (.cells #[.pointer (some ⟨r,0,none⟩)] 127)) (.int .i64 fr) 3;rw[World.size_alloc] at this;exact this
 have lr:=blk_lt h.head
 have lB:=blk_lt h.body
 have hm:=h.most
 rw[hw2]
 have h2:=h.keeps hk id id
 have hb2:Below w.heap.size w w2:=hk.below (Nat.le_refl _) (fun _ _=>id)
 have hb:=seq_Collect (w:=w2) (fun f:Nat=>(f:Int)) 125 #[.pointer (some ⟨w.heap.size,0,none⟩),.pointer (some ⟨w.heap.size+1,0,none⟩)] (enters_of Tryz.func125 (by kernel_rfl) rfl) (s_framesW S size first fr size) (Nat.le_trans (s_framesW_len _ _ _ _ _) hm)
  (s_frames1 (h2.keeps ((Keeps.refl (fun _=>False) w2).alloc _) id id) w.heap.size (w.heap.size+1) fr (cell_past hc _) (cell_past hf _) _ ⟨by omega,by omega,by omega,by omega⟩ ⟨by simp;omega,by simp;omega⟩)
 rw[hs] at hb
 exact hb.mono fun e w' ⟨v,h1,h3,h4⟩=>⟨v,h1,h3,hb2.trans (h4.mono (by omega))⟩
theorem s_win_Frames (h:SWinAt w r B size first S) :
  Calls Tryz.prog 52 #[.pointer (some ⟨r,0,none⟩)] w fun e w'=>
   ∃ v,e=.returned v∧w'.ownsRow (w.heap.size+5) 3 1 v (s_framesW S size first 0 size).length (intsL (natsL (s_framesW S size first 0 size)))∧Below w.heap.size w w':=by
 have hC:=hid (s_win_collect h 0)
 go_enter Tryz.func52,Tryz.ntmps52
 go_wp2_with fail
 refine (s_win_frames r 0 w).mono ?_
 rintro e w2 ⟨rfl,rfl⟩
 go_wp2_with fail
 refine hC.out.mono ?_
 rintro e w3 ⟨v,rfl,h1,h2⟩
 go_wp2
 go_ret
 exact ⟨_,rfl,h1,h2⟩
end
end
section
open Go.RowKit
structure SSlots (S:List ((Nat→Int)×Bool)) (size first:Nat) (L:List (Nat×(Nat→Int))):Prop where
 slen:S.length=size
 pos:0<size
 asc:Asc L
 isin:∀ p∈L,first≤p.1∧p.1<first+size∧p.1≤1073741824
 some':∀ f x,lookL L f=some x→S[f%size]?=some (x,true)
 none':∀ f,first≤f→f<first+size→f≤1073741824→lookL L f=none→∃ y,S[f%size]?=some (y,false)
def s_dropS (S:List ((Nat→Int)×Bool)) (size:Nat) (fs:List Nat):List ((Nat→Int)×Bool):=fs.foldl (fun S f=>S.set (f%size) (zeroV,false)) S
theorem s_dropS_len (S:List ((Nat→Int)×Bool)) (size:Nat) (fs:List Nat):(s_dropS S size fs).length=S.length:=by
 unfold s_dropS
 induction fs generalizing S with
 | nil=>rfl
 | cons f fs ih=>rw[List.foldl_cons,ih];simp
theorem s_dropS_snoc (S:List ((Nat→Int)×Bool)) (size:Nat) (fs:List Nat) (f:Nat):s_dropS S size (fs++[f])=(s_dropS S size fs).set (f%size) (zeroV,false):=by
 unfold s_dropS
 rw[List.foldl_append]
 rfl
theorem s_dropS_at (S:List ((Nat→Int)×Bool)) (size first:Nat) (fs:List Nat) (hs:S.length=size) (hf:∀ f∈fs,first≤f∧f<first+size) (g:Nat) (hg:first≤g∧g<first+size) :
  (s_dropS S size fs)[g%size]?=if g∈fs then some (zeroV,false) else S[g%size]?:=by
 have hp:0<size:=by omega
 induction fs generalizing S with
 | nil=>rfl
 | cons f fs ih=>
  have e:s_dropS S size (f :: fs)=s_dropS (S.set (f%size) (zeroV,false)) size fs:=rfl
  rw[e,ih _ (by simpa using hs) (fun x hx=>hf x (by simp[hx]))]
  have hf0:=hf f (by simp)
  by_cases h1:g∈fs
  ·rw[if_pos h1,if_pos (by simp[h1])]
  ·rw[if_neg h1]
   by_cases h2:g=f
   ·subst h2
    rw[if_pos (by simp),List.getElem?_set_self (by rw[hs];exact Nat.mod_lt _ hp)]
   ·rw[if_neg (by simp[h1,h2]),List.getElem?_set_ne (fun h=>h2 (mod_apart hg hf0 h.symm))]
namespace SSlots
variable {S:List ((Nat→Int)×Bool)} {size first:Nat} {L:List (Nat×(Nat→Int))}
theorem put (h:SSlots S size first L) (f:Nat) (x:(Nat→Int)) (hf:first≤f∧f<first+size∧f≤1073741824):SSlots (S.set (f%size) (x,true)) size first (putL L f x) where
 slen:=by simpa using h.slen
 pos:=h.pos
 asc:=asc_put h.asc f x
 isin p hp:=by
  rcases mem_put hp with rfl|hp
  ·exact hf
  ·exact h.isin p hp
 some' g y hg:=by
  rw[lookL_put] at hg
  split at hg
  ·rename_i e;subst e;cases hg
   rw[List.getElem?_set_self (by rw[h.slen];exact Nat.mod_lt _ h.pos)]
  ·rename_i e
   have hi:=h.isin _ (lookL_mem hg)
   rw[List.getElem?_set_ne (fun c=>e (mod_apart (first:=first) ⟨hi.1,hi.2.1⟩ ⟨hf.1,hf.2.1⟩ c.symm))]
   exact h.some' g y hg
 none' g h1 h2 h3 hg:=by
  rw[lookL_put] at hg
  split at hg
  ·cases hg
  ·rename_i e
   rw[List.getElem?_set_ne (fun c=>e (mod_apart (first:=first) ⟨h1,h2⟩ ⟨hf.1,hf.2.1⟩ c.symm))]
   exact h.none' g h1 h2 h3 hg
theorem has (h:SSlots S size first L) (f:Nat) (h1:first≤f) (h2:f<first+size):s_hasW S size f=(lookL L f).isSome:=by
 unfold s_hasW
 by_cases h3:f≤1073741824
 ·rcases hl:lookL L f with _|x
  ·obtain ⟨y,hy⟩:=h.none' f h1 h2 h3 hl
   rw[hy];simp
  ·rw[h.some' f x hl];simp[h3]
 ·rw[lookL_none (L:=L) (f:=f) (fun p hp e=>h3 (by have:=(h.isin p hp).2.2;omega))];simp[h3]
theorem frames (h:SSlots S size first L) (fr:Int):s_framesW S size first fr size=(L.map (·.1)).filter fun f:Nat=>decide (fr≤(f:Int)):=by
 rw[←frames_of h.asc first size (fun p hp=>⟨(h.isin p hp).1,(h.isin p hp).2.1⟩)]
 unfold s_framesW
 rw[List.filter_filter]
 refine List.filter_congr fun f hf=>?_
 obtain ⟨i,hi,rfl⟩:=List.mem_map.1 hf
 have hi:=List.mem_range.1 hi
 rw[h.has (first+i) (by omega) (by omega)]
theorem drop (h:SSlots S size first L) (p:Nat→Bool):SSlots (s_dropS S size ((L.map (·.1)).filter p)) size first (L.filter fun q=>!p q.1):=by
 have hin:∀ f∈(L.map (·.1)).filter p,first≤f∧f<first+size:=fun f hf=>by
  obtain ⟨q,hq,rfl⟩:=List.mem_map.1 (List.mem_filter.1 hf).1
  exact ⟨(h.isin q hq).1,(h.isin q hq).2.1⟩
 have hmem:∀ f,f∈(L.map (·.1)).filter p↔(lookL L f).isSome=true∧p f=true:=fun f=>by
  rw[List.mem_filter,List.mem_map]
  constructor
  ·rintro ⟨⟨q,hq,rfl⟩,hp⟩
   exact ⟨by rw[mem_lookL h.asc (x:=q.2) hq];rfl,hp⟩
  ·rintro ⟨hs,hp⟩
   obtain ⟨x,hx⟩:=Option.isSome_iff_exists.1 hs
   exact ⟨⟨_,lookL_mem hx,rfl⟩,hp⟩
 refine ⟨by rw[s_dropS_len,h.slen],h.pos,asc_filter h.asc _,fun q hq=>h.isin q (List.mem_filter.1 hq).1,fun f x hf=>?_,fun f h1 h2 h3 hf=>?_⟩
 ·rw[lookL_filter (p:=fun n=>!p n)] at hf
  split at hf
  ·rename_i hp
   have hi:=h.isin _ (lookL_mem hf)
   rw[s_dropS_at S size first _ h.slen hin f ⟨hi.1,hi.2.1⟩,if_neg (fun c=>by have:=((hmem f).1 c).2;simp[this] at hp)]
   exact h.some' f x hf
  ·cases hf
 ·rw[s_dropS_at S size first _ h.slen hin f ⟨h1,h2⟩]
  split
  ·exact ⟨_,rfl⟩
  ·rename_i hn
   rw[lookL_filter (p:=fun n=>!p n)] at hf
   split at hf
   ·exact h.none' f h1 h2 h3 hf
   ·rename_i hp
    rcases hl:lookL L f with _|x
    ·exact h.none' f h1 h2 h3 hl
    ·exact absurd ((hmem f).2 ⟨by rw[hl];rfl,by simpa using hp⟩) hn
theorem move (h:SSlots S size first L) (n:Nat) (hn:first≤n) (hL:∀ p∈L,n≤p.1):SSlots S size n L where
 slen:=h.slen
 pos:=h.pos
 asc:=h.asc
 isin p hp:=⟨hL p hp,by have:=h.isin p hp;omega,(h.isin p hp).2.2⟩
 some':=h.some'
 none' f h1 h2 h3 hf:=by
  by_cases hlt:f<first+size
  ·exact h.none' f (by omega) hlt h3 hf
  ·have hp:=h.pos
   have e:=Nat.div_add_mod (f-first) size
   have hm:=Nat.mod_lt (f-first) hp
   generalize hr:(f-first)%size=rr at *
   generalize (f-first) / size=d at *
   have hd:0<d:=by
    rcases Nat.eq_zero_or_pos d with hd|hd
    ·subst hd;rw[Nat.mul_zero] at e;omega
    ·exact hd
   have hge:size*1≤size*d:=Nat.mul_le_mul_left size hd
   rw[Nat.mul_one] at hge
   have hf0:f=first+rr+size*d:=by omega
   have hmod:f%size=(first+rr)%size:=by rw[hf0,Nat.add_mul_mod_self_left]
   rw[hmod]
   refine h.none' (first+rr) (by omega) (by omega) (by omega) (lookL_none fun p hp' e'=>?_)
   have:=hL p hp'
   omega
end SSlots
end
section
open Go.RowKit
set_option maxRecDepth 100000
variable {w w':World} {r B size first:Nat} {S:List ((Nat→Int)×Bool)}
theorem zero_slot (w:World):(Instr.build 237 #[]).run Tryz.prog w=.ok (.agg (stC zeroV false)) w:=by kernel_rfl
set_option maxHeartbeats 400000 in
theorem s_win_drop (h:SWinAt w r B size first S) (fs:List Nat) (A:Option Addr) (cap:Nat) (hv:Vals w 1 A fs.length cap (intsL (natsL fs))) (hA:0<fs.length→∀ x,A=some x→x.block≠B) (hin:∀ f∈fs,inW first size (f:Int)) :
  Calls Tryz.prog 224 #[.pointer (some ⟨r,0,none⟩),.slice A fs.length cap] w fun e w'=>e=.returned (.int .i64 (fs.length:Int))∧SWinAt w' r B size first (s_dropS S size fs)∧Keeps (fun b=>b=B) w w':=by
 have hl1:fs.length≤9223372036854775807:=Nat.le_trans hv.2.1 hv.2.2.1
 have Hin:=hid hin
 clear hin
 go_enter Tryz.func224,Tryz.ntmps224
 go_wp2
 go_loopw [9] (fun i wr=>∃ k:Nat,k≤fs.length∧i=.int .i64 k∧SWinAt wr r B size first (s_dropS S size (fs.take k))∧Keeps (fun b=>b=B) w wr) (fun i _=>fs.length-(intOf i).toNat)
 case atStart=>exact ⟨0,Nat.zero_le _,rfl,h,Keeps.refl _ w⟩
 case round=>
  obtain ⟨k,hk,rfl,hW,hkw⟩:=hrel
  by_cases hlt:k<fs.length
  ·obtain ⟨b,o,rfl,hc⟩:=(hv.keeps hkw (fun hn x hx=>hA hn x hx)).at' (by omega)
   have k0:wr.cell? ⟨b,o+k,none⟩=some (.int .i64 (fs[k]:Nat)):=hc _ _ (ints_natsL fs k hlt)
   have hi:=hid (s_win_inside hW fs[k] (fs[k]%size) _ rfl (Hin.out _ (List.getElem_mem hlt)) rfl)
   have hsn:s_dropS S size (fs.take (k+1))=(s_dropS S size (fs.take k)).set (fs[k]%size) (zeroV,false):=by rw[List.take_succ_eq_append_getElem hlt,s_dropS_snoc]
   have hml:fs[k]%size<(s_dropS S size (fs.take k)).length:=by rw[hW.slen];exact Nat.mod_lt _ hW.pos
   clear hc
   generalize fs[k]=f at *
   generalize f%size=k' at *
   generalize s_dropS S size (fs.take k)=D at *
   have Hs:=hid hsn
   clear hsn
   go_wp2_with fail
   refine hi.out.mono ?_
   rintro e w2 ⟨rfl,q,hq⟩
   have hW2:=hW.drew q
   rw[←hq] at hW2
   have hk2:Keeps (fun b=>b=B) w w2:=by rw[hq];exact hkw.drewN q
   have hst:=hW2.store k' hml zeroV false
   have hfin:=hk2.trans (keeps_setRow w2 B (spliceA (s_slots D).toArray (k'*61) (stC zeroV false)))
   have hset:=hW2.setSlot k' hml zeroV false
   generalize w2.setRow B (spliceA (s_slots D).toArray (k'*61) (stC zeroV false))=w3 at *
   have Hset:=hid hset
   clear hset hq hW2 hk2
   go_wp2_with (first|(refine wpList_run_build (zero_slot _) rfl rfl rfl ?_)|(refine wpList_run_store hst rfl rfl rfl rfl ?_)|fail)
   go_roundw
   case rel=>exact ⟨k+1,by omega,by go_num,by rw[Hs.out];exact Hset.out,hfin⟩
   case measure=>simp[intOf];omega
  ·obtain rfl:k=fs.length:=by omega
   rw[List.take_length] at hW
   go_wp2_with fail
   go_ret
   exact ⟨rfl,hW,hkw⟩
def SIsWin (w:World) (r B size first:Nat) (L:List (Nat×(Nat→Int))):Prop:=∃ S,SWinAt w r B size first S∧SSlots S size first L
theorem SIsWin.keeps {L:List (Nat×(Nat→Int))} {T:Nat→Prop} (h:SIsWin w r B size first L) (hk:Keeps T w w') (h1:¬ T r) (h2:¬ T B):SIsWin w' r B size first L:=by
 obtain ⟨S,h3,h4⟩:=h
 exact ⟨S,h3.keeps hk h1 h2,h4⟩
variable {L:List (Nat×(Nat→Int))}
theorem SIsWin.le (h:SIsWin w r B size first L):L.length≤size∧0<size∧size≤4096∧first≤1073741824∧r<w.heap.size∧B<w.heap.size∧r≠B:=by
 obtain ⟨S,h,h4⟩:=h
 have h5:=frames_of h4.asc first size (fun p hp=>⟨(h4.isin p hp).1,(h4.isin p hp).2.1⟩)
 have h6:=congrArg List.length h5
 rw[List.length_map] at h6
 refine ⟨?_,h.pos,h.most,h.fst,blk_lt h.head,blk_lt h.body,h.ne⟩
 rw[←h6]
 exact Nat.le_trans (List.length_filter_le _ _) (by simp)
theorem s_is_Frames (h:SIsWin w r B size first L) :
  Calls Tryz.prog 52 #[.pointer (some ⟨r,0,none⟩)] w fun e w'=>∃ v,e=.returned v∧w'.ownsRow (w.heap.size+5) 3 1 v (L.map (·.1)).length (intsL (natsL (L.map (·.1))))∧Below w.heap.size w w':=by
 obtain ⟨S,h,h4⟩:=h
 have hF:=s_win_Frames h
 rw[h4.frames 0,List.filter_eq_self.2 (fun n _=>by simp)] at hF
 exact hF
theorem s_is_Put (h:SIsWin w r B size first L) (n:Nat) (f:Int) (hfn:f=n) (hf:inW first size f) (x:(Nat→Int)) :
  Calls Tryz.prog 192 #[.pointer (some ⟨r,0,none⟩),.int .i64 f,(Value.agg (mkC x))] w fun e w'=>e=.returned (.int .i64 0)∧SIsWin w' r B size first (putL L n x)∧Keeps (fun b=>b=B) w w':=by
 obtain ⟨S,h,h4⟩:=h
 refine (s_win_Put h n _ f hfn hf rfl x).mono ?_
 rintro e w' ⟨rfl,h1,h2⟩
 exact ⟨rfl,⟨_,h1,h4.put n x (by unfold inW at hf;omega)⟩,h2⟩
end
section
open Go.RowKit
variable {w w':World} {r B size first:Nat} {L:List (Nat×(Nat→Int))}
theorem s_is_Get (h:SIsWin w r B size first L) (f:Int) (hr:-9223372036854775808≤f∧f≤9223372036854775807) :
  Calls Tryz.prog 271 #[.pointer (some ⟨r,0,none⟩),.int .i64 f] w fun e w'=>e=.returned (.tuple #[.agg (mkC ((lookI L f).getD zeroV)),.bool (lookI L f).isSome])∧Keeps (fun _=>False) w w':=by
 obtain ⟨S,h,h4⟩:=h
 by_cases hf:inW first size f
 ·obtain ⟨n,rfl⟩:=Int.eq_ofNat_of_zero_le (show 0≤f by unfold inW at hf;omega)
  rw[lookI_nat]
  rcases hl:lookL L n with _|x
  ·obtain ⟨y,hy⟩:=h4.none' n (by unfold inW at hf;omega) (by unfold inW at hf;omega) (by unfold inW at hf;omega) hl
   exact s_win_Get h n _ n rfl hf rfl y false hy
  ·exact s_win_Get h n _ n rfl hf rfl x true (h4.some' n x hl)
 ·rw[lookI_none (fun p hp e=>hf (by have:=h4.isin p hp;unfold inW;omega))]
  exact s_win_Get_no h f hf hr
theorem s_is_Move_no (h:SIsWin w r B size first L) (f:Int) (hf:f<first∨1073741824<f) :
  Calls Tryz.prog 150 #[.pointer (some ⟨r,0,none⟩),.int .i64 f] w fun e w'=>e=.returned (.int .i64 0)∧SIsWin w' r B size first L∧Keeps (fun _=>False) w w':=by
 obtain ⟨S,h,h4⟩:=h
 have h1:=(h.keeps (T:=fun _=>False) ((Keeps.refl _ w).alloc (.cells #[.int .i64 f] 3)) id id)
 have c0:=h1.c0
 have cf:(w.alloc (.cells #[.int .i64 f] 3)).cell? ⟨w.heap.size,0,none⟩=some (.int .i64 f):=cell_one_new' _ _ _
 have hk:Keeps (fun _=>False) w (w.alloc (.cells #[.int .i64 f] 3)):=(Keeps.refl _ w).alloc _
 by_cases h2:f<first
 ·clear hf
  go_enter Tryz.func150,Tryz.ntmps150
  go_upto_region 1 with fail
  generalize w.alloc (.cells #[.int .i64 f] 3)=w1 at *
  go_quiet (fail)
  go_wp2
  go_ret
  exact ⟨rfl,⟨S,h1.drew _,h4⟩,hk.drewN _⟩
 ·have h3:1073741824<f:=by omega
  have h5:(first:Int)≤f:=by omega
  clear hf
  go_enter Tryz.func150,Tryz.ntmps150
  go_upto_region 1 with fail
  generalize w.alloc (.cells #[.int .i64 f] 3)=w1 at *
  go_quiet (fail)
  go_wp2
  go_ret
  exact ⟨rfl,⟨S,h1.drew _,h4⟩,hk.drewN _⟩
theorem s_move1 (Bc:Nat) (n x:Int) (W:World) (hc:W.cell? ⟨Bc,0,none⟩=some (.int .i64 n)) :
  Calls Tryz.prog 223 #[.int .i64 x,.pointer (some ⟨Bc,0,none⟩)] W fun e w'=>e=.returned (.bool (decide (n≤x)))∧∃ q,w'=W.drewN q:=by
 go_enter Tryz.func223,Tryz.ntmps223
 go_wp2
 all_goals
  go_ret
  exact ⟨by simp_all,0,rfl⟩
theorem SWinAt.setFirst {S:List ((Nat→Int)×Bool)} (h:SWinAt w r B size first S) (n:Nat) (hn:n≤1073741824):SWinAt (w.setCell ⟨r,0,none⟩ (.int .i64 (n:Int))) r B size n S:=
 ⟨by simpa using blk_set h.head 0 (.int .i64 (n:Int)),blk_other h.body (Ne.symm h.ne) _,h.slen,h.pos,h.most,hn,h.ne⟩
set_option maxHeartbeats 800000 in
theorem s_is_Move (h:SIsWin w r B size first L) (n:Nat) (f:Int) (hfn:f=n) (hf:first≤n∧n≤1073741824) :
  Calls Tryz.prog 150 #[.pointer (some ⟨r,0,none⟩),.int .i64 f] w fun e w'=>e=.returned (.int .i64 (((L.filter fun p=>decide (p.1<n)).length:Nat):Int))∧SIsWin w' r B size n (L.filter fun p=>!decide (p.1<n))∧Keeps (fun b=>b=r∨b=B) w w':=by
 obtain ⟨S,h,h4⟩:=h
 have hk0:Keeps (fun _=>False) w (w.alloc (.cells #[.int .i64 f] 3)):=(Keeps.refl _ w).alloc _
 have h1:=h.keeps hk0 id id
 have c0:=h1.c0
 have cf:(w.alloc (.cells #[.int .i64 f] 3)).cell? ⟨w.heap.size,0,none⟩=some (.int .i64 f):=cell_one_new' _ _ _
 have hs1:(w.alloc (.cells #[.int .i64 f] 3)).heap.size=w.heap.size+1:=by simp
 have lr:=blk_lt h.head
 have lB:=blk_lt h.body
 have h5:(first:Int)≤f:=by omega
 have h6:f≤1073741824:=by omega
 have hd:=h4.drop fun k=>decide (k<n)
 have hm:=hd.move n hf.1 (fun p hp=>by have:=(List.mem_filter.1 hp).2;simpa using this)
 have hll:((L.map (·.1)).filter fun k:Nat=>decide (k<n)).length=(L.filter fun p=>decide (p.1<n)).length:=by rw[List.filter_map,List.length_map];rfl
 have hin:∀ k∈(L.map (·.1)).filter fun k:Nat=>decide (k<n),inW first size (k:Int):=fun k hk=>by
  obtain ⟨p,hp,rfl⟩:=List.mem_map.1 (List.mem_filter.1 hk).1
  have:=h4.isin p hp
  unfold inW
  omega
 have hlen:L.length≤4096:=Nat.le_trans (SIsWin.le ⟨S,h,h4⟩).1 h.most
 have hfil:((natsL (L.map (·.1))).filter fun x=>!decide (f≤x))=natsL ((L.map (·.1)).filter fun k:Nat=>decide (k<n)):=by
  unfold natsL
  rw[List.filter_map]
  congr 1
  refine List.filter_congr fun k _=>?_
  simp only[Function.comp_apply]
  rw[Bool.eq_iff_iff]
  simp
  omega
 rw[←hll]
 have Hfn:=hid hfn
 clear hll hd hfn
 generalize ((L.map (·.1)).filter fun k:Nat=>decide (k<n))=fs at *
 have hll2:(natsL fs).length=fs.length:=by simp[natsL]
 have Hin:=hid hin
 have Hfil:=hid hfil
 have Hll:=hid hll2
 have Hn:=hid hf
 have hml:(L.map (·.1)).length≤4096:=by simpa using hlen
 clear hin hfil hll2 hf
 go_enter Tryz.func150,Tryz.ntmps150
 go_upto_region 1 with fail
 generalize w.alloc (.cells #[.int .i64 f] 3)=w1 at *
 generalize w.heap.size=Bc at *
 go_quiet (fail)
 go_wp2_with fail
 refine (s_is_Frames ⟨S,h1.drew nq,h4⟩).mono ?_
 rintro e w3 ⟨v,rfl,ho3,hb3⟩
 have hk3:Keeps (fun _=>False) w1 w3:=((Keeps.refl _ w1).drewN nq).then_below hb3
 have cf3:=hk3.cell cf id
 have hs3:(w1.drewN nq).heap.size=w1.heap.size:=rfl
 rw[hs3] at ho3
 clear hs3 hb3
 go_wp2_with fail
 refine (del_ints (natsL (L.map (·.1))) ho3 hml (fun x=>decide (f≤x)) 223 #[.pointer (some ⟨Bc,0,none⟩)] (enters_of Tryz.func223 (by kernel_rfl) rfl)
  (fun W x hk=>s_move1 Bc f x W (hk.cell cf3 (fun e=>by have:=(ho3.lt Bc e).1;omega)))).mono ?_
 rintro e w4 ⟨v4,rfl,ho4,hk4⟩
 rw[Hfil.out,Hll.out] at ho4
 have hk34:∀ b,b<w1.heap.size→¬ v.ownBlock=some b:=fun b hb e=>by have:=(ho3.lt b e).1;omega
 obtain ⟨A,cap,rfl,hv,hb⟩:=vals_of_own ho4
 have hk14:Keeps (fun b=>w1.heap.size≤b) w1 w4:=(hk3.mono (fun _ _ h=>h.elim)).trans (hk4.mono fun b _ e=>(ho3.lt b e).1 |> fun h=>by omega)
 have cf4:=hk14.cell cf (by simp;omega)
 have h14:=h1.keeps hk14 (by omega) (by omega)
 clear ho3 ho4 hk34 hk4 hk3 cf3
 go_wp2_with fail
 refine (s_win_drop h14 fs A cap hv (fun _ x hx=>by have:=(hb x hx).1;omega) Hin.out).mono ?_
 rintro e w5 ⟨rfl,h5,h6⟩
 have cf5:=h6.cell cf4 (by simp;omega)
 have c05:=h5.c0
 have g5:=blk_free h5.head 0
 have hset:=h5.setFirst n Hn.out.2
 rw[←Hfn.out] at hset
 have hkk:Keeps (fun b=>b=r∨b=B) w (w5.setCell ⟨r,0,none⟩ (.int .i64 f)):=
  (((keeps_any hk0).trans (hk14.mono fun b hb e=>by omega)).trans (h6.mono fun b _ e=>.inr e)).setCell (p:=⟨r,0,none⟩) (.inl rfl) _
 clear h5 h6 hk14 h14 h1
 go_wp2_with fail
 go_ret
 exact ⟨rfl,⟨_,hset,hm⟩,hkk⟩
end
section
open Go.RowKit
set_option maxRecDepth 10000
structure Fd where
 first:Nat
 next:Nat
 last:Int
 K:List (Nat×Int)
 U:List (Nat×Int)
def FdAt (w:World) (D:Nat) (x:Fd):Prop:=IsFeed w D x.first x.next x.last x.K x.U
structure CoB where
 c:Nat
 D:Nat→Nat
 r:Nat
 B:Nat
structure Co where
 seed:Int
 delay:Nat
 wnd:Nat
 me:Nat
 f:Nat→Fd
 sf:Nat
 L:List (Nat×(Nat→Int))
 now:Nat
def CoB.S (b:CoB) (j:Nat):Prop:=j=b.c∨(b.D 0≤j∧j≤b.D 0+4)∨(b.D 1≤j∧j≤b.D 1+4)∨j=b.r∨j=b.B
structure CoB.ok (b:CoB):Prop where
 cr:b.c≠b.r
 cB:b.c≠b.B
 c0:¬ (b.D 0≤b.c∧b.c≤b.D 0+4)
 c1:¬ (b.D 1≤b.c∧b.c≤b.D 1+4)
 r0:¬ (b.D 0≤b.r∧b.r≤b.D 0+4)
 r1:¬ (b.D 1≤b.r∧b.r≤b.D 1+4)
 B0:¬ (b.D 0≤b.B∧b.B≤b.D 0+4)
 B1:¬ (b.D 1≤b.B∧b.B≤b.D 1+4)
 dd:b.D 0+4<b.D 1∨b.D 1+4<b.D 0
structure IsCore (w:World) (b:CoB) (x:Co):Prop where
 head:w.heap[b.c]?=some (.cells #[.int .u32 x.seed,.int .i64 x.delay,.int .i64 x.wnd,.int .i64 x.me,.pointer (some ⟨b.D 0+4,0,none⟩),.pointer (some ⟨b.D 1+4,0,none⟩),.pointer (some ⟨b.r,0,none⟩),.int .i64 x.now] 129 (0,0))
 fd:∀ k,k<2→FdAt w (b.D k) (x.f k)
 st:SIsWin w b.r b.B 81 x.sf x.L
 ok:b.ok
 me:x.me<2
 nw:x.now≤1000000
 nx:∀ k,k<2→(x.f k).next≤1000000
 wn:x.wnd≤1000
namespace IsCore
variable {w w':World} {b:CoB} {x:Co}
theorem keeps {T:Nat→Prop} (h:IsCore w b x) (hk:Keeps T w w') (hT:∀ j,b.S j→¬ T j):IsCore w' b x:=by
 refine ⟨hk.heap h.head (hT _ (.inl rfl)),fun k hk2=>?_,h.st.keeps hk (hT _ (.inr (.inr (.inr (.inl rfl))))) (hT _ (.inr (.inr (.inr (.inr rfl))))),h.ok,h.me,h.nw,h.nx,h.wn⟩
 have:k=0∨k=1:=by omega
 rcases this with rfl|rfl
 ·exact (h.fd 0 (by omega)).keeps hk (fun j h1 h2=>hT _ (.inr (.inl ⟨h1,h2⟩)))
 ·exact (h.fd 1 (by omega)).keeps hk (fun j h1 h2=>hT _ (.inr (.inr (.inl ⟨h1,h2⟩))))
theorem keep (h:IsCore w b x) (hk:Keeps (fun _=>False) w w'):IsCore w' b x:=h.keeps hk (fun _ _=>id)
theorem lt (h:IsCore w b x) {j:Nat} (hj:b.S j):j<w.heap.size:=by
 have h1:=blk_lt h.head
 have h2:=(h.fd 0 (by omega)).lt
 have h3:=(h.fd 1 (by omega)).lt
 have h4:=h.st.le
 rcases hj with e|e|e|e|e<;>omega
theorem cD (h:IsCore w b x) {k:Nat} (hk:k<2):w.cell? ⟨b.c,4+k,none⟩=some (.pointer (some ⟨b.D k+4,0,none⟩)):=by
 have:k=0∨k=1:=by omega
 rcases this with rfl|rfl<;>exact blk_cell h.head rfl
theorem c1 (h:IsCore w b x):w.cell? ⟨b.c,1,none⟩=some (.int .i64 x.delay):=blk_cell h.head rfl
theorem c2 (h:IsCore w b x):w.cell? ⟨b.c,2,none⟩=some (.int .i64 x.wnd):=blk_cell h.head rfl
theorem c3 (h:IsCore w b x):w.cell? ⟨b.c,3,none⟩=some (.int .i64 x.me):=blk_cell h.head rfl
theorem c6 (h:IsCore w b x):w.cell? ⟨b.c,6,none⟩=some (.pointer (some ⟨b.r,0,none⟩)):=blk_cell h.head rfl
theorem c7 (h:IsCore w b x):w.cell? ⟨b.c,7,none⟩=some (.int .i64 x.now):=blk_cell h.head rfl
end IsCore
variable {w w':World} {b:CoB} {x:Co}
theorem co_Current (h:IsCore w b x):Calls Tryz.prog 22 #[.pointer (some ⟨b.c,0,none⟩)] w fun e w'=>e=.returned (.int .i64 x.now)∧w=w':=by
 have c7:=h.c7
 go_enter Tryz.func22,Tryz.ntmps22
 go_wp2
 go_ret
 exact ⟨rfl,rfl⟩
theorem co_mine (h:IsCore w b x):Calls Tryz.prog 56 #[.pointer (some ⟨b.c,0,none⟩)] w fun e w'=>e=.returned (.pointer (some ⟨b.D x.me+4,0,none⟩))∧∃ q,w'=w.drewN q:=by
 have c3:=h.c3
 have cD:=h.cD h.me
 have hm:(x.me:Int)<2:=by have:=h.me;omega
 go_enter Tryz.func56,Tryz.ntmps56
 go_wp2
 go_quiet (fail)
 go_wp2
 go_ret
 exact ⟨rfl,_,rfl⟩
theorem co_theirs (h:IsCore w b x):Calls Tryz.prog 151 #[.pointer (some ⟨b.c,0,none⟩)] w fun e w'=>e=.returned (.pointer (some ⟨b.D (1-x.me)+4,0,none⟩))∧∃ q,w'=w.drewN q:=by
 have c3:=h.c3
 obtain ⟨k,hk,hk2,hkv⟩:∃ k:Nat,1-x.me=k∧k<2∧(1:Int)-(x.me:Int)=(k:Int):=⟨1-x.me,rfl,by omega,by have:=h.me;omega⟩
 rw[hk]
 have cD:=h.cD hk2
 have hm:(k:Int)<2:=by omega
 have hw:IntKind.i64.wrap (k:Int)=(k:Int):=IntWalk.i64_in _ (by omega)
 go_enter Tryz.func151,Tryz.ntmps151
 go_wp2
 go_quiet (fail)
 go_wp2
 go_ret
 exact ⟨rfl,_,rfl⟩
def comF (x:Co):Nat:=min (x.f 0).next (x.f 1).next
theorem co_Common (h:IsCore w b x):Calls Tryz.prog 24 #[.pointer (some ⟨b.c,0,none⟩)] w fun e w'=>e=.returned (.int .i64 (comF x))∧∃ q,w'=w.drewN q:=by
 have d0:=h.cD (k:=0) (by omega)
 have d1:=h.cD (k:=1) (by omega)
 have N0:=hid (fun n=>feed_Next ((h.fd 0 (by omega)).drew n))
 have N1:=hid (fun n=>feed_Next ((h.fd 1 (by omega)).drew n))
 have b0:=h.nx 0 (by omega)
 have b1:=h.nx 1 (by omega)
 unfold comF
 generalize (x.f 0).next=m at *
 generalize (x.f 1).next=n at *
 clear h
 by_cases hc:m≤n
 ·rw[Nat.min_eq_left hc]
  have hc':min (m:Int) (n:Int)=(m:Int):=by omega
  go_enter Tryz.func24,Tryz.ntmps24
  go_wp2
  go_quiet ((go_at_call 49;first|(with_reducible exact Calls.quiet_of (quiet_s (N0.out _)))|(with_reducible exact quiet_d (quiet_s (N0.out _)))|(with_reducible exact Calls.quiet_of (quiet_s (N1.out _)))|(with_reducible exact quiet_d (quiet_s (N1.out _)))))
  go_wp2
  go_ret
  exact ⟨rfl,_,rfl⟩
 ·rw[Nat.min_eq_right (by omega)]
  have hc':min (m:Int) (n:Int)=(n:Int):=by omega
  go_enter Tryz.func24,Tryz.ntmps24
  go_wp2
  go_quiet ((go_at_call 49;first|(with_reducible exact Calls.quiet_of (quiet_s (N0.out _)))|(with_reducible exact quiet_d (quiet_s (N0.out _)))|(with_reducible exact Calls.quiet_of (quiet_s (N1.out _)))|(with_reducible exact quiet_d (quiet_s (N1.out _)))))
  go_wp2
  go_ret
  exact ⟨rfl,_,rfl⟩
end
section
open Go.RowKit
set_option maxRecDepth 10000
variable {w w':World} {b:CoB} {x:Co}
theorem IsCore.drew (h:IsCore w b x) (n:Nat):IsCore (w.drewN n) b x:=h.keep ((Keeps.refl _ w).drewN n)
def fullF (x:Co):Bool:=decide ((x.wnd:Int)≤(x.now:Int)-(comF x:Int))
theorem comF_le (h:IsCore w b x):comF x≤1000000:=by
 have:=h.nx 0 (by omega)
 unfold comF
 omega
theorem co_full (h:IsCore w b x):Calls Tryz.prog 216 #[.pointer (some ⟨b.c,0,none⟩)] w fun e w'=>e=.returned (.bool (fullF x))∧∃ q,w'=w.drewN q:=by
 have c2:=h.c2
 have c7:=h.c7
 have hC:=hid (fun n=>co_Common (h.drew n))
 have hb:=comF_le h
 have hn:=h.nw
 unfold fullF
 generalize comF x=m at *
 have e1:IntKind.i64.wrap ((x.now:Int)-(m:Int))=(x.now:Int)-(m:Int):=IntWalk.i64_in _ (by omega)
 clear h
 go_enter Tryz.func216,Tryz.ntmps216
 go_wp2
 go_quiet ((go_at_call 24;first|exact Calls.quiet_of (hC.out _)|exact quiet_d (hC.out _)))
 go_wp2
 go_ret
 exact ⟨rfl,_,rfl⟩
theorem co_Theirs (h:IsCore w b x):Calls Tryz.prog 156 #[.pointer (some ⟨b.c,0,none⟩)] w fun e w'=>e=.returned (.int .i64 (x.f (1-x.me)).next)∧∃ q,w'=w.drewN q:=by
 have hN:=hid (fun n=>feed_Next ((h.fd (1-x.me) (by omega)).drew n))
 have hT:=hid (co_theirs h)
 clear h
 go_enter Tryz.func156,Tryz.ntmps156
 go_wp2_with fail
 refine hT.out.mono ?_
 rintro e _ ⟨rfl,q,rfl⟩
 go_wp2_with fail
 refine (hN.out q).mono ?_
 rintro e _ ⟨rfl,rfl⟩
 go_wp2
 go_ret
 exact ⟨rfl,_,rfl⟩
theorem co_Ours (h:IsCore w b x):Calls Tryz.prog 32 #[.pointer (some ⟨b.c,0,none⟩)] w fun e w'=>e=.returned (.int .i64 (x.f x.me).next)∧∃ q,w'=w.drewN q:=by
 have hN:=hid (fun n=>feed_Next ((h.fd x.me h.me).drew n))
 have hT:=hid (co_mine h)
 clear h
 go_enter Tryz.func32,Tryz.ntmps32
 go_wp2_with fail
 refine hT.out.mono ?_
 rintro e _ ⟨rfl,q,rfl⟩
 go_wp2_with fail
 refine (hN.out q).mono ?_
 rintro e _ ⟨rfl,rfl⟩
 go_wp2
 go_ret
 exact ⟨rfl,_,rfl⟩
def thF (x:Co):Fd:=x.f (1-x.me)
def wrongF (x:Co):Option Nat:=wrongL (thF x).K (thF x).U
def setlF (x:Co):Int:=match wrongF x with
 | none=>(min (comF x) x.now:Nat)-1
 | some g=>min ((min (comF x) x.now:Nat)-1:Int) ((g:Int)-1)
theorem co_Settled (h:IsCore w b x) (hno:wrongF x=none):Calls Tryz.prog 91 #[.pointer (some ⟨b.c,0,none⟩)] w fun e w'=>e=.returned (.int .i64 (setlF x))∧Keeps (fun _=>False) w w':=by
 have hb:=comF_le h
 have hn:=h.nw
 have hC:=hid (fun n=>co_Common (h.drew n))
 have hs:setlF x=(min (comF x) x.now:Nat)-1:=by unfold setlF;rw[hno]
 rw[hs]
 have hT:=hid (fun (W:World) (hk:Keeps (fun _=>False) w W)=>co_theirs (h.keep hk))
 have hW:=hid (fun (W:World) (hk:Keeps (fun _=>False) w W)=>feed_Wrong ((h.keep hk).fd (1-x.me) (by omega)))
 unfold wrongF thF at hno
 rw[hno] at hW
 have c7:=h.c7
 generalize comF x=cm at *
 generalize x.now=nw at *
 clear h hno hs
 by_cases hc:cm≤nw
 ·rw[Nat.min_eq_left hc]
  have hmin:min (cm:Int) (nw:Int)=(cm:Int):=by omega
  have e0:IntKind.i64.wrap ((cm:Int)-1)=(cm:Int)-1:=IntWalk.i64_in _ (by omega)
  go_enter Tryz.func91,Tryz.ntmps91
  go_wp2_with fail
  go_quiet ((go_at_call 24;first|exact Calls.quiet_of (hC.out _)|exact quiet_d (hC.out _)))
  go_wp2_with fail
  refine (hT.out _ ((Keeps.refl _ w).drewN _)).mono ?_
  rintro e w1 ⟨rfl,q,hq⟩
  have hk1:Keeps (fun _=>False) w w1:=by rw[hq];exact ((Keeps.refl _ w).drewN _).drewN q
  clear hq
  go_wp2_with fail
  refine (hW.out _ hk1).mono ?_
  rintro e w2 ⟨rfl,hk2⟩
  have hk3:=hk1.trans hk2
  simp only[Option.getD_none,Option.isSome_none]
  go_wp2
  go_ret
  exact ⟨rfl,hk3⟩
 ·rw[Nat.min_eq_right (by omega)]
  have hmin:min (cm:Int) (nw:Int)=(nw:Int):=by omega
  have e0:IntKind.i64.wrap ((nw:Int)-1)=(nw:Int)-1:=IntWalk.i64_in _ (by omega)
  go_enter Tryz.func91,Tryz.ntmps91
  go_wp2_with fail
  go_quiet ((go_at_call 24;first|exact Calls.quiet_of (hC.out _)|exact quiet_d (hC.out _)))
  go_wp2_with fail
  refine (hT.out _ ((Keeps.refl _ w).drewN _)).mono ?_
  rintro e w1 ⟨rfl,q,hq⟩
  have hk1:Keeps (fun _=>False) w w1:=by rw[hq];exact ((Keeps.refl _ w).drewN _).drewN q
  clear hq
  go_wp2_with fail
  refine (hW.out _ hk1).mono ?_
  rintro e w2 ⟨rfl,hk2⟩
  have hk3:=hk1.trans hk2
  simp only[Option.getD_none,Option.isSome_none]
  go_wp2
  go_ret
  exact ⟨rfl,hk3⟩
theorem co_State (h:IsCore w b x) (f:Int) (hr:-9223372036854775808≤f∧f≤9223372036854775807) :
  Calls Tryz.prog 208 #[.pointer (some ⟨b.c,0,none⟩),.int .i64 f] w fun e w'=>e=.returned (.tuple #[.agg (mkC ((lookI x.L f).getD zeroV)),.bool (lookI x.L f).isSome])∧Keeps (fun _=>False) w w':=by
 have hal:=run_alloc_st w
 have hB:=blk_new w (.cells (mkC zeroV) 99)
 have hk1:Keeps (fun _=>False) w (w.alloc (.cells (mkC zeroV) 99)):=(Keeps.refl _ w).alloc _
 generalize w.alloc (.cells (mkC zeroV) 99)=w1 at *
 have h1:=h.keep hk1
 have c6:=h1.c6
 have hG:=hid (s_is_Get h1.st f hr)
 have Hk1:=hid hk1
 have HB:=hid hB
 clear hr h h1 hk1 hB
 generalize (lookI x.L f).getD zeroV=v at *
 generalize (lookI x.L f).isSome=bb at *
 go_enter Tryz.func208,Tryz.ntmps208
 go_wp2_with (first|(refine wpList_run_alloc hal rfl rfl ?_)|fail)
 refine hG.out.mono ?_
 rintro e w2 ⟨rfl,hk2⟩
 have hB2:=hk2.heap HB.out id
 have hk3:=Hk1.out.trans hk2
 obtain ⟨hst,hlf,hkf⟩:=store_all w2 99 60 w.heap.size (mkC v) (mkC zeroV) Tryz.sizeOf99 (mkC_size _) (mkC_size _) hB2 (mkC_all _)
 generalize w2.setRow w.heap.size (mkC v)=w3 at *
 go_wp2_with (first|(refine wpList_run_store hst rfl rfl rfl rfl ?_)|fail)
 refine bodyPost_ret (v:=.tuple #[.agg (mkC v),.bool bb]) (by simp[results,Tryz.results208,asAddr,loadVar,loadCells,Tryz.isAgg99,Tryz.sizeOf99,hlf]) rfl ?_
 exact ⟨rfl,keeps_past hk3 hkf (fun k hk e=>by omega)⟩
end
end Go.Proofs.YtalagblioepadaaGreatDoor
