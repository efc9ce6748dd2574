/- The proof, part 46. -/
import Derived.Test.YtalagblioepadaaGreatDoorZa45
import Derived.Test.YtalagblioepadaaGreatDoorZa37
import Derived.Test.YtalagblioepadaaGreatDoorZa13
import Derived.Test.YtalagblioepadaaGreatDoorZa40
import Derived.Test.YtalagblioepadaaGreatDoorZa43
import Derived.Test.YtalagblioepadaaGreatDoorZa06
import Derived.Test.YtalagblioepadaaGreatDoorZa44
namespace Go.Proofs.YtalagblioepadaaGreatDoor
section
open Go.RowKit
open Go.Maps
set_option maxRecDepth 100000
variable {w w':World} {b:PeB} {s:Pe} {o:Nat} {S:Value} {m:Bool}
structure PO (w:World) (b:PeB) (s:Pe) (o:Nat) (S:Value) (m:Bool):Prop where
 pe:IsPeer w b s
 out:w.heap[o]?=some (.cells #[.slice none 0 0,S,.bool m] 35 (0,0))
 off:¬ b.S s o
theorem IsPeer.lt (h:IsPeer w b s) {j:Nat} (hj:b.S s j):j<w.heap.size:=by
 obtain ⟨r,hr,hj⟩:=hj
 exact Sep.lt h hr hj
def PT (b:PeB) (s:Pe) (o j:Nat):Prop:=b.S s j∨j=o
theorem PT_same (b:PeB) (s s':Pe) (o:Nat):PT b s o=PT b s' o:=by
 funext j
 unfold PT
 rw[peS_same b s s']
namespace PO
theorem keep (h:PO w b s o S m) (hk:Keeps (fun _=>False) w w'):PO w' b s o S m:=⟨h.pe.keep hk,hk.heap h.out id,h.off⟩
theorem turn {s':Pe} {T:Nat→Prop} (h:PO w b s o S m) (hp:IsPeer w' b s') (hk:Keeps T w w') (hT:∀ j,T j→b.S s j):PO w' b s' o S m:=⟨hp,hk.heap h.out (fun e=>h.off (hT _ e)),by rw[peS_same b s' s];exact h.off⟩
theorem drew (h:PO w b s o S m) (n:Nat):PO (w.drewN n) b s o S m:=h.keep ((Keeps.refl _ w).drewN n)
end PO
theorem any_PT {T:Nat→Prop} (hk:Keeps T w w') (hT:∀ j,T j→b.S s j):Keeps (PT b s o) w w':=hk.mono fun _ _ h=>.inl (hT _ h)
theorem IsPeer.keep2 {T:Nat→Prop} (h:IsPeer w b s) (hk:Keeps T w w') (hT:∀ j,b.S s j→¬ T j):IsPeer w' b s:=Sep.keeps h hk fun r hr j hj=>hT j ⟨r,hr,hj⟩
set_option maxHeartbeats 1000000 in
theorem pe_now (h:IsPeer w b s) (v:Nat→Int) (hL:lookI s.x.L (s.x.now:Int)=some v):Calls Tryz.prog 137 #[.pointer (some ⟨b.p,0,none⟩)] w fun e w'=>e=.returned (.agg (mkC v))∧Keeps (fun _=>False) w w':=by
 have hal:=run_alloc_st w
 have hZ:=blk_new w (.cells (mkC zeroV) 99)
 have k0:=(Keeps.refl (fun _=>False) w).alloc (.cells (mkC zeroV) 99)
 have h0:=h.keep k0
 have hnw:=h.core.nw
 have Hlt:=hid (fun j (hj:b.S s j)=>h.lt hj)
 clear h
 go_enter Tryz.func137,Tryz.ntmps137
 go_wp2_with (first|(refine wpList_run_alloc hal rfl rfl ?_)|fail)
 generalize w.alloc (.cells (mkC zeroV) 99)=w0 at *
 have hF:IsPeer w0.drew b s:=h0.keep (Keeps.refl _ w0).drew
 have q0:∀ x:HeldC (fun W=>IsPeer W b s),x.to.cell? ⟨b.p,0,none⟩=some (.pointer (some ⟨b.c.c,0,none⟩)):=fun x=>x.held.c0
 have hCu:=hid (fun (W:World) (hW:IsPeer W b s)=>co_Current hW.core)
 have hSt:=hid (fun (W:World) (hW:IsPeer W b s)=>co_State hW.core (s.x.now:Int) (by omega))
 rw[hL] at hSt
 simp only[Option.getD_some,Option.isSome_some] at hSt
 have hZd:w0.drew.heap[w.heap.size]?=some (.cells (mkC zeroV) 99 (0,0)):=hZ
 have k0d:=k0.drew
 have hzl:w.heap.size<w0.drew.heap.size:=blk_lt hZ
 clear hZ k0 hal h0
 simp only[Act.put,List.setIfInBounds_toArray,List.set_cons_succ,List.set_cons_zero]
 refine stages_start (by kernel_rfl) 18 rfl ?_
 refine ht_start (fun W=>IsPeer W b s) [0,1,2,3,4,5,6,7,8,9,10,11,12,13,14,15,16,17] 0 18 rfl #[true,true,true,true,true,true,true,true,true,true,true,true,true,true,true,true,true,true] ?_
 have hne:Nonempty (HeldC (fun W=>IsPeer W b s)):=⟨⟨_,hF⟩⟩
 refine ht_heads (m:=8) (hF) [0,1,2,3,4,5,6,7,8,9] 10 rfl #[true,true,true,true,true,true,true,true,true,true,false,false,false,false,false,false,false,false] (by kernel_rfl) (by kernel_rfl) (fun _ _ _ d _ h=>by first|(cases d<;>exact h)|cases h.1) ?_
 simp only[opsAt,List.map_cons,List.map_nil,List.getElem?_toArray,List.getElem?_cons_zero,List.getElem?_cons_succ,Option.getD_some]
 repeat (go_big_quiet_step (fail))
 refine wpQuiet_nil ?_
 clear hne
 generalize w0.drew=w0 at *
 refine ht_two (m:=7) 10 15 #[true,true,true,true,true,true,true,true,true,true,true,false,false,false,false,false,false,false] #[true,true,true,true,true,true,true,true,true,true,false,false,false,false,false,true,false,false] (by kernel_rfl) (by kernel_rfl) (by kernel_rfl) (by kernel_rfl) (by kernel_rfl) (by kernel_rfl) (by kernel_rfl) (by simp only[opAt,List.getElem?_toArray,List.getElem?_cons_zero,List.getElem?_cons_succ,Option.getD_some];first|rfl|simp[go_sem]) (by simp only[opAt,List.getElem?_toArray,List.getElem?_cons_zero,List.getElem?_cons_succ,Option.getD_some];first|rfl|simp[go_sem]) (fun K hK=>?_) (fun K hK=>?_)
 all_goals simp only[opAt,List.getElem?_toArray,List.getElem?_cons_zero,List.getElem?_cons_succ,Option.getD_some]
 ·go_simp
  refine (hCu.out _ hF).mono ?_
  rintro e _ ⟨rfl,rfl⟩
  refine hK _ _ (hF) ?_
  clear hK K
  refine ht_two (m:=6) 11 15 #[true,true,true,true,true,true,true,true,true,true,true,true,false,false,false,false,false,false] #[true,true,true,true,true,true,true,true,true,true,true,false,false,false,false,true,false,false] (by kernel_rfl) (by kernel_rfl) (by kernel_rfl) (by kernel_rfl) (by kernel_rfl) (by kernel_rfl) (by kernel_rfl) (by simp only[opAt,List.getElem?_toArray,List.getElem?_cons_zero,List.getElem?_cons_succ,Option.getD_some];first|rfl|simp[go_sem]) (by simp only[opAt,List.getElem?_toArray,List.getElem?_cons_zero,List.getElem?_cons_succ,Option.getD_some];first|rfl|simp[go_sem]) (fun K hK=>?_) (fun K hK=>?_)
  all_goals simp only[opAt,List.getElem?_toArray,List.getElem?_cons_zero,List.getElem?_cons_succ,Option.getD_some]
  ·go_simp
   refine (hSt.out _ hF).mono ?_
   rintro e w1 ⟨rfl,k1⟩
   have hF1:=hF.keep k1
   refine hK _ _ (hF1) ?_
   clear hK K
   have hne:Nonempty (HeldC (fun W=>IsPeer W b s)):=⟨⟨_,hF1⟩⟩
   refine ht_heads (m:=3) (hF1) [12,13,14] 3 rfl #[true,true,true,true,true,true,true,true,true,true,true,true,true,true,true,false,false,false] (by kernel_rfl) (by kernel_rfl) (fun _ _ _ d _ h=>by first|(cases d<;>exact h)|cases h.1) ?_
   simp only[opsAt,List.map_cons,List.map_nil,List.getElem?_toArray,List.getElem?_cons_zero,List.getElem?_cons_succ,Option.getD_some]
   repeat (go_big_quiet_step (fail))
   refine wpQuiet_nil ?_
   clear hne
   have hF3:=hF1.keep ((Keeps.refl _ w1).alloc (.cells (mkC zeroV) 99))
   refine ht_one (m:=2) 15 #[true,true,true,true,true,true,true,true,true,true,true,true,true,true,true,true,false,false] (by kernel_rfl) (by kernel_rfl) (by kernel_rfl) (by kernel_rfl) (by simp only[opAt,List.getElem?_toArray,List.getElem?_cons_zero,List.getElem?_cons_succ,Option.getD_some];first|rfl|simp[go_sem]) (fun K hK=>?_)
   simp only[opAt,List.getElem?_toArray,List.getElem?_cons_zero,List.getElem?_cons_succ,Option.getD_some]
   refine wp_run_alloc rfl (run_alloc_st _) ?_
   refine hK _ _ (hF3) ?_
   clear hK K
   simp only[Act.put,List.setIfInBounds_toArray,List.set_cons_succ,List.set_cons_zero]
   obtain ⟨hst,_,hk2⟩:=store_all (w1.alloc (.cells (mkC zeroV) 99)) 99 60 w1.heap.size (mkC v) _ Tryz.sizeOf99 (mkC_size _) (mkC_size _) (blk_new w1 (.cells (mkC zeroV) 99)) (List.all_eq_true.2 (mkC_one v))
   have hld:=load_st (setRow_at (w1.alloc (.cells (mkC zeroV) 99)) w1.heap.size _ (mkC v) 99 (blk_new w1 (.cells (mkC zeroV) 99)))
   have hn:w.heap.size<w1.heap.size:=by first|omega|(have:=k1.size;omega)
   have hF2:=(hF3).keep2 hk2 (fun j hj e=>by have:=Hlt.out j hj;omega)
   have hR2:=hk2.heap (blk_alloc (k1.heap hZd id) (.cells (mkC zeroV) 99)) (by omega)
   have kf:=keeps_past ((k0d.trans k1).alloc (.cells (mkC zeroV) 99)) hk2 (fun k hk e=>by omega)
   generalize World.setRow (w1.alloc (.cells (mkC zeroV) 99)) w1.heap.size (mkC v)=wb at *
   obtain ⟨hst2,hload,hk3⟩:=store_all wb 99 60 w.heap.size (mkC v) _ Tryz.sizeOf99 (mkC_size _) (mkC_size _) hR2 (List.all_eq_true.2 (mkC_one v))
   have kf2:=keeps_past kf hk3 (fun k hk e=>by omega)
   refine ht_one (m:=1) 16 #[true,true,true,true,true,true,true,true,true,true,true,true,true,true,true,true,true,false] (by kernel_rfl) (by kernel_rfl) (by kernel_rfl) (by kernel_rfl) (by simp only[opAt,List.getElem?_toArray,List.getElem?_cons_zero,List.getElem?_cons_succ,Option.getD_some];first|rfl|simp[go_sem]) (fun K hK=>?_)
   simp only[opAt,List.getElem?_toArray,List.getElem?_cons_zero,List.getElem?_cons_succ,Option.getD_some]
   refine wp_run_store rfl rfl rfl hst ?_
   refine hK _ _ (hF2) ?_
   clear hK K
   simp only[Act.put]
   refine ht_one (m:=0) 17 #[true,true,true,true,true,true,true,true,true,true,true,true,true,true,true,true,true,true] (by kernel_rfl) (by kernel_rfl) (by kernel_rfl) (by kernel_rfl) (by simp only[opAt,List.getElem?_toArray,List.getElem?_cons_zero,List.getElem?_cons_succ,Option.getD_some];first|rfl|simp[go_sem]) (fun K hK=>?_)
   simp only[opAt,List.getElem?_toArray,List.getElem?_cons_zero,List.getElem?_cons_succ,Option.getD_some]
   go_simp
   refine hK _ _ (hF2) ?_
   clear hK K
   refine ht_nil (by kernel_rfl) ?_
   refine stages_end (by kernel_rfl) ?_
   clear hk2 hF2 hR2 kf hst hk3
   go_wp2_with (first|(refine wpList_run_load hld rfl rfl rfl ?_)|(refine wpList_run_store hst2 rfl rfl rfl rfl ?_)|fail)
   refine bodyPost_ret (v:=.agg (mkC v)) (by simp[results,Tryz.results137,Act.put,asAddr,loadVar,loadCells,Tryz.isAgg99,Tryz.sizeOf99,hload]) rfl ?_
   exact ⟨rfl,kf2⟩
  ·have hF3:=hF.keep ((Keeps.refl _ w0).alloc (.cells (mkC zeroV) 99))
   refine wp_run_alloc rfl (run_alloc_st _) ?_
   refine hK _ _ (hF3) ?_
   clear hK K
   simp only[Act.put,List.setIfInBounds_toArray,List.set_cons_succ,List.set_cons_zero]
   refine ht_one (m:=5) 11 #[true,true,true,true,true,true,true,true,true,true,true,true,false,false,false,true,false,false] (by kernel_rfl) (by kernel_rfl) (by kernel_rfl) (by kernel_rfl) (by simp only[opAt,List.getElem?_toArray,List.getElem?_cons_zero,List.getElem?_cons_succ,Option.getD_some];first|rfl|simp[go_sem]) (fun K hK=>?_)
   simp only[opAt,List.getElem?_toArray,List.getElem?_cons_zero,List.getElem?_cons_succ,Option.getD_some]
   go_simp
   refine (hSt.out _ hF3).mono ?_
   rintro e w1 ⟨rfl,k1⟩
   have hF1:=hF3.keep k1
   refine hK _ _ (hF1) ?_
   clear hK K
   have hne:Nonempty (HeldC (fun W=>IsPeer W b s)):=⟨⟨_,hF1⟩⟩
   refine ht_heads (m:=2) (hF1) [12,13,14] 3 rfl #[true,true,true,true,true,true,true,true,true,true,true,true,true,true,true,true,false,false] (by kernel_rfl) (by kernel_rfl) (fun _ _ _ d _ h=>by first|(cases d<;>exact h)|cases h.1) ?_
   simp only[opsAt,List.map_cons,List.map_nil,List.getElem?_toArray,List.getElem?_cons_zero,List.getElem?_cons_succ,Option.getD_some]
   repeat (go_big_quiet_step (fail))
   refine wpQuiet_nil ?_
   clear hne
   obtain ⟨hst,_,hk2⟩:=store_all w1 99 60 w0.heap.size (mkC v) _ Tryz.sizeOf99 (mkC_size _) (mkC_size _) (k1.heap (blk_new w0 (.cells (mkC zeroV) 99)) id) (List.all_eq_true.2 (mkC_one v))
   have hld:=load_st (setRow_at w1 w0.heap.size _ (mkC v) 99 (k1.heap (blk_new w0 (.cells (mkC zeroV) 99)) id))
   have hn:w.heap.size<w0.heap.size:=by first|omega|(have:=k1.size;omega)
   have hF2:=(hF1).keep2 hk2 (fun j hj e=>by have:=Hlt.out j hj;omega)
   have hR2:=hk2.heap (k1.heap (blk_alloc hZd (.cells (mkC zeroV) 99)) id) (by omega)
   have kf:=keeps_past ((k0d.alloc (.cells (mkC zeroV) 99)).trans k1) hk2 (fun k hk e=>by omega)
   generalize World.setRow w1 w0.heap.size (mkC v)=wb at *
   obtain ⟨hst2,hload,hk3⟩:=store_all wb 99 60 w.heap.size (mkC v) _ Tryz.sizeOf99 (mkC_size _) (mkC_size _) hR2 (List.all_eq_true.2 (mkC_one v))
   have kf2:=keeps_past kf hk3 (fun k hk e=>by omega)
   refine ht_one (m:=1) 16 #[true,true,true,true,true,true,true,true,true,true,true,true,true,true,true,true,true,false] (by kernel_rfl) (by kernel_rfl) (by kernel_rfl) (by kernel_rfl) (by simp only[opAt,List.getElem?_toArray,List.getElem?_cons_zero,List.getElem?_cons_succ,Option.getD_some];first|rfl|simp[go_sem]) (fun K hK=>?_)
   simp only[opAt,List.getElem?_toArray,List.getElem?_cons_zero,List.getElem?_cons_succ,Option.getD_some]
   refine wp_run_store rfl rfl rfl hst ?_
   refine hK _ _ (hF2) ?_
   clear hK K
   simp only[Act.put]
   refine ht_one (m:=0) 17 #[true,true,true,true,true,true,true,true,true,true,true,true,true,true,true,true,true,true] (by kernel_rfl) (by kernel_rfl) (by kernel_rfl) (by kernel_rfl) (by simp only[opAt,List.getElem?_toArray,List.getElem?_cons_zero,List.getElem?_cons_succ,Option.getD_some];first|rfl|simp[go_sem]) (fun K hK=>?_)
   simp only[opAt,List.getElem?_toArray,List.getElem?_cons_zero,List.getElem?_cons_succ,Option.getD_some]
   go_simp
   refine hK _ _ (hF2) ?_
   clear hK K
   refine ht_nil (by kernel_rfl) ?_
   refine stages_end (by kernel_rfl) ?_
   clear hk2 hF2 hR2 kf hst hk3
   go_wp2_with (first|(refine wpList_run_load hld rfl rfl rfl ?_)|(refine wpList_run_store hst2 rfl rfl rfl rfl ?_)|fail)
   refine bodyPost_ret (v:=.agg (mkC v)) (by simp[results,Tryz.results137,Act.put,asAddr,loadVar,loadCells,Tryz.isAgg99,Tryz.sizeOf99,hload]) rfl ?_
   exact ⟨rfl,kf2⟩
 ·have hF3:=hF.keep ((Keeps.refl _ w0).alloc (.cells (mkC zeroV) 99))
  refine wp_run_alloc rfl (run_alloc_st _) ?_
  refine hK _ _ (hF3) ?_
  clear hK K
  simp only[Act.put,List.setIfInBounds_toArray,List.set_cons_succ,List.set_cons_zero]
  refine ht_one (m:=6) 10 #[true,true,true,true,true,true,true,true,true,true,true,false,false,false,false,true,false,false] (by kernel_rfl) (by kernel_rfl) (by kernel_rfl) (by kernel_rfl) (by simp only[opAt,List.getElem?_toArray,List.getElem?_cons_zero,List.getElem?_cons_succ,Option.getD_some];first|rfl|simp[go_sem]) (fun K hK=>?_)
  simp only[opAt,List.getElem?_toArray,List.getElem?_cons_zero,List.getElem?_cons_succ,Option.getD_some]
  go_simp
  refine (hCu.out _ hF3).mono ?_
  rintro e _ ⟨rfl,rfl⟩
  refine hK _ _ (hF3) ?_
  clear hK K
  refine ht_one (m:=5) 11 #[true,true,true,true,true,true,true,true,true,true,true,true,false,false,false,true,false,false] (by kernel_rfl) (by kernel_rfl) (by kernel_rfl) (by kernel_rfl) (by simp only[opAt,List.getElem?_toArray,List.getElem?_cons_zero,List.getElem?_cons_succ,Option.getD_some];first|rfl|simp[go_sem]) (fun K hK=>?_)
  simp only[opAt,List.getElem?_toArray,List.getElem?_cons_zero,List.getElem?_cons_succ,Option.getD_some]
  go_simp
  refine (hSt.out _ hF3).mono ?_
  rintro e w1 ⟨rfl,k1⟩
  have hF1:=hF3.keep k1
  refine hK _ _ (hF1) ?_
  clear hK K
  have hne:Nonempty (HeldC (fun W=>IsPeer W b s)):=⟨⟨_,hF1⟩⟩
  refine ht_heads (m:=2) (hF1) [12,13,14] 3 rfl #[true,true,true,true,true,true,true,true,true,true,true,true,true,true,true,true,false,false] (by kernel_rfl) (by kernel_rfl) (fun _ _ _ d _ h=>by first|(cases d<;>exact h)|cases h.1) ?_
  simp only[opsAt,List.map_cons,List.map_nil,List.getElem?_toArray,List.getElem?_cons_zero,List.getElem?_cons_succ,Option.getD_some]
  repeat (go_big_quiet_step (fail))
  refine wpQuiet_nil ?_
  clear hne
  obtain ⟨hst,_,hk2⟩:=store_all w1 99 60 w0.heap.size (mkC v) _ Tryz.sizeOf99 (mkC_size _) (mkC_size _) (k1.heap (blk_new w0 (.cells (mkC zeroV) 99)) id) (List.all_eq_true.2 (mkC_one v))
  have hld:=load_st (setRow_at w1 w0.heap.size _ (mkC v) 99 (k1.heap (blk_new w0 (.cells (mkC zeroV) 99)) id))
  have hn:w.heap.size<w0.heap.size:=by first|omega|(have:=k1.size;omega)
  have hF2:=(hF1).keep2 hk2 (fun j hj e=>by have:=Hlt.out j hj;omega)
  have hR2:=hk2.heap (k1.heap (blk_alloc hZd (.cells (mkC zeroV) 99)) id) (by omega)
  have kf:=keeps_past ((k0d.alloc (.cells (mkC zeroV) 99)).trans k1) hk2 (fun k hk e=>by omega)
  generalize World.setRow w1 w0.heap.size (mkC v)=wb at *
  obtain ⟨hst2,hload,hk3⟩:=store_all wb 99 60 w.heap.size (mkC v) _ Tryz.sizeOf99 (mkC_size _) (mkC_size _) hR2 (List.all_eq_true.2 (mkC_one v))
  have kf2:=keeps_past kf hk3 (fun k hk e=>by omega)
  refine ht_one (m:=1) 16 #[true,true,true,true,true,true,true,true,true,true,true,true,true,true,true,true,true,false] (by kernel_rfl) (by kernel_rfl) (by kernel_rfl) (by kernel_rfl) (by simp only[opAt,List.getElem?_toArray,List.getElem?_cons_zero,List.getElem?_cons_succ,Option.getD_some];first|rfl|simp[go_sem]) (fun K hK=>?_)
  simp only[opAt,List.getElem?_toArray,List.getElem?_cons_zero,List.getElem?_cons_succ,Option.getD_some]
  refine wp_run_store rfl rfl rfl hst ?_
  refine hK _ _ (hF2) ?_
  clear hK K
  simp only[Act.put]
  refine ht_one (m:=0) 17 #[true,true,true,true,true,true,true,true,true,true,true,true,true,true,true,true,true,true] (by kernel_rfl) (by kernel_rfl) (by kernel_rfl) (by kernel_rfl) (by simp only[opAt,List.getElem?_toArray,List.getElem?_cons_zero,List.getElem?_cons_succ,Option.getD_some];first|rfl|simp[go_sem]) (fun K hK=>?_)
  simp only[opAt,List.getElem?_toArray,List.getElem?_cons_zero,List.getElem?_cons_succ,Option.getD_some]
  go_simp
  refine hK _ _ (hF2) ?_
  clear hK K
  refine ht_nil (by kernel_rfl) ?_
  refine stages_end (by kernel_rfl) ?_
  clear hk2 hF2 hR2 kf hst hk3
  go_wp2_with (first|(refine wpList_run_load hld rfl rfl rfl ?_)|(refine wpList_run_store hst2 rfl rfl rfl rfl ?_)|fail)
  refine bodyPost_ret (v:=.agg (mkC v)) (by simp[results,Tryz.results137,Act.put,asAddr,loadVar,loadCells,Tryz.isAgg99,Tryz.sizeOf99,hload]) rfl ?_
  exact ⟨rfl,kf2⟩
end
section
open Go.RowKit
open Go.Maps
set_option maxRecDepth 100000
variable {w w':World} {b:PeB} {s:Pe} {o:Nat} {S:Value} {m:Bool}
theorem pe_repair (h:PO w b s o S m) (hno:wrongF s.x=none) (v:Nat→Int) (hL:lookI s.x.L (s.x.now:Int)=some v):Calls Tryz.prog 86 #[.pointer (some ⟨b.p,0,none⟩),.pointer (some ⟨o,0,none⟩)] w fun e w'=>e=.returned (.tuple #[])∧PO w' b s o S m∧Keeps (fun _=>False) w w':=by
 have hN:=hid (pe_now h.pe v hL)
 have hR:=hid (fun (W:World) (hk:Keeps (fun _=>False) w W)=>co_Repair_no ((h.pe.keep hk).core) hno)
 have H:=hid h
 clear h hno hL
 go_enter Tryz.func86,Tryz.ntmps86
 go_wp2_with fail
 refine hN.out.mono ?_
 rintro e w1 ⟨rfl,k1⟩
 go_wp2_with fail
 refine (tw_Of v _).mono ?_
 rintro e w2 ⟨⟨c,rfl,hcs,hc1⟩,hb2⟩
 have k2:=k1.then_below hb2
 clear k1 hb2
 have hal:=run_alloc_vw w2
 have hZ:=blk_new w2 (.cells zvC 264)
 obtain ⟨hst,_,hk3⟩:=store_all (w2.alloc (.cells zvC 264)) 264 26 w2.heap.size c _ Tryz.sizeOf264 hcs rfl hZ (List.all_eq_true.2 hc1)
 have hl2:=k2.size
 have k3:=keeps_past k2 (((Keeps.refl (fun j=>j=w2.heap.size) w2).alloc (.cells zvC 264)).trans hk3) (fun k hk e=>by omega)
 have h3:=H.out.keep k3
 have y0:=h3.pe.c0
 clear hZ hk3 k2
 generalize (w2.alloc (.cells zvC 264)).setRow w2.heap.size c=w3 at *
 go_wp2_with (first|(refine wpList_run_alloc hal rfl rfl ?_)|(refine wpList_run_store hst rfl rfl rfl rfl ?_)|fail)
 clear hal hst
 refine (hR.out _ k3).mono ?_
 rintro e w4 ⟨rfl,k4⟩
 have hfin:=h3.keep k4
 have kf:=k3.trans k4
 simp only
 go_wp2_with fail
 go_loopg [23] 0 (fun g i wr=>i=.int .i64 0∧w4=wr)
 case atStart=>exact ⟨rfl,rfl⟩
 case round=>
  obtain ⟨rfl,rfl⟩:=hrel
  go_wp2
  go_end0
  exact ⟨rfl,hfin,kf⟩
theorem pe_do0 (h:PO w b s o S m):Calls Tryz.prog 96 #[.pointer (some ⟨b.p,0,none⟩),.pointer (some ⟨o,0,none⟩),.slice none 0 0] w fun e w'=>e=.returned (.tuple #[])∧PO w' b s o S m∧Keeps (fun j=>j=o) w w':=by
 have c0:=blk_cell (k:=0) h.out rfl
 have g0:=blk_free h.out 0
 have hs:=blk_set h.out 0 (.slice none 0 0)
 have k1:=(Keeps.refl (fun j=>j=o) w).setCell (p:=⟨o,0,none⟩) rfl (.slice none 0 0)
 have hp:=h.pe.keep2 k1 (fun j hj e=>h.off (e▸hj))
 have H:PO (w.setCell ⟨o,0,none⟩ (.slice none 0 0)) b s o S m:=⟨hp,by simpa using hs,h.off⟩
 have HH:=hid H
 clear h H hs hp
 go_enter Tryz.func96,Tryz.ntmps96
 go_wp2_with fail
 go_loopg [11] 0 (fun g i wr=>i=.int .i64 0∧w=wr)
 case atStart=>exact ⟨rfl,rfl⟩
 case round=>
  obtain ⟨rfl,rfl⟩:=hrel
  go_wp2
  go_end0
  exact ⟨rfl,HH.out,k1⟩
end
section
open Go.RowKit
open Go.Maps
set_option maxRecDepth 100000
variable {w w':World} {b:PeB} {s:Pe} {o:Nat} {S:Value} {m:Bool}
theorem IsPeer.halt (h:IsPeer w b s) (r:Int):IsPeer ((w.setCell ⟨b.p,9,none⟩ (.bool true)).setCell ⟨b.p,10,none⟩ (.int .i64 r)) b { s with halted:=true,reason:=r }:=
 h.setBlk (by simpa[peC] using blk_set (blk_set h.blk 9 (.bool true)) 10 (.int .i64 r)) (Keeps.setCell (S:=fun j=>j=b.p) (Keeps.setCell (S:=fun j=>j=b.p) (Keeps.refl _ w) (p:=⟨b.p,9,none⟩) rfl _) (p:=⟨b.p,10,none⟩) rfl _) rfl
theorem pe_halt (h:PO w b s o S m) (hh:s.halted=false) (hl:s.lh=false) (r:Int):Calls Tryz.prog 63 #[.pointer (some ⟨b.p,0,none⟩),.pointer (some ⟨o,0,none⟩),.int .i64 r] w fun e w'=>e=.returned (.tuple #[])∧PO w' b { s with halted:=true,reason:=r,lh:=true } o S m∧Keeps (PT b s o) w w':=by
 have c9:=h.pe.c9
 have g9:=h.pe.free 9
 have g10:=h.pe.free 10
 rw[hh] at c9
 have c10:=h.pe.c10
 have k1:Keeps (fun j=>j=b.p) w ((w.setCell ⟨b.p,9,none⟩ (.bool true)).setCell ⟨b.p,10,none⟩ (.int .i64 r)):=Keeps.setCell (S:=fun j=>j=b.p) (Keeps.setCell (S:=fun j=>j=b.p) (Keeps.refl _ w) (p:=⟨b.p,9,none⟩) rfl _) (p:=⟨b.p,10,none⟩) rfl _
 have hp:=h.pe.halt r
 have h1:=h.turn hp k1 (fun j e=>IsPeer.subs b s 0 rfl e)
 have e2:=h1.pe.c2
 have hH:=hid (le_Halt h1.pe hl)
 have hT:∀ j,(j=b.lv∨j=b.ld)→b.S s j:=fun j e=>by
  rcases e with e|e
  ·exact IsPeer.subs b s 4 rfl e
  ·exact IsPeer.subs b s 3 rfl e
 have kk:Keeps (PT b s o) w ((w.setCell ⟨b.p,9,none⟩ (.bool true)).setCell ⟨b.p,10,none⟩ (.int .i64 r)):=any_PT k1 (fun j e=>IsPeer.subs b s 0 rfl e)
 have H1:=hid h1
 clear h h1 hp k1
 go_enter Tryz.func63,Tryz.ntmps63
 go_wp2_with fail
 refine hH.out.mono ?_
 rintro e w2 ⟨rfl,hp2,k2⟩
 have h2:=H1.out.turn hp2 k2 (fun j hj=>by rw[peS_same b _ s];exact hT j hj)
 have hD:=hid (pe_do0 h2)
 have k3:=kk.trans (any_PT k2 hT)
 clear hp2 h2 k2 kk hH H1 hT
 go_wp2_with fail
 refine hD.out.mono ?_
 rintro e w3 ⟨rfl,h3,k4⟩
 go_wp2_with fail
 go_end0
 exact ⟨rfl,h3,k3.trans (k4.mono fun _ _ e=>.inr e)⟩
theorem pe_gone_no (h:PO w b s o S m) (hh:s.lk.state≠2):Calls Tryz.prog 94 #[.pointer (some ⟨b.p,0,none⟩),.pointer (some ⟨o,0,none⟩)] w fun e w'=>e=.returned (.tuple #[])∧w=w':=by
 have c1:=h.pe.c1
 have hS:=hid (lk_State h.pe.link)
 clear h
 go_enter Tryz.func94,Tryz.ntmps94
 go_wp2_with fail
 refine hS.out.mono ?_
 rintro e _ ⟨rfl,rfl⟩
 go_wp2_with fail
 go_end0
 exact ⟨rfl,rfl⟩
theorem pe_gone_yes (h:PO w b s o S m) (hg:s.lk.state=2) (hh:s.halted=false) (hl:s.lh=false):Calls Tryz.prog 94 #[.pointer (some ⟨b.p,0,none⟩),.pointer (some ⟨o,0,none⟩)] w fun e w'=>e=.returned (.tuple #[])∧PO w' b { s with halted:=true,reason:=12,lh:=true } o S m∧Keeps (PT b s o) w w':=by
 have c1:=h.pe.c1
 have hS:=hid (lk_State h.pe.link)
 have hH:=hid (pe_halt h hh hl 12)
 rw[hg] at hS
 clear h
 go_enter Tryz.func94,Tryz.ntmps94
 go_wp2_with fail
 refine hS.out.mono ?_
 rintro e _ ⟨rfl,rfl⟩
 go_wp2_with fail
 refine hH.out.mono ?_
 rintro e w3 ⟨rfl,h3,k4⟩
 go_wp2_with fail
 go_end0
 exact ⟨rfl,h3,k4⟩
theorem pe_lead (h:IsPeer w b s):Calls Tryz.prog 93 #[.pointer (some ⟨b.p,0,none⟩)] w fun e w'=>e=.returned (.int .i64 ((s.x.now:Int)-(s.x.f (1-s.x.me)).next))∧∃ q,w'=w.drewN q:=by
 have hn:=h.core.nw
 have hC:=hid (fun n=>co_Current (h.core.drew n))
 have hT:=hid (fun n=>co_Theirs (h.core.drew n))
 have c0:=h.c0
 have hb:=h.core.nx (1-s.x.me) (by omega)
 have e1:IntKind.i64.wrap ((s.x.now:Int)-(s.x.f (1-s.x.me)).next)=((s.x.now:Int)-(s.x.f (1-s.x.me)).next):=IntWalk.i64_in _ (by omega)
 clear h
 generalize (s.x.f (1-s.x.me)).next=nx at *
 generalize s.x.now=nw at *
 go_enter Tryz.func93,Tryz.ntmps93
 go_wp2_with fail
 go_quiet (first|(go_at_call 22;first|exact Calls.quiet_of (quiet_s (hC.out _))|exact quiet_d (quiet_s (hC.out _)))|(go_at_call 156;first|exact Calls.quiet_of (hT.out _)|exact quiet_d (hT.out _)))
 go_wp2
 go_ret
 exact ⟨rfl,_,rfl⟩
theorem pe_waits (h:IsPeer w b s) (hr:¬ (4<((s.x.now:Int)-(s.x.f (1-s.x.me)).next)-s.far∧s.lk.ticks%2=1)) (hf:-1000≤s.far∧s.far≤1000) (ht:0≤s.lk.ticks∧s.lk.ticks≤1000):Calls Tryz.prog 143 #[.pointer (some ⟨b.p,0,none⟩)] w fun e w'=>e=.returned (.bool false)∧∃ q,w'=w.drewN q:=by
 have hn:=h.core.nw
 have hb:=h.core.nx (1-s.x.me) (by omega)
 have hL:=hid (fun n=>pe_lead (h.drew n))
 have hT:=hid (fun n=>lk_Ticks ((h.drew n).link))
 have c1:=h.c1
 have c8:=h.c8
 have e1:IntKind.i64.wrap (((s.x.now:Int)-(s.x.f (1-s.x.me)).next)-s.far)=((s.x.now:Int)-(s.x.f (1-s.x.me)).next)-s.far:=IntWalk.i64_in _ (by omega)
 have e2:IntKind.i64.wrap (Int.tmod s.lk.ticks 2)=s.lk.ticks%2:=by rw[Int.tmod_eq_emod_of_nonneg ht.1];exact IntWalk.i64_in _ (by omega)
 clear h
 generalize ((s.x.now:Int)-(s.x.f (1-s.x.me)).next)=ld at *
 generalize s.far=far at *
 generalize s.lk.ticks=tk at *
 by_cases hc:4<ld-far
 ·have hc2:¬ (tk%2=1):=fun e=>hr ⟨hc,e⟩
  have hd1:(decide (4<ld-far))=true:=decide_eq_true hc
  have hd2:(tk%2 == 1)=false:=by simpa using hc2
  go_enter Tryz.func143,Tryz.ntmps143
  go_wp2_with fail
  go_quiet (first|(go_at_call 93;first|exact Calls.quiet_of (hL.out _)|exact quiet_d (hL.out _))|(go_at_call 215;first|exact Calls.quiet_of (quiet_s (hT.out _))|exact quiet_d (quiet_s (hT.out _))))
  go_wp2
  go_ret
  exact ⟨by simp,_,rfl⟩
 ·have hd1:(decide (4<ld-far))=false:=decide_eq_false hc
  go_enter Tryz.func143,Tryz.ntmps143
  go_wp2_with fail
  go_quiet (first|(go_at_call 93;first|exact Calls.quiet_of (hL.out _)|exact quiet_d (hL.out _))|(go_at_call 215;first|exact Calls.quiet_of (quiet_s (hT.out _))|exact quiet_d (quiet_s (hT.out _))))
  go_wp2
  go_ret
  exact ⟨rfl,_,rfl⟩
end
section
open Go.RowKit
set_option maxRecDepth 100000
variable {w w':World}
def standV (seed:Int) (f:Nat) (j:Nat):Int:=if j=0 then f else if j=1 then seed else if j=3 then 600-f else if j=4 then -2097152 else if j=9 then 3 else if j=14 then 2097152 else if j=18 then 32768 else if j=19 then 3 else 0
def sgC (v:Nat→Int) (pg:Nat):Array Value:=(mkC v).push (.pointer (some ⟨pg,0,none⟩))
theorem sgC_at (v:Nat→Int) (pg:Nat) (j:Nat) (hj:j<60):(sgC v pg)[j]?=some (.int (kindAt j) (v j)):=by
 rw[sgC,Array.getElem?_push,if_neg (by rw[mkC_size];omega),mkC_get _ hj]
theorem sgC_set (v:Nat→Int) (pg:Nat) (o:Nat) (x:Int) (h:o<60):(sgC v pg).setIfInBounds o (.int (kindAt o) x)=sgC (updI v o x) pg:=by
 unfold sgC
 rw[←mkC_set]
 apply Array.ext_getElem?
 intro i
 by_cases e:o=i
 ·subst e
  rw[Array.getElem?_setIfInBounds_self_of_lt (by simp[mkC_size];omega),Array.getElem?_push,if_neg (by simp[mkC_size];omega),Array.getElem?_setIfInBounds_self_of_lt (by rw[mkC_size];omega)]
 ·rw[Array.getElem?_setIfInBounds_ne e,Array.getElem?_push,Array.getElem?_push,Array.getElem?_setIfInBounds_ne e]
  simp
theorem updI_same (v:Nat→Int) (o:Nat):updI v o (v o)=v:=by
 funext j
 unfold updI
 split
 ·rename_i h;rw[h]
 ·rfl
structure IsStage (w:World) (g pg:Nat) (v:Nat→Int) (f:Int):Prop where
 blk:w.heap[g]?=some (.cells (sgC v pg) 458 (0,0))
 page:w.heap[pg]?=some (.cells #[.int .i64 f,.slice none 0 0] 476 (0,0))
 ne:g≠pg
namespace IsStage
variable {g pg:Nat} {v:Nat→Int} {f:Int}
theorem cell (h:IsStage w g pg v f) (k:Nat) (hk:k<60):w.cell? ⟨g,k,none⟩=some (.int (kindAt k) (v k)):=blk_cell h.blk (sgC_at v pg k hk)
theorem free (h:IsStage w g pg v f) (k:Nat):w.frozen? ⟨g,k,none⟩=false:=blk_free h.blk k
theorem set (h:IsStage w g pg v f) (k:Nat) (hk:k<60) (q:IntKind) (hq:kindAt k=q) (x:Int):IsStage (w.setCell ⟨g,k,none⟩ (.int q x)) g pg (updI v k x) f:=by
 subst hq
 refine ⟨by rw[blk_set h.blk k,sgC_set v pg k x hk],?_,h.ne⟩
 exact (Keeps.setCell (S:=fun j=>j=g) (Keeps.refl _ w) (p:=⟨g,k,none⟩) rfl _).heap h.page (Ne.symm h.ne)
theorem same (h:IsStage w g pg v f) (k:Nat) (hk:k<60) (q:IntKind) (hq:kindAt k=q) (x:Int) (hx:v k=x):IsStage (w.setCell ⟨g,k,none⟩ (.int q x)) g pg v f:=by
 subst hx
 have:=h.set k hk q hq (v k)
 rwa [updI_same] at this
theorem keeps {S:Nat→Prop} (h:IsStage w g pg v f) (hk:Keeps S w w') (h1:¬ S g) (h2:¬ S pg):IsStage w' g pg v f:=⟨hk.heap h.blk h1,hk.heap h.page h2,h.ne⟩
theorem keep (h:IsStage w g pg v f) (hk:Keeps (fun _=>False) w w'):IsStage w' g pg v f:=h.keeps hk id id
end IsStage
theorem gm_pressed0 (b:Int) (hb:bits .and .u8 0 b=0) (w:World):Calls Tryz.prog 349 #[.int .u8 0,.int .u8 b] w fun e w'=>e=.returned (.bool false)∧w=w':=by
 go_enter Tryz.func349,Tryz.ntmps349
 go_wp2
 go_ret
 exact ⟨rfl,rfl⟩
theorem ev_within (n a b:Int) (w:World):Calls Tryz.prog 293 #[.int .i64 n,.int .i64 a,.int .i64 b] w fun e w'=>e=.returned (.bool (decide (a≤n)&&decide (n≤b)))∧w=w':=by
 by_cases h1:a≤n
 ·by_cases h2:n≤b
  ·go_enter Tryz.func293,Tryz.ntmps293
   go_wp2
   go_ret
   exact ⟨by simp[h1,h2],rfl⟩
  ·go_enter Tryz.func293,Tryz.ntmps293
   go_wp2
   go_ret
   exact ⟨by simp[h2],rfl⟩
 ·go_enter Tryz.func293,Tryz.ntmps293
  go_wp2
  go_ret
  exact ⟨by rw[show decide (a≤n)=false by simpa using h1];simp,rfl⟩
theorem ev_Open (f:Int) (hf:0≤f∧f≤1073741824) (w:World):Calls Tryz.prog 323 #[.int .i64 f] w fun e w'=>e=.returned (.tuple #[.pointer (some ⟨w.heap.size,0,none⟩),.int .i64 0])∧w.alloc (.cells #[.int .i64 f,.slice none 0 0] 476)=w':=by
 have hW:=ev_within f 0 1073741824
 rw[decide_eq_true hf.1,decide_eq_true hf.2] at hW
 have HW:=hid hW
 clear hW hf
 go_enter Tryz.func323,Tryz.ntmps323
 go_wp2_with fail
 refine (HW.out _).mono ?_
 rintro e _ ⟨rfl,rfl⟩
 go_wp2
 go_ret2
 exact ⟨rfl,rfl⟩
theorem pg_List {pg:Nat} {f:Int} (h:w.heap[pg]?=some (.cells #[.int .i64 f,.slice none 0 0] 476 (0,0))):Calls Tryz.prog 328 #[.pointer (some ⟨pg,0,none⟩)] w fun e w'=>e=.returned (.slice none 0 0)∧w=w':=by
 have c1:=blk_cell (k:=1) h rfl
 go_enter Tryz.func328,Tryz.ntmps328
 go_wp2_with fail
 refine (ev_Clone0 _).mono ?_
 rintro e _ ⟨rfl,rfl⟩
 go_wp2
 go_ret
 exact ⟨rfl,rfl⟩
end
section
open Go.RowKit
set_option maxRecDepth 100000
variable {w w':World} {g pg:Nat} {seed fr:Int} {f:Nat}
theorem slow0:slowI 0 0 61440 131072=(0,0):=by decide
theorem sh_Slow0 (w:World):Calls Tryz.prog 363 #[.agg #[.int .i32 0,.int .i32 0],.int .i32 61440,.int .i32 131072] w fun e w'=>e=.returned (.agg #[.int .i32 0,.int .i32 0])∧Below w.heap.size w w':=by
 have h:=sh_Slow 0 0 61440 131072 (by unfold isFix;omega) (by unfold isFix;omega) (by unfold isFix;omega) (by unfold isFix;omega) w
 rw[slow0] at h
 exact h
theorem sg_steer0 (h:IsStage w g pg (standV seed f) fr):Calls Tryz.prog 347 #[.pointer (some ⟨g,0,none⟩),.int .i64 0,.int .u8 0] w fun e w'=>e=.returned (.tuple #[])∧IsStage w' g pg (standV seed f) fr∧Keeps (fun j=>j=g) w w':=by
 have hSl:=hid sh_Slow0
 have f4:=(h).free 4
 have f5:=(h).free 5
 have f6:=(h).free 6
 have f7:=(h).free 7
 have f8:=(h).free 8
 have f10:=(h).free 10
 have f11:=(h).free 11
 have f14:=(h).free 14
 have f15:=(h).free 15
 have f16:=(h).free 16
 have f17:=(h).free 17
 have f18:=(h).free 18
 have f20:=(h).free 20
 have f21:=(h).free 21
 have y4:World.cell? _ _=some (.int .i32 (-2097152)):=(h).cell 4 (by omega)
 have y5:World.cell? _ _=some (.int .i32 0):=(h).cell 5 (by omega)
 have y6:World.cell? _ _=some (.int .i32 0):=(h).cell 6 (by omega)
 have y7:World.cell? _ _=some (.int .i32 0):=(h).cell 7 (by omega)
 have y8:World.cell? _ _=some (.int .i64 0):=(h).cell 8 (by omega)
 have y10:World.cell? _ _=some (.int .i64 0):=(h).cell 10 (by omega)
 have y11:World.cell? _ _=some (.int .i64 0):=(h).cell 11 (by omega)
 have y12:World.cell? _ _=some (.int .i64 0):=(h).cell 12 (by omega)
 have y14:World.cell? _ _=some (.int .i32 2097152):=(h).cell 14 (by omega)
 have y15:World.cell? _ _=some (.int .i32 0):=(h).cell 15 (by omega)
 have y16:World.cell? _ _=some (.int .i32 0):=(h).cell 16 (by omega)
 have y17:World.cell? _ _=some (.int .i32 0):=(h).cell 17 (by omega)
 have y18:World.cell? _ _=some (.int .i64 32768):=(h).cell 18 (by omega)
 have y20:World.cell? _ _=some (.int .i64 0):=(h).cell 20 (by omega)
 have y21:World.cell? _ _=some (.int .i64 0):=(h).cell 21 (by omega)
 have y22:World.cell? _ _=some (.int .i64 0):=(h).cell 22 (by omega)
 go_enter Tryz.func347,Tryz.ntmps347
 go_wp2_with fail
 go_region
 have h1:IsStage ((w.setCell ⟨g,10,none⟩ (.int .i64 (max (-1) 0))).setCell ⟨g,11,none⟩ (.int .i64 (max (-1) 0))).drew g pg (standV seed f) fr:=
  ((h.same 10 (by omega) .i64 rfl (max (-1) 0) rfl).same 11 (by omega) .i64 rfl (max (-1) 0) rfl).keep (Keeps.refl _ _).drew
 have k1:Keeps (fun j=>j=g) w ((w.setCell ⟨g,10,none⟩ (.int .i64 (max (-1) 0))).setCell ⟨g,11,none⟩ (.int .i64 (max (-1) 0))).drew:=
  (((Keeps.refl (fun j=>j=g) w).setCell (p:=⟨g,10,none⟩) rfl _).setCell (p:=⟨g,11,none⟩) rfl _).drew
 generalize ((w.setCell ⟨g,10,none⟩ (.int .i64 (max (-1) 0))).setCell ⟨g,11,none⟩ (.int .i64 (max (-1) 0))).drew=w1 at *
 clear f4 f5 f6 f7 f8 f10 f11 f14 f15 f16 f17 f18 f20 f21 y4 y5 y6 y7 y8 y10 y11 y12 y14 y15 y16 y17 y18 y20 y21 y22
 go_wp2_with fail
 refine (gm_pressed0 1 (by decide) _).mono ?_
 rintro e _ ⟨rfl,rfl⟩
 go_wp2_with fail
 refine (gm_pressed0 2 (by decide) _).mono ?_
 rintro e _ ⟨rfl,rfl⟩
 have f4:=(h1).free 4
 have f5:=(h1).free 5
 have f6:=(h1).free 6
 have f7:=(h1).free 7
 have f8:=(h1).free 8
 have f10:=(h1).free 10
 have f11:=(h1).free 11
 have f14:=(h1).free 14
 have f15:=(h1).free 15
 have f16:=(h1).free 16
 have f17:=(h1).free 17
 have f18:=(h1).free 18
 have f20:=(h1).free 20
 have f21:=(h1).free 21
 have y4:World.cell? _ _=some (.int .i32 (-2097152)):=(h1).cell 4 (by omega)
 have y5:World.cell? _ _=some (.int .i32 0):=(h1).cell 5 (by omega)
 have y6:World.cell? _ _=some (.int .i32 0):=(h1).cell 6 (by omega)
 have y7:World.cell? _ _=some (.int .i32 0):=(h1).cell 7 (by omega)
 have y8:World.cell? _ _=some (.int .i64 0):=(h1).cell 8 (by omega)
 have y10:World.cell? _ _=some (.int .i64 0):=(h1).cell 10 (by omega)
 have y11:World.cell? _ _=some (.int .i64 0):=(h1).cell 11 (by omega)
 have y12:World.cell? _ _=some (.int .i64 0):=(h1).cell 12 (by omega)
 have y14:World.cell? _ _=some (.int .i32 2097152):=(h1).cell 14 (by omega)
 have y15:World.cell? _ _=some (.int .i32 0):=(h1).cell 15 (by omega)
 have y16:World.cell? _ _=some (.int .i32 0):=(h1).cell 16 (by omega)
 have y17:World.cell? _ _=some (.int .i32 0):=(h1).cell 17 (by omega)
 have y18:World.cell? _ _=some (.int .i64 32768):=(h1).cell 18 (by omega)
 have y20:World.cell? _ _=some (.int .i64 0):=(h1).cell 20 (by omega)
 have y21:World.cell? _ _=some (.int .i64 0):=(h1).cell 21 (by omega)
 have y22:World.cell? _ _=some (.int .i64 0):=(h1).cell 22 (by omega)
 have hb:bits .and .i64 0 65535=0:=by decide
 go_wp2_with fail
 refine (gm_pressed0 8 (by decide) _).mono ?_
 rintro e _ ⟨rfl,rfl⟩
 have h2:=h1.same 8 (by omega) .i64 rfl 0 rfl
 have k2:=k1.setCell (p:=⟨g,8,none⟩) rfl (.int .i64 0)
 generalize w1.setCell ⟨g,8,none⟩ (.int .i64 0)=w2 at *
 clear f4 f5 f6 f7 f8 f10 f11 f14 f15 f16 f17 f18 f20 f21 y4 y5 y6 y7 y8 y10 y11 y12 y14 y15 y16 y17 y18 y20 y21 y22 hb h1 k1
 go_wp2_with fail
 refine (gm_pressed0 4 (by decide) _).mono ?_
 rintro e _ ⟨rfl,rfl⟩
 go_wp2_with fail
 refine (gm_pressed0 32 (by decide) _).mono ?_
 rintro e _ ⟨rfl,rfl⟩
 have f4:=(h2).free 4
 have f5:=(h2).free 5
 have f6:=(h2).free 6
 have f7:=(h2).free 7
 have f8:=(h2).free 8
 have f10:=(h2).free 10
 have f11:=(h2).free 11
 have f14:=(h2).free 14
 have f15:=(h2).free 15
 have f16:=(h2).free 16
 have f17:=(h2).free 17
 have f18:=(h2).free 18
 have f20:=(h2).free 20
 have f21:=(h2).free 21
 have y4:World.cell? _ _=some (.int .i32 (-2097152)):=(h2).cell 4 (by omega)
 have y5:World.cell? _ _=some (.int .i32 0):=(h2).cell 5 (by omega)
 have y6:World.cell? _ _=some (.int .i32 0):=(h2).cell 6 (by omega)
 have y7:World.cell? _ _=some (.int .i32 0):=(h2).cell 7 (by omega)
 have y8:World.cell? _ _=some (.int .i64 0):=(h2).cell 8 (by omega)
 have y10:World.cell? _ _=some (.int .i64 0):=(h2).cell 10 (by omega)
 have y11:World.cell? _ _=some (.int .i64 0):=(h2).cell 11 (by omega)
 have y12:World.cell? _ _=some (.int .i64 0):=(h2).cell 12 (by omega)
 have y14:World.cell? _ _=some (.int .i32 2097152):=(h2).cell 14 (by omega)
 have y15:World.cell? _ _=some (.int .i32 0):=(h2).cell 15 (by omega)
 have y16:World.cell? _ _=some (.int .i32 0):=(h2).cell 16 (by omega)
 have y17:World.cell? _ _=some (.int .i32 0):=(h2).cell 17 (by omega)
 have y18:World.cell? _ _=some (.int .i64 32768):=(h2).cell 18 (by omega)
 have y20:World.cell? _ _=some (.int .i64 0):=(h2).cell 20 (by omega)
 have y21:World.cell? _ _=some (.int .i64 0):=(h2).cell 21 (by omega)
 have y22:World.cell? _ _=some (.int .i64 0):=(h2).cell 22 (by omega)
 go_wp2_with fail
 refine (hSl.out _).mono ?_
 rintro e w3 ⟨rfl,hb3⟩
 have k3:=(Keeps.refl (fun _=>False) w2).then_below hb3
 have h3:=h2.keep k3
 have kf:=k2.trans (k3.mono fun _ _ x=>x.elim)
 clear f4 f5 f6 f7 f8 f10 f11 f14 f15 f16 f17 f18 f20 f21 y4 y5 y6 y7 y8 y10 y11 y12 y14 y15 y16 y17 y18 y20 y21 y22
 clear h2 k2 k3 hb3
 have f4:=(h3).free 4
 have f5:=(h3).free 5
 have f6:=(h3).free 6
 have f7:=(h3).free 7
 have f8:=(h3).free 8
 have f10:=(h3).free 10
 have f11:=(h3).free 11
 have f14:=(h3).free 14
 have f15:=(h3).free 15
 have f16:=(h3).free 16
 have f17:=(h3).free 17
 have f18:=(h3).free 18
 have f20:=(h3).free 20
 have f21:=(h3).free 21
 have y4:World.cell? _ _=some (.int .i32 (-2097152)):=(h3).cell 4 (by omega)
 have y5:World.cell? _ _=some (.int .i32 0):=(h3).cell 5 (by omega)
 have y6:World.cell? _ _=some (.int .i32 0):=(h3).cell 6 (by omega)
 have y7:World.cell? _ _=some (.int .i32 0):=(h3).cell 7 (by omega)
 have y8:World.cell? _ _=some (.int .i64 0):=(h3).cell 8 (by omega)
 have y10:World.cell? _ _=some (.int .i64 0):=(h3).cell 10 (by omega)
 have y11:World.cell? _ _=some (.int .i64 0):=(h3).cell 11 (by omega)
 have y12:World.cell? _ _=some (.int .i64 0):=(h3).cell 12 (by omega)
 have y14:World.cell? _ _=some (.int .i32 2097152):=(h3).cell 14 (by omega)
 have y15:World.cell? _ _=some (.int .i32 0):=(h3).cell 15 (by omega)
 have y16:World.cell? _ _=some (.int .i32 0):=(h3).cell 16 (by omega)
 have y17:World.cell? _ _=some (.int .i32 0):=(h3).cell 17 (by omega)
 have y18:World.cell? _ _=some (.int .i64 32768):=(h3).cell 18 (by omega)
 have y20:World.cell? _ _=some (.int .i64 0):=(h3).cell 20 (by omega)
 have y21:World.cell? _ _=some (.int .i64 0):=(h3).cell 21 (by omega)
 have y22:World.cell? _ _=some (.int .i64 0):=(h3).cell 22 (by omega)
 go_wp2
 go_end0
 exact ⟨rfl,(h3.same 6 (by omega) .i32 rfl 0 rfl).same 7 (by omega) .i32 rfl 0 rfl,(kf.setCell (p:=⟨g,6,none⟩) rfl _).setCell (p:=⟨g,7,none⟩) rfl _⟩
theorem sg_steer1 (h:IsStage w g pg (standV seed f) fr):Calls Tryz.prog 347 #[.pointer (some ⟨g,0,none⟩),.int .i64 1,.int .u8 0] w fun e w'=>e=.returned (.tuple #[])∧IsStage w' g pg (standV seed f) fr∧Keeps (fun j=>j=g) w w':=by
 have hSl:=hid sh_Slow0
 have f4:=(h).free 4
 have f5:=(h).free 5
 have f6:=(h).free 6
 have f7:=(h).free 7
 have f8:=(h).free 8
 have f10:=(h).free 10
 have f11:=(h).free 11
 have f14:=(h).free 14
 have f15:=(h).free 15
 have f16:=(h).free 16
 have f17:=(h).free 17
 have f18:=(h).free 18
 have f20:=(h).free 20
 have f21:=(h).free 21
 have y4:World.cell? _ _=some (.int .i32 (-2097152)):=(h).cell 4 (by omega)
 have y5:World.cell? _ _=some (.int .i32 0):=(h).cell 5 (by omega)
 have y6:World.cell? _ _=some (.int .i32 0):=(h).cell 6 (by omega)
 have y7:World.cell? _ _=some (.int .i32 0):=(h).cell 7 (by omega)
 have y8:World.cell? _ _=some (.int .i64 0):=(h).cell 8 (by omega)
 have y10:World.cell? _ _=some (.int .i64 0):=(h).cell 10 (by omega)
 have y11:World.cell? _ _=some (.int .i64 0):=(h).cell 11 (by omega)
 have y12:World.cell? _ _=some (.int .i64 0):=(h).cell 12 (by omega)
 have y14:World.cell? _ _=some (.int .i32 2097152):=(h).cell 14 (by omega)
 have y15:World.cell? _ _=some (.int .i32 0):=(h).cell 15 (by omega)
 have y16:World.cell? _ _=some (.int .i32 0):=(h).cell 16 (by omega)
 have y17:World.cell? _ _=some (.int .i32 0):=(h).cell 17 (by omega)
 have y18:World.cell? _ _=some (.int .i64 32768):=(h).cell 18 (by omega)
 have y20:World.cell? _ _=some (.int .i64 0):=(h).cell 20 (by omega)
 have y21:World.cell? _ _=some (.int .i64 0):=(h).cell 21 (by omega)
 have y22:World.cell? _ _=some (.int .i64 0):=(h).cell 22 (by omega)
 go_enter Tryz.func347,Tryz.ntmps347
 go_wp2_with fail
 go_region
 have h1:IsStage ((w.setCell ⟨g,20,none⟩ (.int .i64 (max (-1) 0))).setCell ⟨g,21,none⟩ (.int .i64 (max (-1) 0))).drew g pg (standV seed f) fr:=
  ((h.same 20 (by omega) .i64 rfl (max (-1) 0) rfl).same 21 (by omega) .i64 rfl (max (-1) 0) rfl).keep (Keeps.refl _ _).drew
 have k1:Keeps (fun j=>j=g) w ((w.setCell ⟨g,20,none⟩ (.int .i64 (max (-1) 0))).setCell ⟨g,21,none⟩ (.int .i64 (max (-1) 0))).drew:=
  (((Keeps.refl (fun j=>j=g) w).setCell (p:=⟨g,20,none⟩) rfl _).setCell (p:=⟨g,21,none⟩) rfl _).drew
 generalize ((w.setCell ⟨g,20,none⟩ (.int .i64 (max (-1) 0))).setCell ⟨g,21,none⟩ (.int .i64 (max (-1) 0))).drew=w1 at *
 clear f4 f5 f6 f7 f8 f10 f11 f14 f15 f16 f17 f18 f20 f21 y4 y5 y6 y7 y8 y10 y11 y12 y14 y15 y16 y17 y18 y20 y21 y22
 go_wp2_with fail
 refine (gm_pressed0 1 (by decide) _).mono ?_
 rintro e _ ⟨rfl,rfl⟩
 go_wp2_with fail
 refine (gm_pressed0 2 (by decide) _).mono ?_
 rintro e _ ⟨rfl,rfl⟩
 have f4:=(h1).free 4
 have f5:=(h1).free 5
 have f6:=(h1).free 6
 have f7:=(h1).free 7
 have f8:=(h1).free 8
 have f10:=(h1).free 10
 have f11:=(h1).free 11
 have f14:=(h1).free 14
 have f15:=(h1).free 15
 have f16:=(h1).free 16
 have f17:=(h1).free 17
 have f18:=(h1).free 18
 have f20:=(h1).free 20
 have f21:=(h1).free 21
 have y4:World.cell? _ _=some (.int .i32 (-2097152)):=(h1).cell 4 (by omega)
 have y5:World.cell? _ _=some (.int .i32 0):=(h1).cell 5 (by omega)
 have y6:World.cell? _ _=some (.int .i32 0):=(h1).cell 6 (by omega)
 have y7:World.cell? _ _=some (.int .i32 0):=(h1).cell 7 (by omega)
 have y8:World.cell? _ _=some (.int .i64 0):=(h1).cell 8 (by omega)
 have y10:World.cell? _ _=some (.int .i64 0):=(h1).cell 10 (by omega)
 have y11:World.cell? _ _=some (.int .i64 0):=(h1).cell 11 (by omega)
 have y12:World.cell? _ _=some (.int .i64 0):=(h1).cell 12 (by omega)
 have y14:World.cell? _ _=some (.int .i32 2097152):=(h1).cell 14 (by omega)
 have y15:World.cell? _ _=some (.int .i32 0):=(h1).cell 15 (by omega)
 have y16:World.cell? _ _=some (.int .i32 0):=(h1).cell 16 (by omega)
 have y17:World.cell? _ _=some (.int .i32 0):=(h1).cell 17 (by omega)
 have y18:World.cell? _ _=some (.int .i64 32768):=(h1).cell 18 (by omega)
 have y20:World.cell? _ _=some (.int .i64 0):=(h1).cell 20 (by omega)
 have y21:World.cell? _ _=some (.int .i64 0):=(h1).cell 21 (by omega)
 have y22:World.cell? _ _=some (.int .i64 0):=(h1).cell 22 (by omega)
 have hb:bits .and .i64 32768 65535=32768:=by decide
 go_wp2_with fail
 refine (gm_pressed0 8 (by decide) _).mono ?_
 rintro e _ ⟨rfl,rfl⟩
 have h2:=h1.same 18 (by omega) .i64 rfl 32768 rfl
 have k2:=k1.setCell (p:=⟨g,18,none⟩) rfl (.int .i64 32768)
 generalize w1.setCell ⟨g,18,none⟩ (.int .i64 32768)=w2 at *
 clear f4 f5 f6 f7 f8 f10 f11 f14 f15 f16 f17 f18 f20 f21 y4 y5 y6 y7 y8 y10 y11 y12 y14 y15 y16 y17 y18 y20 y21 y22 hb h1 k1
 go_wp2_with fail
 refine (gm_pressed0 4 (by decide) _).mono ?_
 rintro e _ ⟨rfl,rfl⟩
 go_wp2_with fail
 refine (gm_pressed0 32 (by decide) _).mono ?_
 rintro e _ ⟨rfl,rfl⟩
 have f4:=(h2).free 4
 have f5:=(h2).free 5
 have f6:=(h2).free 6
 have f7:=(h2).free 7
 have f8:=(h2).free 8
 have f10:=(h2).free 10
 have f11:=(h2).free 11
 have f14:=(h2).free 14
 have f15:=(h2).free 15
 have f16:=(h2).free 16
 have f17:=(h2).free 17
 have f18:=(h2).free 18
 have f20:=(h2).free 20
 have f21:=(h2).free 21
 have y4:World.cell? _ _=some (.int .i32 (-2097152)):=(h2).cell 4 (by omega)
 have y5:World.cell? _ _=some (.int .i32 0):=(h2).cell 5 (by omega)
 have y6:World.cell? _ _=some (.int .i32 0):=(h2).cell 6 (by omega)
 have y7:World.cell? _ _=some (.int .i32 0):=(h2).cell 7 (by omega)
 have y8:World.cell? _ _=some (.int .i64 0):=(h2).cell 8 (by omega)
 have y10:World.cell? _ _=some (.int .i64 0):=(h2).cell 10 (by omega)
 have y11:World.cell? _ _=some (.int .i64 0):=(h2).cell 11 (by omega)
 have y12:World.cell? _ _=some (.int .i64 0):=(h2).cell 12 (by omega)
 have y14:World.cell? _ _=some (.int .i32 2097152):=(h2).cell 14 (by omega)
 have y15:World.cell? _ _=some (.int .i32 0):=(h2).cell 15 (by omega)
 have y16:World.cell? _ _=some (.int .i32 0):=(h2).cell 16 (by omega)
 have y17:World.cell? _ _=some (.int .i32 0):=(h2).cell 17 (by omega)
 have y18:World.cell? _ _=some (.int .i64 32768):=(h2).cell 18 (by omega)
 have y20:World.cell? _ _=some (.int .i64 0):=(h2).cell 20 (by omega)
 have y21:World.cell? _ _=some (.int .i64 0):=(h2).cell 21 (by omega)
 have y22:World.cell? _ _=some (.int .i64 0):=(h2).cell 22 (by omega)
 go_wp2_with fail
 refine (hSl.out _).mono ?_
 rintro e w3 ⟨rfl,hb3⟩
 have k3:=(Keeps.refl (fun _=>False) w2).then_below hb3
 have h3:=h2.keep k3
 have kf:=k2.trans (k3.mono fun _ _ x=>x.elim)
 clear f4 f5 f6 f7 f8 f10 f11 f14 f15 f16 f17 f18 f20 f21 y4 y5 y6 y7 y8 y10 y11 y12 y14 y15 y16 y17 y18 y20 y21 y22
 clear h2 k2 k3 hb3
 have f4:=(h3).free 4
 have f5:=(h3).free 5
 have f6:=(h3).free 6
 have f7:=(h3).free 7
 have f8:=(h3).free 8
 have f10:=(h3).free 10
 have f11:=(h3).free 11
 have f14:=(h3).free 14
 have f15:=(h3).free 15
 have f16:=(h3).free 16
 have f17:=(h3).free 17
 have f18:=(h3).free 18
 have f20:=(h3).free 20
 have f21:=(h3).free 21
 have y4:World.cell? _ _=some (.int .i32 (-2097152)):=(h3).cell 4 (by omega)
 have y5:World.cell? _ _=some (.int .i32 0):=(h3).cell 5 (by omega)
 have y6:World.cell? _ _=some (.int .i32 0):=(h3).cell 6 (by omega)
 have y7:World.cell? _ _=some (.int .i32 0):=(h3).cell 7 (by omega)
 have y8:World.cell? _ _=some (.int .i64 0):=(h3).cell 8 (by omega)
 have y10:World.cell? _ _=some (.int .i64 0):=(h3).cell 10 (by omega)
 have y11:World.cell? _ _=some (.int .i64 0):=(h3).cell 11 (by omega)
 have y12:World.cell? _ _=some (.int .i64 0):=(h3).cell 12 (by omega)
 have y14:World.cell? _ _=some (.int .i32 2097152):=(h3).cell 14 (by omega)
 have y15:World.cell? _ _=some (.int .i32 0):=(h3).cell 15 (by omega)
 have y16:World.cell? _ _=some (.int .i32 0):=(h3).cell 16 (by omega)
 have y17:World.cell? _ _=some (.int .i32 0):=(h3).cell 17 (by omega)
 have y18:World.cell? _ _=some (.int .i64 32768):=(h3).cell 18 (by omega)
 have y20:World.cell? _ _=some (.int .i64 0):=(h3).cell 20 (by omega)
 have y21:World.cell? _ _=some (.int .i64 0):=(h3).cell 21 (by omega)
 have y22:World.cell? _ _=some (.int .i64 0):=(h3).cell 22 (by omega)
 go_wp2
 go_end0
 exact ⟨rfl,(h3.same 16 (by omega) .i32 rfl 0 rfl).same 17 (by omega) .i32 rfl 0 rfl,(kf.setCell (p:=⟨g,16,none⟩) rfl _).setCell (p:=⟨g,17,none⟩) rfl _⟩
end
section
open Go.RowKit
set_option maxRecDepth 100000
variable {w w':World} {g pg:Nat} {seed fr:Int} {f:Nat}
structure SgF (w:World) (g pg:Nat) (seed:Int) (f:Nat) (fr:Int) (w':World):Prop where
 st:IsStage w' g pg (standV seed f) fr
 kp:Keeps (fun j=>j=g) w w'
theorem SgF.keep {w0 w1 w2:World} (h:SgF w0 g pg seed f fr w1) (hb:Below w1.heap.size w1 w2):SgF w0 g pg seed f fr w2:=
 ⟨h.st.keep ((Keeps.refl _ w1).then_below hb),h.kp.trans (((Keeps.refl (fun _=>False) w1).then_below hb).mono fun _ _ x=>x.elim)⟩
theorem SgF.set {w0 w1:World} (h:SgF w0 g pg seed f fr w1) (k:Nat) (hk:k<60) (q:IntKind) (hq:kindAt k=q) (x:Int) (hx:standV seed f k=x):SgF w0 g pg seed f fr (w1.setCell ⟨g,k,none⟩ (.int q x)):=
 ⟨h.st.same k hk q hq x hx,h.kp.setCell (p:=⟨g,k,none⟩) rfl _⟩
theorem SgF.cell {w0:World} (k:Nat) (hk:k<60) (q:IntKind) (hq:kindAt k=q) (x:Int) (hx:standV seed f k=x):∀ y:HeldC (SgF w0 g pg seed f fr),y.to.cell? ⟨g,k,none⟩=some (.int q x):=fun y=>by
 subst hq hx
 exact y.held.st.cell k hk
theorem gm_move_a (w:World):Calls Tryz.prog 364 #[.agg #[.int .i32 (-2097152),.int .i32 0],.agg #[.int .i32 0,.int .i32 0],.agg #[.int .i32 (-3932160),.int .i32 (-3932160),.int .i32 3932160,.int .i32 3932160]] w fun e w'=>
  e=.returned (.tuple #[.agg #[.int .i32 (-2097152),.int .i32 0],.agg #[.int .i32 0,.int .i32 0],.int .i64 0,.int .i64 0])∧Below w.heap.size w w':=by
 have h:=sh_Move (-2097152) 0 0 0 (-3932160) (-3932160) 3932160 3932160 (by unfold isFix;omega) (by unfold isFix;omega) (by unfold isFix;omega) (by unfold isFix;omega) (by omega) (by omega) w
 rw[show wallI (-2097152) 0 (-3932160) 3932160 1 2=(-2097152,0,0) by decide,show wallI 0 0 (-3932160) 3932160 4 8=(0,0,0) by decide] at h
 exact h
theorem gm_move_b (w:World):Calls Tryz.prog 364 #[.agg #[.int .i32 2097152,.int .i32 0],.agg #[.int .i32 0,.int .i32 0],.agg #[.int .i32 (-3932160),.int .i32 (-3932160),.int .i32 3932160,.int .i32 3932160]] w fun e w'=>
  e=.returned (.tuple #[.agg #[.int .i32 2097152,.int .i32 0],.agg #[.int .i32 0,.int .i32 0],.int .i64 0,.int .i64 0])∧Below w.heap.size w w':=by
 have h:=sh_Move 2097152 0 0 0 (-3932160) (-3932160) 3932160 3932160 (by unfold isFix;omega) (by unfold isFix;omega) (by unfold isFix;omega) (by unfold isFix;omega) (by omega) (by omega) w
 rw[show wallI 2097152 0 (-3932160) 3932160 1 2=(2097152,0,0) by decide,show wallI 0 0 (-3932160) 3932160 4 8=(0,0,0) by decide] at h
 exact h
theorem sg_move0 (h:IsStage w g pg (standV seed f) fr):Calls Tryz.prog 348 #[.pointer (some ⟨g,0,none⟩),.int .i64 0] w fun e w'=>e=.returned (.tuple #[])∧IsStage w' g pg (standV seed f) fr∧Keeps (fun j=>j=g) w w':=by
 have hM:=hid gm_move_a
 have hY:=hid gm_yard
 have q0:∀ y:HeldC (SgF w.drew g pg seed f fr),_:=SgF.cell 4 (by omega) .i32 rfl (-2097152) rfl
 have q1:∀ y:HeldC (SgF w.drew g pg seed f fr),_:=SgF.cell 5 (by omega) .i32 rfl 0 rfl
 have q2:∀ y:HeldC (SgF w.drew g pg seed f fr),_:=SgF.cell 6 (by omega) .i32 rfl 0 rfl
 have q3:∀ y:HeldC (SgF w.drew g pg seed f fr),_:=SgF.cell 7 (by omega) .i32 rfl 0 rfl
 have hS:SgF w.drew g pg seed f fr w.drew:=⟨h.keep (Keeps.refl _ w).drew,Keeps.refl _ _⟩
 go_enter Tryz.func348,Tryz.ntmps348
 go_wp2_with fail
 refine stages_start (by kernel_rfl) 24 rfl ?_
 refine ht_start (SgF w.drew g pg seed f fr) [0,1,2,3,4,5,6,7,8,9,10,11,12,13,14,15,16,17,18,19,20,21,22,23] 0 24 rfl #[true,true,true,true,true,true,true,true,true,true,true,true,true,true,true,true,true,true,true,true,true,true,true,true] ?_
 have hne:Nonempty (HeldC (SgF w.drew g pg seed f fr)):=⟨⟨_,hS⟩⟩
 refine ht_heads (m:=14) (hS) [0,1,2,3,4,5,6,7,8,9] 10 rfl #[true,true,true,true,true,true,true,true,true,true,false,false,false,false,false,false,false,false,false,false,false,false,false,false] (by kernel_rfl) (by kernel_rfl) (fun _ _ _ d _ h=>by first|(cases d<;>exact h)|cases h.1) ?_
 simp only[opsAt,List.map_cons,List.map_nil,List.getElem?_toArray,List.getElem?_cons_zero,List.getElem?_cons_succ,Option.getD_some]
 repeat (go_big_quiet_step (fail))
 refine wpQuiet_nil ?_
 clear hne
 refine ht_one (m:=13) 10 #[true,true,true,true,true,true,true,true,true,true,true,false,false,false,false,false,false,false,false,false,false,false,false,false] (by kernel_rfl) (by kernel_rfl) (by kernel_rfl) (by kernel_rfl) (by simp only[opAt,List.getElem?_toArray,List.getElem?_cons_zero,List.getElem?_cons_succ,Option.getD_some];first|rfl|simp[go_sem]) (fun K hK=>?_)
 simp only[opAt,List.getElem?_toArray,List.getElem?_cons_zero,List.getElem?_cons_succ,Option.getD_some]
 go_simp
 refine (hY.out _).mono ?_
 rintro e w1 ⟨rfl,hb1⟩
 have hS1:=hS.keep hb1
 refine hK _ _ (hS1) ?_
 clear hK K
 refine ht_one (m:=12) 11 #[true,true,true,true,true,true,true,true,true,true,true,true,false,false,false,false,false,false,false,false,false,false,false,false] (by kernel_rfl) (by kernel_rfl) (by kernel_rfl) (by kernel_rfl) (by simp only[opAt,List.getElem?_toArray,List.getElem?_cons_zero,List.getElem?_cons_succ,Option.getD_some];first|rfl|simp[go_sem]) (fun K hK=>?_)
 simp only[opAt,List.getElem?_toArray,List.getElem?_cons_zero,List.getElem?_cons_succ,Option.getD_some]
 go_simp
 refine (hM.out _).mono ?_
 rintro e w2 ⟨rfl,hb2⟩
 have hS2:=hS1.keep hb2
 refine hK _ _ (hS2) ?_
 clear hK K
 have hne:Nonempty (HeldC (SgF w.drew g pg seed f fr)):=⟨⟨_,hS2⟩⟩
 refine ht_heads (m:=7) (hS2) [12,13,14,15,16] 5 rfl #[true,true,true,true,true,true,true,true,true,true,true,true,true,true,true,true,true,false,false,false,false,false,false,false] (by kernel_rfl) (by kernel_rfl) (fun _ _ _ d _ h=>by first|(cases d<;>exact h)|cases h.1) ?_
 simp only[opsAt,List.map_cons,List.map_nil,List.getElem?_toArray,List.getElem?_cons_zero,List.getElem?_cons_succ,Option.getD_some]
 repeat (go_big_quiet_step (fail))
 refine wpQuiet_nil ?_
 clear hne
 refine ht_one (m:=6) 17 #[true,true,true,true,true,true,true,true,true,true,true,true,true,true,true,true,true,true,false,false,false,false,false,false] (by kernel_rfl) (by kernel_rfl) (by kernel_rfl) (by kernel_rfl) (by simp only[opAt,List.getElem?_toArray,List.getElem?_cons_zero,List.getElem?_cons_succ,Option.getD_some];first|rfl|simp[go_sem]) (fun K hK=>?_)
 simp only[opAt,List.getElem?_toArray,List.getElem?_cons_zero,List.getElem?_cons_succ,Option.getD_some]
 go_simp
 refine hK _ _ (hS2) ?_
 clear hK K
 refine ht_one (m:=5) 18 #[true,true,true,true,true,true,true,true,true,true,true,true,true,true,true,true,true,true,true,false,false,false,false,false] (by kernel_rfl) (by kernel_rfl) (by kernel_rfl) (by kernel_rfl) (by simp only[opAt,List.getElem?_toArray,List.getElem?_cons_zero,List.getElem?_cons_succ,Option.getD_some];first|rfl|simp[go_sem]) (fun K hK=>?_)
 simp only[opAt,List.getElem?_toArray,List.getElem?_cons_zero,List.getElem?_cons_succ,Option.getD_some]
 go_simp
 refine hK _ _ (hS2) ?_
 clear hK K
 have z2:=hS2.st.cell 4 (by omega)
 have z3:=hS2.st.cell 5 (by omega)
 have z4:=hS2.st.cell 6 (by omega)
 have z5:=hS2.st.cell 7 (by omega)
 have y2:=hS2.st.free 4
 have y3:=hS2.st.free 5
 have y4:=hS2.st.free 6
 have y5:=hS2.st.free 7
 have hS3:=(hS2.set 4 (by omega) .i32 rfl (-2097152) rfl).set 5 (by omega) .i32 rfl 0 rfl
 refine ht_one (m:=4) 19 #[true,true,true,true,true,true,true,true,true,true,true,true,true,true,true,true,true,true,true,true,false,false,false,false] (by kernel_rfl) (by kernel_rfl) (by kernel_rfl) (by kernel_rfl) (by simp only[opAt,List.getElem?_toArray,List.getElem?_cons_zero,List.getElem?_cons_succ,Option.getD_some];first|rfl|simp[go_sem]) (fun K hK=>?_)
 simp only[opAt,List.getElem?_toArray,List.getElem?_cons_zero,List.getElem?_cons_succ,Option.getD_some]
 go_simp
 refine hK _ _ (hS3) ?_
 clear hK K
 generalize (w2.setCell ⟨g,4,none⟩ (.int .i32 (-2097152))).setCell ⟨g,5,none⟩ (.int .i32 0)=w3 at *
 clear z2 z3 z4 z5 y2 y3 y4 y5
 refine ht_one (m:=3) 20 #[true,true,true,true,true,true,true,true,true,true,true,true,true,true,true,true,true,true,true,true,true,false,false,false] (by kernel_rfl) (by kernel_rfl) (by kernel_rfl) (by kernel_rfl) (by simp only[opAt,List.getElem?_toArray,List.getElem?_cons_zero,List.getElem?_cons_succ,Option.getD_some];first|rfl|simp[go_sem]) (fun K hK=>?_)
 simp only[opAt,List.getElem?_toArray,List.getElem?_cons_zero,List.getElem?_cons_succ,Option.getD_some]
 go_simp
 refine hK _ _ (hS3) ?_
 clear hK K
 refine ht_one (m:=2) 21 #[true,true,true,true,true,true,true,true,true,true,true,true,true,true,true,true,true,true,true,true,true,true,false,false] (by kernel_rfl) (by kernel_rfl) (by kernel_rfl) (by kernel_rfl) (by simp only[opAt,List.getElem?_toArray,List.getElem?_cons_zero,List.getElem?_cons_succ,Option.getD_some];first|rfl|simp[go_sem]) (fun K hK=>?_)
 simp only[opAt,List.getElem?_toArray,List.getElem?_cons_zero,List.getElem?_cons_succ,Option.getD_some]
 go_simp
 refine hK _ _ (hS3) ?_
 clear hK K
 have z4:=hS3.st.cell 6 (by omega)
 have z5:=hS3.st.cell 7 (by omega)
 have y4:=hS3.st.free 6
 have y5:=hS3.st.free 7
 have hS4:=(hS3.set 6 (by omega) .i32 rfl 0 rfl).set 7 (by omega) .i32 rfl 0 rfl
 refine ht_one (m:=1) 22 #[true,true,true,true,true,true,true,true,true,true,true,true,true,true,true,true,true,true,true,true,true,true,true,false] (by kernel_rfl) (by kernel_rfl) (by kernel_rfl) (by kernel_rfl) (by simp only[opAt,List.getElem?_toArray,List.getElem?_cons_zero,List.getElem?_cons_succ,Option.getD_some];first|rfl|simp[go_sem]) (fun K hK=>?_)
 simp only[opAt,List.getElem?_toArray,List.getElem?_cons_zero,List.getElem?_cons_succ,Option.getD_some]
 go_simp
 refine hK _ _ (hS4) ?_
 clear hK K
 refine ht_one (m:=0) 23 #[true,true,true,true,true,true,true,true,true,true,true,true,true,true,true,true,true,true,true,true,true,true,true,true] (by kernel_rfl) (by kernel_rfl) (by kernel_rfl) (by kernel_rfl) (by simp only[opAt,List.getElem?_toArray,List.getElem?_cons_zero,List.getElem?_cons_succ,Option.getD_some];first|rfl|simp[go_sem]) (fun K hK=>?_)
 simp only[opAt,List.getElem?_toArray,List.getElem?_cons_zero,List.getElem?_cons_succ,Option.getD_some]
 go_simp
 refine hK _ _ (hS4) ?_
 clear hK K
 refine ht_nil (by kernel_rfl) ?_
 refine stages_end (by kernel_rfl) ?_
 go_wp2
 go_end0
 exact ⟨rfl,hS4.st,(Keeps.refl _ w).drew.trans hS4.kp⟩
theorem sg_move1 (h:IsStage w g pg (standV seed f) fr):Calls Tryz.prog 348 #[.pointer (some ⟨g,0,none⟩),.int .i64 1] w fun e w'=>e=.returned (.tuple #[])∧IsStage w' g pg (standV seed f) fr∧Keeps (fun j=>j=g) w w':=by
 have hM:=hid gm_move_b
 have hY:=hid gm_yard
 have q0:∀ y:HeldC (SgF w.drew g pg seed f fr),_:=SgF.cell 14 (by omega) .i32 rfl 2097152 rfl
 have q1:∀ y:HeldC (SgF w.drew g pg seed f fr),_:=SgF.cell 15 (by omega) .i32 rfl 0 rfl
 have q2:∀ y:HeldC (SgF w.drew g pg seed f fr),_:=SgF.cell 16 (by omega) .i32 rfl 0 rfl
 have q3:∀ y:HeldC (SgF w.drew g pg seed f fr),_:=SgF.cell 17 (by omega) .i32 rfl 0 rfl
 have hS:SgF w.drew g pg seed f fr w.drew:=⟨h.keep (Keeps.refl _ w).drew,Keeps.refl _ _⟩
 go_enter Tryz.func348,Tryz.ntmps348
 go_wp2_with fail
 refine stages_start (by kernel_rfl) 24 rfl ?_
 refine ht_start (SgF w.drew g pg seed f fr) [0,1,2,3,4,5,6,7,8,9,10,11,12,13,14,15,16,17,18,19,20,21,22,23] 0 24 rfl #[true,true,true,true,true,true,true,true,true,true,true,true,true,true,true,true,true,true,true,true,true,true,true,true] ?_
 have hne:Nonempty (HeldC (SgF w.drew g pg seed f fr)):=⟨⟨_,hS⟩⟩
 refine ht_heads (m:=14) (hS) [0,1,2,3,4,5,6,7,8,9] 10 rfl #[true,true,true,true,true,true,true,true,true,true,false,false,false,false,false,false,false,false,false,false,false,false,false,false] (by kernel_rfl) (by kernel_rfl) (fun _ _ _ d _ h=>by first|(cases d<;>exact h)|cases h.1) ?_
 simp only[opsAt,List.map_cons,List.map_nil,List.getElem?_toArray,List.getElem?_cons_zero,List.getElem?_cons_succ,Option.getD_some]
 repeat (go_big_quiet_step (fail))
 refine wpQuiet_nil ?_
 clear hne
 refine ht_one (m:=13) 10 #[true,true,true,true,true,true,true,true,true,true,true,false,false,false,false,false,false,false,false,false,false,false,false,false] (by kernel_rfl) (by kernel_rfl) (by kernel_rfl) (by kernel_rfl) (by simp only[opAt,List.getElem?_toArray,List.getElem?_cons_zero,List.getElem?_cons_succ,Option.getD_some];first|rfl|simp[go_sem]) (fun K hK=>?_)
 simp only[opAt,List.getElem?_toArray,List.getElem?_cons_zero,List.getElem?_cons_succ,Option.getD_some]
 go_simp
 refine (hY.out _).mono ?_
 rintro e w1 ⟨rfl,hb1⟩
 have hS1:=hS.keep hb1
 refine hK _ _ (hS1) ?_
 clear hK K
 refine ht_one (m:=12) 11 #[true,true,true,true,true,true,true,true,true,true,true,true,false,false,false,false,false,false,false,false,false,false,false,false] (by kernel_rfl) (by kernel_rfl) (by kernel_rfl) (by kernel_rfl) (by simp only[opAt,List.getElem?_toArray,List.getElem?_cons_zero,List.getElem?_cons_succ,Option.getD_some];first|rfl|simp[go_sem]) (fun K hK=>?_)
 simp only[opAt,List.getElem?_toArray,List.getElem?_cons_zero,List.getElem?_cons_succ,Option.getD_some]
 go_simp
 refine (hM.out _).mono ?_
 rintro e w2 ⟨rfl,hb2⟩
 have hS2:=hS1.keep hb2
 refine hK _ _ (hS2) ?_
 clear hK K
 have hne:Nonempty (HeldC (SgF w.drew g pg seed f fr)):=⟨⟨_,hS2⟩⟩
 refine ht_heads (m:=7) (hS2) [12,13,14,15,16] 5 rfl #[true,true,true,true,true,true,true,true,true,true,true,true,true,true,true,true,true,false,false,false,false,false,false,false] (by kernel_rfl) (by kernel_rfl) (fun _ _ _ d _ h=>by first|(cases d<;>exact h)|cases h.1) ?_
 simp only[opsAt,List.map_cons,List.map_nil,List.getElem?_toArray,List.getElem?_cons_zero,List.getElem?_cons_succ,Option.getD_some]
 repeat (go_big_quiet_step (fail))
 refine wpQuiet_nil ?_
 clear hne
 refine ht_one (m:=6) 17 #[true,true,true,true,true,true,true,true,true,true,true,true,true,true,true,true,true,true,false,false,false,false,false,false] (by kernel_rfl) (by kernel_rfl) (by kernel_rfl) (by kernel_rfl) (by simp only[opAt,List.getElem?_toArray,List.getElem?_cons_zero,List.getElem?_cons_succ,Option.getD_some];first|rfl|simp[go_sem]) (fun K hK=>?_)
 simp only[opAt,List.getElem?_toArray,List.getElem?_cons_zero,List.getElem?_cons_succ,Option.getD_some]
 go_simp
 refine hK _ _ (hS2) ?_
 clear hK K
 refine ht_one (m:=5) 18 #[true,true,true,true,true,true,true,true,true,true,true,true,true,true,true,true,true,true,true,false,false,false,false,false] (by kernel_rfl) (by kernel_rfl) (by kernel_rfl) (by kernel_rfl) (by simp only[opAt,List.getElem?_toArray,List.getElem?_cons_zero,List.getElem?_cons_succ,Option.getD_some];first|rfl|simp[go_sem]) (fun K hK=>?_)
 simp only[opAt,List.getElem?_toArray,List.getElem?_cons_zero,List.getElem?_cons_succ,Option.getD_some]
 go_simp
 refine hK _ _ (hS2) ?_
 clear hK K
 have z2:=hS2.st.cell 14 (by omega)
 have z3:=hS2.st.cell 15 (by omega)
 have z4:=hS2.st.cell 16 (by omega)
 have z5:=hS2.st.cell 17 (by omega)
 have y2:=hS2.st.free 14
 have y3:=hS2.st.free 15
 have y4:=hS2.st.free 16
 have y5:=hS2.st.free 17
 have hS3:=(hS2.set 14 (by omega) .i32 rfl 2097152 rfl).set 15 (by omega) .i32 rfl 0 rfl
 refine ht_one (m:=4) 19 #[true,true,true,true,true,true,true,true,true,true,true,true,true,true,true,true,true,true,true,true,false,false,false,false] (by kernel_rfl) (by kernel_rfl) (by kernel_rfl) (by kernel_rfl) (by simp only[opAt,List.getElem?_toArray,List.getElem?_cons_zero,List.getElem?_cons_succ,Option.getD_some];first|rfl|simp[go_sem]) (fun K hK=>?_)
 simp only[opAt,List.getElem?_toArray,List.getElem?_cons_zero,List.getElem?_cons_succ,Option.getD_some]
 go_simp
 refine hK _ _ (hS3) ?_
 clear hK K
 generalize (w2.setCell ⟨g,14,none⟩ (.int .i32 2097152)).setCell ⟨g,15,none⟩ (.int .i32 0)=w3 at *
 clear z2 z3 z4 z5 y2 y3 y4 y5
 refine ht_one (m:=3) 20 #[true,true,true,true,true,true,true,true,true,true,true,true,true,true,true,true,true,true,true,true,true,false,false,false] (by kernel_rfl) (by kernel_rfl) (by kernel_rfl) (by kernel_rfl) (by simp only[opAt,List.getElem?_toArray,List.getElem?_cons_zero,List.getElem?_cons_succ,Option.getD_some];first|rfl|simp[go_sem]) (fun K hK=>?_)
 simp only[opAt,List.getElem?_toArray,List.getElem?_cons_zero,List.getElem?_cons_succ,Option.getD_some]
 go_simp
 refine hK _ _ (hS3) ?_
 clear hK K
 refine ht_one (m:=2) 21 #[true,true,true,true,true,true,true,true,true,true,true,true,true,true,true,true,true,true,true,true,true,true,false,false] (by kernel_rfl) (by kernel_rfl) (by kernel_rfl) (by kernel_rfl) (by simp only[opAt,List.getElem?_toArray,List.getElem?_cons_zero,List.getElem?_cons_succ,Option.getD_some];first|rfl|simp[go_sem]) (fun K hK=>?_)
 simp only[opAt,List.getElem?_toArray,List.getElem?_cons_zero,List.getElem?_cons_succ,Option.getD_some]
 go_simp
 refine hK _ _ (hS3) ?_
 clear hK K
 have z4:=hS3.st.cell 16 (by omega)
 have z5:=hS3.st.cell 17 (by omega)
 have y4:=hS3.st.free 16
 have y5:=hS3.st.free 17
 have hS4:=(hS3.set 16 (by omega) .i32 rfl 0 rfl).set 17 (by omega) .i32 rfl 0 rfl
 refine ht_one (m:=1) 22 #[true,true,true,true,true,true,true,true,true,true,true,true,true,true,true,true,true,true,true,true,true,true,true,false] (by kernel_rfl) (by kernel_rfl) (by kernel_rfl) (by kernel_rfl) (by simp only[opAt,List.getElem?_toArray,List.getElem?_cons_zero,List.getElem?_cons_succ,Option.getD_some];first|rfl|simp[go_sem]) (fun K hK=>?_)
 simp only[opAt,List.getElem?_toArray,List.getElem?_cons_zero,List.getElem?_cons_succ,Option.getD_some]
 go_simp
 refine hK _ _ (hS4) ?_
 clear hK K
 refine ht_one (m:=0) 23 #[true,true,true,true,true,true,true,true,true,true,true,true,true,true,true,true,true,true,true,true,true,true,true,true] (by kernel_rfl) (by kernel_rfl) (by kernel_rfl) (by kernel_rfl) (by simp only[opAt,List.getElem?_toArray,List.getElem?_cons_zero,List.getElem?_cons_succ,Option.getD_some];first|rfl|simp[go_sem]) (fun K hK=>?_)
 simp only[opAt,List.getElem?_toArray,List.getElem?_cons_zero,List.getElem?_cons_succ,Option.getD_some]
 go_simp
 refine hK _ _ (hS4) ?_
 clear hK K
 refine ht_nil (by kernel_rfl) ?_
 refine stages_end (by kernel_rfl) ?_
 go_wp2
 go_end0
 exact ⟨rfl,hS4.st,(Keeps.refl _ w).drew.trans hS4.kp⟩
theorem sg_play0 (h:IsStage w g pg (standV seed f) fr):Calls Tryz.prog 324 #[.pointer (some ⟨g,0,none⟩),.int .i64 0,.int .u8 0] w fun e w'=>e=.returned (.tuple #[])∧IsStage w' g pg (standV seed f) fr∧Keeps (fun j=>j=g) w w':=by
 have hS:=hid (sg_steer0 h)
 have f4:=(h).free 4
 have f5:=(h).free 5
 have f6:=(h).free 6
 have f7:=(h).free 7
 have f8:=(h).free 8
 have f10:=(h).free 10
 have f11:=(h).free 11
 have f14:=(h).free 14
 have f15:=(h).free 15
 have f16:=(h).free 16
 have f17:=(h).free 17
 have f18:=(h).free 18
 have f20:=(h).free 20
 have f21:=(h).free 21
 have y4:World.cell? _ _=some (.int .i32 (-2097152)):=(h).cell 4 (by omega)
 have y5:World.cell? _ _=some (.int .i32 0):=(h).cell 5 (by omega)
 have y6:World.cell? _ _=some (.int .i32 0):=(h).cell 6 (by omega)
 have y7:World.cell? _ _=some (.int .i32 0):=(h).cell 7 (by omega)
 have y8:World.cell? _ _=some (.int .i64 0):=(h).cell 8 (by omega)
 have y10:World.cell? _ _=some (.int .i64 0):=(h).cell 10 (by omega)
 have y11:World.cell? _ _=some (.int .i64 0):=(h).cell 11 (by omega)
 have y12:World.cell? _ _=some (.int .i64 0):=(h).cell 12 (by omega)
 have y14:World.cell? _ _=some (.int .i32 2097152):=(h).cell 14 (by omega)
 have y15:World.cell? _ _=some (.int .i32 0):=(h).cell 15 (by omega)
 have y16:World.cell? _ _=some (.int .i32 0):=(h).cell 16 (by omega)
 have y17:World.cell? _ _=some (.int .i32 0):=(h).cell 17 (by omega)
 have y18:World.cell? _ _=some (.int .i64 32768):=(h).cell 18 (by omega)
 have y20:World.cell? _ _=some (.int .i64 0):=(h).cell 20 (by omega)
 have y21:World.cell? _ _=some (.int .i64 0):=(h).cell 21 (by omega)
 have y22:World.cell? _ _=some (.int .i64 0):=(h).cell 22 (by omega)
 go_enter Tryz.func324,Tryz.ntmps324
 go_wp2_with fail
 refine hS.out.mono ?_
 rintro e w1 ⟨rfl,h1,k1⟩
 have hM:=hid (sg_move0 h1)
 clear f4 f5 f6 f7 f8 f10 f11 f14 f15 f16 f17 f18 f20 f21 y4 y5 y6 y7 y8 y10 y11 y12 y14 y15 y16 y17 y18 y20 y21 y22 h1
 go_wp2_with fail
 refine hM.out.mono ?_
 rintro e w2 ⟨rfl,h2,k2⟩
 have H2:=hid h2
 clear h2
 go_wp2_with fail
 refine (gm_pressed0 16 (by decide) _).mono ?_
 rintro e _ ⟨rfl,rfl⟩
 go_wp2
 go_end0
 exact ⟨rfl,H2.out,k1.trans k2⟩
theorem sg_play1 (h:IsStage w g pg (standV seed f) fr):Calls Tryz.prog 324 #[.pointer (some ⟨g,0,none⟩),.int .i64 1,.int .u8 0] w fun e w'=>e=.returned (.tuple #[])∧IsStage w' g pg (standV seed f) fr∧Keeps (fun j=>j=g) w w':=by
 have hS:=hid (sg_steer1 h)
 have f4:=(h).free 4
 have f5:=(h).free 5
 have f6:=(h).free 6
 have f7:=(h).free 7
 have f8:=(h).free 8
 have f10:=(h).free 10
 have f11:=(h).free 11
 have f14:=(h).free 14
 have f15:=(h).free 15
 have f16:=(h).free 16
 have f17:=(h).free 17
 have f18:=(h).free 18
 have f20:=(h).free 20
 have f21:=(h).free 21
 have y4:World.cell? _ _=some (.int .i32 (-2097152)):=(h).cell 4 (by omega)
 have y5:World.cell? _ _=some (.int .i32 0):=(h).cell 5 (by omega)
 have y6:World.cell? _ _=some (.int .i32 0):=(h).cell 6 (by omega)
 have y7:World.cell? _ _=some (.int .i32 0):=(h).cell 7 (by omega)
 have y8:World.cell? _ _=some (.int .i64 0):=(h).cell 8 (by omega)
 have y10:World.cell? _ _=some (.int .i64 0):=(h).cell 10 (by omega)
 have y11:World.cell? _ _=some (.int .i64 0):=(h).cell 11 (by omega)
 have y12:World.cell? _ _=some (.int .i64 0):=(h).cell 12 (by omega)
 have y14:World.cell? _ _=some (.int .i32 2097152):=(h).cell 14 (by omega)
 have y15:World.cell? _ _=some (.int .i32 0):=(h).cell 15 (by omega)
 have y16:World.cell? _ _=some (.int .i32 0):=(h).cell 16 (by omega)
 have y17:World.cell? _ _=some (.int .i32 0):=(h).cell 17 (by omega)
 have y18:World.cell? _ _=some (.int .i64 32768):=(h).cell 18 (by omega)
 have y20:World.cell? _ _=some (.int .i64 0):=(h).cell 20 (by omega)
 have y21:World.cell? _ _=some (.int .i64 0):=(h).cell 21 (by omega)
 have y22:World.cell? _ _=some (.int .i64 0):=(h).cell 22 (by omega)
 go_enter Tryz.func324,Tryz.ntmps324
 go_wp2_with fail
 refine hS.out.mono ?_
 rintro e w1 ⟨rfl,h1,k1⟩
 have hM:=hid (sg_move1 h1)
 clear f4 f5 f6 f7 f8 f10 f11 f14 f15 f16 f17 f18 f20 f21 y4 y5 y6 y7 y8 y10 y11 y12 y14 y15 y16 y17 y18 y20 y21 y22 h1
 go_wp2_with fail
 refine hM.out.mono ?_
 rintro e w2 ⟨rfl,h2,k2⟩
 have H2:=hid h2
 clear h2
 go_wp2_with fail
 refine (gm_pressed0 16 (by decide) _).mono ?_
 rintro e _ ⟨rfl,rfl⟩
 go_wp2
 go_end0
 exact ⟨rfl,H2.out,k1.trans k2⟩
end
section
open Go.RowKit
set_option maxRecDepth 100000
variable {w w':World} {g pg:Nat} {seed fr:Int} {f:Nat}
theorem gm_touch (w:World):Calls Tryz.prog 351 #[.agg #[.int .i32 (-2097152),.int .i32 0],.int .i32 262144,.agg #[.int .i32 2097152,.int .i32 0],.int .i32 262144] w fun e w'=>e=.returned (.bool false)∧Below w.heap.size w w':=by
 have h:=sh_Touch (-2097152) 0 262144 2097152 0 262144 (by unfold isFix;omega) (by unfold isFix;omega) (by unfold isFix;omega) (by unfold isFix;omega) (by unfold isFix;omega) (by unfold isFix;omega) w
 rw[show nearI (subI 2097152 (-2097152)) (subI 0 0) (addI 262144 262144)=false by decide] at h
 exact h
theorem sg_clash (h:IsStage w g pg (standV seed f) fr):Calls Tryz.prog 325 #[.pointer (some ⟨g,0,none⟩)] w fun e w'=>e=.returned (.tuple #[])∧IsStage w' g pg (standV seed f) fr∧Keeps (fun j=>j=g) w w':=by
 have hT:=hid gm_touch
 go_enter Tryz.func325,Tryz.ntmps325
 go_wp2_with fail
 go_quiet (fail)
 have h1:=h.keep ((Keeps.refl _ w).drewN nq)
 have k1:=(Keeps.refl (fun j=>j=g) w).drewN nq
 generalize w.drewN nq=w1 at *
 clear h
 have q0:∀ y:HeldC (SgF w1.drew g pg seed f fr),_:=SgF.cell 4 (by omega) .i32 rfl (-2097152) rfl
 have q1:∀ y:HeldC (SgF w1.drew g pg seed f fr),_:=SgF.cell 5 (by omega) .i32 rfl 0 rfl
 have q2:∀ y:HeldC (SgF w1.drew g pg seed f fr),_:=SgF.cell 12 (by omega) .i64 rfl 0 rfl
 have q3:∀ y:HeldC (SgF w1.drew g pg seed f fr),_:=SgF.cell 14 (by omega) .i32 rfl 2097152 rfl
 have q4:∀ y:HeldC (SgF w1.drew g pg seed f fr),_:=SgF.cell 15 (by omega) .i32 rfl 0 rfl
 have q5:∀ y:HeldC (SgF w1.drew g pg seed f fr),_:=SgF.cell 22 (by omega) .i64 rfl 0 rfl
 have hS:SgF w1.drew g pg seed f fr w1.drew:=⟨h1.keep (Keeps.refl _ w1).drew,Keeps.refl _ _⟩
 go_wp2_with fail
 refine stages_start (by kernel_rfl) 24 rfl ?_
 refine ht_start (SgF w1.drew g pg seed f fr) [0,1,2,3,4,5,6,7,8,9,10,11,12,13,14,15,16,17,18,19,20,21,22,23] 0 24 rfl #[true,true,true,true,true,true,true,true,true,true,true,true,true,true,true,true,true,true,true,true,true,true,true,true] ?_
 have hne:Nonempty (HeldC (SgF w1.drew g pg seed f fr)):=⟨⟨_,hS⟩⟩
 refine ht_heads (m:=3) (hS) [0,1,2,3,4,5,6,7,8,9,10,11,12,13,14,15,16,17,18,19,20] 21 rfl #[true,true,true,true,true,true,true,true,true,true,true,true,true,true,true,true,true,true,true,true,true,false,false,false] (by kernel_rfl) (by kernel_rfl) (fun _ _ _ d _ h=>by first|(cases d<;>exact h)|cases h.1) ?_
 simp only[opsAt,List.map_cons,List.map_nil,List.getElem?_toArray,List.getElem?_cons_zero,List.getElem?_cons_succ,Option.getD_some]
 repeat (go_big_quiet_step (fail))
 refine wpQuiet_nil ?_
 clear hne
 refine ht_one (m:=2) 21 #[true,true,true,true,true,true,true,true,true,true,true,true,true,true,true,true,true,true,true,true,true,true,false,false] (by kernel_rfl) (by kernel_rfl) (by kernel_rfl) (by kernel_rfl) (by simp only[opAt,List.getElem?_toArray,List.getElem?_cons_zero,List.getElem?_cons_succ,Option.getD_some];first|rfl|simp[go_sem]) (fun K hK=>?_)
 simp only[opAt,List.getElem?_toArray,List.getElem?_cons_zero,List.getElem?_cons_succ,Option.getD_some]
 go_simp
 refine (hT.out _).mono ?_
 rintro e w2 ⟨rfl,hb2⟩
 have hS2:=hS.keep hb2
 refine hK _ _ (hS2) ?_
 clear hK K
 have hne:Nonempty (HeldC (SgF w1.drew g pg seed f fr)):=⟨⟨_,hS2⟩⟩
 refine ht_heads (m:=0) (hS2) [22,23] 2 rfl #[true,true,true,true,true,true,true,true,true,true,true,true,true,true,true,true,true,true,true,true,true,true,true,true] (by kernel_rfl) (by kernel_rfl) (fun _ _ _ d _ h=>by first|(cases d<;>exact h)|cases h.1) ?_
 simp only[opsAt,List.map_cons,List.map_nil,List.getElem?_toArray,List.getElem?_cons_zero,List.getElem?_cons_succ,Option.getD_some]
 repeat (go_big_quiet_step (fail))
 refine wpQuiet_nil ?_
 clear hne
 refine ht_nil (by kernel_rfl) ?_
 refine stages_end (by kernel_rfl) ?_
 go_wp2
 refine bodyPost_ret (v:=.tuple #[]) (by first|rfl|simp[results,go_sem]) rfl ?_
 exact ⟨rfl,hS2.st,k1.trans ((Keeps.refl (fun j=>j=g) w1).drew.trans hS2.kp)⟩
theorem sg_round (h:IsStage w g pg (standV seed f) fr) (hf:f≤500):Calls Tryz.prog 327 #[.pointer (some ⟨g,0,none⟩)] w fun e w'=>e=.returned (.tuple #[])∧IsStage w' g pg (updI (standV seed f) 3 (599-f)) fr∧Keeps (fun j=>j=g) w w':=by
 have f3:=h.free 3
 have y3:w.cell? ⟨g,3,none⟩=some (.int .i64 (600-(f:Int))):=h.cell 3 (by omega)
 have y13:w.cell? ⟨g,13,none⟩=some (.int .i64 0):=h.cell 13 (by omega)
 have y23:w.cell? ⟨g,23,none⟩=some (.int .i64 0):=h.cell 23 (by omega)
 have e1:(600:Int)-f-1=599-f:=by omega
 have hw:IntKind.i64.wrap (599-(f:Int))=599-(f:Int):=IntWalk.i64_in _ (by omega)
 have h1:=h.set 3 (by omega) .i64 rfl (599-(f:Int))
 have k1:=(Keeps.refl (fun j=>j=g) w).setCell (p:=⟨g,3,none⟩) rfl (.int .i64 (599-(f:Int)))
 have H1:=hid h1
 clear h h1
 have hpos:(0:Int)<599-f:=by omega
 go_enter Tryz.func327,Tryz.ntmps327
 go_wp2
 refine bodyPost_ret (v:=.tuple #[]) (by first|rfl|simp[results,go_sem]) rfl ?_
 exact ⟨rfl,H1.out,k1⟩
end
section
open Go.RowKit
set_option maxRecDepth 100000
variable {w w':World} {g pg:Nat} {seed fr:Int} {f:Nat}
theorem stand_right (seed:Int) (f:Nat) (hf:f≤500):rightS (standV seed f)=true:=by
 have h1:shosOk (standV seed f) 6=true:=by
  have:shosOk (standV seed f) 6=shosOk (fun _=>0) 6:=rfl
  rw[this];decide
 have h2:plyAt (standV seed f) 4=true:=by
  have:plyAt (standV seed f) 4=plyOk 0 3 0 0 0 0 (-2097152) 0:=rfl
  rw[this];decide
 have h3:plyAt (standV seed f) 14=true:=by
  have:plyAt (standV seed f) 14=plyOk 32768 3 0 0 0 0 2097152 0:=rfl
  rw[this];decide
 have h4:inR (standV seed f 0) 0 1073741824=true:=by
  show inR (f:Int) 0 1073741824=true
  simp[inR];omega
 have h5:inR (standV seed f 2) 0 1073741824=true:=by
  show inR 0 0 1073741824=true
  decide
 have h6:inR (standV seed f 3) 1 600=true:=by
  show inR (600-(f:Int)) 1 600=true
  simp[inR];omega
 unfold rightS
 rw[h1,h2,h3,h4,h5,h6]
 rfl
theorem stand_next (seed:Int) (f:Nat):updI (updI (standV seed f) 3 (599-f)) 0 (f+1)=standV seed (f+1):=by
 funext j
 unfold updI standV
 by_cases h0:j=0
 ·subst h0;simp
 ·by_cases h3:j=3
  ·subst h3;simp;omega
  ·simp[h0,h3]
theorem run_build_stage (v:Nat→Int) (pg:Nat) (w:World):(Instr.build 458 #[(0,.agg (mkC v)),(1,.pointer (some ⟨pg,0,none⟩))]).run Tryz.prog w=.ok (.agg (sgC v pg)) w:=by kernel_rfl
theorem stage_load {v:Nat→Int} {pg g:Nat} {W:World} (h:IsStage W g pg v fr):(Instr.loadAt 99 (.pointer (some ⟨g,0,none⟩))).run Tryz.prog W=.ok (.agg (mkC v)) W:=
 run_load_agg 99 60 g 0 (mkC v) (sgC v pg) _ Tryz.isAgg99 Tryz.sizeOf99 (mkC_size v) h.blk (fun j u hj=>by
  have hl:j<60:=by
   have:=(Array.getElem?_eq_some_iff.1 hj).1
   rwa [mkC_size] at this
  rw[Nat.zero_add,sgC_at v pg j hl,←mkC_get v hl]
  exact hj)
structure StpI (w:World) (g pg:Nat) (v:Nat→Int) (fr:Int) (wr:World):Prop where
 st:IsStage wr g pg v fr
 inp:wr.heap[w.heap.size+1]?=some (.cells #[.int .u8 0,.int .u8 0] 101 (0,0))
 res:wr.heap[w.heap.size+1+1]?=some (.cells (mkC zeroV) 99 (0,0))
 kp:Keeps (fun _=>False) w wr
 gb:w.heap.size+1+1<g
theorem StpI.turn {v v':Nat→Int} {a b:World} (h:StpI w g pg v fr a) (hs:IsStage b g pg v' fr) (hk:Keeps (fun j=>j=g) a b):StpI w g pg v' fr b:=
 ⟨hs,hk.heap h.inp (by have:=h.gb;omega),hk.heap h.res (by have:=h.gb;omega),keeps_past h.kp hk (fun k hk' e=>by have:=h.gb;omega),h.gb⟩
theorem kind_owner (k:Nat) (hk:k<6):kindAt (28+6*k)=.i64:=by
 match k,hk with
 | 0,_=>rfl
 | 1,_=>rfl
 | 2,_=>rfl
 | 3,_=>rfl
 | 4,_=>rfl
 | 5,_=>rfl
theorem stand_owner (seed:Int) (f k:Nat) (hk:k<6):standV seed f (28+6*k)=0:=by
 match k,hk with
 | 0,_=>rfl
 | 1,_=>rfl
 | 2,_=>rfl
 | 3,_=>rfl
 | 4,_=>rfl
 | 5,_=>rfl
set_option maxHeartbeats 2000000 in
theorem gm_Step0 (seed:Int) (f:Nat) (hf:f≤500) (w:World):Calls Tryz.prog 285 #[.agg (mkC (standV seed f)),.agg #[.int .u8 0,.int .u8 0]] w fun e w'=>
  e=.returned (.tuple #[.agg (mkC (standV seed (f+1))),.slice none 0 0,.int .i64 0])∧Below w.heap.size w w':=by
 have hR:=hid (gm_Right (standV seed f))
 rw[stand_right seed f hf] at hR
 have hO:=hid (ev_Open (f:Int) (by omega))
 have hB0:=blk_alloc (blk_new w (.cells (mkC (standV seed f)) 99)) (.cells #[.int .u8 0,.int .u8 0] 101)
 have hB1:=blk_new (w.alloc (.cells (mkC (standV seed f)) 99)) (.cells #[.int .u8 0,.int .u8 0] 101)
 rw[World.size_alloc] at hB1
 have hal:=run_alloc_st ((w.alloc (.cells (mkC (standV seed f)) 99)).alloc (.cells #[.int .u8 0,.int .u8 0] 101))
 simp only[World.size_alloc] at hal
 have hB2:=blk_new ((w.alloc (.cells (mkC (standV seed f)) 99)).alloc (.cells #[.int .u8 0,.int .u8 0] 101)) (.cells (mkC zeroV) 99)
 simp only[World.size_alloc] at hB2
 have hB0:=blk_alloc hB0 (.cells (mkC zeroV) 99)
 have hB1:=blk_alloc hB1 (.cells (mkC zeroV) 99)
 have k0:=(((Keeps.refl (fun _=>False) w).alloc (.cells (mkC (standV seed f)) 99)).alloc (.cells #[.int .u8 0,.int .u8 0] 101)).alloc (.cells (mkC zeroV) 99)
 have hld:=load_st hB0
 have HB0:=hid hB0
 have HB1:=hid hB1
 have HB2:=hid hB2
 clear hB0 hB1 hB2
 have hv0:standV seed f 0=f:=rfl
 have Hv0:=hid hv0
 clear hv0
 generalize hv:standV seed f=v at *
 have Hv:=hid hv
 clear hv
 go_enter Tryz.func285,Tryz.ntmps285
 go_wp2_with (first|(refine wpList_run_alloc hal rfl rfl ?_)|(refine wpList_run_load hld rfl rfl rfl ?_)|fail)
 generalize ((w.alloc (.cells (mkC v) 99)).alloc (.cells #[.int .u8 0,.int .u8 0] 101)).alloc (.cells (mkC zeroV) 99)=w0 at *
 refine (hR.out _).mono ?_
 rintro e w1 ⟨rfl,hb1⟩
 have k1:=(Keeps.refl (fun _=>False) w0).then_below hb1
 have k01:=k0.trans k1
 have hB0:=k1.heap HB0.out id
 have hB1:=k1.heap HB1.out id
 have hB2:=k1.heap HB2.out id
 clear HB0 HB1 HB2 k0 k1 hb1 hal hld
 have c0:w1.cell? ⟨w.heap.size,0,none⟩=some (.int .i64 (f:Int)):=by
  rw[←Hv0.out]
  exact blk_cell hB0 (mkC_get v (by omega))
 obtain ⟨i0,i1⟩:=bc2 0 1 hB1 ⟨rfl,rfl⟩
 have hne:((f:Int) == 1073741824)=false:=by rw[beq_eq_false_iff_ne];omega
 go_wp2_with fail
 refine (hO.out _).mono ?_
 rintro e w2 ⟨rfl,hw2⟩
 have hk2:Keeps (fun _=>False) w1 w2:=by rw[←hw2];exact (Keeps.refl _ w1).alloc _
 have hpg:w2.heap[w1.heap.size]?=some (.cells #[.int .i64 (f:Int),.slice none 0 0] 476 (0,0)):=by rw[←hw2];exact blk_new w1 _
 have hs2:w2.heap.size=w1.heap.size+1:=by rw[←hw2];simp
 have hlt1:=blk_lt hB2
 have hld2:=load_st (hk2.heap hB0 id)
 have hbd:=run_build_stage v w1.heap.size
 have hI:StpI w w2.heap.size w1.heap.size v f (w2.alloc (.cells (sgC v w1.heap.size) 458)):=
  ⟨⟨blk_new w2 _,blk_alloc hpg _,by omega⟩,blk_alloc (hk2.heap hB1 id) _,blk_alloc (hk2.heap hB2 id) _,(k01.trans hk2).alloc _,by omega⟩
 have HI:=hid hI
 clear hI hB0 hB1 hB2 c0 i0 i1 hpg hs2 hlt1 hk2 k01 hw2
 simp only
 go_wp2_with (first|(refine wpList_run_load hld2 rfl rfl rfl ?_)|(refine wpList_run_build2 (hbd _) rfl rfl rfl rfl ?_)|fail)
 clear hld2 hbd
 generalize w2.alloc (.cells (sgC v w1.heap.size) 458)=w3 at *
 generalize w2.heap.size=gg at *
 generalize w1.heap.size=pp at *
 go_loopg [47] 2 (fun gk i wr=>∃ k:Nat,gk=2-k∧k≤2∧i=.int .i64 k∧StpI w gg pp v f wr)
 case atStart=>exact ⟨0,rfl,by omega,rfl,HI.out⟩
 case round=>
  obtain ⟨k,hg,hk,rfl,hC⟩:=hrel
  clear HI
  obtain ⟨i0,i1⟩:=bc2 0 1 hC.inp ⟨rfl,rfl⟩
  by_cases hlt:k<2
  ·have hk01:k=0∨k=1:=by omega
   have hS:=hC.st
   rw[←Hv.out] at hS
   rcases hk01 with rfl|rfl
   ·have hP:=hid (sg_play0 hS)
    go_wp2_with fail
    refine hP.out.mono ?_
    rintro e w4 ⟨rfl,h4,k4⟩
    rw[Hv.out] at h4
    have hC4:=hC.turn h4 k4
    clear hS hP h4 k4 hC i0 i1
    go_wp2_with fail
    go_roundg 1
    case rel=>exact ⟨1,rfl,by omega,by go_num,hC4⟩
    case measure=>omega
   ·have hP:=hid (sg_play1 hS)
    go_wp2_with fail
    refine hP.out.mono ?_
    rintro e w4 ⟨rfl,h4,k4⟩
    rw[Hv.out] at h4
    have hC4:=hC.turn h4 k4
    clear hS hP h4 k4 hC i0 i1
    go_wp2_with fail
    go_roundg 0
    case rel=>exact ⟨2,rfl,by omega,by go_num,hC4⟩
    case measure=>omega
  ·obtain rfl:k=2:=by omega
   have hS:=hC.st
   rw[←Hv.out] at hS
   have hP:=hid (sg_clash hS)
   clear i0 i1
   go_wp2_with fail
   refine hP.out.mono ?_
   rintro e w4 ⟨rfl,h4,k4⟩
   rw[Hv.out] at h4
   have hC4:=hC.turn h4 k4
   clear hS hP h4 k4 hC
   go_wp2_with fail
   go_loopg [59] 6 (fun gk i wr=>∃ k:Nat,gk=6-k∧k≤6∧i=.int .i64 k∧StpI w gg pp v f wr)
   case atStart=>exact ⟨0,rfl,by omega,rfl,hC4⟩
   case round=>
    obtain ⟨k,hg,hk,rfl,hC⟩:=hrel
    clear hC4
    by_cases hlt:k<6
    ·have hcl:=hC.st.cell (28+6*k) (by omega)
     rw[kind_owner k hlt,←Hv.out,stand_owner seed f k hlt] at hcl
     have hc2:wr.cell? ⟨gg,24+k*6+4,none⟩=some (.int .i64 0):=by
      rw[show 24+k*6+4=28+6*k by omega]
      exact hcl
     clear hcl
     go_wp2_with fail
     go_roundg (6-(k+1))
     case rel=>exact ⟨k+1,rfl,by omega,by go_num,hC⟩
     case measure=>omega
    ·obtain rfl:k=6:=by omega
     have hS:=hC.st
     rw[←Hv.out] at hS
     have hP:=hid (sg_round hS hf)
     go_wp2_with fail
     refine hP.out.mono ?_
     rintro e w5 ⟨rfl,h5,k5⟩
     have hC5:=hC.turn h5 k5
     clear hS hP h5 k5 hC
     have hS5:=hC5.st
     have y0:w5.cell? ⟨gg,0,none⟩=some (.int .i64 (f:Int)):=hS5.cell 0 (by omega)
     have g0:=hS5.free 0
     have hS6:=hS5.set 0 (by omega) .i64 rfl ((f:Int)+1)
     rw[stand_next] at hS6
     have hw:IntKind.i64.wrap ((f:Int)+1)=(f:Int)+1:=IntWalk.i64_in _ (by omega)
     have hC6:=hC5.turn hS6 ((Keeps.refl (fun j=>j=gg) w5).setCell (p:=⟨gg,0,none⟩) rfl _)
     have HC6:=hid hC6
     clear hS5 hS6 hC5 hC6
     go_wp2_with fail
     generalize w5.setCell ⟨gg,0,none⟩ (.int .i64 ((f:Int)+1))=w6 at *
     have hC6:=HC6.out
     clear HC6 y0 g0 hw
     generalize hvn:standV seed (f+1)=vn at *
     have Hvn:=hid hvn
     clear hvn
     have l0:∀ W,(∃ x:HeldC (fun W=>IsStage W gg pp vn (f:Int)),W=x.to)→(Instr.loadAt 99 (.pointer (some ⟨gg,0,none⟩))).run Tryz.prog W=.ok (.agg (mkC vn)) W:=by
      rintro W ⟨x,rfl⟩
      exact stage_load x.held
     have hL:=hid (pg_List (w:=w6.drew) hC6.st.page)
     have hF:IsStage w6.drew gg pp vn (f:Int):=hC6.st.keep (Keeps.refl _ w6).drew
     obtain ⟨hst,hload,hkf⟩:=store_all w6.drew 99 60 (w.heap.size+1+1) (mkC vn) _ Tryz.sizeOf99 (mkC_size _) (mkC_size _) hC6.res (List.all_eq_true.2 (mkC_one vn))
     have hgb:=hC6.gb
     have hlp:=hC6.st.page
     have hF2:IsStage (w6.drew.setRow (w.heap.size+1+1) (mkC vn)) gg pp vn (f:Int):=hF.keeps hkf (by omega) (fun e=>by
      have h1:=hC6.res
      rw[e] at hlp
      rw[hlp] at h1
      simp at h1)
     have hfin:=keeps_past (S:=fun _=>False) ((hC6.kp.trans (Keeps.refl _ w6).drew)) hkf (fun k hk e=>by omega)
     have Hfin:=hid hfin
     clear hfin hlp
     refine stages_start (by kernel_rfl) 9 rfl ?_
     refine ht_start (fun W=>IsStage W gg pp vn (f:Int)) [0,1,2,3,4,5,6,7,8] 0 9 rfl #[true,true,true,true,true,true,true,true,true] ?_
     have hne:Nonempty (HeldC (fun W=>IsStage W gg pp vn (f:Int))):=⟨⟨_,hF⟩⟩
     refine ht_heads (m:=4) (hF) [0,1,2,3,4] 5 rfl #[true,true,true,true,true,false,false,false,false] (by kernel_rfl) (by kernel_rfl) (fun _ _ _ d _ h=>by first|(cases d<;>exact h)|cases h.1) ?_
     simp only[opsAt,List.map_cons,List.map_nil,List.getElem?_toArray,List.getElem?_cons_zero,List.getElem?_cons_succ,Option.getD_some]
     repeat (first|(refine wpQuiet_run_load l0 rfl rfl rfl ?_;simp only[Act.put,List.setIfInBounds_toArray,List.set_cons_succ,List.set_cons_zero])|go_big_quiet_step (fail))
     refine wpQuiet_nil ?_
     clear hne
     refine ht_one (m:=3) 5 #[true,true,true,true,true,true,false,false,false] (by kernel_rfl) (by kernel_rfl) (by kernel_rfl) (by kernel_rfl) (by simp only[opAt,List.getElem?_toArray,List.getElem?_cons_zero,List.getElem?_cons_succ,Option.getD_some];first|rfl|simp[go_sem]) (fun K hK=>?_)
     simp only[opAt,List.getElem?_toArray,List.getElem?_cons_zero,List.getElem?_cons_succ,Option.getD_some]
     go_simp
     refine hL.out.mono ?_
     rintro e _ ⟨rfl,rfl⟩
     refine hK _ _ (hF) ?_
     clear hK K
     refine ht_one (m:=2) 6 #[true,true,true,true,true,true,true,false,false] (by kernel_rfl) (by kernel_rfl) (by kernel_rfl) (by kernel_rfl) (by simp only[opAt,List.getElem?_toArray,List.getElem?_cons_zero,List.getElem?_cons_succ,Option.getD_some];first|rfl|simp[go_sem]) (fun K hK=>?_)
     simp only[opAt,List.getElem?_toArray,List.getElem?_cons_zero,List.getElem?_cons_succ,Option.getD_some]
     refine wp_run_store rfl rfl rfl hst ?_
     refine hK _ _ (hF2) ?_
     clear hK K
     simp only[Act.put]
     refine ht_one (m:=1) 7 #[true,true,true,true,true,true,true,true,false] (by kernel_rfl) (by kernel_rfl) (by kernel_rfl) (by kernel_rfl) (by simp only[opAt,List.getElem?_toArray,List.getElem?_cons_zero,List.getElem?_cons_succ,Option.getD_some];first|rfl|simp[go_sem]) (fun K hK=>?_)
     simp only[opAt,List.getElem?_toArray,List.getElem?_cons_zero,List.getElem?_cons_succ,Option.getD_some]
     go_simp
     refine hK _ _ (hF2) ?_
     clear hK K
     refine ht_one (m:=0) 8 #[true,true,true,true,true,true,true,true,true] (by kernel_rfl) (by kernel_rfl) (by kernel_rfl) (by kernel_rfl) (by simp only[opAt,List.getElem?_toArray,List.getElem?_cons_zero,List.getElem?_cons_succ,Option.getD_some];first|rfl|simp[go_sem]) (fun K hK=>?_)
     simp only[opAt,List.getElem?_toArray,List.getElem?_cons_zero,List.getElem?_cons_succ,Option.getD_some]
     go_simp
     refine hK _ _ (hF2) ?_
     clear hK K
     refine ht_nil (by kernel_rfl) ?_
     refine stages_end (by kernel_rfl) ?_
     go_wp2
     refine bodyPost_ret (v:=.tuple #[.agg (mkC vn),.slice none 0 0,.int .i64 0]) (by simp[results,Tryz.results285,asAddr,loadVar,loadCells,Tryz.isAgg99,Tryz.sizeOf99,hload]) rfl ?_
     exact ⟨by rw[Hvn.out],Hfin.out.below (Nat.le_refl _) (fun k h1 h2=>h2)⟩
end
section
open Go.RowKit
set_option maxRecDepth 100000
variable {w w':World} {b:CoB} {x:Co}
def takeFd (y:Fd) (n:Nat):Fd:={ y with U:=takeU y.first y.U n (takeV y.K n y.last) }
def usedN (x:Co) (n j:Nat):Co:={ x with f:=fun i=>if i<j then takeFd (x.f i) n else x.f i }
theorem usedN_zero (x:Co) (n:Nat):usedN x n 0=x:=by simp[usedN]
theorem usedN_next (x:Co) (n j:Nat):{ usedN x n j with f:=setF (usedN x n j).f j (takeFd (x.f j) n) }=usedN x n (j+1):=by
 unfold usedN setF
 simp only[Co.mk.injEq,true_and,and_true]
 funext i
 by_cases e:i=j
 ·subst e;simp
 ·by_cases e2:i<j
  ·rw[if_neg e,if_pos e2,if_pos (by omega)]
  ·rw[if_neg e,if_neg e2,if_neg (by omega)]
structure PlyI (w:World) (b:CoB) (x:Co) (v:Nat→Int) (s8 s6:Nat) (wr:World):Prop where
 co:IsCore wr b x
 pg:wr.heap[w.heap.size]?=some (.cells #[.int .i64 0,.slice none 0 0] 271 (0,0))
 st:wr.heap[s6]?=some (.cells (mkC v) 99 (0,0))
 inp:wr.heap[s8]?=some (.cells #[.int .u8 0,.int .u8 0] 101 (0,0))
 kp:Keeps b.S w wr
 l6:w.heap.size<s6
 l8:w.heap.size<s8
 ne:s6≠s8
theorem PlyI.turn {v:Nat→Int} {s8 s6:Nat} {wr w2:World} {x':Co} (hlt:∀ j,b.S j→j<w.heap.size) (h:PlyI w b x v s8 s6 wr) (hx:IsCore w2 b x') (hk:Keeps b.S wr w2):PlyI w b x' v s8 s6 w2:=
 ⟨hx,hk.heap h.pg (fun e=>by have:=hlt _ e;omega),hk.heap h.st (fun e=>by have:=hlt _ e;have:=h.l6;omega),hk.heap h.inp (fun e=>by have:=hlt _ e;have:=h.l8;omega),h.kp.trans hk,h.l6,h.l8,h.ne⟩
theorem PlyI.setIn {v:Nat→Int} {s8 s6:Nat} {wr:World} (hlt:∀ j,b.S j→j<w.heap.size) (h:PlyI w b x v s8 s6 wr) (k:Nat) (hk:k<2):PlyI w b x v s8 s6 (wr.setCell ⟨s8,k,none⟩ (.int .u8 0)):=by
 have hs:=(Keeps.refl (fun j=>j=s8) wr).setCell (p:=⟨s8,k,none⟩) rfl (.int .u8 0)
 have h8:=h.l8
 refine ⟨h.co.keeps hs (fun j hj e=>by have:=hlt _ hj;omega),hs.heap h.pg (by omega),hs.heap h.st (by have:=h.ne;omega),?_,keeps_past h.kp hs (fun j hj e=>by omega),h.l6,h.l8,h.ne⟩
 rw[blk_set h.inp]
 match k,hk with
 | 0,_=>rfl
 | 1,_=>rfl
set_option maxHeartbeats 2000000 in
theorem co_play (h:IsCore w b x) (n:Nat) (seed:Int) (hL:lookI x.L (n:Int)=some (standV seed n)) (hn:n≤400) (hv:∀ j,j<2→takeV (x.f j).K n (x.f j).last=0) (hfi:∀ j,j<2→(x.f j).first≤n) (hin:inW x.sf 81 ((n+1:Nat):Int)) :
  Calls Tryz.prog 218 #[.pointer (some ⟨b.c,0,none⟩),.int .i64 (n:Int)] w fun e w'=>e=.returned (.tuple #[.agg #[.int .i64 (n:Int),.slice none 0 0],.int .i64 0])∧
   IsCore w' b { usedN x n 2 with L:=putL x.L (n+1) (standV seed (n+1)) }∧Keeps b.S w w':=by
 have hlt:∀ j,b.S j→j<w.heap.size:=fun j hj=>h.lt hj
 have k0:=(Keeps.refl (fun _=>False) w).alloc (.cells #[.int .i64 0,.slice none 0 0] 271)
 have hp0:=blk_new w (.cells #[.int .i64 0,.slice none 0 0] 271)
 have hs0:(w.alloc (.cells #[.int .i64 0,.slice none 0 0] 271)).heap.size=w.heap.size+1:=by simp
 have h0:=h.keep k0
 have hG:=hid (s_is_Get h0.st (n:Int) (by omega))
 rw[hL] at hG
 simp only[Option.getD_some,Option.isSome_some] at hG
 have y6:=h0.c6
 have ix0:=feeds_ix0
 have ix1:=feeds_ix1
 have hSt:=hid (gm_Step0 seed n (by omega))
 have H0:=hid h0
 have Hlt:=hid hlt
 have Hv:=hid hv
 have Hfi:=hid hfi
 clear h h0 hL hlt hv hfi
 have hw1:IntKind.i64.wrap ((n:Int)+1)=((n+1:Nat):Int):=by rw[show ((n+1:Nat):Int)=(n:Int)+1 by omega];exact IntWalk.i64_in _ (by omega)
 generalize standV seed n=v at *
 generalize standV seed (n+1)=vn at *
 go_enter Tryz.func218,Tryz.ntmps218
 go_wp2_with fail
 generalize w.alloc (.cells #[.int .i64 0,.slice none 0 0] 271)=w0 at *
 refine hG.out.mono ?_
 rintro e w1 ⟨rfl,hk1⟩
 have hal:=run_alloc_st w1
 have hZ:=blk_new w1 (.cells (mkC zeroV) 99)
 obtain ⟨hst,_,hk2⟩:=store_all (w1.alloc (.cells (mkC zeroV) 99)) 99 60 w1.heap.size (mkC v) _ Tryz.sizeOf99 (mkC_size _) (mkC_size _) hZ (List.all_eq_true.2 (mkC_one v))
 have hS:=setRow_at _ w1.heap.size _ (mkC v) 99 hZ
 have hl1:=hk1.size
 have k2:Keeps (fun j=>j=w1.heap.size) w1 ((w1.alloc (.cells (mkC zeroV) 99)).setRow w1.heap.size (mkC v)):=((Keeps.refl _ w1).alloc _).trans hk2
 have hp2:=k2.heap (hk1.heap hp0 id) (by omega)
 have kf:=keeps_past (k0.trans hk1) k2 (fun k hk e=>by omega)
 have h2:=(H0.out.keep hk1).keeps k2 (fun j hj e=>by have:=Hlt.out j hj;omega)
 have hI:PlyI w b (usedN x n 0) v ((w1.alloc (.cells (mkC zeroV) 99)).setRow w1.heap.size (mkC v)).heap.size w1.heap.size (((w1.alloc (.cells (mkC zeroV) 99)).setRow w1.heap.size (mkC v)).alloc (.cells #[.int .u8 0,.int .u8 0] 101)):=
  ⟨by rw[usedN_zero];exact h2.keep ((Keeps.refl _ _).alloc _),blk_alloc hp2 _,blk_alloc hS _,blk_new _ _,keeps_any (kf.alloc _),by omega,by have:=kf.size;have:=blk_lt hS;omega,by have:=blk_lt hS;omega⟩
 have z4:=h2.cD (k:=0) (by omega)
 have z5:=h2.cD (k:=1) (by omega)
 have hbl:=blk_lt h2.head
 have HI:=hid hI
 clear hI h2 kf hp2 k2 hS hk2 hZ hp0 k0 H0 hG y6 hk1
 generalize (w1.alloc (.cells (mkC zeroV) 99)).setRow w1.heap.size (mkC v)=w2 at *
 go_wp2_with (first|(refine wpList_run_alloc hal rfl rfl ?_)|(refine wpList_run_store hst rfl rfl rfl rfl ?_)|fail)
 clear z4 z5 hbl hal hst
 generalize w2.heap.size=s8 at *
 generalize w2.alloc (.cells #[.int .u8 0,.int .u8 0] 101)=w3 at *
 generalize w1.heap.size=s6 at *
 go_loopg [31] 2 (fun g i wr=>∃ j:Nat,g=2-j∧j≤2∧i=.int .i64 j∧PlyI w b (usedN x n j) v s8 s6 wr)
 case atStart=>exact ⟨0,rfl,by omega,rfl,HI.out⟩
 case round=>
  obtain ⟨j,hg,hj,rfl,hC⟩:=hrel
  clear HI
  by_cases hlt:j<2
  ·have hfj:(usedN x n j).f j=x.f j:=by simp[usedN]
   have hfd:=hC.co.fd j hlt
   rw[hfj] at hfd
   have hTk:=hid (feed_Take hfd n (n:Int) rfl ⟨Hfi.out j hlt,by omega⟩)
   rw[Hv.out j hlt] at hTk
   have hnx:(x.f j).next≤1000000:=by have:=hC.co.nx j hlt;rwa [hfj] at this
   clear hfj hfd
   have hk01:j=0∨j=1:=by omega
   rcases hk01 with rfl|rfl
   ·go_wp2_with fail
    refine hTk.out.mono ?_
    rintro e w4 ⟨rfl,hF,hk4⟩
    have hfin:=hC.co.feed hlt (y:=takeFd (x.f 0) n) (by unfold takeFd;rw[Hv.out 0 hlt];exact hF) hk4 hnx
    rw[usedN_next] at hfin
    have hC4:=hC.turn Hlt.out hfin (hk4.mono fun j _ hj=>feeds_S hlt hj)
    clear hF hk4 hfin hC hTk
    have i0:=blk_cell (k:=0) hC4.inp rfl
    have g0:=blk_free hC4.inp 0
    have hC5:=hC4.setIn Hlt.out 0 (by omega)
    clear hC4
    simp only
    go_wp2_with fail
    go_roundg 1
    case rel=>exact ⟨1,rfl,by omega,by go_num,hC5⟩
    case measure=>omega
   ·go_wp2_with fail
    refine hTk.out.mono ?_
    rintro e w4 ⟨rfl,hF,hk4⟩
    have hfin:=hC.co.feed hlt (y:=takeFd (x.f 1) n) (by unfold takeFd;rw[Hv.out 1 hlt];exact hF) hk4 hnx
    rw[usedN_next] at hfin
    have hC4:=hC.turn Hlt.out hfin (hk4.mono fun j _ hj=>feeds_S hlt hj)
    clear hF hk4 hfin hC hTk
    have i0:=blk_cell (k:=1) hC4.inp rfl
    have g0:=blk_free hC4.inp 1
    have hC5:=hC4.setIn Hlt.out 1 (by omega)
    clear hC4
    simp only
    go_wp2_with fail
    go_roundg 0
    case rel=>exact ⟨2,rfl,by omega,by go_num,hC5⟩
    case measure=>omega
  ·obtain rfl:j=2:=by omega
   have hld:=load_st hC.st
   obtain ⟨i0,i1⟩:=bc2 0 1 hC.inp ⟨rfl,rfl⟩
   go_wp2_with (first|(refine wpList_run_load hld rfl rfl rfl ?_)|fail)
   refine (hSt.out _).mono ?_
   rintro e w4 ⟨rfl,hb4⟩
   have k4:=(Keeps.refl (fun _=>False) wr).then_below hb4
   have hC4:=hC.turn Hlt.out (hC.co.keep k4) (keeps_any k4)
   have hal:=run_alloc_st w4
   have hZ:=blk_new w4 (.cells (mkC zeroV) 99)
   obtain ⟨hst,_,hk5⟩:=store_all (w4.alloc (.cells (mkC zeroV) 99)) 99 60 w4.heap.size (mkC vn) _ Tryz.sizeOf99 (mkC_size _) (mkC_size _) hZ (List.all_eq_true.2 (mkC_one vn))
   have hS:=setRow_at _ w4.heap.size _ (mkC vn) 99 hZ
   have k5:Keeps (fun j=>j=w4.heap.size) w4 ((w4.alloc (.cells (mkC zeroV) 99)).setRow w4.heap.size (mkC vn)):=((Keeps.refl _ w4).alloc _).trans hk5
   have h5:=hC4.co.keeps k5 (fun j hj e=>by have:=hC4.co.lt hj;omega)
   have hp5:=k5.heap hC4.pg (by have:=blk_lt hC4.pg;omega)
   have kf:=hC4.kp.trans ((keeps_past (Keeps.refl b.S w4) k5 (fun k hk e=>by omega)))
   have hns:∀ j,b.S j→j≠w4.heap.size:=fun j hj=>by have:=hC4.co.lt hj;omega
   have hrr:w.heap.size≠w4.heap.size:=by have:=blk_lt hC4.pg;omega
   clear hC hC4 hb4 k4 hZ hk5 k5 hld i0 i1
   simp only
   go_wp2_with (first|(refine wpList_run_alloc hal rfl rfl ?_)|(refine wpList_run_store hst rfl rfl rfl rfl ?_)|fail)
   clear hal hst
   generalize (w4.alloc (.cells (mkC zeroV) 99)).setRow w4.heap.size (mkC vn)=w5 at *
   have hok:=h5.ok
   have hBs:=hns b.B (.inr (.inr (.inr (.inr rfl))))
   have hBl:=Hlt.out b.B (.inr (.inr (.inr (.inr rfl))))
   have q6:∀ x:KeptS (fun j=>j=b.B) w5.drew,_:=keptS_cell (S:=fun j=>j=b.B) (w:=w5.drew) h5.c6 hok.cB
   have l0:∀ W,(∃ x:KeptS (fun j=>j=b.B) w5.drew,W=x.to)→(Instr.loadAt 99 (.pointer (some ⟨w4.heap.size,0,none⟩))).run Tryz.prog W=.ok (.agg (mkC vn)) W:=by
    rintro W ⟨x,rfl⟩
    exact load_st (x.keeps.heap (a:=w5.drew) hS (fun e=>hBs e.symm))
   have h5d:=h5.keep (Keeps.refl _ w5).drew
   have hP:=hid (s_is_Put h5d.st (n+1) ((n+1:Nat):Int) rfl hin vn)
   refine stages_start (by kernel_rfl) 9 rfl ?_
   refine stagek (fun j=>j=b.B) [0,1,2,3,4,5,6] [7,8] 0 rfl #[true,true,true,true,true,true,true,true,true] (by kernel_rfl) (by kernel_rfl) (fun _ _ _ d _ h=>by first|(cases d<;>exact h)|cases h.1) ?_
   simp only[opsAt,List.map_cons,List.map_nil,List.getElem?_toArray,List.getElem?_cons_zero,List.getElem?_cons_succ,Option.getD_some]
   repeat (first|(refine wpQuiet_run_load l0 rfl rfl rfl ?_;simp only[Act.put,List.setIfInBounds_toArray,List.set_cons_succ,List.set_cons_zero])|go_big_quiet_step (fail))
   refine wpQuiet_nil ?_
   refine links_cons (by first|rfl|simp[go_sem]) (fun K hK=>?_)
   go_simp
   refine hP.out.mono ?_
   rintro e w6 ⟨rfl,hW,k6⟩
   refine hK _ _ (keptS (k6)) ?_
   clear hK K
   try refine links_nil ?_
   refine links_cons (by first|rfl|simp[go_sem]) (fun K hK=>?_)
   go_simp
   refine hK _ _ (keptS (k6)) ?_
   clear hK K
   try refine links_nil ?_
   refine stages_end (by kernel_rfl) ?_
   have hfin:=h5d.win hW (k6.mono fun _ _ e=>.inr e)
   have hp6:=k6.heap (a:=w5.drew) hp5 (by omega)
   have kk:=(kf.trans ((Keeps.refl (fun _=>False) w5).drew.mono fun _ _ x=>x.elim)).trans (k6.mono (T:=b.S) fun _ _ e=>.inr (.inr (.inr (.inr e))))
   obtain ⟨g0,g1⟩:=bf2 hp6 0 1
   obtain ⟨c0,c1⟩:=bc2 0 1 hp6 ⟨rfl,rfl⟩
   have hpf:=blk_two hp6 (.int .i64 (n:Int)) (.slice none 0 0)
   have kz:=((Keeps.refl (fun j=>j=w.heap.size) w6).setCell (p:=⟨w.heap.size,0,none⟩) rfl (.int .i64 (n:Int))).setCell (p:=⟨w.heap.size,1,none⟩) rfl (.slice none 0 0)
   have hff:=hfin.keeps kz (fun j hj e=>by have:=Hlt.out j hj;omega)
   have kfin:=keeps_past kk kz (fun j hj e=>by omega)
   have Hff:=hid hff
   clear hfin hff hW k6 h5d h5 q6 l0 hp5 hp6 kk kf kz hok
   go_wp2
   have hload:=box_load2 hpf
   refine bodyPost_ret (v:=.tuple #[.agg #[.int .i64 (n:Int),.slice none 0 0],.int .i64 0]) (by simp[results,Tryz.results218,asAddr,loadVar,loadCells,Tryz.isAgg271,Tryz.sizeOf271,hload]) rfl ?_
   exact ⟨rfl,Hff.out,kfin⟩
end
section
open Go.RowKit
set_option maxRecDepth 100000
variable {w w':World} {b:CoB} {x:Co}
def stepC (x:Co) (seed:Int):Co:={ usedN x x.now 2 with L:=putL x.L (x.now+1) (standV seed (x.now+1)),now:=x.now+1 }
theorem IsCore.setNow (h:IsCore w b x) (n:Nat) (hn:n≤1000000):IsCore (w.setCell ⟨b.c,7,none⟩ (.int .i64 (n:Int))) b { x with now:=n }:=by
 have ok:=h.ok
 have hk:=(Keeps.refl (fun j=>j=b.c) w).setCell (p:=⟨b.c,7,none⟩) rfl (.int .i64 (n:Int))
 have o3:=ok.c0
 have o4:=ok.c1
 refine ⟨by simpa using blk_set h.head 7 (.int .i64 (n:Int)),fun i hi=>IsFeed.keeps (h.fd i hi) hk fun j h1 h2 h3=>?_,h.st.keeps hk (fun e=>ok.cr e.symm) (fun e=>ok.cB e.symm),ok,h.me,hn,h.nx,h.wn⟩
 have:i=0∨i=1:=by omega
 rcases this with rfl|rfl<;>omega
set_option maxHeartbeats 1000000 in
theorem co_Step (h:IsCore w b x) (seed:Int) (hno:wrongF x=none) (hfu:fullF x=false) (hmn:x.now<(x.f x.me).next) (hL:lookI x.L (x.now:Int)=some (standV seed x.now)) (hn:x.now≤400) (hv:∀ j,j<2→takeV (x.f j).K x.now (x.f j).last=0) (hfi:∀ j,j<2→(x.f j).first≤x.now) (hin:inW x.sf 81 ((x.now+1:Nat):Int)) :
  Calls Tryz.prog 146 #[.pointer (some ⟨b.c,0,none⟩)] w fun e w'=>e=.returned (.tuple #[.agg #[.int .i64 (x.now:Int),.slice none 0 0],.int .i64 0])∧IsCore w' b (stepC x seed)∧Keeps b.S w w':=by
 have hlt:∀ j,b.S j→j<w.heap.size:=fun j hj=>h.lt hj
 have hme:=h.me
 have hT:=hid (fun (W:World) (hk:Keeps (fun _=>False) w W)=>co_theirs (h.keep hk))
 have hW:=hid (fun (W:World) (hk:Keeps (fun _=>False) w W)=>feed_Wrong ((h.keep hk).fd (1-x.me) (by omega)))
 have hno':=hno
 unfold wrongF thF at hno'
 rw[hno'] at hW
 clear hno'
 have k0:=(Keeps.refl (fun _=>False) w).alloc (.cells #[.int .i64 0,.slice none 0 0] 271)
 have hp0:=blk_new w (.cells #[.int .i64 0,.slice none 0 0] 271)
 have H:=hid h
 have Hlt:=hid hlt
 clear h hlt
 go_enter Tryz.func146,Tryz.ntmps146
 go_wp2_with fail
 generalize w.alloc (.cells #[.int .i64 0,.slice none 0 0] 271)=w0 at *
 refine (hT.out _ k0).mono ?_
 rintro e w1 ⟨rfl,q1,hq1⟩
 have k1:=k0.trans (keeps_of_drew hq1)
 have hp1:=(keeps_of_drew hq1).heap hp0 id
 clear hq1 hp0 k0
 go_wp2_with fail
 refine (hW.out _ k1).mono ?_
 rintro e w2 ⟨rfl,hk2⟩
 have k2:=k1.trans hk2
 have hp2:=hk2.heap hp1 id
 have h2:=H.out.keep k2
 clear hk2 hp1 k1
 simp only[Option.getD_none,Option.isSome_none]
 have hF:=hid (fun n=>co_full (h2.drew n))
 rw[hfu] at hF
 have hM:=hid (fun n=>co_mine (h2.drew n))
 have hN:=hid (fun n=>feed_Next ((h2.drew n).fd x.me hme))
 have c7:=h2.c7
 have hcmp:¬ ((x.f x.me).next:Int)≤(x.now:Int):=by omega
 go_wp2_with fail
 go_quiet (first|(go_at_call 216;first|exact Calls.quiet_of (hF.out _)|exact quiet_d (hF.out _))|(go_at_call 56;first|exact Calls.quiet_of (hM.out _)|exact quiet_d (hM.out _))|(go_at_call 49;first|exact Calls.quiet_of (quiet_s (hN.out _))|exact quiet_d (quiet_s (hN.out _))))
 have h3:=h2.drew nq
 have k3:=k2.drewN nq
 have hp3:=((Keeps.refl (fun _=>False) w2).drewN nq).heap hp2 id
 generalize w2.drewN nq=w3 at *
 clear h2 k2 hp2 c7 hF hM hN
 have c7:=h3.c7
 have hP:=hid (co_play h3 x.now seed hL hn hv hfi hin)
 have hlt3:=blk_lt hp3
 have H3:=hid h3
 clear h3
 go_wp2_with fail
 refine hP.out.mono ?_
 rintro e w4 ⟨rfl,h4,k4⟩
 have hp4:=k4.heap hp3 (fun e=>by have:=Hlt.out _ e;omega)
 clear hP H3 hp3 c7
 have c7:w4.cell? ⟨b.c,7,none⟩=some (.int .i64 (x.now:Int)):=h4.c7
 have g7:=blk_free h4.head 7
 have hcl:=blk_lt h4.head
 have hw1:IntKind.i64.wrap ((x.now:Int)+1)=(x.now:Int)+1:=IntWalk.i64_in _ (by omega)
 obtain ⟨g0,g1⟩:=bf2 hp4 0 1
 obtain ⟨c0,c1⟩:=bc2 0 1 hp4 ⟨rfl,rfl⟩
 have hpl:=blk_lt hp4
 have h5:=h4.setNow (x.now+1) (by omega)
 rw[show ((x.now+1:Nat):Int)=(x.now:Int)+1 by omega] at h5
 have hc5:=(Keeps.refl (fun j=>j=b.c) w4).setCell (p:=⟨b.c,7,none⟩) rfl (.int .i64 ((x.now:Int)+1))
 have hcw:b.c<w.heap.size:=Hlt.out b.c (.inl rfl)
 have hp5:=hc5.heap hp4 (by omega)
 have hpf:=blk_alloc (blk_two hp5 (.int .i64 (x.now:Int)) (.slice none 0 0)) (.cells #[.int .i64 (x.now:Int),.slice none 0 0] 271)
 have kz:=(((Keeps.refl (fun j=>j=w.heap.size) (w4.setCell ⟨b.c,7,none⟩ (.int .i64 ((x.now:Int)+1)))).setCell (p:=⟨w.heap.size,0,none⟩) rfl (.int .i64 (x.now:Int))).setCell (p:=⟨w.heap.size,1,none⟩) rfl (.slice none 0 0)).alloc (.cells #[.int .i64 (x.now:Int),.slice none 0 0] 271)
 have h6:=h5.keeps kz (fun j hj e=>by have:=Hlt.out j hj;omega)
 have kfin:=keeps_past ((k3.mono (T:=b.S) fun _ _ x=>x.elim).trans (k4.trans (hc5.mono (T:=b.S) fun _ _ e=>.inl e))) kz (fun k hk e=>by omega)
 have H6:=hid h6
 clear h4 h5 h6 hc5 hp5 kz k4 k3 hp4
 simp only
 go_wp2
 have hload:=box_load2 hpf
 refine bodyPost_ret (v:=.tuple #[.agg #[.int .i64 (x.now:Int),.slice none 0 0],.int .i64 0]) (by simp[results,Tryz.results146,asAddr,loadVar,loadCells,Tryz.isAgg271,Tryz.sizeOf271,hload]) rfl ?_
 exact ⟨rfl,H6.out,kfin⟩
def sumV (v:Nat→Int):Int:=more 1 (packSt v)
theorem fz_Sum (v:Nat→Int) (hv:WfS v) (hr:rightS v=true) (hl:(packSt v).length≤100000) (w:World):Calls Tryz.prog 286 #[.agg (mkC v)] w fun e w'=>e=.returned (.tuple #[.int .u32 (sumV v),.int .i64 0])∧Below w.heap.size w w':=by
 have hP:=hid (fz_Pack v hv)
 rw[hr] at hP
 simp only[if_true] at hP
 have hS:=hid (sum_Of ⟨(packSt v).toArray⟩ (by show (packSt v).toArray.size≤_;unfold maxLen;simp;omega))
 rw[show more 1 (⟨(packSt v).toArray⟩:ByteArray).data.toList=sumV v by simp[sumV]] at hS
 generalize (⟨(packSt v).toArray⟩:ByteArray)=X at *
 generalize sumV v=m at *
 have hB:=blk_new w (.cells (mkC v) 99)
 have hb:=(Below.refl w.heap.size w).alloc (Nat.le_refl _) (.cells (mkC v) 99)
 have hld:=load_st hB
 clear hv hr hl hB
 go_enter Tryz.func286,Tryz.ntmps286
 go_wp2_with (first|(refine wpList_run_load hld rfl rfl rfl ?_)|fail)
 generalize w.alloc (.cells (mkC v) 99)=w0 at *
 refine (hP.out _).mono ?_
 rintro e w1 ⟨rfl,hb1⟩
 simp only
 go_wp2_with fail
 refine (hS.out _).mono ?_
 rintro e _ ⟨rfl,rfl⟩
 go_wp2
 go_ret2
 exact ⟨rfl,hb.trans (hb1.mono hb.size)⟩
theorem co_Sum (h:IsCore w b x) (fr:Int) (hfr:0≤fr∧fr≤1000000) (v:Nat→Int) (hL:lookI x.L fr=some v) (hv:WfS v) (hr:rightS v=true) (hl:(packSt v).length≤100000):Calls Tryz.prog 219 #[.pointer (some ⟨b.c,0,none⟩),.int .i64 fr] w fun e w'=>e=.returned (.tuple #[.int .u32 (sumV v),.bool true])∧Keeps (fun _=>False) w w':=by
 have hS:=hid (co_State h fr (by omega))
 rw[hL] at hS
 simp only[Option.getD_some,Option.isSome_some] at hS
 have hZ:=hid (fz_Sum v hv hr hl)
 generalize sumV v=m at *
 clear h hL hv hr hl
 go_enter Tryz.func219,Tryz.ntmps219
 go_wp2_with fail
 refine hS.out.mono ?_
 rintro e w1 ⟨rfl,hk1⟩
 have hal:=run_alloc_st w1
 have hB:=blk_new w1 (.cells (mkC zeroV) 99)
 obtain ⟨hst,_,hk2⟩:=store_all (w1.alloc (.cells (mkC zeroV) 99)) 99 60 w1.heap.size (mkC v) _ Tryz.sizeOf99 (mkC_size _) (mkC_size _) hB (List.all_eq_true.2 (mkC_one v))
 have hld:=load_st (setRow_at _ w1.heap.size _ (mkC v) 99 hB)
 have hl1:=hk1.size
 have kf:=keeps_past hk1 (((Keeps.refl (fun j=>j=w1.heap.size) w1).alloc (.cells (mkC zeroV) 99)).trans hk2) (fun k hk e=>by omega)
 clear hB hk2 hk1
 simp only
 generalize (w1.alloc (.cells (mkC zeroV) 99)).setRow w1.heap.size (mkC v)=w2 at *
 go_wp2_with (first|(refine wpList_run_alloc hal rfl rfl ?_)|(refine wpList_run_store hst rfl rfl rfl rfl ?_)|(refine wpList_run_load hld rfl rfl rfl ?_)|fail)
 refine (hZ.out _).mono ?_
 rintro e w3 ⟨rfl,hb3⟩
 simp only
 go_wp2
 go_ret2
 exact ⟨rfl,kf.then_below hb3⟩
end
section
open Go.RowKit
open Go.Maps
set_option maxRecDepth 100000
variable {w w':World} {b:PeB} {s:Pe} {o:Nat} {S:Value} {m:Bool}
theorem pe_tell (h:PO w b s o S m) (f now:Int) (hf:0≤f) (hh:s.lh=false) (hc:s.com<f) (hn:f≤now∧now≤1073741824) (ht:s.tn≤1000000) :
  Calls Tryz.prog 139 #[.pointer (some ⟨b.p,0,none⟩),.pointer (some ⟨o,0,none⟩),.agg #[.int .i64 f,.slice none 0 0],.int .i64 now] w fun e w'=>e=.returned (.tuple #[])∧PO w' b { s with tn:=s.tn+1 } o S m∧Keeps (PT b s o) w w':=by
 have k0:=(Keeps.refl (fun _=>False) w).alloc (.cells #[.int .i64 f,.slice none 0 0] 271)
 have hB:=blk_new w (.cells #[.int .i64 f,.slice none 0 0] 271)
 have h0:=h.keep k0
 clear h
 go_enter Tryz.func139,Tryz.ntmps139
 go_wp2_with fail
 generalize w.alloc (.cells #[.int .i64 f,.slice none 0 0] 271)=w0 at *
 have hF:PO w0.drew b s o S m∧w0.drew.heap[w.heap.size]?=some (.cells #[.int .i64 f,.slice none 0 0] 271 (0,0)):=⟨h0.drew 1,hB⟩
 have k0d:=k0.drew
 have q0:∀ x:HeldC (fun W=>PO W b s o S m∧W.heap[w.heap.size]?=some (.cells #[.int .i64 f,.slice none 0 0] 271 (0,0))),x.to.cell? ⟨b.p,2,none⟩=some (.pointer (some ⟨b.ld,0,none⟩)):=fun x=>x.held.1.pe.c2
 have q1:∀ x:HeldC (fun W=>PO W b s o S m∧W.heap[w.heap.size]?=some (.cells #[.int .i64 f,.slice none 0 0] 271 (0,0))),x.to.cell? ⟨w.heap.size,0,none⟩=some (.int .i64 f):=fun x=>blk_cell x.held.2 rfl
 have q2:∀ x:HeldC (fun W=>PO W b s o S m∧W.heap[w.heap.size]?=some (.cells #[.int .i64 f,.slice none 0 0] 271 (0,0))),x.to.cell? ⟨w.heap.size,1,none⟩=some (.slice none 0 0):=fun x=>blk_cell x.held.2 rfl
 have hT:=hid (fun (W:World) (hW:PO W b s o S m)=>le_Tell hW.pe f now hf hh hc hn ht)
 clear h0 hB k0 hh hc hn ht hf
 refine stages_start (by kernel_rfl) 13 rfl ?_
 refine ht_start (fun W=>PO W b s o S m∧W.heap[w.heap.size]?=some (.cells #[.int .i64 f,.slice none 0 0] 271 (0,0))) [0,1,2,3,4,5,6] 6 7 rfl #[true,true,true,true,true,true,true,false,false,false,false,false,false] ?_
 have hne:Nonempty (HeldC (fun W=>PO W b s o S m∧W.heap[w.heap.size]?=some (.cells #[.int .i64 f,.slice none 0 0] 271 (0,0)))):=⟨⟨_,hF⟩⟩
 refine ht_heads (m:=0) (hF) [0,1,2,3,4,5,6] 7 rfl #[true,true,true,true,true,true,true,false,false,false,false,false,false] (by kernel_rfl) (by kernel_rfl) (fun _ _ _ d _ h=>by first|(cases d<;>exact h)|cases h.1) ?_
 simp only[opsAt,List.map_cons,List.map_nil,List.getElem?_toArray,List.getElem?_cons_zero,List.getElem?_cons_succ,Option.getD_some]
 repeat (go_big_quiet_step (fail))
 refine wpQuiet_nil ?_
 clear hne
 generalize w0.drew=w0 at *
 refine ht_nil (by kernel_rfl) ?_
 refine ht_start (fun W=>PO W b s o S m∨IsPeer W b { s with tn:=s.tn+1 }) [7,8,9,10,11,12] 0 6 rfl #[true,true,true,true,true,true,true,true,true,true,true,true,true] ?_
 refine ht_one (m:=5) 7 #[true,true,true,true,true,true,true,true,false,false,false,false,false] (by kernel_rfl) (by kernel_rfl) (by kernel_rfl) (by kernel_rfl) (by simp only[opAt,List.getElem?_toArray,List.getElem?_cons_zero,List.getElem?_cons_succ,Option.getD_some];first|rfl|simp[go_sem]) (fun K hK=>?_)
 simp only[opAt,List.getElem?_toArray,List.getElem?_cons_zero,List.getElem?_cons_succ,Option.getD_some]
 go_simp
 refine (hT.out _ hF.1).mono ?_
 rintro e w1 ⟨rfl,hp,k1⟩
 refine hK _ _ (.inr hp) ?_
 clear hK K
 have hne:Nonempty (HeldC (fun W=>PO W b s o S m∨IsPeer W b { s with tn:=s.tn+1 })):=⟨⟨_,.inr hp⟩⟩
 refine ht_heads (m:=0) (.inr hp) [8,9,10,11,12] 5 rfl #[true,true,true,true,true,true,true,true,true,true,true,true,true] (by kernel_rfl) (by kernel_rfl) (fun _ _ _ d _ h=>by first|(cases d<;>exact h)|cases h.1) ?_
 simp only[opsAt,List.map_cons,List.map_nil,List.getElem?_toArray,List.getElem?_cons_zero,List.getElem?_cons_succ,Option.getD_some]
 repeat (go_big_quiet_step (fail))
 refine wpQuiet_nil ?_
 clear hne
 refine ht_nil (by kernel_rfl) ?_
 refine stages_end (by kernel_rfl) ?_
 have h1:=hF.1.turn hp k1 (fun j e=>IsPeer.subs b s 5 rfl e)
 have hD:=hid (pe_do0 h1)
 have k2:=(any_PT (b:=b) (s:=s) (o:=o) k0d (fun _ e=>e.elim)).trans (any_PT k1 (fun j e=>IsPeer.subs b s 5 rfl e))
 clear hF hT h1 hp k1 k0d q0 q1 q2
 go_wp2_with fail
 refine hD.out.mono ?_
 rintro e w3 ⟨rfl,h3,k4⟩
 go_wp2_with fail
 go_end0
 exact ⟨rfl,h3,k2.trans (k4.mono fun _ _ e=>.inr e)⟩
theorem u32_zero (w:World):(zeroValue 22).run Tryz.prog w=.ok (.int .u32 0) w:=by kernel_rfl
theorem u32_wf {n:Int} (h:0≤n∧n<4294967296):(Lit.int .u32 n).wf=true:=by
 show (decide (0≤n)&&decide (n≤4294967295))=true
 simp
 omega
theorem pe_hold (h:PO w b s o S m) (f sum:Int) (hf:0≤f∧f≤1000000) (hh:Maps.has s.D (.int .i64 f)=true) (hs:s.D.atKey (.int .i64 f) (.lit (.int .u32 0))=.lit (.int .u32 sum)) :
  Calls Tryz.prog 104 #[.pointer (some ⟨b.p,0,none⟩),.pointer (some ⟨o,0,none⟩),.int .i64 f,.int .u32 sum] w fun e w'=>e=.returned (.tuple #[])∧w=w':=by
 have hkey:keyOf Tryz.prog 3 (.int .i64 f)=some (.int .i64 f):=keyOf_int_mk Tryz.underlying3 (i64_wf (by omega))
 obtain ⟨v,ps,hl,hv⟩:=h.pe.own.look_ok int_law Tryz.underlying110 (u32_zero w) (plainElem_int Tryz.underlying22 (by decide)) hkey
 obtain ⟨c,rfl,he,_⟩:=plainElem_int_inv Tryz.underlying22 hv
 simp only[Prod.mk.injEq] at he
 rw[hs] at he
 have hc:sum=c:=by simpa using he.1
 subst hc
 rw[hh] at hl
 have c6:=h.pe.c6
 clear h hv he
 go_enter Tryz.func104,Tryz.ntmps104
 go_wp2_with (first|(refine wpList_run_lookup hl rfl rfl rfl rfl ?_)|fail)
 refine bodyPost_ret (v:=.tuple #[]) (by simp[results,Tryz.results104]) rfl ?_
 exact ⟨rfl,rfl⟩
def setRep (s:Pe) (f sum:Int):Pe:={ s with on:=s.on+1,D:=repD s.D f sum,lk:=repL s.lk f sum }
theorem pe_report (h:PO w b s o S m) (f:Int) (hf:0≤f∧f≤1000000) (v:Nat→Int) (hL:lookI s.x.L f=some v) (hv:WfS v) (hr:rightS v=true) (hl:(packSt v).length≤100000) (hb:0≤sumV v∧sumV v<4294967296) (hon:s.on≤1000000) (hw:Maps.has s.W (.int .i64 f)=false) :
  Calls Tryz.prog 148 #[.pointer (some ⟨b.p,0,none⟩),.pointer (some ⟨o,0,none⟩),.int .i64 f] w fun e w'=>e=.returned (.tuple #[])∧PO w' b (setRep s f (sumV v)) o S m∧Keeps (PT b s o) w w':=by
 have hkey:keyOf Tryz.prog 3 (.int .i64 f)=some (.int .i64 f):=keyOf_int_mk Tryz.underlying3 (i64_wf (by omega))
 have hkey2:keyOf Tryz.prog 3 (.int .i64 (f-128))=some (.int .i64 (f-128)):=keyOf_int_mk Tryz.underlying3 (i64_wf (by omega))
 have e1:IntKind.i64.wrap (f-128)=f-128:=IntWalk.i64_in _ (by omega)
 have c0:=h.pe.c0
 have hS:=hid (co_Sum h.pe.core f hf v hL hv hr hl)
 have H:=hid h
 clear h hL hv hr hl
 generalize sumV v=sum at *
 go_enter Tryz.func148,Tryz.ntmps148
 go_wp2_with fail
 refine hS.out.mono ?_
 rintro e w1 ⟨rfl,k1⟩
 have h1:=H.out.keep k1
 obtain ⟨w2,hrun,hD2,hturn⟩:=World.ownsMap.store h1.pe.own int_law Tryz.underlying110 (by simp only[maxLen];omega) (key:=.int .i64 f) (val:=.int .u32 sum) hkey (plainElem_int Tryz.underlying22 (u32_wf hb))
 have k2:=map_turned_keeps hturn
 have h2:=h1.turn (h1.pe.setOwn hD2 k2) k2 (fun j e=>IsPeer.subs b s 9 rfl e)
 obtain ⟨w3,hdel,hD3,hturn3⟩:=World.ownsMap.drop h2.pe.own int_law Tryz.underlying110 hkey2 0
 have k3:=map_turned_keeps hturn3
 have h3:=h2.turn (h2.pe.setOwn hD3 k3) k3 (fun j e=>IsPeer.subs b _ 9 rfl e)
 have kk:=(any_PT (b:=b) (s:=s) (o:=o) k1 (fun _ e=>e.elim)).trans ((any_PT (b:=b) (s:=s) (o:=o) k2 (fun j e=>IsPeer.subs b s 9 rfl e)).trans (any_PT (b:=b) (s:=s) (o:=o) k3 (fun j e=>IsPeer.subs b s 9 rfl e)))
 have c6:=h1.pe.c6
 have c62:w2.cell? ⟨b.p,6,none⟩=some (.map (some b.ow)):=h2.pe.c6
 have c13:w3.cell? ⟨b.p,1,none⟩=some (.pointer (some ⟨b.L.p,0,none⟩)):=h3.pe.c1
 have hR:=hid (lk_Report h3.pe.link f sum)
 have H3:=hid h3
 clear hD2 hD3 hturn hturn3 k1 k2 k3 h1 h2 h3 H hS
 go_wp2_with (first|(refine wpList_run_update hrun rfl rfl rfl rfl rfl ?_)|(refine wpList_run_delete hdel rfl rfl rfl rfl ?_)|fail)
 refine hR.out.mono ?_
 rintro e w4 ⟨rfl,hk4,k4⟩
 have h4:=H3.out.turn (H3.out.pe.setLink hk4 k4) k4 (fun j e=>IsPeer.subs b _ 2 rfl e)
 have kf:=kk.trans (any_PT (b:=b) (s:=s) (o:=o) k4 (fun j e=>IsPeer.subs b s 2 rfl e))
 have c7:w4.cell? ⟨b.p,7,none⟩=some (.map (some b.wt)):=h4.pe.c7
 obtain ⟨v2,ps,hlook,_⟩:=h4.pe.wait.look_ok int_law Tryz.underlying110 (u32_zero w4) (plainElem_int Tryz.underlying22 (by decide)) hkey
 simp only[hw] at hlook
 have H4:=hid h4
 clear h4 H3 kk k4 hR hk4
 go_wp2_with (first|(refine wpList_run_lookup hlook rfl rfl rfl rfl ?_)|fail)
 go_end0
 exact ⟨rfl,H4.out,kf⟩
end
section
open Go.RowKit
open Go.Maps
set_option maxRecDepth 100000
variable {w w':World} {b:PeB} {s:Pe} {o:Nat} {S:Value} {m:Bool}
def comS (v:Nat→Int) (s:Pe):Pe:=if (s.com+2)%16=0 then setRep { s with com:=s.com+1 } (s.com+2) (sumV v) else { s with com:=s.com+1 }
def stlS (v:Nat→Int) (s:Pe):Pe:=if s.com<setlF s.x then comS v s else s
structure StF (w0:World) (b:PeB) (s:Pe) (o:Nat) (S:Value) (m:Bool) (w:World):Prop where
 po:PO w b s o S m
 kp:Keeps (fun _=>False) w0 w
theorem StF.keep {w0:World} (h:StF w0 b s o S m w) (hk:Keeps (fun _=>False) w w'):StF w0 b s o S m w':=⟨h.po.keep hk,h.kp.trans hk⟩
set_option maxHeartbeats 1000000 in
theorem pe_settle (h:PO w b s o S m) (hh:s.halted=false) (hl:s.lh=false) (hno:wrongF s.x=none) (hc:-1≤s.com∧s.com≤1000) (hset:s.com=setlF s.x∨s.com+1=setlF s.x) (v:Nat→Int)
  (hv:s.com+1=setlF s.x→(s.com+2)%16=0→lookI s.x.L (s.com+2)=some v∧WfS v∧rightS v=true∧(packSt v).length≤100000∧(0≤sumV v∧sumV v<4294967296)∧s.on≤1000000∧Maps.has s.W (.int .i64 (s.com+2))=false) :
  Calls Tryz.prog 89 #[.pointer (some ⟨b.p,0,none⟩),.pointer (some ⟨o,0,none⟩)] w fun e w'=>e=.returned (.tuple #[])∧PO w' b (stlS v s) o S m∧Keeps (PT b s o) w w':=by
 have hfx:(stlS v s).x=s.x∧(stlS v s).halted=s.halted∧setlF s.x≤(stlS v s).com:=by
  unfold stlS comS
  split
  ·split
   ·exact ⟨rfl,rfl,by show _≤s.com+1;omega⟩
   ·exact ⟨rfl,rfl,by show _≤s.com+1;omega⟩
  ·exact ⟨rfl,rfl,by omega⟩
 have hstl:s.com<setlF s.x→stlS v s=comS v s:=fun e=>by unfold stlS;rw[if_pos e]
 have hstl0:¬ s.com<setlF s.x→stlS v s=s:=fun e=>by unfold stlS;rw[if_neg e]
 have Hfx:=hid hfx
 have H:=hid h
 have hh':=hid hh
 have Hl:=hid hl
 have Hv:=hid hv
 have Hset:=hid hset
 have hc':=hid hc
 have hno':=hid hno
 have Hs:=hid hstl
 have Hs0:=hid hstl0
 clear h hh hl hno hc hv hset hfx hstl hstl0
 go_enter Tryz.func89,Tryz.ntmps89
 go_wp2_with fail
 go_loopg [4,5,6] (if s.com<setlF s.x then 1 else 0) (fun g l e n wr=>((g=1∧s.com<setlF s.x∧PO wr b s o S m)∨(g=0∧PO wr b (stlS v s) o S m))∧Keeps (PT b s o) w wr)
 case atStart=>
  by_cases hlt:s.com<setlF s.x
  ·exact ⟨.inl ⟨if_pos hlt,hlt,H.out⟩,Keeps.refl _ w⟩
  ·exact ⟨.inr ⟨if_neg hlt,by rw[Hs0.out (by omega)];exact H.out⟩,Keeps.refl _ w⟩
 case round=>
  obtain ⟨hr,hk⟩:=hrel
  have Hk:=hid hk
  clear hk
  rcases hr with ⟨rfl,hlt,hP⟩|⟨rfl,hP⟩
  ·have HP:=hid hP
   clear hP
   have HE:=hid (show s.com+1=setlF s.x by have:=Hset.out;omega)
   have Hs1:=hid (Hs.out hlt)
   have hF:StF wr b s o S m wr.drew:=⟨HP.out.keep (Keeps.refl _ wr).drew,(Keeps.refl _ wr).drew⟩
   have q0:∀ x:HeldC (fun W=>StF wr b s o S m W),x.to.cell? ⟨b.p,9,none⟩=some (.bool false):=fun x=>by have:=x.held.po.pe.c9;rwa [(hh').out] at this
   have q1:∀ x:HeldC (fun W=>StF wr b s o S m W),x.to.cell? ⟨b.p,2,none⟩=some (.pointer (some ⟨b.ld,0,none⟩)):=fun x=>x.held.po.pe.c2
   have q2:∀ x:HeldC (fun W=>StF wr b s o S m W),x.to.cell? ⟨b.p,0,none⟩=some (.pointer (some ⟨b.c.c,0,none⟩)):=fun x=>x.held.po.pe.c0
   have hC:=hid (fun (W:World) (hW:StF wr b s o S m W)=>le_Committed hW.po.pe)
   have hS:=hid (fun (W:World) (hW:StF wr b s o S m W)=>co_Settled hW.po.pe.core (hno').out)
   go_wp2_with fail
   refine stages_start (by kernel_rfl) 20 rfl ?_
   refine ht_start (fun W=>StF wr b s o S m W) [0,1,2,3,4,5,6,7,8,9,10,11,12,13,14,15,16,17,18,19] 0 20 rfl #[true,true,true,true,true,true,true,true,true,true,true,true,true,true,true,true,true,true,true,true] ?_
   have hne:Nonempty (HeldC (fun W=>StF wr b s o S m W)):=⟨⟨_,hF⟩⟩
   refine ht_heads (m:=4) (hF) [0,1,2,3,4,5,6,7,8,9,10,12,13,14,15,16] 16 rfl #[true,true,true,true,true,true,true,true,true,true,true,false,true,true,true,true,true,false,false,false] (by kernel_rfl) (by kernel_rfl) (fun _ _ _ d _ h=>by first|(cases d<;>exact h)|cases h.1) ?_
   simp only[opsAt,List.map_cons,List.map_nil,List.getElem?_toArray,List.getElem?_cons_zero,List.getElem?_cons_succ,Option.getD_some]
   repeat (go_big_quiet_step (fail))
   refine wpQuiet_nil ?_
   clear hne
   generalize wr.drew=wd at *
   refine ht_one (m:=3) 11 #[true,true,true,true,true,true,true,true,true,true,true,true,true,true,true,true,true,false,false,false] (by kernel_rfl) (by kernel_rfl) (by kernel_rfl) (by kernel_rfl) (by simp only[opAt,List.getElem?_toArray,List.getElem?_cons_zero,List.getElem?_cons_succ,Option.getD_some];first|rfl|simp[go_sem]) (fun K hK=>?_)
   simp only[opAt,List.getElem?_toArray,List.getElem?_cons_zero,List.getElem?_cons_succ,Option.getD_some]
   go_simp
   refine (hC.out _ hF).mono ?_
   rintro e _ ⟨rfl,rfl⟩
   refine hK _ _ (hF) ?_
   clear hK K
   refine ht_one (m:=2) 17 #[true,true,true,true,true,true,true,true,true,true,true,true,true,true,true,true,true,true,false,false] (by kernel_rfl) (by kernel_rfl) (by kernel_rfl) (by kernel_rfl) (by simp only[opAt,List.getElem?_toArray,List.getElem?_cons_zero,List.getElem?_cons_succ,Option.getD_some];first|rfl|simp[go_sem]) (fun K hK=>?_)
   simp only[opAt,List.getElem?_toArray,List.getElem?_cons_zero,List.getElem?_cons_succ,Option.getD_some]
   go_simp
   refine (hS.out _ hF).mono ?_
   rintro e w1 ⟨rfl,k1⟩
   have hF1:=hF.keep k1
   refine hK _ _ (hF1) ?_
   clear hK K
   have hne:Nonempty (HeldC (fun W=>StF wr b s o S m W)):=⟨⟨_,hF1⟩⟩
   refine ht_heads (m:=0) (hF1) [18,19] 2 rfl #[true,true,true,true,true,true,true,true,true,true,true,true,true,true,true,true,true,true,true,true] (by kernel_rfl) (by kernel_rfl) (fun _ _ _ d _ h=>by first|(cases d<;>exact h)|cases h.1) ?_
   simp only[opsAt,List.map_cons,List.map_nil,List.getElem?_toArray,List.getElem?_cons_zero,List.getElem?_cons_succ,Option.getD_some]
   repeat (go_big_quiet_step (fail))
   refine wpQuiet_nil ?_
   clear hne
   refine ht_nil (by kernel_rfl) ?_
   refine stages_end (by kernel_rfl) ?_
   clear hF k1
   have hF2:StF wr b s o S m w1.drew:=hF1.keep (Keeps.refl _ w1).drew
   have e1:IntKind.i64.wrap (s.com+1)=s.com+1:=IntWalk.i64_in _ (by have:=hc'.out;omega)
   have hCm:=hid (fun (W:World) (hW:StF wr b s o S m W)=>le_Commit hW.po.pe (s.com+1) rfl (by have:=hc'.out;omega) Hl.out)
   clear hF1
   go_wp2_with fail
   refine stages_start (by kernel_rfl) 18 rfl ?_
   refine ht_start (fun W=>StF wr b s o S m W) [0,1,2,3,4,5,6,7,8,9,10,11] 6 12 rfl #[true,true,true,true,true,true,true,true,true,true,true,true,false,false,false,false,false,false] ?_
   have hne:Nonempty (HeldC (fun W=>StF wr b s o S m W)):=⟨⟨_,hF2⟩⟩
   refine ht_heads (m:=2) (hF2) [0,1,2,3,4,5,6,7,8,9] 10 rfl #[true,true,true,true,true,true,true,true,true,true,false,false,false,false,false,false,false,false] (by kernel_rfl) (by kernel_rfl) (fun _ _ _ d _ h=>by first|(cases d<;>exact h)|cases h.1) ?_
   simp only[opsAt,List.map_cons,List.map_nil,List.getElem?_toArray,List.getElem?_cons_zero,List.getElem?_cons_succ,Option.getD_some]
   repeat (go_big_quiet_step (fail))
   refine wpQuiet_nil ?_
   clear hne
   generalize w1.drew=w2 at *
   refine ht_one (m:=1) 10 #[true,true,true,true,true,true,true,true,true,true,true,false,false,false,false,false,false,false] (by kernel_rfl) (by kernel_rfl) (by kernel_rfl) (by kernel_rfl) (by simp only[opAt,List.getElem?_toArray,List.getElem?_cons_zero,List.getElem?_cons_succ,Option.getD_some];first|rfl|simp[go_sem]) (fun K hK=>?_)
   simp only[opAt,List.getElem?_toArray,List.getElem?_cons_zero,List.getElem?_cons_succ,Option.getD_some]
   go_simp
   refine (hC.out _ hF2).mono ?_
   rintro e _ ⟨rfl,rfl⟩
   refine hK _ _ (hF2) ?_
   clear hK K
   have hne:Nonempty (HeldC (fun W=>StF wr b s o S m W)):=⟨⟨_,hF2⟩⟩
   refine ht_heads (m:=0) (hF2) [11] 1 rfl #[true,true,true,true,true,true,true,true,true,true,true,true,false,false,false,false,false,false] (by kernel_rfl) (by kernel_rfl) (fun _ _ _ d _ h=>by first|(cases d<;>exact h)|cases h.1) ?_
   simp only[opsAt,List.map_cons,List.map_nil,List.getElem?_toArray,List.getElem?_cons_zero,List.getElem?_cons_succ,Option.getD_some]
   repeat (go_big_quiet_step (fail))
   refine wpQuiet_nil ?_
   clear hne
   refine ht_nil (by kernel_rfl) ?_
   refine ht_start (fun W=>StF wr b s o S m W∨IsPeer W b { s with com:=s.com+1 }) [12,13,14,15,16,17] 0 6 rfl #[true,true,true,true,true,true,true,true,true,true,true,true,true,true,true,true,true,true] ?_
   refine ht_one (m:=5) 12 #[true,true,true,true,true,true,true,true,true,true,true,true,true,false,false,false,false,false] (by kernel_rfl) (by kernel_rfl) (by kernel_rfl) (by kernel_rfl) (by simp only[opAt,List.getElem?_toArray,List.getElem?_cons_zero,List.getElem?_cons_succ,Option.getD_some];first|rfl|simp[go_sem]) (fun K hK=>?_)
   simp only[opAt,List.getElem?_toArray,List.getElem?_cons_zero,List.getElem?_cons_succ,Option.getD_some]
   go_simp
   refine (hCm.out _ hF2).mono ?_
   rintro e w3 ⟨rfl,hp3,k3⟩
   refine hK _ _ (.inr hp3) ?_
   clear hK K
   have hne:Nonempty (HeldC (fun W=>StF wr b s o S m W∨IsPeer W b { s with com:=s.com+1 })):=⟨⟨_,.inr hp3⟩⟩
   refine ht_heads (m:=0) (.inr hp3) [13,14,15,16,17] 5 rfl #[true,true,true,true,true,true,true,true,true,true,true,true,true,true,true,true,true,true] (by kernel_rfl) (by kernel_rfl) (fun _ _ _ d _ h=>by first|(cases d<;>exact h)|cases h.1) ?_
   simp only[opsAt,List.map_cons,List.map_nil,List.getElem?_toArray,List.getElem?_cons_zero,List.getElem?_cons_succ,Option.getD_some]
   repeat (go_big_quiet_step (fail))
   refine wpQuiet_nil ?_
   clear hne
   refine ht_nil (by kernel_rfl) ?_
   refine stages_end (by kernel_rfl) ?_
   have hT:∀ j,(j=b.tl∨j=b.ld)→b.S s j:=fun j e=>by
    rcases e with e|e
    ·exact IsPeer.subs b s 5 rfl e
    ·exact IsPeer.subs b s 3 rfl e
   have h3:=hF2.po.turn hp3 k3 hT
   have hD:=hid (pe_do0 h3)
   have K3:=hid (((any_PT (b:=b) (s:=s) (o:=o) hF2.kp (fun _ e=>e.elim))).trans (any_PT k3 hT))
   clear hF2 hp3 k3 h3 hCm hC hS q0 q1 q2 hT
   go_wp2_with fail
   refine hD.out.mono ?_
   rintro e w4 ⟨rfl,h4,k4⟩
   have c2:w4.cell? ⟨b.p,2,none⟩=some (.pointer (some ⟨b.ld,0,none⟩)):=h4.pe.c2
   have hC4:=hid (le_Committed h4.pe)
   have H4:=hid h4
   have e2:IntKind.i64.wrap (s.com+1+1)=s.com+2:=by rw[show s.com+1+1=s.com+2 by omega];exact IntWalk.i64_in _ (by have:=hc'.out;omega)
   have e3:Int.tmod (s.com+2) 16=(s.com+2)%16:=Int.tmod_eq_emod_of_nonneg (by have:=hc'.out;omega)
   have K4:=hid (K3.out.trans (k4.mono (T:=PT b s o) fun _ _ e=>.inr e))
   clear h4 k4 hD K3
   by_cases hr:(s.com+2)%16=0
   ·have hx:=Hv.out HE.out hr
    have hR:=hid (pe_report H4.out (s.com+2) (by have:=hc'.out;omega) v hx.1 hx.2.1 hx.2.2.1 hx.2.2.2.1 hx.2.2.2.2.1 hx.2.2.2.2.2.1 hx.2.2.2.2.2.2)
    have hsf:stlS v s=setRep { s with com:=s.com+1 } (s.com+2) (sumV v):=by rw[Hs1.out];unfold comS;rw[if_pos hr]
    have Hsf:=hid hsf
    have e4:(Int.tmod (s.com+2) 16 == 0)=true:=by rw[e3,hr];rfl
    clear e3
    clear hx hr hsf
    go_wp2_with fail
    refine hC4.out.mono ?_
    rintro e _ ⟨rfl,rfl⟩
    simp only
    go_wp2_with fail
    refine hR.out.mono ?_
    rintro e w5 ⟨rfl,h5,k5⟩
    go_wp2_with fail
    have h6:PO w5 b (stlS v s) o S m:=by rw[Hsf.out];exact h5
    have k6:=Hk.out.trans (K4.out.trans (k5.mono (T:=PT b s o) fun j _ hj=>by rw[PT_same b s _ o];exact hj))
    go_roundg 0
    case rel=>exact ⟨.inr ⟨rfl,h6⟩,k6⟩
    case measure=>omega
   ·have hsf:stlS v s={ s with com:=s.com+1 }:=by rw[Hs1.out];unfold comS;rw[if_neg hr]
    have Hsf:=hid hsf
    have e4:(Int.tmod (s.com+2) 16 == 0)=false:=by rw[e3];simpa using hr
    clear hsf hr e3
    go_wp2_with fail
    refine hC4.out.mono ?_
    rintro e _ ⟨rfl,rfl⟩
    simp only
    go_wp2_with fail
    have h6:PO w4 b (stlS v s) o S m:=by rw[Hsf.out];exact H4.out
    have k6:=Hk.out.trans K4.out
    go_roundg 0
    case rel=>exact ⟨.inr ⟨rfl,h6⟩,k6⟩
    case measure=>omega
  ·have HP:=hid hP
   clear hP
   have Hh2:=hid (Hfx.out.2.1.trans hh'.out)
   have Hn2:=hid (show wrongF (stlS v s).x=none by rw[Hfx.out.1];exact hno'.out)
   have hd:decide ((stlS v s).com<setlF (stlS v s).x)=false:=by rw[Hfx.out.1];exact decide_eq_false (by have:=Hfx.out.2.2;omega)
   have hF:StF wr b (stlS v s) o S m wr.drew:=⟨HP.out.keep (Keeps.refl _ wr).drew,(Keeps.refl _ wr).drew⟩
   have q0:∀ x:HeldC (fun W=>StF wr b (stlS v s) o S m W),x.to.cell? ⟨b.p,9,none⟩=some (.bool false):=fun x=>by have:=x.held.po.pe.c9;rwa [(Hh2).out] at this
   have q1:∀ x:HeldC (fun W=>StF wr b (stlS v s) o S m W),x.to.cell? ⟨b.p,2,none⟩=some (.pointer (some ⟨b.ld,0,none⟩)):=fun x=>x.held.po.pe.c2
   have q2:∀ x:HeldC (fun W=>StF wr b (stlS v s) o S m W),x.to.cell? ⟨b.p,0,none⟩=some (.pointer (some ⟨b.c.c,0,none⟩)):=fun x=>x.held.po.pe.c0
   have hC:=hid (fun (W:World) (hW:StF wr b (stlS v s) o S m W)=>le_Committed hW.po.pe)
   have hS:=hid (fun (W:World) (hW:StF wr b (stlS v s) o S m W)=>co_Settled hW.po.pe.core (Hn2).out)
   go_wp2_with fail
   refine stages_start (by kernel_rfl) 20 rfl ?_
   refine ht_start (fun W=>StF wr b (stlS v s) o S m W) [0,1,2,3,4,5,6,7,8,9,10,11,12,13,14,15,16,17,18,19] 0 20 rfl #[true,true,true,true,true,true,true,true,true,true,true,true,true,true,true,true,true,true,true,true] ?_
   have hne:Nonempty (HeldC (fun W=>StF wr b (stlS v s) o S m W)):=⟨⟨_,hF⟩⟩
   refine ht_heads (m:=4) (hF) [0,1,2,3,4,5,6,7,8,9,10,12,13,14,15,16] 16 rfl #[true,true,true,true,true,true,true,true,true,true,true,false,true,true,true,true,true,false,false,false] (by kernel_rfl) (by kernel_rfl) (fun _ _ _ d _ h=>by first|(cases d<;>exact h)|cases h.1) ?_
   simp only[opsAt,List.map_cons,List.map_nil,List.getElem?_toArray,List.getElem?_cons_zero,List.getElem?_cons_succ,Option.getD_some]
   repeat (go_big_quiet_step (fail))
   refine wpQuiet_nil ?_
   clear hne
   generalize wr.drew=wd at *
   refine ht_one (m:=3) 11 #[true,true,true,true,true,true,true,true,true,true,true,true,true,true,true,true,true,false,false,false] (by kernel_rfl) (by kernel_rfl) (by kernel_rfl) (by kernel_rfl) (by simp only[opAt,List.getElem?_toArray,List.getElem?_cons_zero,List.getElem?_cons_succ,Option.getD_some];first|rfl|simp[go_sem]) (fun K hK=>?_)
   simp only[opAt,List.getElem?_toArray,List.getElem?_cons_zero,List.getElem?_cons_succ,Option.getD_some]
   go_simp
   refine (hC.out _ hF).mono ?_
   rintro e _ ⟨rfl,rfl⟩
   refine hK _ _ (hF) ?_
   clear hK K
   refine ht_one (m:=2) 17 #[true,true,true,true,true,true,true,true,true,true,true,true,true,true,true,true,true,true,false,false] (by kernel_rfl) (by kernel_rfl) (by kernel_rfl) (by kernel_rfl) (by simp only[opAt,List.getElem?_toArray,List.getElem?_cons_zero,List.getElem?_cons_succ,Option.getD_some];first|rfl|simp[go_sem]) (fun K hK=>?_)
   simp only[opAt,List.getElem?_toArray,List.getElem?_cons_zero,List.getElem?_cons_succ,Option.getD_some]
   go_simp
   refine (hS.out _ hF).mono ?_
   rintro e w1 ⟨rfl,k1⟩
   have hF1:=hF.keep k1
   refine hK _ _ (hF1) ?_
   clear hK K
   have hne:Nonempty (HeldC (fun W=>StF wr b (stlS v s) o S m W)):=⟨⟨_,hF1⟩⟩
   refine ht_heads (m:=0) (hF1) [18,19] 2 rfl #[true,true,true,true,true,true,true,true,true,true,true,true,true,true,true,true,true,true,true,true] (by kernel_rfl) (by kernel_rfl) (fun _ _ _ d _ h=>by first|(cases d<;>exact h)|cases h.1) ?_
   simp only[opsAt,List.map_cons,List.map_nil,List.getElem?_toArray,List.getElem?_cons_zero,List.getElem?_cons_succ,Option.getD_some]
   repeat (go_big_quiet_step (fail))
   refine wpQuiet_nil ?_
   clear hne
   refine ht_nil (by kernel_rfl) ?_
   refine stages_end (by kernel_rfl) ?_
   clear hF k1
   have hP2:=hF1.po
   have hk2:=Hk.out.trans (any_PT (b:=b) (s:=s) (o:=o) hF1.kp (fun _ e=>e.elim))
   clear hF1 hC hS q0 q1 q2
   go_wp2_with fail
   go_end0
   exact ⟨rfl,hP2,hk2⟩
end
section
open Go.RowKit
open Go.Maps
set_option maxRecDepth 100000
variable {w w':World} {b:PeB} {s:Pe} {o:Nat} {S:Value} {m:Bool}
theorem pe_step_shut (h:PO w b s o S m) (hs:s.lk.state≠1) (v:Int):Calls Tryz.prog 88 #[.pointer (some ⟨b.p,0,none⟩),.pointer (some ⟨o,0,none⟩),.int .u8 v] w fun e w'=>e=.returned (.tuple #[])∧w=w':=by
 have c1:=h.pe.c1
 have hS:=hid (lk_State h.pe.link)
 have hs2:(s.lk.state == 1)=false:=by simpa using hs
 clear h
 go_enter Tryz.func88,Tryz.ntmps88
 go_wp2_with fail
 refine hS.out.mono ?_
 rintro e _ ⟨rfl,rfl⟩
 go_wp2_with fail
 refine bodyPost_ret (v:=.tuple #[]) (by simp[results,Tryz.results88]) rfl ?_
 exact ⟨rfl,rfl⟩
def offC (s:Pe):Co:=putC s.x s.x.me 0
structure StepOk (s:Pe) (seed:Int):Prop where
 st:s.lk.state=1
 rdy:¬ (4<((s.x.now:Int)-(s.x.f (1-s.x.me)).next)-s.far∧s.lk.ticks%2=1)
 far:-1000≤s.far∧s.far≤1000
 tk:0≤s.lk.ticks∧s.lk.ticks≤1000
 ack:0≤s.lk.acked∧s.lk.acked≤1000
 fu:fullF s.x=false
 d:(s.x.f s.x.me).next≤s.x.now+s.x.delay
 dl:s.x.delay≤1000
 nx:(s.x.f s.x.me).next<1000000
 w:(s.x.f s.x.me).first≤(s.x.f s.x.me).next∧(s.x.f s.x.me).next<(s.x.f s.x.me).first+64
 no1:wrongF (offC s)=none
 fu1:fullF (offC s)=false
 mn1:s.x.now<((offC s).f s.x.me).next
 L1:lookI s.x.L (s.x.now:Int)=some (standV seed s.x.now)
 now:s.x.now≤400
 v1:∀ j,j<2→takeV ((offC s).f j).K s.x.now ((offC s).f j).last=0
 fi1:∀ j,j<2→((offC s).f j).first≤s.x.now
 in1:inW s.x.sf 81 ((s.x.now+1:Nat):Int)
 lh:s.lh=false
 com:s.com<s.x.now
 tn:s.tn≤1000000
def stepS (s:Pe) (seed:Int):Pe:={ s with x:=stepC (offC s) seed,lk:=ownL s.lk (s.x.f s.x.me).next 0,tn:=s.tn+1 }
theorem PO.moved (h:PO w b s o S m) (k:Bool):PO (w.setCell ⟨o,2,none⟩ (.bool k)) b s o S k:=by
 have k1:=(Keeps.refl (fun j=>j=o) w).setCell (p:=⟨o,2,none⟩) rfl (.bool k)
 exact ⟨h.pe.keep2 k1 (fun j hj e=>h.off (e▸hj)),by simpa using blk_set h.out 2 (.bool k),h.off⟩
set_option maxHeartbeats 1000000 in
theorem pe_step_open (h:PO w b s o S m) (seed:Int) (hk:StepOk s seed):Calls Tryz.prog 88 #[.pointer (some ⟨b.p,0,none⟩),.pointer (some ⟨o,0,none⟩),.int .u8 0] w fun e w'=>e=.returned (.tuple #[])∧PO w' b (stepS s seed) o S true∧Keeps (PT b s o) w w':=by
 have c1:=h.pe.c1
 have hS:=hid (lk_State h.pe.link)
 rw[hk.st] at hS
 have hW:=hid (pe_waits h.pe hk.rdy hk.far hk.tk)
 have H:=hid h
 have HK:=hid hk
 clear h hk
 go_enter Tryz.func88,Tryz.ntmps88
 go_wp2_with fail
 refine hS.out.mono ?_
 rintro e _ ⟨rfl,rfl⟩
 go_wp2_with fail
 refine hW.out.mono ?_
 rintro e _ ⟨rfl,q,rfl⟩
 have h1:=H.out.drew q
 have k1:Keeps (PT b s o) w (w.drewN q):=(Keeps.refl _ w).drewN q
 have c0:=h1.pe.c0
 have hO:=hid (co_Offer h1.pe.core 0 (by omega) HK.out.fu HK.out.d HK.out.dl HK.out.nx HK.out.w)
 have H1:=hid h1
 have K1:=hid k1
 clear h1 H hS hW c1 k1
 generalize w.drewN q=w1 at *
 go_wp2_with fail
 refine hO.out.mono ?_
 rintro e w2 ⟨rfl,hx2,k2⟩
 have h2:=H1.out.turn (H1.out.pe.setCore hx2 k2) k2 (fun j e=>IsPeer.subs b s 1 rfl e)
 have c1:w2.cell? ⟨b.p,1,none⟩=some (.pointer (some ⟨b.L.p,0,none⟩)):=h2.pe.c1
 have hOw:=hid (lk_Own h2.pe.link (s.x.f s.x.me).next 0 (by have:=HK.out.ack;simp only;omega))
 have K2:=hid (K1.out.trans (any_PT (b:=b) (s:=s) (o:=o) k2 (fun j e=>IsPeer.subs b s 1 rfl e)))
 have H2:=hid h2
 clear h2 hx2 k2 H1 K1 hO c0
 go_wp2_with fail
 refine hOw.out.mono ?_
 rintro e w3 ⟨rfl,hl3,k3⟩
 have h3:=H2.out.turn (H2.out.pe.setLink hl3 k3) k3 (fun j e=>IsPeer.subs b _ 2 rfl e)
 have c0:w3.cell? ⟨b.p,0,none⟩=some (.pointer (some ⟨b.c.c,0,none⟩)):=h3.pe.c0
 have hSt:=hid (co_Step h3.pe.core seed HK.out.no1 HK.out.fu1 HK.out.mn1 HK.out.L1 HK.out.now HK.out.v1 HK.out.fi1 HK.out.in1)
 have K3:=hid (K2.out.trans (any_PT (b:=b) (s:=s) (o:=o) k3 (fun j e=>IsPeer.subs b s 2 rfl e)))
 have H3:=hid h3
 clear h3 hl3 k3 H2 K2 hOw c1
 simp only
 go_wp2_with fail
 refine hSt.out.mono ?_
 rintro e w4 ⟨rfl,hx4,k4⟩
 have h4:PO w4 b { s with x:=stepC (offC s) seed,lk:=ownL s.lk (s.x.f s.x.me).next 0 } o S m:=H3.out.turn (H3.out.pe.setCore hx4 k4) k4 (fun j e=>IsPeer.subs b _ 1 rfl e)
 have K4:=hid (K3.out.trans (any_PT (b:=b) (s:=s) (o:=o) k4 (fun j e=>IsPeer.subs b s 1 rfl e)))
 have H4:=hid h4
 clear h4 hx4 k4 H3 K3 hSt c0
 rw[show (putC s.x s.x.me 0).now=s.x.now from rfl]
 have hB2:=blk_new w4 (.cells #[.int .i64 (s.x.now:Int),.slice none 0 0] 271)
 have k5:=(Keeps.refl (fun _=>False) w4).alloc (.cells #[.int .i64 (s.x.now:Int),.slice none 0 0] 271)
 obtain ⟨e0,e1⟩:=bc2 0 1 hB2 ⟨rfl,rfl⟩
 have h5:=H4.out.keep k5
 have hT:=hid (pe_tell h5 (s.x.now:Int) (s.x.now:Int) (by omega) HK.out.lh HK.out.com (by have:=HK.out.now;omega) HK.out.tn)
 have K5:=hid (K4.out.trans (any_PT (b:=b) (s:=s) (o:=o) k5 (fun _ e=>e.elim)))
 clear h5 k5 hB2 H4 K4
 go_wp2_with fail
 refine hT.out.mono ?_
 rintro e w6 ⟨rfl,h6,k6⟩
 have f2:=blk_cell (k:=2) h6.out rfl
 have gg:=blk_free h6.out 2
 have h7:=hid (h6.moved true)
 have K6:=hid (K5.out.trans ((k6.mono (T:=PT b s o) fun j _ hj=>by rw[PT_same b s _ o];exact hj).setCell (p:=⟨o,2,none⟩) (.inr rfl) (.bool true)))
 clear h6 k6 hT K5
 go_wp2_with fail
 go_end0
 exact ⟨rfl,h7.out,K6.out⟩
end
section
open Go.RowKit
open Go.Maps
set_option maxRecDepth 100000
variable {w w':World} {b:PeB} {s:Pe} {o:Nat} {S:Value} {m:Bool}
def leadC (x:Co):Int:=(x.now:Int)-(x.f (1-x.me)).next
def gonS (s:Pe):Pe:=if s.lk.state=2 then { s with halted:=true,reason:=12,lh:=true } else s
structure Tk (b:PeB) (s s1 s2:Pe) (x3:Co) (m1:Bool) (v:Int):Prop where
 vb:v≤63
 no:wrongF s.x=none
 L:∃ v0,lookI s.x.L (s.x.now:Int)=some v0
 hal:s.halted=false
 step:∀ W o S,PO W b s o S false→Calls Tryz.prog 88 #[.pointer (some ⟨b.p,0,none⟩),.pointer (some ⟨o,0,none⟩),.int .u8 v] W fun e w'=>e=.returned (.tuple #[])∧PO w' b s1 o S m1∧Keeps (PT b s o) W w'
 stl:∀ W o S,PO W b s1 o S m1→Calls Tryz.prog 89 #[.pointer (some ⟨b.p,0,none⟩),.pointer (some ⟨o,0,none⟩)] W fun e w'=>e=.returned (.tuple #[])∧PO w' b s2 o S m1∧Keeps (PT b s1 o) W w'
 no2:wrongF s2.x=none
 free:∀ W,IsCore W b.c s2.x→Calls Tryz.prog 90 #[.pointer (some ⟨b.c.c,0,none⟩),.int .i64 (setlF s2.x)] W fun e w'=>(∃ n:Int,e=.returned (.int .i64 n))∧IsCore w' b.c x3∧Keeps b.c.S W w'
 hal2:s2.halted=false
 lh2:s2.lh=false
 ht:0≤s2.lk.ticks∧s2.lk.ticks≤1000000
 hh:0≤s2.lk.heard∧s2.lk.heard≤1000000
 hout:∀ m∈s2.lk.out,m.ins=[]
 hm:∀ m∈(tickF s2.lk (leadC x3)).1,m.wf∧RightP m
 hn:(tickF s2.lk (leadC x3)).1.length≤100
theorem pe_gone (h:PO w b s o S m) (hh:s.halted=false) (hl:s.lh=false):Calls Tryz.prog 94 #[.pointer (some ⟨b.p,0,none⟩),.pointer (some ⟨o,0,none⟩)] w fun e w'=>e=.returned (.tuple #[])∧PO w' b (gonS s) o S m∧Keeps (PT b s o) w w':=by
 unfold gonS
 by_cases hg:s.lk.state=2
 ·rw[if_pos hg]
  exact pe_gone_yes h hg hh hl
 ·rw[if_neg hg]
  exact (pe_gone_no h hg).mono fun _ _ hx=>⟨hx.1,hx.2▸h,hx.2▸Keeps.refl _ _⟩
theorem blk_three {w:World} {b:Nat} {t:TypeId} {u v z:Value} (h:w.heap[b]?=some (.cells #[u,v,z] t (0,0))) (x y q:Value):(((w.setCell ⟨b,0,none⟩ x).setCell ⟨b,1,none⟩ y).setCell ⟨b,2,none⟩ q).heap[b]?=some (.cells #[x,y,q] t (0,0)):=by
 have:=blk_set (blk_set (blk_set h 0 x) 1 y) 2 q
 simpa using this
theorem keeps_three (w:World) (b:Nat) (x y z:Value):Keeps (fun j=>j=b) w (((w.setCell ⟨b,0,none⟩ x).setCell ⟨b,1,none⟩ y).setCell ⟨b,2,none⟩ z):=
 (((Keeps.refl (fun j=>j=b) w).setCell (p:=⟨b,0,none⟩) rfl x).setCell (p:=⟨b,1,none⟩) rfl y).setCell (p:=⟨b,2,none⟩) rfl z
def PTick (w:World) (b:PeB) (s5:Pe) (ms:List Msg) (m1:Bool) (e:Ending) (w':World):Prop:=
 (∃ A cap,e=.returned (.tuple #[.agg #[.slice none 0 0,.slice A ms.length cap,.bool m1],.int .i64 0])∧Vals w' 1 A ms.length cap (strsM ms)∧∀ y,A=some y→w.heap.size≤y.block)∧IsPeer w' b s5∧Keeps (b.S s5) w w'
theorem pe_Tick_halted (h:IsPeer w b s) (hh:s.halted=true) (v:Int) (hv:v≤63)
  (ht:0≤s.lk.ticks∧s.lk.ticks≤1000000) (hhd:0≤s.lk.heard∧s.lk.heard≤1000000) (hout:∀ m∈s.lk.out,m.ins=[]) (hm:∀ m∈(tickF s.lk 0).1,m.wf∧RightP m) (hn:(tickF s.lk 0).1.length≤100) :
  Calls Tryz.prog 60 #[.pointer (some ⟨b.p,0,none⟩),.int .u8 v] w (PTick w b { s with lk:=(tickF s.lk 0).2 } (tickF s.lk 0).1 false):=by
 have k0:=(Keeps.refl (fun _=>False) w).alloc (.cells #[.slice none 0 0,.slice none 0 0,.bool false] 35)
 have h0:=h.keep k0
 have hB:=blk_new w (.cells #[.slice none 0 0,.slice none 0 0,.bool false] 35)
 have c9:=h0.c9
 rw[hh] at c9
 have c1:=h0.c1
 have hTk:=hid (lk_Tick h0.link 0 ht hhd hout hm hn)
 have hlt:=fun j (hj:b.S s j)=>h.lt hj
 have H0:=hid h0
 have Hlt:=hid hlt
 clear h h0 ht hhd hout hm hn hlt
 go_enter Tryz.func60,Tryz.ntmps60
 go_wp2_with fail
 generalize w.alloc (.cells #[.slice none 0 0,.slice none 0 0,.bool false] 35)=w0 at *
 refine hTk.out.mono ?_
 rintro e w1 ⟨⟨A,cap,rfl,hV,hA⟩,hl,k1⟩
 have h1:=H0.out.setLink hl k1
 have hB1:=k1.heap hB (fun e=>by have:=Hlt.out _ (IsPeer.subs b s 2 rfl e);omega)
 obtain ⟨g0,g1,g2⟩:=bf3 hB1 0 1 2
 obtain ⟨z0,z1,z2⟩:=bc3 0 1 2 hB1 ⟨rfl,rfl,rfl⟩
 have hB2:=blk_three hB1 (.slice none 0 0) (.slice A (tickF s.lk 0).1.length cap) (.bool false)
 have k2:=keeps_three w1 w.heap.size (.slice none 0 0) (.slice A (tickF s.lk 0).1.length cap) (.bool false)
 have h2:=h1.keep2 k2 (fun j hj e=>by have:=Hlt.out j (by rw[peS_same b s _];exact hj);omega)
 have kk:=keeps_past ((keeps_any k0).trans (k1.mono (T:=b.S s) fun j _ hj=>IsPeer.subs b s 2 rfl hj)) k2 (fun k hk e=>by omega)
 have hV2:=hV.keeps k2 (fun _ x e1 e2=>by have:=hA x e1;have:=blk_lt hB;omega)
 have hA2:∀ y,A=some y→w.heap.size≤y.block:=fun y e=>Nat.le_trans k0.size (hA y e)
 have H2:=hid h2
 have HV2:=hid hV2
 have HA2:=hid hA2
 clear h1 h2 hV hV2 hA hA2 hl k1 k2 hB hB1 H0
 go_wp2_with fail
 have hload:=box_load _ _ _ _ hB2 3 rfl
 refine bodyPost_ret (v:=.tuple #[.agg #[.slice none 0 0,.slice A (tickF s.lk 0).1.length cap,.bool false],.int .i64 0]) (by simp[results,Tryz.results60,asAddr,loadVar,loadCells,Tryz.isAgg35,Tryz.sizeOf35,hload]) rfl ?_
 exact ⟨⟨A,cap,rfl,HV2.out,HA2.out⟩,H2.out,by rw[peS_same b _ s];exact kk⟩
def lkS (s2:Pe) (x3:Co):Pe:={ s2 with x:=x3,lk:=(tickF s2.lk (leadC x3)).2 }
structure TkF (w:World) (b:PeB) (s:Pe) (o:Nat) (S:Value) (m:Bool) (W:World):Prop where
 po:PO W b s o S m
 rs:W.heap[w.heap.size]?=some (.cells #[.slice none 0 0,.slice none 0 0,.bool false] 35 (0,0))
 kp:Keeps (PT b s o) w W
theorem TkF.turn {T:Nat→Prop} {s1:Pe} {m1:Bool} {W W':World} {S':Value} (h:TkF w b s o S m W) (hlt:∀ j,b.S s j→j<w.heap.size) (ho:o=w.heap.size+1) (h1:PO W' b s1 o S' m1) (hk:Keeps T W W') (hT:∀ j,T j→PT b s o j):TkF w b s1 o S' m1 W':=
 ⟨h1,hk.heap h.rs (fun e=>by rcases hT _ e with e|e;exact absurd (hlt _ e) (by omega);omega),by rw[PT_same b s1 s o];exact h.kp.trans (hk.mono fun j _ hj=>hT j hj)⟩
theorem TkF.hlt {s1:Pe} (hlt:∀ j,b.S s j→j<w.heap.size):∀ j,b.S s1 j→j<w.heap.size:=fun j hj=>hlt j (by rw[peS_same b s s1];exact hj)
theorem TkF.keep {W W':World} (h:TkF w b s o S m W) (hlt:∀ j,b.S s j→j<w.heap.size) (ho:o=w.heap.size+1) (hk:Keeps (fun _=>False) W W'):TkF w b s o S m W':=h.turn hlt ho (h.po.keep hk) hk (fun _ e=>e.elim)
set_option maxHeartbeats 2000000 in
theorem pe_Tick {s1 s2:Pe} {x3:Co} {m1:Bool} {v:Int} (h:IsPeer w b s) (hk:Tk b s s1 s2 x3 m1 v) :
  Calls Tryz.prog 60 #[.pointer (some ⟨b.p,0,none⟩),.int .u8 v] w (PTick w b (gonS (lkS s2 x3)) (tickF s2.lk (leadC x3)).1 m1):=by
 have k0:=((Keeps.refl (fun _=>False) w).alloc (.cells #[.slice none 0 0,.slice none 0 0,.bool false] 35)).alloc (.cells #[.slice none 0 0,.slice none 0 0,.bool false] 35)
 have h0:=h.keep k0
 have hvb:=hk.vb
 have c9:=(h.keep ((Keeps.refl (fun _=>False) w).alloc (.cells #[.slice none 0 0,.slice none 0 0,.bool false] 35))).c9
 rw[hk.hal] at c9
 have hlt:=fun j (hj:b.S s j)=>h.lt hj
 have hz1:(w.alloc (.cells #[.slice none 0 0,.slice none 0 0,.bool false] 35)).heap.size=w.heap.size+1:=by simp
 obtain ⟨oo,ho⟩:∃ oo,oo=w.heap.size+1:=⟨_,rfl⟩
 have hP0:PO ((w.alloc (.cells #[.slice none 0 0,.slice none 0 0,.bool false] 35)).alloc (.cells #[.slice none 0 0,.slice none 0 0,.bool false] 35)) b s oo (.slice none 0 0) false:=⟨h0,by rw[ho,←hz1];exact blk_new _ _,fun e=>by have:=hlt _ e;omega⟩
 have hF0:TkF w b s oo (.slice none 0 0) false ((w.alloc (.cells #[.slice none 0 0,.slice none 0 0,.bool false] 35)).alloc (.cells #[.slice none 0 0,.slice none 0 0,.bool false] 35)):=⟨hP0,blk_alloc (blk_new w _) _,keeps_any k0⟩
 obtain ⟨v0,hv0⟩:=hk.L
 have hR:=hid (pe_repair hP0 hk.no v0 hv0)
 have HF0:=hid hF0
 have Hlt:=hid hlt
 have HK:=hid hk
 clear h h0 k0 hk hP0 hF0 hlt hv0
 go_enter Tryz.func60,Tryz.ntmps60
 go_wp2_with fail
 rw[←ho]
 have Ho:=hid ho
 refine hR.out.mono ?_
 rintro e w1 ⟨rfl,hp1,k1⟩
 have hF1:=HF0.out.turn Hlt.out Ho.out hp1 k1 (fun _ e=>e.elim)
 clear hR HF0 hp1 k1 c9 ho hz1
 have c5:=hF1.po.pe.c5
 have hE:=hid (ea_Tick0 b.ea hF1.po.pe.ease)
 have HF1:=hid hF1
 clear hF1
 go_wp2_with fail
 refine hE.out.mono ?_
 rintro e w2 ⟨rfl,hb2,k2⟩
 have hF2:=HF1.out.turn Hlt.out Ho.out (HF1.out.po.turn (HF1.out.po.pe.setEase hb2 k2) k2 (fun j e=>IsPeer.subs b s 8 rfl e)) k2 (fun j e=>.inl (IsPeer.subs b s 8 rfl e))
 have hS:=hid (HK.out.step w2 oo _ hF2.po)
 have HF2:=hid hF2
 clear hE HF1 hb2 k2 hF2 c5
 go_wp2_with fail
 refine hS.out.mono ?_
 rintro e w3 ⟨rfl,hp3,k3⟩
 have hF3:=HF2.out.turn Hlt.out Ho.out hp3 k3 (fun _ e=>e)
 have hS2:=hid (HK.out.stl w3 oo _ hF3.po)
 have HF3:=hid hF3
 clear hS HF2 hp3 k3 hF3
 go_wp2_with fail
 refine hS2.out.mono ?_
 rintro e w4 ⟨rfl,hp4,k4⟩
 have hF4:=HF3.out.turn (TkF.hlt Hlt.out) Ho.out hp4 k4 (fun _ e=>e)
 have hF5:=hF4.keep (TkF.hlt Hlt.out) Ho.out (Keeps.refl _ w4).drew
 have q0:∀ x:HeldC (fun W=>TkF w b s2 oo (.slice none 0 0) m1 W),x.to.cell? ⟨b.p,0,none⟩=some (.pointer (some ⟨b.c.c,0,none⟩)):=fun x=>x.held.po.pe.c0
 have hC:=hid (fun (W:World) (hW:TkF w b s2 oo (.slice none 0 0) m1 W)=>co_Settled hW.po.pe.core HK.out.no2)
 have hFr:=hid (fun (W:World) (hW:TkF w b s2 oo (.slice none 0 0) m1 W)=>HK.out.free W hW.po.pe.core)
 clear hS2 HF3 hp4 k4 hF4
 go_wp2_with fail
 refine stages_start (by kernel_rfl) 12 rfl ?_
 refine ht_start (fun W=>TkF w b s2 oo (.slice none 0 0) m1 W) [0,1,2,3,4,5,6,7,8,9,10] 1 11 rfl #[true,true,true,true,true,true,true,true,true,true,true,false] ?_
 have hne:Nonempty (HeldC (fun W=>TkF w b s2 oo (.slice none 0 0) m1 W)):=⟨⟨_,hF5⟩⟩
 refine ht_heads (m:=1) (hF5) [0,1,2,3,4,5,6,7,8,9] 10 rfl #[true,true,true,true,true,true,true,true,true,true,false,false] (by kernel_rfl) (by kernel_rfl) (fun _ _ _ d _ h=>by first|(cases d<;>exact h)|cases h.1) ?_
 simp only[opsAt,List.map_cons,List.map_nil,List.getElem?_toArray,List.getElem?_cons_zero,List.getElem?_cons_succ,Option.getD_some]
 repeat (go_big_quiet_step (fail))
 refine wpQuiet_nil ?_
 clear hne
 generalize w4.drew=w5 at *
 refine ht_one (m:=0) 10 #[true,true,true,true,true,true,true,true,true,true,true,false] (by kernel_rfl) (by kernel_rfl) (by kernel_rfl) (by kernel_rfl) (by simp only[opAt,List.getElem?_toArray,List.getElem?_cons_zero,List.getElem?_cons_succ,Option.getD_some];first|rfl|simp[go_sem]) (fun K hK=>?_)
 simp only[opAt,List.getElem?_toArray,List.getElem?_cons_zero,List.getElem?_cons_succ,Option.getD_some]
 go_simp
 refine (hC.out _ hF5).mono ?_
 rintro e w6 ⟨rfl,k6⟩
 have hF6:=hF5.keep (TkF.hlt Hlt.out) Ho.out k6
 refine hK _ _ (hF6) ?_
 clear hK K
 refine ht_nil (by kernel_rfl) ?_
 refine ht_start (fun _=>True) [11] 0 1 rfl #[true,true,true,true,true,true,true,true,true,true,true,true] ?_
 refine ht_one (m:=0) 11 #[true,true,true,true,true,true,true,true,true,true,true,true] (by kernel_rfl) (by kernel_rfl) (by kernel_rfl) (by kernel_rfl) (by simp only[opAt,List.getElem?_toArray,List.getElem?_cons_zero,List.getElem?_cons_succ,Option.getD_some];first|rfl|simp[go_sem]) (fun K hK=>?_)
 simp only[opAt,List.getElem?_toArray,List.getElem?_cons_zero,List.getElem?_cons_succ,Option.getD_some]
 go_simp
 refine (hFr.out _ hF6).mono ?_
 rintro e w7 ⟨⟨n7,rfl⟩,hx7,k7⟩
 refine hK _ _ (trivial) ?_
 clear hK K
 refine ht_nil (by kernel_rfl) ?_
 refine stages_end (by kernel_rfl) ?_
 have hF7:=hF6.turn (TkF.hlt Hlt.out) Ho.out (hF6.po.turn (hF6.po.pe.setCore hx7 k7) k7 (fun j e=>IsPeer.subs b s2 1 rfl e)) k7 (fun j e=>.inl (IsPeer.subs b s2 1 rfl e))
 clear hF5 k6 hF6 hx7 k7 hC hFr q0
 obtain ⟨s3,hs3⟩:∃ s3:Pe,s3={ s2 with x:=x3 }:=⟨_,rfl⟩
 have hlk:∀ l,{ s3 with lk:=l }=({ s2 with x:=x3,lk:=l }:Pe):=fun l=>by rw[hs3]
 have hx3:s3.x=x3:=by rw[hs3]
 have hl3:s3.lk=s2.lk:=by rw[hs3]
 have Hh3:=hid (show s3.halted=false by rw[hs3];exact HK.out.hal2)
 have Hl3:=hid (show s3.lh=false by rw[hs3];exact HK.out.lh2)
 rw[←hs3] at hF7
 have Hlk:=hid hlk
 have Hx3:=hid hx3
 have HL3:=hid hl3
 have hF8:=hF7.keep (TkF.hlt Hlt.out) Ho.out (Keeps.refl _ w7).drew
 have q0:∀ x:HeldC (fun W=>TkF w b s3 oo (.slice none 0 0) m1 W),x.to.cell? ⟨b.p,0,none⟩=some (.pointer (some ⟨b.c.c,0,none⟩)):=fun x=>x.held.po.pe.c0
 have q1:∀ x:HeldC (fun W=>TkF w b s3 oo (.slice none 0 0) m1 W),x.to.cell? ⟨b.p,4,none⟩=some (.pointer (some ⟨b.fe,0,none⟩)):=fun x=>x.held.po.pe.c4
 have q2:∀ x:HeldC (fun W=>TkF w b s3 oo (.slice none 0 0) m1 W),x.to.cell? ⟨b.p,1,none⟩=some (.pointer (some ⟨b.L.p,0,none⟩)):=fun x=>x.held.po.pe.c1
 have hCu:=hid (fun (W:World) (hW:TkF w b s3 oo (.slice none 0 0) m1 W)=>co_Current hW.po.pe.core)
 have hDr:=hid (fun (W:World) (hW:TkF w b s3 oo (.slice none 0 0) m1 W)=>fe_Drop0 b.fe hW.po.pe.feel (s3.x.now:Int))
 have hLe:Hid (∀ W,TkF w b s3 oo (.slice none 0 0) m1 W→Calls Tryz.prog 93 #[.pointer (some ⟨b.p,0,none⟩)] W fun e w'=>e=.returned (.int .i64 (leadC x3))∧∃ q,w'=W.drewN q):=hid (fun W hW=>by rw[←Hx3.out];exact pe_lead hW.po.pe)
 have hTi:Hid (∀ W,TkF w b s3 oo (.slice none 0 0) m1 W→Calls Tryz.prog 85 #[.pointer (some ⟨b.L.p,0,none⟩),.int .i64 (leadC x3)] W (TickPost W b.L s2.lk (leadC x3))):=hid (fun W hW=>by
  have h1:=HK.out.ht
  have h2:=HK.out.hh
  have h3:=HK.out.hout
  have h4:=HK.out.hm
  have h5:=HK.out.hn
  rw[←HL3.out] at h1 h2 h3 h4 h5 ⊢
  exact lk_Tick hW.po.pe.link (leadC x3) h1 h2 h3 h4 h5)
 clear hF7 hs3 hx3 hl3 hlk
 go_wp2_with fail
 refine stages_start (by kernel_rfl) 12 rfl ?_
 refine ht_start (fun W=>TkF w b s3 oo (.slice none 0 0) m1 W) [0,1,2,3,4,5,6,7,8,9,10,11] 0 12 rfl #[true,true,true,true,true,true,true,true,true,true,true,true] ?_
 have hne:Nonempty (HeldC (fun W=>TkF w b s3 oo (.slice none 0 0) m1 W)):=⟨⟨_,hF8⟩⟩
 refine ht_heads (m:=2) (hF8) [0,1,2,3,4,5,6,7,8,9] 10 rfl #[true,true,true,true,true,true,true,true,true,true,false,false] (by kernel_rfl) (by kernel_rfl) (fun _ _ _ d _ h=>by first|(cases d<;>exact h)|cases h.1) ?_
 simp only[opsAt,List.map_cons,List.map_nil,List.getElem?_toArray,List.getElem?_cons_zero,List.getElem?_cons_succ,Option.getD_some]
 repeat (go_big_quiet_step (fail))
 refine wpQuiet_nil ?_
 clear hne
 generalize w7.drew=w8 at *
 refine ht_one (m:=1) 10 #[true,true,true,true,true,true,true,true,true,true,true,false] (by kernel_rfl) (by kernel_rfl) (by kernel_rfl) (by kernel_rfl) (by simp only[opAt,List.getElem?_toArray,List.getElem?_cons_zero,List.getElem?_cons_succ,Option.getD_some];first|rfl|simp[go_sem]) (fun K hK=>?_)
 simp only[opAt,List.getElem?_toArray,List.getElem?_cons_zero,List.getElem?_cons_succ,Option.getD_some]
 go_simp
 refine (hCu.out _ hF8).mono ?_
 rintro e _ ⟨rfl,rfl⟩
 refine hK _ _ (hF8) ?_
 clear hK K
 refine ht_one (m:=0) 11 #[true,true,true,true,true,true,true,true,true,true,true,true] (by kernel_rfl) (by kernel_rfl) (by kernel_rfl) (by kernel_rfl) (by simp only[opAt,List.getElem?_toArray,List.getElem?_cons_zero,List.getElem?_cons_succ,Option.getD_some];first|rfl|simp[go_sem]) (fun K hK=>?_)
 simp only[opAt,List.getElem?_toArray,List.getElem?_cons_zero,List.getElem?_cons_succ,Option.getD_some]
 go_simp
 refine (hDr.out _ hF8).mono ?_
 rintro e w9 ⟨rfl,hb9,k9⟩
 have hF9:=hF8.turn (TkF.hlt Hlt.out) Ho.out (hF8.po.turn (hF8.po.pe.setFeel hb9 k9) k9 (fun j e=>IsPeer.subs b s3 7 rfl e)) k9 (fun j e=>.inl (IsPeer.subs b s3 7 rfl e))
 refine hK _ _ (hF9) ?_
 clear hK K
 refine ht_nil (by kernel_rfl) ?_
 refine stages_end (by kernel_rfl) ?_
 clear hF8 hb9 k9 hCu hDr
 have hFA:=hF9.keep (TkF.hlt Hlt.out) Ho.out (Keeps.refl _ w9).drew
 clear hF9
 go_wp2_with fail
 refine stages_start (by kernel_rfl) 10 rfl ?_
 refine ht_start (fun W=>TkF w b s3 oo (.slice none 0 0) m1 W) [0,1,2,3,4,5,6] 3 7 rfl #[true,true,true,true,true,true,true,false,false,false] ?_
 have hne:Nonempty (HeldC (fun W=>TkF w b s3 oo (.slice none 0 0) m1 W)):=⟨⟨_,hFA⟩⟩
 refine ht_heads (m:=1) (hFA) [0,1,2,3,4,5] 6 rfl #[true,true,true,true,true,true,false,false,false,false] (by kernel_rfl) (by kernel_rfl) (fun _ _ _ d _ h=>by first|(cases d<;>exact h)|cases h.1) ?_
 simp only[opsAt,List.map_cons,List.map_nil,List.getElem?_toArray,List.getElem?_cons_zero,List.getElem?_cons_succ,Option.getD_some]
 repeat (go_big_quiet_step (fail))
 refine wpQuiet_nil ?_
 clear hne
 generalize w9.drew=wA at *
 refine ht_one (m:=0) 6 #[true,true,true,true,true,true,true,false,false,false] (by kernel_rfl) (by kernel_rfl) (by kernel_rfl) (by kernel_rfl) (by simp only[opAt,List.getElem?_toArray,List.getElem?_cons_zero,List.getElem?_cons_succ,Option.getD_some];first|rfl|simp[go_sem]) (fun K hK=>?_)
 simp only[opAt,List.getElem?_toArray,List.getElem?_cons_zero,List.getElem?_cons_succ,Option.getD_some]
 go_simp
 refine (hLe.out _ hFA).mono ?_
 rintro e _ ⟨rfl,q,rfl⟩
 have hFB:=hFA.keep (TkF.hlt Hlt.out) Ho.out ((Keeps.refl _ wA).drewN q)
 refine hK _ _ (hFB) ?_
 clear hK K
 refine ht_nil (by kernel_rfl) ?_
 clear hFA
 generalize wA.drewN q=wB at *
 refine ht_start (fun _=>True) [7,8,9] 0 3 rfl #[true,true,true,true,true,true,true,true,true,true] ?_
 refine ht_one (m:=2) 7 #[true,true,true,true,true,true,true,true,false,false] (by kernel_rfl) (by kernel_rfl) (by kernel_rfl) (by kernel_rfl) (by simp only[opAt,List.getElem?_toArray,List.getElem?_cons_zero,List.getElem?_cons_succ,Option.getD_some];first|rfl|simp[go_sem]) (fun K hK=>?_)
 simp only[opAt,List.getElem?_toArray,List.getElem?_cons_zero,List.getElem?_cons_succ,Option.getD_some]
 go_simp
 refine (hTi.out _ hFB).mono ?_
 rintro e wC ⟨⟨A,cap,rfl,hV,hA⟩,hl,kC⟩
 have hFC:=hFB.turn (TkF.hlt Hlt.out) Ho.out (hFB.po.turn (hFB.po.pe.setLink hl kC) kC (fun j e=>IsPeer.subs b s3 2 rfl e)) kC (fun j e=>.inl (IsPeer.subs b s3 2 rfl e))
 refine hK _ _ (trivial) ?_
 clear hK K
 refine ht_one (m:=1) 8 #[true,true,true,true,true,true,true,true,true,false] (by kernel_rfl) (by kernel_rfl) (by kernel_rfl) (by kernel_rfl) (by simp only[opAt,List.getElem?_toArray,List.getElem?_cons_zero,List.getElem?_cons_succ,Option.getD_some];first|rfl|simp[go_sem]) (fun K hK=>?_)
 simp only[opAt,List.getElem?_toArray,List.getElem?_cons_zero,List.getElem?_cons_succ,Option.getD_some]
 go_simp
 refine hK _ _ (trivial) ?_
 clear hK K
 have u1:wC.cell? ⟨oo,1,none⟩=some (.slice none 0 0):=blk_cell (k:=1) hFC.po.out rfl
 have f1:=blk_free hFC.po.out 1
 refine ht_one (m:=0) 9 #[true,true,true,true,true,true,true,true,true,true] (by kernel_rfl) (by kernel_rfl) (by kernel_rfl) (by kernel_rfl) (by simp only[opAt,List.getElem?_toArray,List.getElem?_cons_zero,List.getElem?_cons_succ,Option.getD_some];first|rfl|simp[go_sem]) (fun K hK=>?_)
 simp only[opAt,List.getElem?_toArray,List.getElem?_cons_zero,List.getElem?_cons_succ,Option.getD_some]
 go_simp
 refine hK _ _ (trivial) ?_
 clear hK K
 refine ht_nil (by kernel_rfl) ?_
 refine stages_end (by kernel_rfl) ?_
 rw[Hlk.out] at hFC
 have hFC:TkF w b (lkS s2 x3) oo (.slice none 0 0) m1 wC:=hFC
 have kD:=(Keeps.refl (fun j=>j=oo) wC).setCell (p:=⟨oo,1,none⟩) rfl (.slice A (tickF s2.lk (leadC x3)).1.length cap)
 have hPD:PO (wC.setCell ⟨oo,1,none⟩ (.slice A (tickF s2.lk (leadC x3)).1.length cap)) b (lkS s2 x3) oo (.slice A (tickF s2.lk (leadC x3)).1.length cap) m1:=
  ⟨hFC.po.pe.keep2 kD (fun j hj e=>hFC.po.off (e▸hj)),by simpa using blk_set hFC.po.out 1 (.slice A (tickF s2.lk (leadC x3)).1.length cap),hFC.po.off⟩
 have hFD:=hFC.turn (TkF.hlt Hlt.out) Ho.out hPD kD (fun j e=>.inr e)
 have hzB:=blk_lt hFB.po.out
 have hVD:=hV.keeps kD (fun _ x e1 e2=>by have:=hA x e1;omega)
 have hG:=hid (pe_gone hPD (show s2.halted=false from HK.out.hal2) (show s2.lh=false from HK.out.lh2))
 have HFD:=hid hFD
 have HVD:=hid hVD
 have HA:=hid hA
 clear hFC kD hPD hFD hVD hA hV u1 f1 hl kC hLe hTi hFB q0 q1 q2
 generalize wC.setCell ⟨oo,1,none⟩ (.slice A (tickF s2.lk (leadC x3)).1.length cap)=wD at *
 go_wp2_with fail
 refine hG.out.mono ?_
 rintro e wE ⟨rfl,hpE,kE⟩
 have hFE:=HFD.out.turn (TkF.hlt Hlt.out) Ho.out hpE kE (fun _ e=>e)
 have hAo:∀ x,A=some x→oo<x.block:=fun x e=>by have:=HA.out x e;omega
 have hAw:∀ x,A=some x→w.heap.size<x.block:=fun x e=>by have:=hAo x e;have:=Ho.out;omega
 have hVE:=HVD.out.keeps kE (fun _ x e1 e2=>by
  have h1:=hAo x e1
  have h2:=hAw x e1
  rcases e2 with e2|e2
  ·have:=(TkF.hlt (s1:=lkS s2 x3) Hlt.out) _ e2
   omega
  ·omega)
 obtain ⟨d0,d1,d2⟩:=bc3 0 1 2 hFE.po.out ⟨rfl,rfl,rfl⟩
 obtain ⟨g0,g1,g2⟩:=bf3 hFE.rs 0 1 2
 obtain ⟨z0,z1,z2⟩:=bc3 0 1 2 hFE.rs ⟨rfl,rfl,rfl⟩
 have hB2:=blk_three hFE.rs (.slice none 0 0) (.slice A (tickF s2.lk (leadC x3)).1.length cap) (.bool m1)
 have k2:=keeps_three wE w.heap.size (.slice none 0 0) (.slice A (tickF s2.lk (leadC x3)).1.length cap) (.bool m1)
 have h2:=hFE.po.pe.keep2 k2 (fun j hj e=>by have:=(TkF.hlt Hlt.out) j hj;omega)
 have kk:Keeps (b.S (gonS (lkS s2 x3))) w wE:=hFE.kp.mono fun j hj e=>by
  rcases e with e|e
  ·exact e
  ·exact absurd hj (by have:=Ho.out;omega)
 have kf:=keeps_past kk k2 (fun k hk e=>by omega)
 have hVF:=hVE.keeps k2 (fun _ x e1 e2=>by have:=hAw x e1;omega)
 have H2:=hid h2
 have HVF:=hid hVF
 have HAw:=hid hAw
 have HB2:=hid hB2
 have Kf:=hid kf
 clear HFD HVD HA hG hpE kE hAo hAw hVE k2 h2 kk kf hVF hFE hB2
 go_wp2_with fail
 have hload:=box_load _ _ _ _ HB2.out 3 rfl
 refine bodyPost_ret (v:=.tuple #[.agg #[.slice none 0 0,.slice A (tickF s2.lk (leadC x3)).1.length cap,.bool m1],.int .i64 0]) (by simp[results,Tryz.results60,asAddr,loadVar,loadCells,Tryz.isAgg35,Tryz.sizeOf35,hload]) rfl ?_
 exact ⟨⟨A,cap,rfl,HVF.out,fun y e=>Nat.le_of_lt (HAw.out y e)⟩,H2.out,Kf.out⟩
end
section
open Go.RowKit
open Go.Maps
set_option maxRecDepth 100000
variable {w w':World} {b:PeB} {s:Pe} {o:Nat} {S:Value} {m:Bool}
def PHear (w:World) (b:PeB) (s5:Pe) (er:Int) (e:Ending) (w':World):Prop:=
 e=.returned (.tuple #[.agg #[.slice none 0 0,.slice none 0 0,.bool false],.int .i64 er])∧IsPeer w' b s5∧Keeps (b.S s5) w w'
theorem pe_Hear_halted (h:IsPeer w b s) (hh:s.halted=true) (t:ByteArray):Calls Tryz.prog 65 #[.pointer (some ⟨b.p,0,none⟩),.string t] w (PHear w b s 12):=by
 have k0:=(Keeps.refl (fun _=>False) w).alloc (.cells #[.slice none 0 0,.slice none 0 0,.bool false] 35)
 have h1:=h.keep k0
 have hB1:=blk_new w (.cells #[.slice none 0 0,.slice none 0 0,.bool false] 35)
 have c9:=h1.c9
 rw[hh] at c9
 have Hlt:=hid (fun j (hj:b.S s j)=>h.lt hj)
 have kk1:=keeps_any (S:=b.S s) k0
 have H1:=hid h1
 clear h k0 h1
 go_enter Tryz.func65,Tryz.ntmps65
 go_wp2_with fail
 have hload:=box_load _ _ _ _ hB1 3 rfl
 refine bodyPost_ret (v:=.tuple #[.agg #[.slice none 0 0,.slice none 0 0,.bool false],.int .i64 12]) (by simp[results,Tryz.results65,asAddr,loadVar,loadCells,Tryz.isAgg35,Tryz.sizeOf35,hload]) rfl ?_
 exact ⟨rfl,H1.out,kk1⟩
structure LkOk (l:Lk) (t:ByteArray):Prop where
 hs:t.size≤100000
 hn:0≤l.next∧l.next≤1073741824
 ha:0≤l.acked∧l.acked≤1073741824
 hg:0≤l.good∧l.good≤1000000
 hb:0≤l.bad∧l.bad≤1000000
 ht:0≤l.stale∧l.stale≤1000000
theorem pe_Hear_err (h:IsPeer w b s) (hh:s.halted=false) (t:ByteArray) (hk:LkOk s.lk t) (er:Int) (her:(hearF s.lk t.data.toList).2.1=er) (hne:er≠0) :
  Calls Tryz.prog 65 #[.pointer (some ⟨b.p,0,none⟩),.string t] w (PHear w b { s with lk:=(hearF s.lk t.data.toList).2.2 } er):=by
 have k0:=(Keeps.refl (fun _=>False) w).alloc (.cells #[.slice none 0 0,.slice none 0 0,.bool false] 35)
 have h0:=h.keep k0
 have hB:=blk_new w (.cells #[.slice none 0 0,.slice none 0 0,.bool false] 35)
 have c9:=h0.c9
 rw[hh] at c9
 have c1:=h0.c1
 have Hlt:=hid (fun j (hj:b.S s j)=>h.lt hj)
 have hH:=hid (lk_HearN h0.link t hk.hs hk.hn hk.ha hk.hg hk.hb hk.ht)
 rw[her] at hH
 have hd:(er != 0)=true:=by simpa using hne
 have H0:=hid h0
 clear h hk her h0 hne
 go_enter Tryz.func65,Tryz.ntmps65
 go_wp2_with fail
 generalize w.alloc (.cells #[.slice none 0 0,.slice none 0 0,.bool false] 35)=w0 at *
 refine hH.out.mono ?_
 rintro e w1' ⟨⟨a,c,rfl,hb,hlo⟩,hl,k1⟩
 have h1':=H0.out.setLink hl k1
 have hB1':=k1.heap hB (fun e=>by have:=Hlt.out _ (IsPeer.subs b s 2 rfl e);omega)
 have kk1':Keeps (b.S s) w w1':=(keeps_any k0).trans (k1.mono fun j _ e=>IsPeer.subs b s 2 rfl e)
 have kq:=(Keeps.refl (fun _=>False) w1').alloc (.cells (hC (hearF s.lk t.data.toList).1 a c) 199)
 have h1:=h1'.keep kq
 have hB1:=kq.heap hB1' id
 have kk1:=kk1'.trans (keeps_any kq)
 clear h1' hB1' kk1' hl k1 H0 hB hb hlo k0
 unfold hC at *
 go_upto_region 7 with fail
 generalize World.alloc w1' _=w1 at *
 obtain ⟨g0,g1,g2⟩:=bf3 hB1 0 1 2
 obtain ⟨z0,z1,z2⟩:=bc3 0 1 2 hB1 ⟨rfl,rfl,rfl⟩
 have hB2:=blk_three hB1 (.slice none 0 0) (.slice none 0 0) (.bool false)
 have k2:=keeps_three w1 w.heap.size (.slice none 0 0) (.slice none 0 0) (.bool false)
 have h2:=h1.keep2 k2 (fun j hj e=>by have:=Hlt.out j (by rw[peS_same b s _];exact hj);omega)
 have kk:=keeps_past kk1 k2 (fun k hk e=>by omega)
 have H2:=hid h2
 have HB2:=hid hB2
 have Kk:=hid kk
 clear h1 h2 k2 hB1 kk kk1 hB2
 go_wp2_with fail
 have hload:=box_load _ _ _ _ HB2.out 3 rfl
 refine bodyPost_ret (v:=.tuple #[.agg #[.slice none 0 0,.slice none 0 0,.bool false],.int .i64 er]) (by simp[results,Tryz.results65,asAddr,loadVar,loadCells,Tryz.isAgg35,Tryz.sizeOf35,hload]) rfl ?_
 exact ⟨rfl,H2.out,by rw[peS_same b _ s];exact Kk.out⟩
end
section
open Go.RowKit
open Go.Maps
set_option maxRecDepth 100000
variable {w w':World} {b:PeB} {s:Pe} {o:Nat} {S:Value} {m:Bool}
def hrdC (x:Co):Nat→Co
 | 0=>x
 | j+1=>putC (hrdC x j) (1-x.me) 0
theorem hrdC_same (x:Co):∀ j,(hrdC x j).me=x.me∧((hrdC x j).f (1-x.me)).next=(x.f (1-x.me)).next+j∧((hrdC x j).f (1-x.me)).first=(x.f (1-x.me)).first
 | 0=>⟨rfl,rfl,rfl⟩
 | j+1=>by
  obtain ⟨h1,h2,h3⟩:=hrdC_same x j
  refine ⟨h1,?_,?_⟩
  ·show ((setF (hrdC x j).f (1-x.me) _) (1-x.me)).next=_
   rw[setF_same]
   simp only[h2]
   omega
  ·show ((setF (hrdC x j).f (1-x.me) _) (1-x.me)).first=_
   rw[setF_same]
   exact h3
structure HrF (w:World) (b:PeB) (s:Pe) (oo hb:Nat) (R:Hrd) (a:Option Addr) (c:Nat) (W:World):Prop where
 po:PO W b s oo (.slice none 0 0) false
 rs:W.heap[w.heap.size]?=some (.cells #[.slice none 0 0,.slice none 0 0,.bool false] 35 (0,0))
 hd:W.heap[hb]?=some (.cells (hC R a c) 199 (0,0))
 by':IsBytes W a c R.ins
 kp:Keeps (PT b s oo) w W
structure HrP (w:World) (b:PeB) (s:Pe) (oo q:Nat) (R:Hrd) (a:Option Addr):Prop where
 lt:∀ j,b.S s j→j<w.heap.size
 gt:w.heap.size<q
 ooq:oo=q+1
 ins:∀ x,R.ins≠[]→a=some x→w.heap.size<x.block∧x.block<q
theorem HrP.other {oo q:Nat} {R:Hrd} {a:Option Addr} (h:HrP w b s oo q R a) (s1:Pe):HrP w b s1 oo q R a:=⟨fun j hj=>h.lt j (by rw[peS_same b s s1];exact hj),h.gt,h.ooq,h.ins⟩
theorem HrF.turn {oo hb:Nat} {R:Hrd} {a:Option Addr} {c:Nat} {T:Nat→Prop} {s1:Pe} {W W':World} (h:HrF w b s oo hb R a c W) (hp:HrP w b s oo hb R a) (h1:PO W' b s1 oo (.slice none 0 0) false) (hk:Keeps T W W') (hT:∀ j,T j→b.S s j):HrF w b s1 oo hb R a c W':=by
 refine ⟨h1,hk.heap h.rs fun e=>?_,hk.heap h.hd fun e=>?_,h.by'.keeps hk fun hne x ex e=>?_,by rw[PT_same b s1 s oo];exact h.kp.trans (hk.mono fun j _ hj=>.inl (hT j hj))⟩
 ·have:=hp.lt _ (hT _ e)
  omega
 ·have:=hp.lt _ (hT _ e)
  have:=hp.gt
  omega
 ·have:=hp.lt _ (hT _ e)
  have:=hp.ins x hne ex
  omega
structure HrOk (s:Pe) (t:ByteArray):Prop where
 hal:s.halted=false
 lk:LkOk s.lk t
 er:(hearF s.lk t.data.toList).2.1=0
 st:(hearF s.lk t.data.toList).2.2.state≠2
 z:∀ v∈(hearF s.lk t.data.toList).1.ins,v=0
 frm:(hearF s.lk t.data.toList).1.ins≠[]→(hearF s.lk t.data.toList).1.frm=(s.x.f (1-s.x.me)).next
 nx:(s.x.f (1-s.x.me)).next+(hearF s.lk t.data.toList).1.ins.length≤1000000
 w:(s.x.f (1-s.x.me)).first≤(s.x.f (1-s.x.me)).next∧(s.x.f (1-s.x.me)).next+(hearF s.lk t.data.toList).1.ins.length≤(s.x.f (1-s.x.me)).first+64
 rep:(hearF s.lk t.data.toList).1.kind=4→(0≤(hearF s.lk t.data.toList).1.frame∧(hearF s.lk t.data.toList).1.frame≤1000000)∧Maps.has s.D (.int .i64 (hearF s.lk t.data.toList).1.frame)=true∧s.D.atKey (.int .i64 (hearF s.lk t.data.toList).1.frame) (.lit (.int .u32 0))=.lit (.int .u32 (hearF s.lk t.data.toList).1.sum)
def hrdS (s:Pe) (r:Hrd×Int×Lk):Pe:={ s with x:=hrdC s.x r.1.ins.length,lk:=r.2.2,far:=if r.1.kind=6 then r.1.lead else s.far }
set_option maxHeartbeats 2000000 in
theorem pe_Hear_ok (h:IsPeer w b s) (t:ByteArray) (hk:HrOk s t) :
  Calls Tryz.prog 65 #[.pointer (some ⟨b.p,0,none⟩),.string t] w (PHear w b (hrdS s (hearF s.lk t.data.toList)) 0):=by
 have k0:=(Keeps.refl (fun _=>False) w).alloc (.cells #[.slice none 0 0,.slice none 0 0,.bool false] 35)
 have h0:=h.keep k0
 have hB:=blk_new w (.cells #[.slice none 0 0,.slice none 0 0,.bool false] 35)
 have hz0:(w.alloc (.cells #[.slice none 0 0,.slice none 0 0,.bool false] 35)).heap.size=w.heap.size+1:=by simp
 have c9:=h0.c9
 rw[hk.hal] at c9
 have c1:=h0.c1
 have Hlt:=hid (fun j (hj:b.S s j)=>h.lt hj)
 have hH:=hid (lk_HearN h0.link t hk.lk.hs hk.lk.hn hk.lk.ha hk.lk.hg hk.lk.hb hk.lk.ht)
 obtain ⟨hal,lk0,her,hst,hz,hfrm,hnx,hw,hrep⟩:=hk
 rw[her] at hH
 have H0:=hid h0
 have Hst:=hid hst
 have Hz:=hid hz
 have Hfrm:=hid hfrm
 have Hnx:=hid hnx
 have Hw:=hid hw
 have Hrep:=hid hrep
 have Hz0:=hid hz0
 clear hal lk0 h her h0 hst hz hfrm hnx hw hrep hz0
 generalize hearF s.lk t.data.toList=r at *
 obtain ⟨R,er,l1⟩:=r
 simp only at *
 go_enter Tryz.func65,Tryz.ntmps65
 go_wp2_with fail
 generalize w.alloc (.cells #[.slice none 0 0,.slice none 0 0,.bool false] 35)=w0 at *
 refine hH.out.mono ?_
 rintro e w1 ⟨⟨a,c,rfl,hb,hlo⟩,hl,k1⟩
 have h1:=H0.out.setLink hl k1
 have hB1:=k1.heap hB (fun e=>by have:=Hlt.out _ (IsPeer.subs b s 2 rfl e);omega)
 have kq:=((Keeps.refl (fun _=>False) w1).alloc (.cells (hC R a c) 199)).alloc (.cells #[.slice none 0 0,.slice none 0 0,.bool false] 35)
 have hz1:(w1.alloc (.cells (hC R a c) 199)).heap.size=w1.heap.size+1:=by simp
 have hs1:=k1.size
 obtain ⟨oo,ho⟩:∃ oo,oo=w1.heap.size+1:=⟨_,rfl⟩
 have hoff:¬ b.S { s with lk:=l1 } oo:=fun e=>by rw[peS_same b _ s] at e;have:=Hlt.out _ e;have:=blk_lt hB;omega
 have hHP:HrP w b { s with lk:=l1 } oo w1.heap.size R a:=by
  refine ⟨fun j hj=>Hlt.out j (by rw[peS_same b s _];exact hj),?_,ho,fun x hne e=>⟨?_,hb.lt hne x e⟩⟩
  ·have:=blk_lt hB
   omega
  ·have:=hlo x e
   have:=Hz0.out
   omega
 have hF:HrF w b { s with lk:=l1 } oo w1.heap.size R a c ((w1.alloc (.cells (hC R a c) 199)).alloc (.cells #[.slice none 0 0,.slice none 0 0,.bool false] 35)):=
  ⟨⟨h1.keep kq,by rw[ho,←hz1];exact blk_new _ _,hoff⟩,kq.heap hB1 id,blk_alloc (blk_new w1 _) _,hb.keeps kq (fun _ _ _=>id),
   (keeps_any (k0.trans (Keeps.refl _ _))).trans ((k1.mono fun j _ e=>.inl (IsPeer.subs b _ 2 rfl e)).trans (keeps_any kq))⟩
 have HF:=hid hF
 have HP:=hid hHP
 have Ho:=hid ho
 clear ho h1 hB1 kq hz1 hs1 hoff hHP hF hb hlo hl k1 H0 hB k0
 unfold hC at *
 go_upto_region 9 with fail
 rw[←Ho.out]
 generalize World.alloc (World.alloc w1 _) _=w2 at *
 have d2:w2.cell? ⟨w1.heap.size,2,none⟩=some (.slice a R.ins.length c):=blk_cell (k:=2) HF.out.hd rfl
 generalize w1.heap.size=q at *
 go_wp2_with fail
 go_loopg [9,10,38] R.ins.length (fun g _ _ i wr=>∃ j:Nat,g=R.ins.length-j∧j≤R.ins.length∧i=.int .i64 j∧HrF w b { s with lk:=l1,x:=hrdC s.x j } oo q R a c wr)
 case atStart=>exact ⟨0,rfl,Nat.zero_le _,rfl,HF.out⟩
 case round=>
  obtain ⟨j,hg,hj,rfl,hF⟩:=hrel
  have HP:=hid (HP.out.other { s with lk:=l1,x:=hrdC s.x j })
  clear HF d2
  by_cases hlt:j<R.ins.length
  ·have hne:R.ins≠[]:=fun e=>by rw[e] at hlt;simp at hlt
   obtain ⟨bb,oq,rfl,hc⟩:=hF.by'.at' hne
   have y0:wr.cell? ⟨bb,oq+j,none⟩=some (.int .u8 0):=by
    have h1:=hc j hlt
    have h2:=Hz.out _ (List.getElem_mem hlt)
    rw[h2] at h1
    exact h1
   have hsm:=hrdC_same s.x j
   have hfr:R.frm+(j:Int)=((hrdC s.x j).f (1-s.x.me)).next:=by
    rw[Hfrm.out hne,hsm.2.1]
    omega
   have hw1:IntKind.i64.wrap (R.frm+(j:Int))=R.frm+(j:Int):=IntWalk.i64_in _ (by have:=Hnx.out;rw[Hfrm.out hne];omega)
   have HC:Hid (∀ W,HrF w b { s with lk:=l1,x:=hrdC s.x j } oo q R (some ⟨bb,oq,none⟩) c W→Calls Tryz.prog 103 #[.pointer (some ⟨b.c.c,0,none⟩),.int .i64 (R.frm+(j:Int)),.int .u8 0] W fun e w'=>e=.returned (.int .i64 0)∧IsCore w' b.c (hrdC s.x (j+1))∧Keeps b.c.S W w'):=hid (fun W hW=>by
    have h9:=co_Hear (x:=hrdC s.x j) hW.po.pe.core 0 (by omega) (R.frm+(j:Int)) (by rw[hsm.1];exact hfr) (by rw[hsm.1,hsm.2.1];have:=Hnx.out;omega) (by rw[hsm.1,hsm.2.1,hsm.2.2];have:=Hw.out;omega)
    rw[hsm.1] at h9
    exact h9)
   have hlq:=blk_lt hF.hd
   have HFr:=hid hF
   clear hF hc hfr hsm hne
   have hFd:HrF w b { s with lk:=l1,x:=hrdC s.x j } oo q R (some ⟨bb,oq,none⟩) c wr.drew:=HFr.out.turn HP.out (HFr.out.po.keep (Keeps.refl _ wr).drew) (Keeps.refl (fun _=>False) wr).drew (fun _ e=>e.elim)
   obtain ⟨G,hG⟩:∃ G:World→Prop,∀ W,G W↔HrF w b { s with lk:=l1,x:=hrdC s.x j } oo q R (some ⟨bb,oq,none⟩) c W:=⟨_,fun _=>Iff.rfl⟩
   have q0:∀ x:HeldC G,x.to.cell? ⟨b.p,0,none⟩=some (.pointer (some ⟨b.c.c,0,none⟩)):=fun x=>((hG _).1 x.held).po.pe.c0
   have q1:∀ x:HeldC G,x.to.cell? ⟨q,1,none⟩=some (.int .i64 R.frm):=fun x=>blk_cell (k:=1) ((hG _).1 x.held).hd rfl
   have hGd:=(hG _).2 hFd
   have HFd:=hid hFd
   clear hG hFd HFr
   go_wp2_with fail
   refine stages_start (by kernel_rfl) 11 rfl ?_
   refine ht_start (G) [0,1,2,3,4,5,6,7,8,9] 1 10 rfl #[true,true,true,true,true,true,true,true,true,true,false] ?_
   have hne:Nonempty (HeldC (G)):=⟨⟨_,hGd⟩⟩
   refine ht_heads (m:=0) (hGd) [0,1,2,3,4,5,6,7,8,9] 10 rfl #[true,true,true,true,true,true,true,true,true,true,false] (by kernel_rfl) (by kernel_rfl) (fun _ _ _ d _ h=>by first|(cases d<;>exact h)|cases h.1) ?_
   simp only[opsAt,List.map_cons,List.map_nil,List.getElem?_toArray,List.getElem?_cons_zero,List.getElem?_cons_succ,Option.getD_some]
   repeat (go_big_quiet_step (fail))
   refine wpQuiet_nil ?_
   clear hne
   generalize wr.drew=wd at *
   refine ht_nil (by kernel_rfl) ?_
   refine ht_start (fun _=>True) [10] 0 1 rfl #[true,true,true,true,true,true,true,true,true,true,true] ?_
   refine ht_one (m:=0) 10 #[true,true,true,true,true,true,true,true,true,true,true] (by kernel_rfl) (by kernel_rfl) (by kernel_rfl) (by kernel_rfl) (by simp only[opAt,List.getElem?_toArray,List.getElem?_cons_zero,List.getElem?_cons_succ,Option.getD_some];first|rfl|simp[go_sem]) (fun K hK=>?_)
   simp only[opAt,List.getElem?_toArray,List.getElem?_cons_zero,List.getElem?_cons_succ,Option.getD_some]
   go_simp
   refine (HC.out _ HFd.out).mono ?_
   rintro e w5 ⟨rfl,hx5,k5⟩
   refine hK _ _ (trivial) ?_
   clear hK K
   refine ht_nil (by kernel_rfl) ?_
   refine stages_end (by kernel_rfl) ?_
   have hFd:=HFd.out
   have hF5:HrF w b { s with lk:=l1,x:=hrdC s.x (j+1) } oo q R (some ⟨bb,oq,none⟩) c w5:=hFd.turn HP.out (hFd.po.turn (hFd.po.pe.setCore hx5 k5) k5 (fun j e=>IsPeer.subs b _ 1 rfl e)) k5 (fun j e=>IsPeer.subs b _ 1 rfl e)
   have hL:R.ins.length≤1000000:=by have:=Hnx.out;omega
   clear hFd HFd hGd hx5 k5 HC q0 q1
   go_wp2_with fail
   go_roundg (R.ins.length-(j+1))
   case rel=>exact ⟨j+1,rfl,by omega,by go_num,hF5⟩
   case measure=>omega
  ·obtain rfl:j=R.ins.length:=by omega
   have d0:wr.cell? ⟨q,0,none⟩=some (.int .i64 R.kind):=blk_cell (k:=0) hF.hd rfl
   have d3:wr.cell? ⟨q,3,none⟩=some (.int .i64 R.frame):=blk_cell (k:=3) hF.hd rfl
   have d4:wr.cell? ⟨q,4,none⟩=some (.int .u32 R.sum):=blk_cell (k:=4) hF.hd rfl
   have d5:wr.cell? ⟨q,5,none⟩=some (.int .i64 R.lead):=blk_cell (k:=5) hF.hd rfl
   by_cases k4:R.kind=4
   ·have hr:=Hrep.out k4
    have HH:=hid (pe_hold hF.po R.frame R.sum hr.1 hr.2.1 hr.2.2)
    have HG:=hid (pe_gone_no hF.po Hst.out)
    have e4:(R.kind == 4)=true:=by rw[k4];rfl
    have Hfin:=hid (show hrdS s (R,er,l1)={ s with lk:=l1,x:=hrdC s.x R.ins.length } by unfold hrdS;simp only;rw[if_neg (by omega)])
    have HF:=hid hF
    clear hr hF
    go_wp2_with fail
    refine HH.out.mono ?_
    rintro e _ ⟨rfl,rfl⟩
    go_wp2_with fail
    refine HG.out.mono ?_
    rintro e _ ⟨rfl,rfl⟩
    obtain ⟨o0,o1,o2⟩:=bc3 0 1 2 HF.out.po.out ⟨rfl,rfl,rfl⟩
    obtain ⟨g0,g1,g2⟩:=bf3 HF.out.rs 0 1 2
    obtain ⟨z0,z1,z2⟩:=bc3 0 1 2 HF.out.rs ⟨rfl,rfl,rfl⟩
    have hB2:=blk_three HF.out.rs (.slice none 0 0) (.slice none 0 0) (.bool false)
    have k2:=keeps_three wr w.heap.size (.slice none 0 0) (.slice none 0 0) (.bool false)
    have h2:=HF.out.po.pe.keep2 k2 (fun j hj e=>by have:=Hlt.out j (by rw[peS_same b s _];exact hj);omega)
    have kk:=keeps_past (HF.out.kp.mono (T:=b.S s) fun j hj e=>by
     rcases e with e|e
     ·rw[peS_same b s _];exact e
     ·have h7:=HP.out.gt
      have h8:=HP.out.ooq
      omega) k2 (fun k hk e=>by omega)
    have H2:=hid h2
    have HB2:=hid hB2
    have Kk:=hid kk
    clear h2 k2 kk HF hB2
    go_wp2_with fail
    have hload:=box_load _ _ _ _ HB2.out 3 rfl
    refine bodyPost_ret (v:=.tuple #[.agg #[.slice none 0 0,.slice none 0 0,.bool false],.int .i64 0]) (by simp[results,Tryz.results65,asAddr,loadVar,loadCells,Tryz.isAgg35,Tryz.sizeOf35,hload]) rfl ?_
    exact ⟨rfl,by rw[Hfin.out];exact H2.out,by rw[peS_same b _ s];exact Kk.out⟩
   ·have e4:(R.kind == 4)=false:=by simpa using k4
    by_cases k6:R.kind=6
    ·have e6:(R.kind == 6)=true:=by rw[k6];rfl
     have Hfin:=hid (show hrdS s (R,er,l1)={ s with lk:=l1,x:=hrdC s.x R.ins.length,far:=R.lead } by unfold hrdS;simp only;rw[if_pos k6])
     have c8:=hF.po.pe.c8
     have g8:=hF.po.pe.free 8
     have kz:=(Keeps.refl (fun j=>j=b.p) wr).setCell (p:=⟨b.p,8,none⟩) rfl (.int .i64 R.lead)
     have hF:=hF.turn HP.out (hF.po.turn (hF.po.pe.far R.lead) kz (fun j e=>IsPeer.subs b _ 0 rfl e)) kz (fun j e=>IsPeer.subs b _ 0 rfl e)
     have HG:=hid (pe_gone_no hF.po Hst.out)
     have HF:=hid hF
     clear kz hF
     go_wp2_with fail
     refine HG.out.mono ?_
     rintro e _ ⟨rfl,rfl⟩
     generalize wr.setCell ⟨b.p,8,none⟩ (.int .i64 R.lead)=wr at *
     obtain ⟨o0,o1,o2⟩:=bc3 0 1 2 HF.out.po.out ⟨rfl,rfl,rfl⟩
     obtain ⟨g0,g1,g2⟩:=bf3 HF.out.rs 0 1 2
     obtain ⟨z0,z1,z2⟩:=bc3 0 1 2 HF.out.rs ⟨rfl,rfl,rfl⟩
     have hB2:=blk_three HF.out.rs (.slice none 0 0) (.slice none 0 0) (.bool false)
     have k2:=keeps_three wr w.heap.size (.slice none 0 0) (.slice none 0 0) (.bool false)
     have h2:=HF.out.po.pe.keep2 k2 (fun j hj e=>by have:=Hlt.out j (by rw[peS_same b s _];exact hj);omega)
     have kk:=keeps_past (HF.out.kp.mono (T:=b.S s) fun j hj e=>by
      rcases e with e|e
      ·rw[peS_same b s _];exact e
      ·have h7:=HP.out.gt
       have h8:=HP.out.ooq
       omega) k2 (fun k hk e=>by omega)
     have H2:=hid h2
     have HB2:=hid hB2
     have Kk:=hid kk
     clear h2 k2 kk HF hB2
     go_wp2_with fail
     have hload:=box_load _ _ _ _ HB2.out 3 rfl
     refine bodyPost_ret (v:=.tuple #[.agg #[.slice none 0 0,.slice none 0 0,.bool false],.int .i64 0]) (by simp[results,Tryz.results65,asAddr,loadVar,loadCells,Tryz.isAgg35,Tryz.sizeOf35,hload]) rfl ?_
     exact ⟨rfl,by rw[Hfin.out];exact H2.out,by rw[peS_same b _ s];exact Kk.out⟩
    ·have e6:(R.kind == 6)=false:=by simpa using k6
     have HG:=hid (pe_gone_no hF.po Hst.out)
     have Hfin:=hid (show hrdS s (R,er,l1)={ s with lk:=l1,x:=hrdC s.x R.ins.length } by unfold hrdS;simp only;rw[if_neg k6])
     have HF:=hid hF
     clear hF
     go_wp2_with fail
     refine HG.out.mono ?_
     rintro e _ ⟨rfl,rfl⟩
     obtain ⟨o0,o1,o2⟩:=bc3 0 1 2 HF.out.po.out ⟨rfl,rfl,rfl⟩
     obtain ⟨g0,g1,g2⟩:=bf3 HF.out.rs 0 1 2
     obtain ⟨z0,z1,z2⟩:=bc3 0 1 2 HF.out.rs ⟨rfl,rfl,rfl⟩
     have hB2:=blk_three HF.out.rs (.slice none 0 0) (.slice none 0 0) (.bool false)
     have k2:=keeps_three wr w.heap.size (.slice none 0 0) (.slice none 0 0) (.bool false)
     have h2:=HF.out.po.pe.keep2 k2 (fun j hj e=>by have:=Hlt.out j (by rw[peS_same b s _];exact hj);omega)
     have kk:=keeps_past (HF.out.kp.mono (T:=b.S s) fun j hj e=>by
      rcases e with e|e
      ·rw[peS_same b s _];exact e
      ·have h7:=HP.out.gt
       have h8:=HP.out.ooq
       omega) k2 (fun k hk e=>by omega)
     have H2:=hid h2
     have HB2:=hid hB2
     have Kk:=hid kk
     clear h2 k2 kk HF hB2
     go_wp2_with fail
     have hload:=box_load _ _ _ _ HB2.out 3 rfl
     refine bodyPost_ret (v:=.tuple #[.agg #[.slice none 0 0,.slice none 0 0,.bool false],.int .i64 0]) (by simp[results,Tryz.results65,asAddr,loadVar,loadCells,Tryz.isAgg35,Tryz.sizeOf35,hload]) rfl ?_
     exact ⟨rfl,by rw[Hfin.out];exact H2.out,by rw[peS_same b _ s];exact Kk.out⟩
end
end Go.Proofs.YtalagblioepadaaGreatDoor
