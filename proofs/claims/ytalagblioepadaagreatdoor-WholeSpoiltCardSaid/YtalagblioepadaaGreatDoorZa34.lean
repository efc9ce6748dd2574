/- The proof, part 34. -/
import Derived.Test.YtalagblioepadaaGreatDoorZa33
import Derived.Test.YtalagblioepadaaGreatDoorZa08
import Derived.Deep.LoopGhost
namespace Go.Proofs.YtalagblioepadaaGreatDoor
section
open Go.RowKit
set_option maxRecDepth 10000
variable {w:World} {B:LB} {l:Lk}
theorem lk_waiting (a:Addr) (w:World):Calls Tryz.prog 197 #[.pointer (some a)] w fun e w'=>e=.returned (.func (.func 260) #[] #[.pointer (some ⟨w.heap.size,0,none⟩)])∧w.alloc (.cells #[.pointer (some a)] 60)=w':=by
 go_enter Tryz.func197,Tryz.ntmps197
 go_wp2
 go_ret
 exact ⟨rfl,rfl⟩
theorem wait1 {L:List Msg} (h:IsMR w B.h2 B.d2 8 L) (h9:w.cell? ⟨B.p,9,none⟩=some (.pointer (some ⟨B.h2,0,none⟩))) (Bn:Nat) (hc:w.cell? ⟨Bn,0,none⟩=some (.pointer (some ⟨B.p,0,none⟩))) (hB:Bn<w.heap.size∧B.p<w.heap.size)
  (hne:Bn≠B.h2∧Bn≠B.d2∧B.p≠B.h2∧B.p≠B.d2) (Wr:Nat→Prop) (hW:¬ Wr Bn∧¬ Wr B.p∧¬ Wr B.h2∧¬ Wr B.d2) :
  YieldsAllF Tryz.prog 260 #[.pointer (some ⟨Bn,0,none⟩)] (fun m:Msg=>#[.agg (mC m)]) L Wr (fun b=>b=B.h2∨b=B.d2) (fun W=>IsMR W B.h2 B.d2 8 []) w:=by
 intro l J W hl hk hsz hJ hY h0
 subst hl
 have hle:=h.le
 have HB:=hid hB
 have hne1:=hne.1
 have hne2:=hne.2.1
 have hne3:=hne.2.2.1
 have hne4:=hne.2.2.2
 refine callsIn_wide.2 ?_
 go_enter Tryz.func260,Tryz.ntmps260
 go_wp2_with fail
 go_loopg [] L.length (fun g wr=>∃ pre rest:List Msg,L=pre++rest∧g=rest.length∧wr.cell? ⟨Bn,0,none⟩=some (.pointer (some ⟨B.p,0,none⟩))∧wr.cell? ⟨B.p,9,none⟩=some (.pointer (some ⟨B.h2,0,none⟩))∧IsMR wr B.h2 B.d2 8 rest∧J pre wr∧w.heap.size+2≤wr.heap.size)
 case atStart=>exact ⟨[],L,rfl,rfl,hk.cell hc id,hk.cell h9 id,h.keeps hk id id,h0,by omega⟩
 case round=>
  obtain ⟨pre,rest,hL,hg,hcell,hc9,hM,hJp,hs2⟩:=hrel
  have HL:=hid hL
  clear hL
  cases rest with
  | nil=>
   go_wp2_with fail
   refine (ms_Pop_none hM).mono ?_
   rintro e w2 ⟨rfl,hM2,hk2⟩
   have al:=alloc_msg w2
   have hX:=blk_new w2 (.cells (mC Msg.zero) 254)
   obtain ⟨hst,_,hk3⟩:=store_all (w2.alloc (.cells (mC Msg.zero) 254)) 254 7 w2.heap.size (mC Msg.zero) _ Tryz.sizeOf254 rfl rfl hX (mC_one _)
   have hk4:=keeps_past ((Keeps.refl (fun _=>False) w2).alloc (.cells (mC Msg.zero) 254)) hk3 (fun k hk e=>by omega)
   have hM4:=hM2.keeps hk4 id id
   have hJ4:=hJ _ _ _ hJp (hk2.trans (hk4.mono fun _ _ x=>x.elim))
   clear hX hk3 hk4 hM2 hk2
   generalize (w2.alloc (.cells (mC Msg.zero) 254)).setRow w2.heap.size (mC Msg.zero)=w4 at *
   go_wp2_with (first|(refine wpList_run_alloc al rfl rfl ?_;simp only[Act.put,List.setIfInBounds_toArray,List.set_cons_succ,List.set_cons_zero])|(refine wpList_run_store hst rfl rfl rfl rfl ?_;try simp only[Act.put]))
   refine bodyPost_ret (v:=.tuple #[]) (by first|rfl|simp[results,go_sem]) rfl ?_
   have he:L=pre:=by rw[HL.out,List.append_nil]
   exact ⟨⟨_,rfl⟩,by rw[he];exact hJ4,hM4⟩
  | cons m rest=>
   go_wp2_with fail
   refine (ms_Pop hM).mono ?_
   rintro e w2 ⟨rfl,hM2,hk2⟩
   have al:=alloc_msg w2
   have hX:=blk_new w2 (.cells (mC Msg.zero) 254)
   obtain ⟨hst,_,hk3⟩:=store_all (w2.alloc (.cells (mC Msg.zero) 254)) 254 7 w2.heap.size (mC m) _ Tryz.sizeOf254 rfl rfl hX (mC_one _)
   have hX4:=setRow_at (w2.alloc (.cells (mC Msg.zero) 254)) w2.heap.size _ (mC m) 254 hX
   have hk4:=keeps_past ((Keeps.refl (fun _=>False) w2).alloc (.cells (mC Msg.zero) 254)) hk3 (fun k hk e=>by omega)
   have hM4:=hM2.keeps hk4 id id
   have hJ4:=hJ _ _ _ hJp (hk2.trans (hk4.mono fun _ _ x=>x.elim))
   have hs4:=Nat.le_trans (Nat.le_trans hs2 hk2.size) hk4.size
   have hcell4:=(hk2.trans (hk4.mono fun _ _ x=>x.elim)).cell (p:=⟨Bn,0,none⟩) hcell (fun e=>e.elim hne1 hne2)
   have hc94:=(hk2.trans (hk4.mono fun _ _ x=>x.elim)).cell (p:=⟨B.p,9,none⟩) hc9 (fun e=>e.elim hne3 hne4)
   clear hX hk3 hk4 hM2 hk2 hcell hc9 hJp hM
   generalize (w2.alloc (.cells (mC Msg.zero) 254)).setRow w2.heap.size (mC m)=w4 at *
   have y0:w4.cell? ⟨w2.heap.size,0,none⟩=some (.int .i64 m.kind):=blk_cell hX4 rfl
   have y1:w4.cell? ⟨w2.heap.size,1,none⟩=some (.int .u32 m.nonce):=blk_cell hX4 rfl
   have y2:w4.cell? ⟨w2.heap.size,2,none⟩=some (.int .u16 m.serial):=blk_cell hX4 rfl
   have y3:w4.cell? ⟨w2.heap.size,3,none⟩=some (.int .u16 m.ack):=blk_cell hX4 rfl
   have y4:w4.cell? ⟨w2.heap.size,4,none⟩=some (.slice none 0 0):=blk_cell hX4 rfl
   have y5:w4.cell? ⟨w2.heap.size,5,none⟩=some (.int .u32 m.sum):=blk_cell hX4 rfl
   have y6:w4.cell? ⟨w2.heap.size,6,none⟩=some (.int .i64 m.lead):=blk_cell hX4 rfl
   clear hX4
   go_upto_region 1 with (first|(refine wpList_run_alloc al rfl rfl ?_;simp only[Act.put,List.setIfInBounds_toArray,List.set_cons_succ,List.set_cons_zero])|(refine wpList_run_store hst rfl rfl rfl rfl ?_;try simp only[Act.put]))
   refine (wpIn_wide (n:=0)).1 ?_
   obtain ⟨fn,tmps,assign,body,hy,hRd⟩:=hY pre m rest w4 HL.out hJ4
   simp only[mC] at hy
   gi_wp2
   refine ⟨rfl,hRd.mono ?_⟩
   rintro e W2 ⟨rfl,hJ2,hK2⟩
   clear hy hRd y0 y1 y2 y3 y4 y5 y6
   have hB:=HB.out
   have hc5:=hK2.cell (p:=⟨Bn,0,none⟩) hcell4 (fun e=>e.elim hW.1 (fun e=>by have e:Bn=w.heap.size+1:=e;omega))
   have hc95:=hK2.cell (p:=⟨B.p,9,none⟩) hc94 (fun e=>e.elim hW.2.1 (fun e=>by have e:B.p=w.heap.size+1:=e;omega))
   have hM5:=hM4.keeps hK2 (fun e=>e.elim hW.2.2.1 (fun e=>by omega)) (fun e=>e.elim hW.2.2.2 (fun e=>by omega))
   have hs5:=Nat.le_trans hs4 hK2.size
   have HL5:=hid (show L=(pre++[m])++rest by rw[HL.out];simp)
   clear hB hcell4 hc94 hM4 hJ4 hK2 al hst
   gi_wp2
   go_wp2
   go_roundg rest.length
   case measure=>simp at hg;omega
   case rel=>exact ⟨pre++[m],rest,HL5.out,rfl,hc5,hc95,hM5,hJ2,hs5⟩
end
end Go.Proofs.YtalagblioepadaaGreatDoor
