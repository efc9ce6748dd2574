/- The proof, part 39. -/
import Derived.Test.YtalagblioepadaaGreatDoorZa34
import Derived.Test.YtalagblioepadaaGreatDoorZa14
import Derived.Test.YtalagblioepadaaGreatDoorZa13
import Derived.Test.YtalagblioepadaaGreatDoorZa25
import Derived.Test.YtalagblioepadaaGreatDoorZa17
import Derived.OneCell
import Derived.RangeFuncBox
import Derived.Deep.Cut
import Derived.LoopIn
import Derived.LoopNIn
import Derived.Shelf.RegionOpen
import Derived.TacticsInMore
import Derived.OwnWalkIn
namespace Go.Proofs.YtalagblioepadaaGreatDoor
section
open Go.RowKit
set_option maxRecDepth 10000
variable {w:World} {B:LB} {l:Lk}
structure MV where
 m:Msg
 a:Option Addr
 c:Nat
def mvC (x:MV):Array Value:=#[.int .i64 x.m.kind,.int .u32 x.m.nonce,.int .u16 x.m.serial,.int .u16 x.m.ack,.slice x.a x.m.ins.length x.c,.int .u32 x.m.sum,.int .i64 x.m.lead]
def flatM (xs:List MV):List Value:=xs.flatMap fun x=>(mvC x).toList
structure SlcM (b:Nat) (w:World) (A:Option Addr) (cap:Nat) (xs:List MV):Prop where
 vals:Vals w 7 A xs.length cap (flatM xs)
 ins:∀ x∈xs,IsBytes w x.a x.c x.m.ins∧∀ y,x.a=some y→b≤y.block
 new:∀ y,A=some y→b≤y.block
def talkM (l:Lk):Msg:=if l.own=[] then ⟨5,0,0,l.next%65536,[],0,0⟩ else ⟨3,0,l.acked%65536,l.next%65536,l.own,0,0⟩
def qualM (l:Lk) (lead:Int):Msg:=⟨6,0,l.next%65536,0,[],0,max (-1000) (min lead 1000)⟩
def talkF (l:Lk) (lead:Int):List Msg:=if l.ticks%8=0 then [talkM l,qualM l lead] else [talkM l]
theorem bytes_of_vals {a:Option Addr} {n cap:Nat} {L:List UInt8} (h:Vals w 1 a n cap ((u8I L).map fun x=>Value.int .u8 x)):IsBytes w a cap L:=by
 obtain ⟨h1,h2,h3,h4⟩:=h
 have hn:n=L.length:=by simp[u8I] at h1;omega
 refine ⟨by omega,h3,?_⟩
 by_cases e:L=[]
 ·exact .inl e
 ·obtain ⟨b,o,ha,hc⟩:=h4 (by have:=List.length_pos_iff.2 e;omega)
  exact .inr ⟨b,o,ha,fun i hi=>hc i _ (by simp[u8I,hi,byteV])⟩
theorem bytes_nil (w:World):IsBytes w none 0 []:=⟨Nat.le_refl _,Nat.zero_le _,.inl rfl⟩
theorem vals_blk {b n sz:Nat} {xs:List Value} {t:TypeId} (hB:w.heap[b]?=some (.cells xs.toArray t (0,0))) (hl:xs.length=n*sz) (hm:n≤maxLen):Vals w sz (some ⟨b,0,none⟩) n n xs:=
 ⟨hl,Nat.le_refl _,hm,fun _=>⟨b,0,rfl,fun j u hu=>by rw[Nat.zero_add];exact blk_cell hB (by simpa using hu)⟩⟩
structure TkSt (w0 w:World) (l:Lk) (x:MV):Prop where
 bytes:IsBytes w x.a x.c x.m.ins
 new:∀ y,x.a=some y→w0.heap.size≤y.block
 is:x.m=talkM l
 bel:Below w0.heap.size w0 w
set_option maxHeartbeats 1000000 in
theorem lk_talk (h:IsLink w B l) (lead:Int) (ht:0≤l.ticks∧l.ticks≤1099511627776) :
  Calls Tryz.prog 198 #[.pointer (some ⟨B.p,0,none⟩),.int .i64 lead] w fun e w'=>(∃ A cap xs,e=.returned (.slice A xs.length cap)∧SlcM w.heap.size w' A cap xs∧xs.map MV.m=talkF l lead)∧Below w.heap.size w w':=by
 have c4:=h.c4
 have c6:=h.c6
 have c7:=h.c7
 have c8:=h.c8
 have H:=hid h
 have hlt:=h.lt
 clear h
 by_cases ho:l.own=[]
 ·have hLen:=fun w' (hw:Below w.heap.size w w')=>is_Len (H.out.below hw).own
  rw[ho] at hLen
  have HLen:=hid hLen
  clear hLen
  go_enter Tryz.func198,Tryz.ntmps198
  go_wp2_with fail
  refine (serial_Of _ _).mono ?_
  rintro e _ ⟨rfl,rfl⟩
  go_wp2_with fail
  have hbe:=(Below.refl w.heap.size w).alloc (Nat.le_refl _) (.cells (mvC ⟨⟨5,0,0,l.next%65536,[],0,0⟩,none,0⟩) 254)
  have hX:=blk_new w (.cells (mvC ⟨⟨5,0,0,l.next%65536,[],0,0⟩,none,0⟩) 254)
  have hT:=hid (show TkSt w (w.alloc (.cells (mvC ⟨⟨5,0,0,l.next%65536,[],0,0⟩,none,0⟩) 254)) l ⟨⟨5,0,0,l.next%65536,[],0,0⟩,none,0⟩ from ⟨bytes_nil _,fun _ e=>by simp at e,by show _=talkM l;unfold talkM;rw[if_pos ho],hbe⟩)
  have H2:=H.out.below hbe
  have hL2:=HLen.out _ hbe
  unfold mvC at hX hT H2 hL2 hbe
  clear c4 c6 c7 c8 HLen
  refine hL2.mono ?_
  rintro e w2 ⟨rfl,hw2⟩
  rw[hw2] at hX hT H2 hbe
  clear hL2 hw2
  generalize hx0:(⟨⟨5,0,0,l.next%65536,[],0,0⟩,none,0⟩:MV)=x0 at *
  have hX0:w2.heap[w.heap.size]?=some (.cells (mvC x0) 254 (0,0)):=hX
  clear hx0 hX
  have hX:=hX0
  clear hX0
  have y0:w2.cell? ⟨w.heap.size,0,none⟩=some (.int .i64 x0.m.kind):=blk_cell hX rfl
  have y1:w2.cell? ⟨w.heap.size,1,none⟩=some (.int .u32 x0.m.nonce):=blk_cell hX rfl
  have y2:w2.cell? ⟨w.heap.size,2,none⟩=some (.int .u16 x0.m.serial):=blk_cell hX rfl
  have y3:w2.cell? ⟨w.heap.size,3,none⟩=some (.int .u16 x0.m.ack):=blk_cell hX rfl
  have y4:w2.cell? ⟨w.heap.size,4,none⟩=some (.slice x0.a x0.m.ins.length x0.c):=blk_cell hX rfl
  have y5:w2.cell? ⟨w.heap.size,5,none⟩=some (.int .u32 x0.m.sum):=blk_cell hX rfl
  have y6:w2.cell? ⟨w.heap.size,6,none⟩=some (.int .i64 x0.m.lead):=blk_cell hX rfl
  have c4:=H2.c4
  have c8:=H2.c8
  have hof:=fun n=>serial_Of l.next (w2.drewN n)
  have HO:=hid hof
  clear hof
  by_cases htk:l.ticks%8=0
  ·have HTK:=hid htk
   have q4:(l.ticks%8 != 0)=false:=by simp[htk]
   have q5:l.ticks.tmod 8=l.ticks%8:=Int.tmod_eq_emod_of_nonneg ht.1
   clear htk
   by_cases g1:lead < -1000
   ·have HQ:=hid (show qualM l lead=⟨6,0,l.next%65536,0,[],0,-1000⟩ by unfold qualM;rw[show max (-1000) (min lead 1000)=-1000 by omega])
    go_wp2_with fail
    refine wp_region_taild 10 (by kernel_rfl) (by kernel_rfl) ?_
    simp only[List.take_succ_cons,List.take_zero,List.drop_succ_cons,List.drop_zero]
    repeat (go_big_quiet_step ((go_at_call 262;exact (HO.out _).mono fun _ _ h=>⟨h.1,_,h.2.symm⟩)))
    refine wpQuiet_nil ?_
    intro _ hw'
    obtain ⟨nq,hw''⟩:=hw'
    subst hw''
    go_wp2_with fail
    go_ret
    have hB:=blk_new (w2.drewN nq) (.cells (flatM [x0,⟨(⟨6,0,l.next%65536,0,[],0,-1000⟩:Msg),none,0⟩]).toArray 254)
    have hk:=((Keeps.refl (fun _=>False) w2).drewN nq).alloc (.cells (flatM [x0,⟨(⟨6,0,l.next%65536,0,[],0,-1000⟩:Msg),none,0⟩]).toArray 254)
    have hbf:=hT.out.bel.trans (hk.below hT.out.bel.size (fun _ _ x=>x))
    refine ⟨⟨some ⟨w2.heap.size,0,none⟩,2,[x0,⟨(⟨6,0,l.next%65536,0,[],0,-1000⟩:Msg),none,0⟩],rfl,⟨vals_blk hB rfl (by unfold maxLen;show 2≤_;omega),?_,fun y e=>by cases e;exact hT.out.bel.size⟩,?_⟩,hbf⟩
    ·intro x hx
     simp only[List.mem_cons,List.not_mem_nil,or_false] at hx
     rcases hx with rfl|rfl
     ·exact ⟨hT.out.bytes.keeps hk (fun _ _ _=>id),hT.out.new⟩
     ·exact ⟨bytes_nil _,fun _ e=>by simp at e⟩
    ·show [x0.m,(⟨6,0,l.next%65536,0,[],0,-1000⟩:Msg)]=talkF l _
     unfold talkF
     rw[if_pos HTK.out,hT.out.is,HQ.out]
   by_cases g2:lead=-1000
   ·subst g2
    have HQ:=hid (show qualM l (-1000)=⟨6,0,l.next%65536,0,[],0,-1000⟩ from rfl)
    go_wp2_with fail
    refine wp_region_taild 10 (by kernel_rfl) (by kernel_rfl) ?_
    simp only[List.take_succ_cons,List.take_zero,List.drop_succ_cons,List.drop_zero]
    repeat (go_big_quiet_step ((go_at_call 262;exact (HO.out _).mono fun _ _ h=>⟨h.1,_,h.2.symm⟩)))
    refine wpQuiet_nil ?_
    intro _ hw'
    obtain ⟨nq,hw''⟩:=hw'
    subst hw''
    go_wp2_with fail
    go_ret
    have hB:=blk_new (w2.drewN nq) (.cells (flatM [x0,⟨(⟨6,0,l.next%65536,0,[],0,-1000⟩:Msg),none,0⟩]).toArray 254)
    have hk:=((Keeps.refl (fun _=>False) w2).drewN nq).alloc (.cells (flatM [x0,⟨(⟨6,0,l.next%65536,0,[],0,-1000⟩:Msg),none,0⟩]).toArray 254)
    have hbf:=hT.out.bel.trans (hk.below hT.out.bel.size (fun _ _ x=>x))
    refine ⟨⟨some ⟨w2.heap.size,0,none⟩,2,[x0,⟨(⟨6,0,l.next%65536,0,[],0,-1000⟩:Msg),none,0⟩],rfl,⟨vals_blk hB rfl (by unfold maxLen;show 2≤_;omega),?_,fun y e=>by cases e;exact hT.out.bel.size⟩,?_⟩,hbf⟩
    ·intro x hx
     simp only[List.mem_cons,List.not_mem_nil,or_false] at hx
     rcases hx with rfl|rfl
     ·exact ⟨hT.out.bytes.keeps hk (fun _ _ _=>id),hT.out.new⟩
     ·exact ⟨bytes_nil _,fun _ e=>by simp at e⟩
    ·show [x0.m,(⟨6,0,l.next%65536,0,[],0,-1000⟩:Msg)]=talkF l _
     unfold talkF
     rw[if_pos HTK.out,hT.out.is,HQ.out]
   by_cases g3:lead=1000
   ·subst g3
    have HQ:=hid (show qualM l 1000=⟨6,0,l.next%65536,0,[],0,1000⟩ from rfl)
    go_wp2_with fail
    refine wp_region_taild 10 (by kernel_rfl) (by kernel_rfl) ?_
    simp only[List.take_succ_cons,List.take_zero,List.drop_succ_cons,List.drop_zero]
    repeat (go_big_quiet_step ((go_at_call 262;exact (HO.out _).mono fun _ _ h=>⟨h.1,_,h.2.symm⟩)))
    refine wpQuiet_nil ?_
    intro _ hw'
    obtain ⟨nq,hw''⟩:=hw'
    subst hw''
    go_wp2_with fail
    go_ret
    have hB:=blk_new (w2.drewN nq) (.cells (flatM [x0,⟨(⟨6,0,l.next%65536,0,[],0,1000⟩:Msg),none,0⟩]).toArray 254)
    have hk:=((Keeps.refl (fun _=>False) w2).drewN nq).alloc (.cells (flatM [x0,⟨(⟨6,0,l.next%65536,0,[],0,1000⟩:Msg),none,0⟩]).toArray 254)
    have hbf:=hT.out.bel.trans (hk.below hT.out.bel.size (fun _ _ x=>x))
    refine ⟨⟨some ⟨w2.heap.size,0,none⟩,2,[x0,⟨(⟨6,0,l.next%65536,0,[],0,1000⟩:Msg),none,0⟩],rfl,⟨vals_blk hB rfl (by unfold maxLen;show 2≤_;omega),?_,fun y e=>by cases e;exact hT.out.bel.size⟩,?_⟩,hbf⟩
    ·intro x hx
     simp only[List.mem_cons,List.not_mem_nil,or_false] at hx
     rcases hx with rfl|rfl
     ·exact ⟨hT.out.bytes.keeps hk (fun _ _ _=>id),hT.out.new⟩
     ·exact ⟨bytes_nil _,fun _ e=>by simp at e⟩
    ·show [x0.m,(⟨6,0,l.next%65536,0,[],0,1000⟩:Msg)]=talkF l _
     unfold talkF
     rw[if_pos HTK.out,hT.out.is,HQ.out]
   by_cases g4:1000<lead
   ·have HQ:=hid (show qualM l lead=⟨6,0,l.next%65536,0,[],0,1000⟩ by unfold qualM;rw[show max (-1000) (min lead 1000)=1000 by omega])
    go_wp2_with fail
    refine wp_region_taild 10 (by kernel_rfl) (by kernel_rfl) ?_
    simp only[List.take_succ_cons,List.take_zero,List.drop_succ_cons,List.drop_zero]
    repeat (go_big_quiet_step ((go_at_call 262;exact (HO.out _).mono fun _ _ h=>⟨h.1,_,h.2.symm⟩)))
    refine wpQuiet_nil ?_
    intro _ hw'
    obtain ⟨nq,hw''⟩:=hw'
    subst hw''
    go_wp2_with fail
    go_ret
    have hB:=blk_new (w2.drewN nq) (.cells (flatM [x0,⟨(⟨6,0,l.next%65536,0,[],0,1000⟩:Msg),none,0⟩]).toArray 254)
    have hk:=((Keeps.refl (fun _=>False) w2).drewN nq).alloc (.cells (flatM [x0,⟨(⟨6,0,l.next%65536,0,[],0,1000⟩:Msg),none,0⟩]).toArray 254)
    have hbf:=hT.out.bel.trans (hk.below hT.out.bel.size (fun _ _ x=>x))
    refine ⟨⟨some ⟨w2.heap.size,0,none⟩,2,[x0,⟨(⟨6,0,l.next%65536,0,[],0,1000⟩:Msg),none,0⟩],rfl,⟨vals_blk hB rfl (by unfold maxLen;show 2≤_;omega),?_,fun y e=>by cases e;exact hT.out.bel.size⟩,?_⟩,hbf⟩
    ·intro x hx
     simp only[List.mem_cons,List.not_mem_nil,or_false] at hx
     rcases hx with rfl|rfl
     ·exact ⟨hT.out.bytes.keeps hk (fun _ _ _=>id),hT.out.new⟩
     ·exact ⟨bytes_nil _,fun _ e=>by simp at e⟩
    ·show [x0.m,(⟨6,0,l.next%65536,0,[],0,1000⟩:Msg)]=talkF l _
     unfold talkF
     rw[if_pos HTK.out,hT.out.is,HQ.out]
   have HQ:=hid (show qualM l lead=⟨6,0,l.next%65536,0,[],0,lead⟩ by unfold qualM;rw[show max (-1000) (min lead 1000)=lead by omega])
   have g5:-1000<lead:=by omega
   have g6:lead<1000:=by omega
   clear g1 g2 g3 g4
   go_wp2_with fail
   refine wp_region_taild 10 (by kernel_rfl) (by kernel_rfl) ?_
   simp only[List.take_succ_cons,List.take_zero,List.drop_succ_cons,List.drop_zero]
   repeat (go_big_quiet_step ((go_at_call 262;exact (HO.out _).mono fun _ _ h=>⟨h.1,_,h.2.symm⟩)))
   refine wpQuiet_nil ?_
   intro _ hw'
   obtain ⟨nq,hw''⟩:=hw'
   subst hw''
   go_wp2_with fail
   go_ret
   have hB:=blk_new (w2.drewN nq) (.cells (flatM [x0,⟨(⟨6,0,l.next%65536,0,[],0,lead⟩:Msg),none,0⟩]).toArray 254)
   have hk:=((Keeps.refl (fun _=>False) w2).drewN nq).alloc (.cells (flatM [x0,⟨(⟨6,0,l.next%65536,0,[],0,lead⟩:Msg),none,0⟩]).toArray 254)
   have hbf:=hT.out.bel.trans (hk.below hT.out.bel.size (fun _ _ x=>x))
   refine ⟨⟨some ⟨w2.heap.size,0,none⟩,2,[x0,⟨(⟨6,0,l.next%65536,0,[],0,lead⟩:Msg),none,0⟩],rfl,⟨vals_blk hB rfl (by unfold maxLen;show 2≤_;omega),?_,fun y e=>by cases e;exact hT.out.bel.size⟩,?_⟩,hbf⟩
   ·intro x hx
    simp only[List.mem_cons,List.not_mem_nil,or_false] at hx
    rcases hx with rfl|rfl
    ·exact ⟨hT.out.bytes.keeps hk (fun _ _ _=>id),hT.out.new⟩
    ·exact ⟨bytes_nil _,fun _ e=>by simp at e⟩
   ·show [x0.m,(⟨6,0,l.next%65536,0,[],0,lead⟩:Msg)]=talkF l _
    unfold talkF
    rw[if_pos HTK.out,hT.out.is,HQ.out]
  ·have HTK:=hid htk
   have q4:(l.ticks%8 != 0)=true:=by simpa using htk
   have q5:l.ticks.tmod 8=l.ticks%8:=Int.tmod_eq_emod_of_nonneg ht.1
   clear htk
   go_wp2_with fail
   go_ret
   have hB:=blk_new w2 (.cells (flatM [x0]).toArray 254)
   have hk:=(Keeps.refl (fun _=>False) w2).alloc (.cells (flatM [x0]).toArray 254)
   have hbf:=hT.out.bel.trans (hk.below hT.out.bel.size (fun _ _ x=>x))
   refine ⟨⟨some ⟨w2.heap.size,0,none⟩,1,[x0],rfl,⟨vals_blk hB rfl (by unfold maxLen;show 1≤_;omega),?_,fun y e=>by cases e;exact hT.out.bel.size⟩,?_⟩,hbf⟩
   ·intro x hx
    simp only[List.mem_cons,List.not_mem_nil,or_false] at hx
    subst hx
    exact ⟨hT.out.bytes.keeps hk (fun _ _ _=>id),hT.out.new⟩
   ·show [x0.m]=talkF l lead
    unfold talkF
    rw[if_neg HTK.out,hT.out.is]
 ·have hul:(u8I l.own).length=l.own.length:=by simp[u8I]
  have hpos:0<l.own.length:=List.length_pos_iff.2 ho
  have hLen:=fun w' (hw:Below w.heap.size w w')=>is_Len (H.out.below hw).own
  rw[hul] at hLen
  have HLen:=hid hLen
  clear hLen
  go_enter Tryz.func198,Tryz.ntmps198
  go_wp2_with fail
  refine (serial_Of _ _).mono ?_
  rintro e _ ⟨rfl,rfl⟩
  go_wp2_with fail
  have hbe:=(Below.refl w.heap.size w).alloc (Nat.le_refl _) (.cells (mvC ⟨⟨5,0,0,l.next%65536,[],0,0⟩,none,0⟩) 254)
  have hX:=blk_new w (.cells (mvC ⟨⟨5,0,0,l.next%65536,[],0,0⟩,none,0⟩) 254)
  have H2:=H.out.below hbe
  have hL2:=HLen.out _ hbe
  unfold mvC at hX H2 hL2 hbe
  simp only[List.length_nil] at hX H2 hL2 hbe
  clear c4 c6 c7 c8 HLen
  refine hL2.mono ?_
  rintro e w1 ⟨rfl,hw1⟩
  rw[hw1] at hX H2 hbe
  clear hL2 hw1
  have c6:=H2.c6
  have c7:=H2.c7
  have z6:=keptS_cell (S:=fun _=>False) (w:=w1.drew) (p:=⟨B.p,6,none⟩) c6 id
  have z7:=keptS_cell (S:=fun _=>False) (w:=w1.drew) (p:=⟨B.p,7,none⟩) c7 id
  go_wp2_with fail
  refine stages_start (by kernel_rfl) 16 rfl ?_
  have hdr:w1.drew=w1.drewN 1:=rfl
  refine stagek (fun _=>False) [0,1,2,3,5,6,7,8,10] [4,9] 5 rfl #[true,true,true,true,true,true,true,true,true,true,true,false,false,false,false,false] (by kernel_rfl) (by kernel_rfl) (fun _ _ _ d _ h=>by first|(cases d<;>exact h)|cases h.1) ?_
  simp only[opsAt,List.map_cons,List.map_nil,List.getElem?_toArray,List.getElem?_cons_zero,List.getElem?_cons_succ,Option.getD_some]
  repeat (go_big_quiet_step (fail))
  refine wpQuiet_nil ?_
  refine links_cons (by first|rfl|simp[go_sem]) (fun K hK=>?_)
  go_simp
  refine (serial_Of _ _).mono ?_
  rintro e _ ⟨rfl,rfl⟩
  refine hK _ _ (keptS (Keeps.refl _ _)) ?_
  clear hK K
  try refine links_nil ?_
  refine links_cons (by first|rfl|simp[go_sem]) (fun K hK=>?_)
  go_simp
  refine (is_List (H2.drew 1).own).mono ?_
  rintro e w4 ⟨a4,c4',rfl,hV4,hN4,hb4⟩
  have hk4:Keeps (fun _=>False) w1.drew w4:=Keeps.of_below hb4 (fun k h1 h2=>by rw[hdr] at h1;omega)
  refine hK _ _ (keptS (hk4)) ?_
  clear hK K
  try refine links_nil ?_
  have hk5:Keeps (fun _=>False) w1 w4:=((Keeps.refl _ w1).drew).trans hk4
  have hX4:=hk5.heap hX id
  have H4:=H2.keeps hk5 (fun _ _=>id)
  have hbf:=hbe.trans (hk5.below hbe.size (fun _ _ x=>x))
  obtain ⟨f0,f2,f4⟩:=bf3 hX4 0 2 4
  have g0:w4.cell? ⟨w.heap.size,0,none⟩=some (.int .i64 5):=blk_cell hX4 rfl
  have g2:w4.cell? ⟨w.heap.size,2,none⟩=some (.int .u16 0):=blk_cell hX4 rfl
  have g4:w4.cell? ⟨w.heap.size,4,none⟩=some (.slice none 0 0):=blk_cell hX4 rfl
  refine stagek (fun _=>True) [] [11,12,13,14,15] 0 rfl #[true,true,true,true,true,true,true,true,true,true,true,true,true,true,true,true] (by kernel_rfl) (by kernel_rfl) (fun _ _ _ d _ h=>by first|(cases d<;>exact h)|cases h.1) ?_
  simp only[opsAt,List.map_cons,List.map_nil,List.getElem?_toArray,List.getElem?_cons_zero,List.getElem?_cons_succ,Option.getD_some]
  repeat (go_big_quiet_step (fail))
  refine wpQuiet_nil ?_
  refine links_cons (by first|rfl|simp[go_sem]) (fun K hK=>?_)
  go_simp
  refine hK _ _ (keptS ((Keeps.refl (fun _=>True) _).setCell trivial _)) ?_
  clear hK K
  try refine links_nil ?_
  refine links_cons (by first|rfl|simp[go_sem]) (fun K hK=>?_)
  go_simp
  refine hK _ _ (keptS ((Keeps.refl (fun _=>True) _).setCell trivial _)) ?_
  clear hK K
  try refine links_nil ?_
  refine links_cons (by first|rfl|simp[go_sem]) (fun K hK=>?_)
  go_simp
  refine hK _ _ (keptS (((Keeps.refl (fun _=>True) _).setCell trivial _).setCell trivial _)) ?_
  clear hK K
  try refine links_nil ?_
  refine links_cons (by first|rfl|simp[go_sem]) (fun K hK=>?_)
  go_simp
  refine hK _ _ (keptS (((Keeps.refl (fun _=>True) _).setCell trivial _).setCell trivial _)) ?_
  clear hK K
  try refine links_nil ?_
  refine links_cons (by first|rfl|simp[go_sem]) (fun K hK=>?_)
  go_simp
  refine hK _ _ (keptS ((((Keeps.refl (fun _=>True) _).setCell trivial _).setCell trivial _).setCell trivial _)) ?_
  clear hK K
  try refine links_nil ?_
  refine stages_end (by kernel_rfl) ?_
  have hX5:=blk_set (blk_set (blk_set hX4 0 (.int .i64 3)) 2 (.int .u16 (l.acked%65536))) 4 (.slice a4 l.own.length c4')
  have hk6:Keeps (fun b=>b=w.heap.size) w4 (((w4.setCell ⟨w.heap.size,0,none⟩ (.int .i64 3)).setCell ⟨w.heap.size,2,none⟩ (.int .u16 (l.acked%65536))).setCell ⟨w.heap.size,4,none⟩ (.slice a4 l.own.length c4')):=
   Keeps.setCell (S:=fun b=>b=w.heap.size) (Keeps.setCell (S:=fun b=>b=w.heap.size) (Keeps.setCell (S:=fun b=>b=w.heap.size) (Keeps.refl _ w4) (p:=⟨w.heap.size,0,none⟩) rfl _) (p:=⟨w.heap.size,2,none⟩) rfl _) (p:=⟨w.heap.size,4,none⟩) rfl _
  have hB4:=bytes_of_vals hV4
  have hs1:w1.heap.size≤w4.heap.size:=hk5.size
  have hlt1:w.heap.size<w1.heap.size:=blk_lt hX
  have hN5:∀ y,a4=some y→w1.heap.size≤y.block:=hN4
  have hT:=hid (show TkSt w (((w4.setCell ⟨w.heap.size,0,none⟩ (.int .i64 3)).setCell ⟨w.heap.size,2,none⟩ (.int .u16 (l.acked%65536))).setCell ⟨w.heap.size,4,none⟩ (.slice a4 l.own.length c4')) l ⟨⟨3,0,l.acked%65536,l.next%65536,l.own,0,0⟩,a4,c4'⟩ from
   ⟨hB4.keeps hk6 (fun _ y e h=>by have:=hN5 y e;have h:y.block=w.heap.size:=h;omega),fun y e=>by have:=hN5 y e;omega,by show _=talkM l;unfold talkM;rw[if_neg ho],hbf.trans (hk6.below hbf.size (fun k h1 h2=>by omega))⟩)
  have H5:=H4.keeps hk6 (fun b hb h=>by
   have h:b=w.heap.size:=h
   rcases hb with e|e|e|e|e<;>omega)
  change Exit.then _ _ _ _ (((w4.setCell ⟨w.heap.size,0,none⟩ (.int .i64 3)).setCell ⟨w.heap.size,2,none⟩ (.int .u16 (l.acked%65536))).setCell ⟨w.heap.size,4,none⟩ (.slice a4 l.own.length c4'))
  clear f0 f2 f4 g0 g2 g4 hX4 hX H4 H2 hk6 hk5 hk4 hV4 hN4 hb4 hB4 z6 z7 c6 c7 hbf hbe
  generalize ((w4.setCell ⟨w.heap.size,0,none⟩ (.int .i64 3)).setCell ⟨w.heap.size,2,none⟩ (.int .u16 (l.acked%65536))).setCell ⟨w.heap.size,4,none⟩ (.slice a4 l.own.length c4')=w2 at *
  have H2:=H5
  clear H5
  generalize hx0:(⟨⟨3,0,l.acked%65536,l.next%65536,l.own,0,0⟩,a4,c4'⟩:MV)=x0 at *
  have hX:w2.heap[w.heap.size]?=some (.cells (mvC x0) 254 (0,0)):=by rw[←hx0];exact hX5
  clear hx0 hX5
  have y0:w2.cell? ⟨w.heap.size,0,none⟩=some (.int .i64 x0.m.kind):=blk_cell hX rfl
  have y1:w2.cell? ⟨w.heap.size,1,none⟩=some (.int .u32 x0.m.nonce):=blk_cell hX rfl
  have y2:w2.cell? ⟨w.heap.size,2,none⟩=some (.int .u16 x0.m.serial):=blk_cell hX rfl
  have y3:w2.cell? ⟨w.heap.size,3,none⟩=some (.int .u16 x0.m.ack):=blk_cell hX rfl
  have y4:w2.cell? ⟨w.heap.size,4,none⟩=some (.slice x0.a x0.m.ins.length x0.c):=blk_cell hX rfl
  have y5:w2.cell? ⟨w.heap.size,5,none⟩=some (.int .u32 x0.m.sum):=blk_cell hX rfl
  have y6:w2.cell? ⟨w.heap.size,6,none⟩=some (.int .i64 x0.m.lead):=blk_cell hX rfl
  have c4:=H2.c4
  have c8:=H2.c8
  have hof:=fun n=>serial_Of l.next (w2.drewN n)
  have HO:=hid hof
  clear hof
  by_cases htk:l.ticks%8=0
  ·have HTK:=hid htk
   have q4:(l.ticks%8 != 0)=false:=by simp[htk]
   have q5:l.ticks.tmod 8=l.ticks%8:=Int.tmod_eq_emod_of_nonneg ht.1
   clear htk
   by_cases g1:lead < -1000
   ·have HQ:=hid (show qualM l lead=⟨6,0,l.next%65536,0,[],0,-1000⟩ by unfold qualM;rw[show max (-1000) (min lead 1000)=-1000 by omega])
    go_wp2_with fail
    refine wp_region_taild 10 (by kernel_rfl) (by kernel_rfl) ?_
    simp only[List.take_succ_cons,List.take_zero,List.drop_succ_cons,List.drop_zero]
    repeat (go_big_quiet_step ((go_at_call 262;exact (HO.out _).mono fun _ _ h=>⟨h.1,_,h.2.symm⟩)))
    refine wpQuiet_nil ?_
    intro _ hw'
    obtain ⟨nq,hw''⟩:=hw'
    subst hw''
    go_wp2_with fail
    go_ret
    have hB:=blk_new (w2.drewN nq) (.cells (flatM [x0,⟨(⟨6,0,l.next%65536,0,[],0,-1000⟩:Msg),none,0⟩]).toArray 254)
    have hk:=((Keeps.refl (fun _=>False) w2).drewN nq).alloc (.cells (flatM [x0,⟨(⟨6,0,l.next%65536,0,[],0,-1000⟩:Msg),none,0⟩]).toArray 254)
    have hbf:=hT.out.bel.trans (hk.below hT.out.bel.size (fun _ _ x=>x))
    refine ⟨⟨some ⟨w2.heap.size,0,none⟩,2,[x0,⟨(⟨6,0,l.next%65536,0,[],0,-1000⟩:Msg),none,0⟩],rfl,⟨vals_blk hB rfl (by unfold maxLen;show 2≤_;omega),?_,fun y e=>by cases e;exact hT.out.bel.size⟩,?_⟩,hbf⟩
    ·intro x hx
     simp only[List.mem_cons,List.not_mem_nil,or_false] at hx
     rcases hx with rfl|rfl
     ·exact ⟨hT.out.bytes.keeps hk (fun _ _ _=>id),hT.out.new⟩
     ·exact ⟨bytes_nil _,fun _ e=>by simp at e⟩
    ·show [x0.m,(⟨6,0,l.next%65536,0,[],0,-1000⟩:Msg)]=talkF l _
     unfold talkF
     rw[if_pos HTK.out,hT.out.is,HQ.out]
   by_cases g2:lead=-1000
   ·subst g2
    have HQ:=hid (show qualM l (-1000)=⟨6,0,l.next%65536,0,[],0,-1000⟩ from rfl)
    go_wp2_with fail
    refine wp_region_taild 10 (by kernel_rfl) (by kernel_rfl) ?_
    simp only[List.take_succ_cons,List.take_zero,List.drop_succ_cons,List.drop_zero]
    repeat (go_big_quiet_step ((go_at_call 262;exact (HO.out _).mono fun _ _ h=>⟨h.1,_,h.2.symm⟩)))
    refine wpQuiet_nil ?_
    intro _ hw'
    obtain ⟨nq,hw''⟩:=hw'
    subst hw''
    go_wp2_with fail
    go_ret
    have hB:=blk_new (w2.drewN nq) (.cells (flatM [x0,⟨(⟨6,0,l.next%65536,0,[],0,-1000⟩:Msg),none,0⟩]).toArray 254)
    have hk:=((Keeps.refl (fun _=>False) w2).drewN nq).alloc (.cells (flatM [x0,⟨(⟨6,0,l.next%65536,0,[],0,-1000⟩:Msg),none,0⟩]).toArray 254)
    have hbf:=hT.out.bel.trans (hk.below hT.out.bel.size (fun _ _ x=>x))
    refine ⟨⟨some ⟨w2.heap.size,0,none⟩,2,[x0,⟨(⟨6,0,l.next%65536,0,[],0,-1000⟩:Msg),none,0⟩],rfl,⟨vals_blk hB rfl (by unfold maxLen;show 2≤_;omega),?_,fun y e=>by cases e;exact hT.out.bel.size⟩,?_⟩,hbf⟩
    ·intro x hx
     simp only[List.mem_cons,List.not_mem_nil,or_false] at hx
     rcases hx with rfl|rfl
     ·exact ⟨hT.out.bytes.keeps hk (fun _ _ _=>id),hT.out.new⟩
     ·exact ⟨bytes_nil _,fun _ e=>by simp at e⟩
    ·show [x0.m,(⟨6,0,l.next%65536,0,[],0,-1000⟩:Msg)]=talkF l _
     unfold talkF
     rw[if_pos HTK.out,hT.out.is,HQ.out]
   by_cases g3:lead=1000
   ·subst g3
    have HQ:=hid (show qualM l 1000=⟨6,0,l.next%65536,0,[],0,1000⟩ from rfl)
    go_wp2_with fail
    refine wp_region_taild 10 (by kernel_rfl) (by kernel_rfl) ?_
    simp only[List.take_succ_cons,List.take_zero,List.drop_succ_cons,List.drop_zero]
    repeat (go_big_quiet_step ((go_at_call 262;exact (HO.out _).mono fun _ _ h=>⟨h.1,_,h.2.symm⟩)))
    refine wpQuiet_nil ?_
    intro _ hw'
    obtain ⟨nq,hw''⟩:=hw'
    subst hw''
    go_wp2_with fail
    go_ret
    have hB:=blk_new (w2.drewN nq) (.cells (flatM [x0,⟨(⟨6,0,l.next%65536,0,[],0,1000⟩:Msg),none,0⟩]).toArray 254)
    have hk:=((Keeps.refl (fun _=>False) w2).drewN nq).alloc (.cells (flatM [x0,⟨(⟨6,0,l.next%65536,0,[],0,1000⟩:Msg),none,0⟩]).toArray 254)
    have hbf:=hT.out.bel.trans (hk.below hT.out.bel.size (fun _ _ x=>x))
    refine ⟨⟨some ⟨w2.heap.size,0,none⟩,2,[x0,⟨(⟨6,0,l.next%65536,0,[],0,1000⟩:Msg),none,0⟩],rfl,⟨vals_blk hB rfl (by unfold maxLen;show 2≤_;omega),?_,fun y e=>by cases e;exact hT.out.bel.size⟩,?_⟩,hbf⟩
    ·intro x hx
     simp only[List.mem_cons,List.not_mem_nil,or_false] at hx
     rcases hx with rfl|rfl
     ·exact ⟨hT.out.bytes.keeps hk (fun _ _ _=>id),hT.out.new⟩
     ·exact ⟨bytes_nil _,fun _ e=>by simp at e⟩
    ·show [x0.m,(⟨6,0,l.next%65536,0,[],0,1000⟩:Msg)]=talkF l _
     unfold talkF
     rw[if_pos HTK.out,hT.out.is,HQ.out]
   by_cases g4:1000<lead
   ·have HQ:=hid (show qualM l lead=⟨6,0,l.next%65536,0,[],0,1000⟩ by unfold qualM;rw[show max (-1000) (min lead 1000)=1000 by omega])
    go_wp2_with fail
    refine wp_region_taild 10 (by kernel_rfl) (by kernel_rfl) ?_
    simp only[List.take_succ_cons,List.take_zero,List.drop_succ_cons,List.drop_zero]
    repeat (go_big_quiet_step ((go_at_call 262;exact (HO.out _).mono fun _ _ h=>⟨h.1,_,h.2.symm⟩)))
    refine wpQuiet_nil ?_
    intro _ hw'
    obtain ⟨nq,hw''⟩:=hw'
    subst hw''
    go_wp2_with fail
    go_ret
    have hB:=blk_new (w2.drewN nq) (.cells (flatM [x0,⟨(⟨6,0,l.next%65536,0,[],0,1000⟩:Msg),none,0⟩]).toArray 254)
    have hk:=((Keeps.refl (fun _=>False) w2).drewN nq).alloc (.cells (flatM [x0,⟨(⟨6,0,l.next%65536,0,[],0,1000⟩:Msg),none,0⟩]).toArray 254)
    have hbf:=hT.out.bel.trans (hk.below hT.out.bel.size (fun _ _ x=>x))
    refine ⟨⟨some ⟨w2.heap.size,0,none⟩,2,[x0,⟨(⟨6,0,l.next%65536,0,[],0,1000⟩:Msg),none,0⟩],rfl,⟨vals_blk hB rfl (by unfold maxLen;show 2≤_;omega),?_,fun y e=>by cases e;exact hT.out.bel.size⟩,?_⟩,hbf⟩
    ·intro x hx
     simp only[List.mem_cons,List.not_mem_nil,or_false] at hx
     rcases hx with rfl|rfl
     ·exact ⟨hT.out.bytes.keeps hk (fun _ _ _=>id),hT.out.new⟩
     ·exact ⟨bytes_nil _,fun _ e=>by simp at e⟩
    ·show [x0.m,(⟨6,0,l.next%65536,0,[],0,1000⟩:Msg)]=talkF l _
     unfold talkF
     rw[if_pos HTK.out,hT.out.is,HQ.out]
   have HQ:=hid (show qualM l lead=⟨6,0,l.next%65536,0,[],0,lead⟩ by unfold qualM;rw[show max (-1000) (min lead 1000)=lead by omega])
   have g5:-1000<lead:=by omega
   have g6:lead<1000:=by omega
   clear g1 g2 g3 g4
   go_wp2_with fail
   refine wp_region_taild 10 (by kernel_rfl) (by kernel_rfl) ?_
   simp only[List.take_succ_cons,List.take_zero,List.drop_succ_cons,List.drop_zero]
   repeat (go_big_quiet_step ((go_at_call 262;exact (HO.out _).mono fun _ _ h=>⟨h.1,_,h.2.symm⟩)))
   refine wpQuiet_nil ?_
   intro _ hw'
   obtain ⟨nq,hw''⟩:=hw'
   subst hw''
   go_wp2_with fail
   go_ret
   have hB:=blk_new (w2.drewN nq) (.cells (flatM [x0,⟨(⟨6,0,l.next%65536,0,[],0,lead⟩:Msg),none,0⟩]).toArray 254)
   have hk:=((Keeps.refl (fun _=>False) w2).drewN nq).alloc (.cells (flatM [x0,⟨(⟨6,0,l.next%65536,0,[],0,lead⟩:Msg),none,0⟩]).toArray 254)
   have hbf:=hT.out.bel.trans (hk.below hT.out.bel.size (fun _ _ x=>x))
   refine ⟨⟨some ⟨w2.heap.size,0,none⟩,2,[x0,⟨(⟨6,0,l.next%65536,0,[],0,lead⟩:Msg),none,0⟩],rfl,⟨vals_blk hB rfl (by unfold maxLen;show 2≤_;omega),?_,fun y e=>by cases e;exact hT.out.bel.size⟩,?_⟩,hbf⟩
   ·intro x hx
    simp only[List.mem_cons,List.not_mem_nil,or_false] at hx
    rcases hx with rfl|rfl
    ·exact ⟨hT.out.bytes.keeps hk (fun _ _ _=>id),hT.out.new⟩
    ·exact ⟨bytes_nil _,fun _ e=>by simp at e⟩
   ·show [x0.m,(⟨6,0,l.next%65536,0,[],0,lead⟩:Msg)]=talkF l _
    unfold talkF
    rw[if_pos HTK.out,hT.out.is,HQ.out]
  ·have HTK:=hid htk
   have q4:(l.ticks%8 != 0)=true:=by simpa using htk
   have q5:l.ticks.tmod 8=l.ticks%8:=Int.tmod_eq_emod_of_nonneg ht.1
   clear htk
   go_wp2_with fail
   go_ret
   have hB:=blk_new w2 (.cells (flatM [x0]).toArray 254)
   have hk:=(Keeps.refl (fun _=>False) w2).alloc (.cells (flatM [x0]).toArray 254)
   have hbf:=hT.out.bel.trans (hk.below hT.out.bel.size (fun _ _ x=>x))
   refine ⟨⟨some ⟨w2.heap.size,0,none⟩,1,[x0],rfl,⟨vals_blk hB rfl (by unfold maxLen;show 1≤_;omega),?_,fun y e=>by cases e;exact hT.out.bel.size⟩,?_⟩,hbf⟩
   ·intro x hx
    simp only[List.mem_cons,List.not_mem_nil,or_false] at hx
    subst hx
    exact ⟨hT.out.bytes.keeps hk (fun _ _ _=>id),hT.out.new⟩
   ·show [x0.m]=talkF l lead
    unfold talkF
    rw[if_neg HTK.out,hT.out.is]
end
section
open Go.RowKit
attribute [local go_sem] Oper.semAt_some
set_option maxRecDepth 10000
variable {w:World} {B:LB} {l:Lk}
def byeM:Msg:=⟨7,0,0,0,[],0,0⟩
def helloM (l:Lk):Msg:=⟨1,l.nonce,0,0,[],0,0⟩
def saysF (l:Lk) (lead:Int):List Msg×Lk:=
 if l.state=2 then (if l.bye then ([byeM],{ l with bye:=false }) else ([],l)) else (l.out++(if l.state=0 then [helloM l] else talkF l lead),{ l with out:=[] })
def SaysPost (w:World) (B:LB) (l:Lk) (lead:Int) (e:Ending) (w':World):Prop:=
 (∃ A cap xs,e=.returned (.slice A xs.length cap)∧SlcM w.heap.size w' A cap xs∧xs.map MV.m=(saysF l lead).1)∧IsLink w' B (saysF l lead).2∧Keeps B.S w w'
theorem info_msg2:(Tryz.prog.info? 254).map (fun i=>(i.zero,i.size,i.bytes))=some (some (.agg (mC Msg.zero)),7,56):=by kernel_rfl
theorem says_gone (h:IsLink w B l) (lead:Int) (hs:l.state=2):Calls Tryz.prog 134 #[.pointer (some ⟨B.p,0,none⟩),.int .i64 lead] w (SaysPost w B l lead):=by
 have c2:=h.c2
 have c3:=h.c3
 have f3:=h.free 3
 rw[hs] at c2
 unfold SaysPost saysF
 rw[if_pos hs]
 cases hb:l.bye
 ·rw[if_neg (by simp)]
  rw[hb] at c3
  have H:=hid h
  clear h hs hb
  go_enter Tryz.func134,Tryz.ntmps134
  go_wp2
  go_ret
  exact ⟨⟨none,0,[],rfl,⟨Vals.nil _ _,fun x hx=>(by cases hx),fun y e=>(by cases e)⟩,rfl⟩,H.out,Keeps.refl _ _⟩
 ·rw[if_pos rfl]
  rw[hb] at c3
  have hS:=h.set 3 (.bool false) { l with bye:=false } rfl rfl rfl
  have hk:=Keeps.setCell (S:=B.S) (Keeps.refl _ w) (p:=⟨B.p,3,none⟩) (.inl rfl) (.bool false)
  have HS:=hid hS
  have HK:=hid hk
  clear h hs hb hS hk
  go_enter Tryz.func134,Tryz.ntmps134
  go_wp2
  go_ret
  have hsz:(w.setCell ⟨B.p,3,none⟩ (.bool false)).heap.size=w.heap.size:=by simp
  have hB:=blk_new (w.setCell ⟨B.p,3,none⟩ (.bool false)) (.cells (flatM [⟨byeM,none,0⟩]).toArray 254)
  rw[hsz] at hB
  have hS2:=HS.out.below ((Below.refl _ (w.setCell ⟨B.p,3,none⟩ (.bool false))).alloc (Nat.le_refl _) (.cells (flatM [⟨byeM,none,0⟩]).toArray 254))
  refine ⟨⟨some ⟨w.heap.size,0,none⟩,1,[⟨byeM,none,0⟩],rfl,⟨vals_blk hB rfl (by unfold maxLen;show 1≤_;omega),?_,fun y e=>by cases e;exact Nat.le_refl _⟩,rfl⟩,hS2,HK.out.alloc _⟩
  intro x hx
  simp only[List.mem_cons,List.not_mem_nil,or_false] at hx
  subst hx
  exact ⟨bytes_nil _,fun _ e=>by simp at e⟩
theorem cells_new (A:World) (cs:Array Value) (t:TypeId) (j:Nat) (u:Value) (h:cs.toList[j]?=some u):(A.alloc (.cells cs t)).cell? ((⟨A.heap.size,0,none⟩:Addr).add j)=some u:=by
 rw[addr_add,Nat.zero_add]
 exact blk_cell (blk_new _ _) (by simpa using h)
def bareF (xs:List Msg):List Value:=xs.flatMap fun m=>(mC m).toList
structure SyI (w W:World) (B:LB) (l:Lk) (pre:List Msg):Prop where
 row:∃ v,W.heap[w.heap.size]?=some (.cells #[v] 250 (0,0))∧W.ownsRow (w.heap.size+4) 254 7 v pre.length (bareF pre)
 bx:W.heap[w.heap.size+1]?=some (.cells #[.pointer (some ⟨B.p,0,none⟩)] 60 (0,0))
 lk:W.heap[B.p]?=some (.cells (lkC B l) 124 (0,0))
 ow:IsRing W B.h1 B.d1 64 (u8I l.own)
 ks:Keeps (fun b=>b=B.h2∨b=B.d2) w W
 sz:w.heap.size+2≤W.heap.size
theorem SyI.keep {w W W':World} {pre:List Msg} {S:Nat→Prop} (h:SyI w W B l pre) (hk:Keeps S W W') (hl:IsLink w B l) (hs:∀ b,S b→b=B.h2∨b=B.d2∨(w.heap.size+2≤b∧b≤w.heap.size+3)):SyI w W' B l pre:=by
 have hlt:=hl.lt
 have a:=hl.ok.a
 have b':=hl.ok.b
 have c:=hl.ok.c
 obtain ⟨v,i1,i2⟩:=h.row
 refine ⟨⟨v,hk.heap i1 (fun e=>by have:=hs _ e;omega),own_keeps i2 hk (fun b hb e=>by have:=(i2.lt b hb).1;have:=hs _ e;omega)⟩,hk.heap h.bx (fun e=>by have:=hs _ e;omega),hk.heap h.lk (fun e=>by have:=hs _ e;omega),h.ow.keeps hk (fun e=>by have:=hs _ e;omega) (fun e=>by have:=hs _ e;omega),?_,Nat.le_trans h.sz hk.size⟩
 exact keeps_past h.ks hk (fun k hk' e=>by have:=hs _ e;omega)
theorem wp_calm {P:Program} {c:Code} {Q:Exit→Act→World→Prop} {a:Act} {w:World} (h:c.wp P (fun e a' w'=>e=Exit.normal∧Q .normal a' w') a w):c.wp P Q a w:=
 wp_mono h (fun e a' w' ⟨he,hq⟩=>by subst he;exact hq)
theorem flat_bare (L:List Msg) (h:∀ m∈L,m.ins=[]):flatM (L.map fun m=>(⟨m,none,0⟩:MV))=bareF L:=by
 unfold flatM bareF
 induction L with
 | nil=>rfl
 | cons m L ih=>
  have hm:=h m (by simp)
  rw[List.map_cons,List.flatMap_cons,List.flatMap_cons,ih (fun x hx=>h x (by simp[hx]))]
  congr 1
  simp[mvC,mC,hm]
theorem says_end {w W w1:World} {v:Value} {n:Nat} {ys:List MV} {lead:Int} (hI:SyI w W B l l.out) (hM:IsMR W B.h2 B.d2 8 []) (hl:IsLink w B l) (hk:Keeps (fun k=>w.heap.size+3<k) W w1)
  (hown:w1.ownsRow (w.heap.size+4) 254 7 v n (bareF l.out++flatM ys)) (hn:n=l.out.length+ys.length) (hout:∀ m∈l.out,m.ins=[])
  (hys:∀ x∈ys,IsBytes w1 x.a x.c x.m.ins∧∀ y,x.a=some y→w.heap.size+3≤y.block) (hs:saysF l lead=(l.out++ys.map MV.m,{ l with out:=[] })) (o:Obj) :
  SaysPost w B l lead (.returned v) (w1.putObj (w.heap.size+2) o):=by
 have hlt:=hl.lt
 have hp:Keeps (fun k=>k=w.heap.size+2) w1 (w1.putObj (w.heap.size+2) o):=Keeps.putObj (S:=fun k=>k=w.heap.size+2) (Keeps.refl _ w1) rfl _
 obtain ⟨A,cap,rfl,hv,hb⟩:=vals_of_own hown
 have hkf:Keeps (fun k=>w.heap.size+2=k∨w.heap.size+3<k) W (w1.putObj (w.heap.size+2) o):=(hk.mono fun _ _ h=>.inr h).trans (hp.mono fun _ _ h=>.inl h.symm)
 have hW:IsLink W B { l with out:=[] }:=⟨hI.lk,hI.ow,hM,hl.ok⟩
 unfold SaysPost
 rw[hs]
 refine ⟨⟨A,cap,(l.out.map fun m=>(⟨m,none,0⟩:MV))++ys,?_,⟨?_,?_,fun y e=>by have:=(hb y e).1;omega⟩,?_⟩,hW.keeps hkf (fun b hb'=>by rcases hb' with e|e|e|e|e<;>omega),?_⟩
 ·rw[hn,List.length_append,List.length_map]
 ·rw[List.length_append,List.length_map,←hn,show flatM ((l.out.map fun m=>(⟨m,none,0⟩:MV))++ys)=bareF l.out++flatM ys by rw[←flat_bare _ hout];simp[flatM]]
  exact hv.keeps hp (fun _ y e h=>by have:=(hb y e).1;omega)
 ·intro x hx
  rcases List.mem_append.1 hx with hx|hx
  ·obtain ⟨m,hm,rfl⟩:=List.mem_map.1 hx
   exact ⟨by show IsBytes _ none 0 m.ins;rw[hout m hm];exact bytes_nil _,fun _ e=>by simp at e⟩
  ·obtain ⟨h1,h2⟩:=hys x hx
   exact ⟨h1.keeps hp (fun _ y e h=>by have:=h2 y e;omega),fun y e=>by have:=h2 y e;omega⟩
 ·rw[List.map_append,List.map_map]
  congr 1
  show l.out.map (fun m=>m)=l.out
  simp
 ·exact keeps_past (keeps_past (hI.ks.mono (T:=B.S) fun b _ h=>h.elim (fun e=>.inr (.inr (.inr (.inl e)))) (fun e=>.inr (.inr (.inr (.inr e))))) hk (fun k hk' e=>by omega)) hp (fun k hk' e=>by omega)
set_option maxHeartbeats 2000000 in
theorem says_on (h:IsLink w B l) (lead:Int) (hs:l.state≠2) (ht:0≤l.ticks∧l.ticks≤1099511627776) (hout:∀ m∈l.out,m.ins=[]):Calls Tryz.prog 134 #[.pointer (some ⟨B.p,0,none⟩),.int .i64 lead] w (SaysPost w B l lead):=by
 obtain ⟨i0,hi,hz0,hz1,hz2⟩:∃ i,Tryz.prog.info? 254=some i∧i.zero=some (.agg (mC Msg.zero))∧i.size=7∧i.bytes=56:=by
  have h:=info_msg2
  cases hh:Tryz.prog.info? 254 with
  | none=>rw[hh] at h;cases h
  | some i=>rw[hh] at h;simp only[Option.map_some,Option.some.injEq,Prod.mk.injEq] at h;exact ⟨i,rfl,h.1,h.2.1,h.2.2⟩
 have hlt:=h.lt
 have hok:=h.ok
 have q2:(l.state == 2)=false:=by rw[beq_eq_false_iff_ne];exact hs
 have HI:=hid hi
 have c2:=h.c2
 have H:=hid h
 have hls:=h.out.le.1
 clear hi h
 refine (callsIn_wide (n:=0)).1 ?_
 refine callsIn_of_wp_marks Tryz.func134 rfl trivial ?_ rfl
 simp only[Tryz.ntmps134,List.size_toArray,List.length_cons,List.length_nil,Nat.reduceAdd,Nat.reduceSub,Array.replicate_succ,Array.replicate_zero,List.push_toArray,List.append_toArray,List.nil_append,List.cons_append]
 gi_wp2_with (fail)
 refine ⟨trivial,rfl,callsIn_wide.2 ((lk_waiting _ _).mono ?_)⟩
 rintro e w2 ⟨rfl,hw2⟩
 gi_wp2_with (fail)
 have hs0:w2.heap.size=w.heap.size+2:=by rw[←hw2];simp
 have hkw:Keeps (fun _=>False) w w2:=by rw[←hw2];exact ((Keeps.refl _ w).alloc _).alloc _
 have hN:w2.heap[w.heap.size]?=some (.cells #[.slice none 0 0] 250 (0,0)):=by rw[←hw2];exact blk_alloc (blk_new _ _) _
 have hN1:w2.heap[w.heap.size+1]?=some (.cells #[.pointer (some ⟨B.p,0,none⟩)] 60 (0,0)):=by
  have:=blk_new (w.alloc (.cells #[.slice none 0 0] 250)) (.cells #[.pointer (some ⟨B.p,0,none⟩)] 60)
  rw[World.size_alloc,hw2] at this
  exact this
 have H0:=H.out.keeps hkw (fun _ _=>id)
 clear hw2
 refine wpIn_rangeF (gf:=260) (lb:=#[.pointer (some ⟨w.heap.size+1,0,none⟩)]) rfl (enters_of Tryz.func260 (by kernel_rfl) rfl)
  (fun _=>rfl) l.out (fun k=>k=w.heap.size∨w.heap.size+3<k) (fun b=>b=B.h2∨b=B.d2) (fun W=>IsMR W B.h2 B.d2 8 [])
  (wait1 H0.out H0.c9 (w.heap.size+1) (blk_cell hN1 rfl) ⟨by omega,by omega⟩ ⟨by omega,by omega,hok.a.2.2.1,hok.a.2.2.2⟩ _ ⟨by omega,by omega,by omega,by omega⟩)
  (fun X Y hX hsz hk=>hX.keeps hk (by omega) (by omega))
  (by rw[hs0];omega) (by rw[hs0];omega)
  (fun pre W=>SyI w W B l pre)
  ?inv ?start
  (fun pre x a' W=>∃ X,a'={ tmps:=#[.pointer (some ⟨B.p,0,none⟩),.int .i64 lead,undef,undef,.slice none 0 0,.pointer (some ⟨w.heap.size,0,none⟩),.pointer (some ⟨X,0,none⟩),.pointer (some ⟨B.p,0,none⟩),.pointer (some ⟨B.p,0,none⟩),.pointer (some ⟨B.p,2,none⟩),.int .i64 l.state,.bool false,undef,undef,undef,undef,undef,undef,undef,undef,undef,undef,.pointer (some ⟨B.p,0,none⟩),.func (.func 260) #[] #[.pointer (some ⟨w.heap.size+1,0,none⟩)],.agg (mC x),undef,undef,undef,undef,undef,undef,undef,undef,undef,undef,undef,undef,undef,undef,undef,undef,undef,undef,undef,undef,undef,undef],defers:=[] }∧w.heap.size+4≤X∧W.heap[X]?=some (.cells (mC x) 254 (0,0))∧SyI w W B l pre)
  ?ass ?assign ?body ?done
 case inv=>
  intro pre X Y hX hsz hk
  exact hX.keep hk H.out (fun b hb=>by rw[hs0] at hb;omega)
 case start=>exact ⟨⟨_,hN,own_nil _ _ _ _⟩,hN1,H0.blk,H0.own,hkw.mono fun _ _ x=>x.elim,by omega⟩
 case ass=>
  rintro pre x a' A A' ⟨X,rfl,hX4,hX,hI⟩ hsz hk
  exact ⟨X,rfl,hX4,hk.heap hX (by omega),hI.keep hk H.out (fun b hb=>by omega)⟩
 case assign=>
  intro l' pre x rest A K hl hx hI hsz hK
  have al:=alloc_msg A
  have hX:=blk_new A (.cells (mC Msg.zero) 254)
  obtain ⟨hst,_,hk3⟩:=store_all (A.alloc (.cells (mC Msg.zero) 254)) 254 7 A.heap.size (mC x) _ Tryz.sizeOf254 rfl rfl hX (mC_one _)
  have hX4:=setRow_at (A.alloc (.cells (mC Msg.zero) 254)) A.heap.size _ (mC x) 254 hX
  have hk4:=keeps_past ((Keeps.refl (fun _=>False) A).alloc (.cells (mC Msg.zero) 254)) hk3 (fun k hk e=>by omega)
  generalize (A.alloc (.cells (mC Msg.zero) 254)).setRow A.heap.size (mC x)=A4 at *
  refine wpIn_region_lit ?_
  simp only[List.zip_toArray,List.zip_cons_cons,List.zip_nil_right,List.foldl_toArray,List.foldl_cons,List.foldl_nil,List.setIfInBounds_toArray,List.set_cons_succ,List.set_cons_zero]
  refine wpListIn_run_alloc al rfl rfl ?_
  refine wpListIn_run_store (p:=.pointer (some ⟨A.heap.size,0,none⟩)) (u:=.agg (mC x)) hst rfl rfl rfl rfl ?_
  refine wpListIn_nil ?_
  refine hK _ _ ⟨A.heap.size,rfl,by omega,hX4,hI.keep hk4 H.out (fun b hb=>hb.elim)⟩ (hk4.mono fun _ _ x=>x.elim)
 case body=>
  rintro l' pre x rest a' A hl hx ⟨X,rfl,hX4,hX,hI⟩ hsz
  obtain ⟨v,i1,i2⟩:=hI.row
  have hpl:pre.length+1≤8:=by
   have:=congrArg List.length hx
   simp at this
   omega
  have hlX:(Instr.loadAt 254 (.pointer (some ⟨X,0,none⟩))).run Tryz.prog A=.ok (.agg (mC x)) A:=load_msg hX
  have cv:=cell_of_one i1
  have fv:=free_of_one i1
  have H1:=hid i1
  have HIx:=hid hI
  have Hx:=hid hx
  have Hl:=hid hl
  have Hs0:=hid hs0
  have hszA:w.heap.size+4≤A.heap.size:=by omega
  clear hl hs0
  have hBS:=blk_new A (.cells (mC x) 254)
  clear i1 hI hx hX
  unfold mC at hlX hBS
  have hcn:=cells_new A (mC x) 254
  have hoA:=i2.alloc (.cells (mC x) 254)
  unfold mC at hcn hoA
  gi_wp2_with (first|(refine wpListIn_run_load hlX rfl rfl rfl ?_)|(gi_at_builtin;refine wpListIn_append_own _ rfl _ _ 250 rfl (w.heap.size+4) 254 i0 (.agg (mC Msg.zero)) 7 56 Tryz.underlying250 HI.out hz0 hz1 hz2 rfl (by decide) _ _ _ rfl hoA ⟨A.heap.size,0,none⟩ 1 1 (mC x).toList rfl rfl hcn (List.all_eq_true.1 (mC_one x)) (by simp only[maxLen];omega) (by omega) (by simp;omega) ?_;intro v' w1 hown' hgrow _;have hk1:Keeps (fun k=>k=w.heap.size∨w.heap.size+3<k) A w1:=((Keeps.refl _ A).alloc _).grown hgrow (fun k hk=>.inl (.inr (by have:=(i2.lt k hk).1;omega)));obtain ⟨g',cap',rfl⟩:=ownsRow_succ hown';have h2:=(hgrow.block w.heap.size (by simp;omega) (fun e=>by have:=(i2.lt _ e.symm).1;omega)).trans (blk_alloc H1.out _);have cv1:=cell_of_one h2;have fv1:=free_of_one h2;have Hb:=hid h2;clear h2 hgrow))
  have hk2:=hk1.setCell (p:=⟨w.heap.size,0,none⟩) (.inl rfl) (.slice (some ⟨g',0,none⟩) (pre.length+1) cap')
  have hIx:=HIx.out
  refine ⟨hk2,⟨⟨.slice (some ⟨g',0,none⟩) (pre.length+1) cap',by simpa using blk_set Hb.out 0 _,?_⟩,hk2.heap hIx.bx (by omega),hk2.heap hIx.lk (by omega),hIx.ow.keeps hk2 (by omega) (by omega),keeps_past hIx.ks hk2 (fun k hk e=>by omega),Nat.le_trans hIx.sz hk2.size⟩⟩
  rw[List.length_append,List.length_singleton,show bareF (pre++[x])=bareF pre++(mC x).toList by simp[bareF]]
  exact own_keeps hown' ((Keeps.refl (fun k=>k=w.heap.size) w1).setCell (p:=⟨w.heap.size,0,none⟩) rfl _) (fun b hb h=>by have:=(hown'.lt b hb).1;omega)
 case done=>
  rintro W hI hM hszD hD
  rw[hs0] at hszD
  obtain ⟨v,i1,i2⟩:=hI.row
  have hW:IsLink W B { l with out:=[] }:=⟨hI.lk,hI.ow,hM,hok⟩
  have cv:=cell_of_one i1
  have c2:=hW.c2
  have c0:=hW.c0
  have HI2:=hid hI
  have HM:=hid hM
  have HW:=hid hW
  have Hs0:=hid hs0
  have HD:=hid hD
  have hszW:=hI.sz
  have Hout:=hid hout
  clear i1 hI hW hM hs0 hD hout
  have hlN:w.heap.size+2<W.heap.size:=by
   have:=blk_lt HD.out
   rw[Hs0.out] at this
   exact this
  by_cases hst0:l.state=0
  ·have hSF:=hid (show saysF l lead=(l.out++[(⟨helloM l,none,0⟩:MV)].map MV.m,{ l with out:=[] }) by unfold saysF;rw[if_neg hs,if_pos hst0];rfl)
   rw[hst0] at c2
   gi_wp2_with (fail)
   refine (wpIn_wide (n:=0)).2 (wp_calm ?_)
   have hlt2:=hlt
   have z0:=keptS_cell (S:=fun k=>w.heap.size+3<k) (w:=W.drew) (p:=⟨B.p,0,none⟩) c0 (by show ¬ w.heap.size+3<B.p;omega)
   have zv:=keptS_cell (S:=fun k=>w.heap.size+3<k) (w:=W.drew) (p:=⟨w.heap.size,0,none⟩) cv (by show ¬ w.heap.size+3<w.heap.size;omega)
   have hoD:=own_keeps i2 ((Keeps.refl (fun _=>False) W).drew) (fun _ _=>id)
   have hoA:=hoD.alloc (.cells (mC (helloM l)) 254)
   have hBk:=blk_new W.drew (.cells (mC (helloM l)) 254)
   have hkA:Keeps (fun _=>False) W.drew (W.drew.alloc (.cells (mC (helloM l)) 254)):=(Keeps.refl _ _).alloc _
   have hvl:Vals (W.drew.alloc (.cells (mC (helloM l)) 254)) 7 (some ⟨W.heap.size,0,none⟩) 1 1 (mC (helloM l)).toList:=vals_blk (t:=254) hBk rfl (by unfold maxLen;omega)
   have h1c:=List.all_eq_true.1 (mC_one (helloM l))
   unfold mC helloM at hoA hBk hkA hvl h1c
   refine stages_start (by kernel_rfl) 9 rfl ?_
   refine stagek (fun k=>w.heap.size+3<k) [0,1,2,3,4,5] [6,7,8] 0 rfl #[true,true,true,true,true,true,true,true,true] (by kernel_rfl) (by kernel_rfl) (fun _ _ _ d _ h=>by first|(cases d<;>exact h)|cases h.1) ?_
   simp only[opsAt,List.map_cons,List.map_nil,List.getElem?_toArray,List.getElem?_cons_zero,List.getElem?_cons_succ,Option.getD_some]
   repeat (go_big_quiet_step (fail))
   refine wpQuiet_nil ?_
   refine links_cons (by first|rfl|simp[go_sem]) (fun K hK=>?_)
   go_simp
   refine hK _ _ (keptS (hkA.mono fun _ _ x=>x.elim)) ?_
   clear hK K
   try refine links_nil ?_
   refine links_cons (by first|rfl|simp[go_sem]) (fun K hK=>?_)
   refine wp_append_vals _ _ _ 250 rfl (w.heap.size+4) 254 i0 (.agg (mC Msg.zero)) 7 56 Tryz.underlying250 HI.out hz0 hz1 hz2 rfl (by omega) v l.out.length (bareF l.out) rfl hoA (some ⟨W.heap.size,0,none⟩) 1 1 _ rfl hvl h1c (by simp only[maxLen];omega) (by omega) (by simp;omega) ?_
   intro v' w1 hown' hgrow _
   simp only[Act.put,List.setIfInBounds_toArray,List.set_cons_succ,List.set_cons_zero]
   have hkB:Keeps (fun k=>w.heap.size+3<k) W.drew w1:=(hkA.mono fun _ _ x=>x.elim).grown hgrow (fun k hk=>.inl (by have:=(i2.lt k hk).1;omega))
   have hkd:Keeps (fun k=>w.heap.size+3<k) W w1:=((Keeps.refl _ W).drew).trans hkB
   refine hK _ _ (keptS (hkB)) ?_
   clear hK K
   try refine links_nil ?_
   refine links_cons (by first|rfl|simp[go_sem]) (fun K hK=>?_)
   go_simp
   refine hK _ _ (keptS (hkB)) ?_
   clear hK K
   try refine links_nil ?_
   refine stages_end (by kernel_rfl) ?_
   refine ⟨rfl,?_⟩
   have hD2:=hkd.heap HD.out (by rw[Hs0.out];omega)
   rw[Hs0.out] at hD2
   have hend:=fun o=>says_end (v:=v') (lead:=lead) (ys:=[⟨helloM l,none,0⟩]) HI2.out HM.out H.out hkd hown' rfl Hout.out (fun x hx=>by
    simp only[List.mem_cons,List.not_mem_nil,or_false] at hx
    subst hx
    exact ⟨bytes_nil _,fun _ e=>by simp at e⟩) hSF.out o
   have HE:=hid hend
   rw[Hs0.out]
   clear hend hown' hoA hoD hvl hBk h1c z0 zv
   gi_wp2
   refine ⟨by simp,.inl ⟨_,_,rfl,run_takeDeferred hD2,?_⟩⟩
   refine ⟨_,results_tmp rfl _ _ _,?_⟩
   exact HE.out _
  ·have hSF:=hid (show saysF l lead=(l.out++talkF l lead,{ l with out:=[] }) by unfold saysF;rw[if_neg hs,if_neg hst0])
   have q0:(l.state == 0)=false:=by rw[beq_eq_false_iff_ne];exact hst0
   gi_wp2_with (fail)
   refine (wpIn_wide (n:=0)).2 (wp_calm ?_)
   have hlt2:=hlt
   have zv:=keptS_cell (S:=fun k=>w.heap.size+3<k) (w:=W.drew) (p:=⟨w.heap.size,0,none⟩) cv (by show ¬ w.heap.size+3<w.heap.size;omega)
   have hT:=lk_talk (HW.out.drew 1) lead ht
   refine stages_start (by kernel_rfl) 6 rfl ?_
   refine stagek (fun k=>w.heap.size+3<k) [0,1,2] [3,4,5] 0 rfl #[true,true,true,true,true,true] (by kernel_rfl) (by kernel_rfl) (fun _ _ _ d _ h=>by first|(cases d<;>exact h)|cases h.1) ?_
   simp only[opsAt,List.map_cons,List.map_nil,List.getElem?_toArray,List.getElem?_cons_zero,List.getElem?_cons_succ,Option.getD_some]
   repeat (go_big_quiet_step (fail))
   refine wpQuiet_nil ?_
   refine links_cons (by first|rfl|simp[go_sem]) (fun K hK=>?_)
   go_simp
   refine hT.mono ?_
   rintro e w4 ⟨⟨A4,cap4,ys,rfl,hS4,hm4⟩,hb4⟩
   have hk4:Keeps (fun _=>False) W.drew w4:=Keeps.of_below hb4 (fun k h1 h2=>by have h1:k<W.heap.size:=h1;have h2:W.heap.size≤k:=h2;omega)
   refine hK _ _ (keptS (hk4.mono fun _ _ x=>x.elim)) ?_
   clear hK K
   try refine links_nil ?_
   refine links_cons (by first|rfl|simp[go_sem]) (fun K hK=>?_)
   have hoD:=own_keeps i2 (((Keeps.refl (fun _=>False) W).drew).trans hk4) (fun _ _=>id)
   have hny:0<ys.length:=by
    have:=congrArg List.length hm4
    rw[List.length_map] at this
    rw[this]
    unfold talkF
    split<;>simp
   have hy2:ys.length≤2:=by
    have:=congrArg List.length hm4
    rw[List.length_map] at this
    rw[this]
    unfold talkF
    split<;>simp
   have hone:∀ u∈flatM ys,u.oneCell'=true:=by
    intro u hu
    unfold flatM at hu
    obtain ⟨x,_,hx⟩:=List.mem_flatMap.1 hu
    have hall:(mvC x).toList.all (fun v=>v.oneCell')=true:=by kernel_rfl
    exact List.all_eq_true.1 hall u hx
   have hs4:W.heap.size≤w4.heap.size:=hk4.size
   refine wp_append_vals _ _ _ 250 rfl (w.heap.size+4) 254 i0 (.agg (mC Msg.zero)) 7 56 Tryz.underlying250 HI.out hz0 hz1 hz2 rfl (by omega) v l.out.length (bareF l.out) rfl hoD A4 ys.length cap4 _ rfl hS4.vals hone (by simp only[maxLen];omega) (by omega) (by omega) ?_
   intro v' w1 hown' hgrow _
   simp only[Act.put,List.setIfInBounds_toArray,List.set_cons_succ,List.set_cons_zero]
   have hkB:Keeps (fun k=>w.heap.size+3<k) w4 w1:=(Keeps.refl _ w4).grown hgrow (fun k hk=>.inl (by have:=(i2.lt k hk).1;omega))
   have hkR:Keeps (fun k=>k<W.heap.size) w4 w1:=(Keeps.refl _ w4).grown hgrow (fun k hk=>.inl (i2.lt k hk).2)
   have hkC:Keeps (fun k=>w.heap.size+3<k) W.drew w1:=(hk4.mono fun _ _ x=>x.elim).trans hkB
   refine hK _ _ (keptS (hkC)) ?_
   clear hK K
   try refine links_nil ?_
   refine links_cons (by first|rfl|simp[go_sem]) (fun K hK=>?_)
   go_simp
   refine hK _ _ (keptS (hkC)) ?_
   clear hK K
   try refine links_nil ?_
   refine stages_end (by kernel_rfl) ?_
   refine ⟨rfl,?_⟩
   have hkd:Keeps (fun k=>w.heap.size+3<k) W w1:=((Keeps.refl _ W).drew).trans hkC
   have hD2:=hkd.heap HD.out (by rw[Hs0.out];omega)
   rw[Hs0.out] at hD2
   have hend:=fun o=>says_end (v:=v') (lead:=lead) (ys:=ys) HI2.out HM.out H.out hkd hown' rfl Hout.out (fun x hx=>by
    obtain ⟨h1,h2⟩:=hS4.ins x hx
    exact ⟨h1.keeps hkR (fun _ y e h=>by have h3:W.heap.size≤y.block:=h2 y e;have h:y.block<W.heap.size:=h;omega),fun y e=>by have h3:W.heap.size≤y.block:=h2 y e;omega⟩) (by rw[hm4];exact hSF.out) o
   have HE:=hid hend
   rw[Hs0.out]
   clear hend hown' hoD zv hS4 hone
   gi_wp2
   refine ⟨by simp,.inl ⟨_,_,rfl,run_takeDeferred hD2,?_⟩⟩
   refine ⟨_,results_tmp rfl _ _ _,?_⟩
   exact HE.out _
theorem lk_says (h:IsLink w B l) (lead:Int) (ht:0≤l.ticks∧l.ticks≤1099511627776) (hout:∀ m∈l.out,m.ins=[]):Calls Tryz.prog 134 #[.pointer (some ⟨B.p,0,none⟩),.int .i64 lead] w (SaysPost w B l lead):=by
 by_cases hs:l.state=2
 ·exact says_gone h lead hs
 ·exact says_on h lead hs ht hout
end
end Go.Proofs.YtalagblioepadaaGreatDoor
