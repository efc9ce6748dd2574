/- The proof, part 41. -/
import Derived.Test.YtalagblioepadaaGreatDoorZa39
import Derived.Test.YtalagblioepadaaGreatDoorZa38
import Derived.Test.YtalagblioepadaaGreatDoorZa14
import Derived.Deep.LoopGhost
import Derived.Test.YtalagblioepadaaGreatDoorZa26
namespace Go.Proofs.YtalagblioepadaaGreatDoor
section
open Go.RowKit
set_option maxRecDepth 10000
variable {w:World} {B:LB} {l:Lk}
def upL (l:Lk):Lk:={ l with ticks:=l.ticks+1 }
def endL (l:Lk):Lk:=if (upL l).patience<(upL l).ticks-(upL l).heard then { upL l with state:=2 } else upL l
def tickF (l:Lk) (lead:Int):List Msg×Lk:=saysF (endL l) lead
def strsM (ms:List Msg):List Value:=ms.map fun m=>Value.string ⟨(packM m).toArray⟩
def TickPost (w:World) (B:LB) (l:Lk) (lead:Int) (e:Ending) (w':World):Prop:=
 (∃ A cap,e=.returned (.slice A (tickF l lead).1.length cap)∧Vals w' 1 A (tickF l lead).1.length cap (strsM (tickF l lead).1)∧∀ y,A=some y→w.heap.size≤y.block)∧IsLink w' B (tickF l lead).2∧Keeps B.S w w'
theorem info_str:(Tryz.prog.info? 9).map (fun i=>(i.zero,i.size,i.bytes))=some (some (.string ByteArray.empty),1,16):=by kernel_rfl
theorem bytes_below {w w':World} {a:Option Addr} {c:Nat} {L:List UInt8} (h:IsBytes w a c L) (hb:Below w.heap.size w w'):IsBytes w' a c L:=
 h.keeps (S:=fun _=>False) (Keeps.of_below hb (fun k h1 h2=>by omega)) (fun _ _ _=>id)
theorem flat_at {xs:List MV} {k:Nat} {x:MV} (h:xs[k]?=some x) (j:Nat) (hj:j<7):(flatM xs)[k*7+j]?=(mvC x).toList[j]?:=by
 induction xs generalizing k with
 | nil=>simp at h
 | cons y ys ih=>
  have hl:(mvC y).toList.length=7:=rfl
  unfold flatM at ih ⊢
  rw[List.flatMap_cons]
  cases k with
  | zero=>
   simp only[List.getElem?_cons_zero,Option.some.injEq] at h
   subst h
   rw[List.getElem?_append_left (by omega)]
   congr 1
   omega
  | succ k=>
   rw[List.getElem?_cons_succ] at h
   rw[List.getElem?_append_right (by omega),hl,←ih h]
   congr 1
   omega
theorem tick_loop_cells {w4 wr:World} {b:Nat} {bb o cap:Nat} {xs:List MV} (h:SlcM b w4 (some ⟨bb,o,none⟩) cap xs) (hb:Below w4.heap.size w4 wr) (k:Nat) (x:MV) (hx:xs[k]?=some x) (j:Nat) (hj:j<7) (u:Value) (hu:(mvC x).toList[j]?=some u):wr.cell? ⟨bb,o+k*7+j,none⟩=some u:=by
 rw[Nat.add_assoc]
 have hk:k<xs.length:=(List.getElem?_eq_some_iff.1 hx).1
 obtain ⟨b',o',e,hc⟩:=h.vals.at' (by omega)
 cases e
 have:=hc (k*7+j) u (by rw[flat_at hx j hj,hu])
 exact (Keeps.of_below (S:=fun _=>False) hb (fun k h1 h2=>by omega)).cell this id
set_option maxHeartbeats 2000000 in
theorem lk_Tick (h:IsLink w B l) (lead:Int) (ht:0≤l.ticks∧l.ticks≤1000000) (hh:0≤l.heard∧l.heard≤1000000) (hout:∀ m∈l.out,m.ins=[]) (hm:∀ m∈(tickF l lead).1,m.wf∧RightP m) (hn:(tickF l lead).1.length≤100) :
  Calls Tryz.prog 85 #[.pointer (some ⟨B.p,0,none⟩),.int .i64 lead] w (TickPost w B l lead):=by
 have c4:=h.c4
 have f4:=h.free 4
 have hU:=h.set 4 (.int .i64 (l.ticks+1)) (upL l) rfl rfl rfl
 have hkU:=Keeps.setCell (S:=B.S) (Keeps.refl _ w) (p:=⟨B.p,4,none⟩) (.inl rfl) (.int .i64 (l.ticks+1))
 have H:=hid h
 clear h
 obtain ⟨i0,hi,hz0,hz1,hz2⟩:∃ i,Tryz.prog.info? 9=some i∧i.zero=some (.string ByteArray.empty)∧i.size=1∧i.bytes=16:=by
  have h:=info_str
  cases hh:Tryz.prog.info? 9 with
  | none=>rw[hh] at h;cases h
  | some i=>rw[hh] at h;simp only[Option.map_some,Option.some.injEq,Prod.mk.injEq] at h;exact ⟨i,rfl,h.1,h.2.1,h.2.2⟩
 have Hi:=hid hi
 clear hi
 by_cases hp:l.patience<l.ticks+1-l.heard
 ·have hE:endL l={ upL l with state:=2 }:=by unfold endL;rw[if_pos (by exact hp)]
  go_enter Tryz.func85,Tryz.ntmps85
  go_wp2_with fail
  generalize w.setCell ⟨B.p,4,none⟩ (.int .i64 (l.ticks+1))=w1 at *
  have d4:w1.cell? ⟨B.p,4,none⟩=some (.int .i64 (l.ticks+1)):=hU.c4
  have d5:w1.cell? ⟨B.p,5,none⟩=some (.int .i64 l.heard):=hU.c5
  have d1:w1.cell? ⟨B.p,1,none⟩=some (.int .i64 l.patience):=hU.c1
  go_quiet (fail)
  have d2:=(hU.drew nq).c2
  have g2:=(hU.drew nq).free 2
  have h3:=(hU.drew nq).set 2 (.int .i64 2) (endL l) (by rw[hE];rfl) (by rw[hE]) (by rw[hE])
  have hk3:=Keeps.setCell (S:=B.S) (hkU.drewN nq) (p:=⟨B.p,2,none⟩) (.inl rfl) (.int .i64 2)
  clear hE
  go_wp2_with fail
  clear d4 d5 d1 d2 g2 hU hkU c4 f4
  generalize (w1.drewN nq).setCell ⟨B.p,2,none⟩ (.int .i64 2)=w3 at *
  have hT9:0≤(endL l).ticks∧(endL l).ticks≤1099511627776:=by
   have:(endL l).ticks=l.ticks+1:=by unfold endL;split<;>rfl
   rw[this]
   omega
  have hO9:∀ m∈(endL l).out,m.ins=[]:=by
   have:(endL l).out=l.out:=by unfold endL;split<;>rfl
   rw[this]
   exact hout
  refine (lk_says h3 lead hT9 hO9).mono ?_
  rintro e w4 ⟨⟨A,cap,xs,rfl,hS,hxs⟩,hL4,hk4⟩
  have hk4':=hk3.trans hk4
  have HL4:=hid hL4
  have HK4:=hid hk4'
  have hxl:xs.length=(tickF l lead).1.length:=by
   have:=congrArg List.length hxs
   rwa [List.length_map] at this
  have hs34:w.heap.size≤w4.heap.size:=hk4'.size
  have hS0:∀ y,A=some y→w.heap.size≤y.block:=fun y e=>Nat.le_trans hk3.size (hS.new y e)
  have HS:=hid hS
  have Hxs:=hid (show xs.map MV.m=(tickF l lead).1 from hxs)
  have Hm:=hid hm
  have Hn:=hid hn
  clear hT9 hO9 hS hL4 hk4 hk4' h3 hk3 hm hout hxs hn
  have hnl:xs.length≤100:=by rw[hxl];exact Hn.out
  go_wp2_with fail
  go_loopw [5,40] (fun v i wr=>∃ k:Nat,k≤xs.length∧i=.int .i64 k∧wr.ownsRow w4.heap.size 9 1 v k (strsM ((xs.take k).map MV.m))∧Below w4.heap.size w4 wr) (fun _ i _=>xs.length-(intOf i).toNat)
  case atStart=>exact ⟨0,Nat.zero_le _,rfl,own_nil _ _ _ _,Below.refl _ _⟩
  case round=>
   obtain ⟨k,hk,rfl,hown,hbr⟩:=hrel
   by_cases hlt:k<xs.length
   ·obtain ⟨x,hx⟩:∃ x,xs[k]?=some x:=⟨xs[k],List.getElem?_eq_getElem hlt⟩
    obtain ⟨bb,o,rfl,_⟩:=HS.out.vals.at' (by omega)
    have y0:wr.cell? ⟨bb,o+k*7,none⟩=some (.int .i64 x.m.kind):=tick_loop_cells HS.out hbr k x hx 0 (by omega) (.int .i64 x.m.kind) rfl
    have y1:=tick_loop_cells HS.out hbr k x hx 1 (by omega) (.int .u32 x.m.nonce) rfl
    have y2:=tick_loop_cells HS.out hbr k x hx 2 (by omega) (.int .u16 x.m.serial) rfl
    have y3:=tick_loop_cells HS.out hbr k x hx 3 (by omega) (.int .u16 x.m.ack) rfl
    have y4:=tick_loop_cells HS.out hbr k x hx 4 (by omega) (.slice x.a x.m.ins.length x.c) rfl
    have y5:=tick_loop_cells HS.out hbr k x hx 5 (by omega) (.int .u32 x.m.sum) rfl
    have y6:=tick_loop_cells HS.out hbr k x hx 6 (by omega) (.int .i64 x.m.lead) rfl
    have hmm:(x.m).wf∧RightP x.m:=Hm.out x.m (by rw[←Hxs.out];exact List.mem_map.2 ⟨x,List.mem_of_getElem? hx,rfl⟩)
    have hIb:=bytes_below (HS.out.ins x (List.mem_of_getElem? hx)).1 hbr
    have hE0:packE x.m=0:=by unfold packE;rw[if_pos hmm.2]
    have hS0':packS x.m=packM x.m:=by unfold packS;rw[if_pos hmm.2]
    have hnv:strsM ((xs.take (k+1)).map MV.m)=strsM ((xs.take k).map MV.m)++[.string ⟨(packM x.m).toArray⟩]:=by
     rw[List.take_add_one,hx];simp[strsM]
    have Hnv:=hid hnv
    have Hbr:=hid hbr
    have hsz:=hbr.size
    clear hnv hbr
    go_wp2_with fail
    have hbb:Below w4.heap.size wr (wr.alloc (.cells (mvC x) 254)):=(Below.refl _ wr).alloc hsz _
    refine (wire_Pack x.m (bytes_below hIb ((Below.refl _ wr).alloc (Nat.le_refl _) _)) hmm.1).mono ?_
    rintro e w5 ⟨rfl,hb5⟩
    rw[hE0,hS0']
    have hk5:Keeps (fun _=>False) wr w5:=((Keeps.refl (fun _=>False) wr).alloc _).trans (Keeps.of_below hb5 (fun k h1 h2=>by omega))
    clear hE0 hS0' hbb hb5 hIb hmm y0 y1 y2 y3 y4 y5 y6
    have hs5:=hk5.size
    generalize packM x.m=px at *
    have hv1:=vals_one w5 (.string ⟨px.toArray⟩) 9
    have hown5:=own_keeps hown hk5 (fun _ _=>id)
    go_wp2_with (at_builtin;refine wpList_append_vals _ rfl (.tmp 51) (.tmp 53) _ rfl w4.heap.size 9 i0 _ 1 16 Tryz.underlying33 Hi.out hz0 hz1 hz2 rfl (by omega) _ k _ rfl (own_keeps hown5 ((Keeps.refl (fun _=>False) _).alloc _) (fun _ _=>id)) (some ⟨_,0,none⟩) 1 1 [.string ⟨px.toArray⟩] rfl hv1 (by simp[Value.oneCell']) (by simp only[maxLen];omega) (by omega) (by simp;omega) ?_)
    intro v1 w6 hown1 hg1 _
    have hk6:Keeps (fun k=>w4.heap.size≤k) w5 w6:=((Keeps.refl _ w5).alloc _).grown hg1 (fun k hk=>.inl (hown5.lt k hk).1)
    have hk56:Keeps (fun k=>w4.heap.size≤k) wr w6:=keeps_past (hk5.mono fun _ _ x=>x.elim) hk6 (fun k _ h=>h)
    have hb6:=Hbr.out.trans (hk56.below hsz (fun k h1 h2=>by omega))
    go_wp2_with fail
    go_roundw
    case rel=>exact ⟨k+1,by omega,by go_num,by rw[Hnv.out];simpa using hown1,hb6⟩
    case measure=>simp[intOf];omega
   ·obtain rfl:k=xs.length:=by omega
    obtain ⟨A',cp,rfl,hvM,hbM⟩:=vals_of_own hown
    rw[List.take_length,Hxs.out] at hvM
    rw[hxl] at hvM
    go_wp2_with fail
    go_ret
    refine ⟨⟨A',cp,by rw[←hxl];rfl,hvM,fun y e=>Nat.le_trans hs34 (hbM y e).1⟩,HL4.out.below hbr,?_⟩
    exact keeps_past HK4.out (Keeps.of_below (S:=fun _=>False) hbr (fun k h1 h2=>by omega)) (fun k _ h=>h.elim)
 ·have hE:endL l=upL l:=by unfold endL;rw[if_neg (by exact hp)]
  go_enter Tryz.func85,Tryz.ntmps85
  go_wp2_with fail
  generalize w.setCell ⟨B.p,4,none⟩ (.int .i64 (l.ticks+1))=w1 at *
  have d4:w1.cell? ⟨B.p,4,none⟩=some (.int .i64 (l.ticks+1)):=hU.c4
  have d5:w1.cell? ⟨B.p,5,none⟩=some (.int .i64 l.heard):=hU.c5
  have d1:w1.cell? ⟨B.p,1,none⟩=some (.int .i64 l.patience):=hU.c1
  go_quiet (fail)
  have h3:=hU.drew nq
  rw[←hE] at h3
  have hk3:=hkU.drewN nq
  clear hE
  go_wp2_with fail
  clear d4 d5 d1 hU hkU c4 f4
  generalize w1.drewN nq=w3 at *
  have hT9:0≤(endL l).ticks∧(endL l).ticks≤1099511627776:=by
   have:(endL l).ticks=l.ticks+1:=by unfold endL;split<;>rfl
   rw[this]
   omega
  have hO9:∀ m∈(endL l).out,m.ins=[]:=by
   have:(endL l).out=l.out:=by unfold endL;split<;>rfl
   rw[this]
   exact hout
  refine (lk_says h3 lead hT9 hO9).mono ?_
  rintro e w4 ⟨⟨A,cap,xs,rfl,hS,hxs⟩,hL4,hk4⟩
  have hk4':=hk3.trans hk4
  have HL4:=hid hL4
  have HK4:=hid hk4'
  have hxl:xs.length=(tickF l lead).1.length:=by
   have:=congrArg List.length hxs
   rwa [List.length_map] at this
  have hs34:w.heap.size≤w4.heap.size:=hk4'.size
  have hS0:∀ y,A=some y→w.heap.size≤y.block:=fun y e=>Nat.le_trans hk3.size (hS.new y e)
  have HS:=hid hS
  have Hxs:=hid (show xs.map MV.m=(tickF l lead).1 from hxs)
  have Hm:=hid hm
  have Hn:=hid hn
  clear hT9 hO9 hS hL4 hk4 hk4' h3 hk3 hm hout hxs hn
  have hnl:xs.length≤100:=by rw[hxl];exact Hn.out
  go_wp2_with fail
  go_loopw [5,40] (fun v i wr=>∃ k:Nat,k≤xs.length∧i=.int .i64 k∧wr.ownsRow w4.heap.size 9 1 v k (strsM ((xs.take k).map MV.m))∧Below w4.heap.size w4 wr) (fun _ i _=>xs.length-(intOf i).toNat)
  case atStart=>exact ⟨0,Nat.zero_le _,rfl,own_nil _ _ _ _,Below.refl _ _⟩
  case round=>
   obtain ⟨k,hk,rfl,hown,hbr⟩:=hrel
   by_cases hlt:k<xs.length
   ·obtain ⟨x,hx⟩:∃ x,xs[k]?=some x:=⟨xs[k],List.getElem?_eq_getElem hlt⟩
    obtain ⟨bb,o,rfl,_⟩:=HS.out.vals.at' (by omega)
    have y0:wr.cell? ⟨bb,o+k*7,none⟩=some (.int .i64 x.m.kind):=tick_loop_cells HS.out hbr k x hx 0 (by omega) (.int .i64 x.m.kind) rfl
    have y1:=tick_loop_cells HS.out hbr k x hx 1 (by omega) (.int .u32 x.m.nonce) rfl
    have y2:=tick_loop_cells HS.out hbr k x hx 2 (by omega) (.int .u16 x.m.serial) rfl
    have y3:=tick_loop_cells HS.out hbr k x hx 3 (by omega) (.int .u16 x.m.ack) rfl
    have y4:=tick_loop_cells HS.out hbr k x hx 4 (by omega) (.slice x.a x.m.ins.length x.c) rfl
    have y5:=tick_loop_cells HS.out hbr k x hx 5 (by omega) (.int .u32 x.m.sum) rfl
    have y6:=tick_loop_cells HS.out hbr k x hx 6 (by omega) (.int .i64 x.m.lead) rfl
    have hmm:(x.m).wf∧RightP x.m:=Hm.out x.m (by rw[←Hxs.out];exact List.mem_map.2 ⟨x,List.mem_of_getElem? hx,rfl⟩)
    have hIb:=bytes_below (HS.out.ins x (List.mem_of_getElem? hx)).1 hbr
    have hE0:packE x.m=0:=by unfold packE;rw[if_pos hmm.2]
    have hS0':packS x.m=packM x.m:=by unfold packS;rw[if_pos hmm.2]
    have hnv:strsM ((xs.take (k+1)).map MV.m)=strsM ((xs.take k).map MV.m)++[.string ⟨(packM x.m).toArray⟩]:=by
     rw[List.take_add_one,hx];simp[strsM]
    have Hnv:=hid hnv
    have Hbr:=hid hbr
    have hsz:=hbr.size
    clear hnv hbr
    go_wp2_with fail
    have hbb:Below w4.heap.size wr (wr.alloc (.cells (mvC x) 254)):=(Below.refl _ wr).alloc hsz _
    refine (wire_Pack x.m (bytes_below hIb ((Below.refl _ wr).alloc (Nat.le_refl _) _)) hmm.1).mono ?_
    rintro e w5 ⟨rfl,hb5⟩
    rw[hE0,hS0']
    have hk5:Keeps (fun _=>False) wr w5:=((Keeps.refl (fun _=>False) wr).alloc _).trans (Keeps.of_below hb5 (fun k h1 h2=>by omega))
    clear hE0 hS0' hbb hb5 hIb hmm y0 y1 y2 y3 y4 y5 y6
    have hs5:=hk5.size
    generalize packM x.m=px at *
    have hv1:=vals_one w5 (.string ⟨px.toArray⟩) 9
    have hown5:=own_keeps hown hk5 (fun _ _=>id)
    go_wp2_with (at_builtin;refine wpList_append_vals _ rfl (.tmp 51) (.tmp 53) _ rfl w4.heap.size 9 i0 _ 1 16 Tryz.underlying33 Hi.out hz0 hz1 hz2 rfl (by omega) _ k _ rfl (own_keeps hown5 ((Keeps.refl (fun _=>False) _).alloc _) (fun _ _=>id)) (some ⟨_,0,none⟩) 1 1 [.string ⟨px.toArray⟩] rfl hv1 (by simp[Value.oneCell']) (by simp only[maxLen];omega) (by omega) (by simp;omega) ?_)
    intro v1 w6 hown1 hg1 _
    have hk6:Keeps (fun k=>w4.heap.size≤k) w5 w6:=((Keeps.refl _ w5).alloc _).grown hg1 (fun k hk=>.inl (hown5.lt k hk).1)
    have hk56:Keeps (fun k=>w4.heap.size≤k) wr w6:=keeps_past (hk5.mono fun _ _ x=>x.elim) hk6 (fun k _ h=>h)
    have hb6:=Hbr.out.trans (hk56.below hsz (fun k h1 h2=>by omega))
    go_wp2_with fail
    go_roundw
    case rel=>exact ⟨k+1,by omega,by go_num,by rw[Hnv.out];simpa using hown1,hb6⟩
    case measure=>simp[intOf];omega
   ·obtain rfl:k=xs.length:=by omega
    obtain ⟨A',cp,rfl,hvM,hbM⟩:=vals_of_own hown
    rw[List.take_length,Hxs.out] at hvM
    rw[hxl] at hvM
    go_wp2_with fail
    go_ret
    refine ⟨⟨A',cp,by rw[←hxl];rfl,hvM,fun y e=>Nat.le_trans hs34 (hbM y e).1⟩,HL4.out.below hbr,?_⟩
    exact keeps_past HK4.out (Keeps.of_below (S:=fun _=>False) hbr (fun k h1 h2=>by omega)) (fun k _ h=>h.elim)
end
section
open Go.RowKit
set_option maxRecDepth 10000
variable {w:World} {B:LB} {l:Lk}
def ackL (l:Lk) (s:Int):Lk:=
 let p:=frm (min l.acked 1073741824) s
 if p.2≠0∨p.1<l.acked∨l.acked+l.own.length<p.1 then l else { l with acked:=p.1,own:=l.own.drop (p.1-l.acked).toNat }
theorem lk_ack (h:IsLink w B l) (s:Int) (ha:0≤l.acked∧l.acked≤1073741824) :
  Calls Tryz.prog 305 #[.pointer (some ⟨B.p,0,none⟩),.int .u16 s] w fun e w'=>e=.returned (.tuple #[])∧IsLink w' B (ackL l s)∧Keeps B.S w w':=by
 have c7:=h.c7
 have c6:=h.c6
 have hq:min l.acked 1073741824=l.acked:=by omega
 unfold ackL
 rw[hq]
 have hul:(u8I l.own).length=l.own.length:=by simp[u8I]
 have hol:=h.own.le.1
 rw[hul] at hol
 have hwr:IntKind.i64.wrap (l.acked+(l.own.length:Int))=l.acked+(l.own.length:Int):=by
  simp only[IntKind.wrap,IntKind.bits,IntKind.signed]
  simp
  omega
 have hLen:=fun n=>is_Len (h.drew n).own
 rw[hul] at hLen
 have hF:=fun W=>serial_Frame l.acked s W
 generalize hp:frm l.acked s=p at *
 obtain ⟨f,er⟩:=p
 simp only at *
 have HL:=hid hLen
 have HF:=hid hF
 have H:=hid h
 clear h hLen hF hp
 by_cases h1:er≠0
 ·rw[if_pos (.inl h1)]
  have q1:(er != 0)=true:=by simpa using h1
  go_enter Tryz.func305,Tryz.ntmps305
  go_wp2_with fail
  refine (HF.out _).mono ?_
  rintro e _ ⟨rfl,rfl⟩
  go_wp2_with fail
  go_quiet ((go_at_call 55;exact (HL.out _).mono fun _ _ h=>⟨h.1,_,h.2.symm⟩))
  go_wp2_with fail
  all_goals try (exfalso;omega)
  refine bodyPost_ret (v:=.tuple #[]) (by first|rfl|simp[results,go_sem]) rfl ?_
  exact ⟨rfl,H.out.drew _,(Keeps.refl _ _).drewN _⟩
 have h1:er=0:=by omega
 subst h1
 by_cases h2:f<l.acked
 ·rw[if_pos (.inr (.inl h2))]
  go_enter Tryz.func305,Tryz.ntmps305
  go_wp2_with fail
  refine (HF.out _).mono ?_
  rintro e _ ⟨rfl,rfl⟩
  go_wp2_with fail
  go_quiet ((go_at_call 55;exact (HL.out _).mono fun _ _ h=>⟨h.1,_,h.2.symm⟩))
  go_wp2_with fail
  all_goals try (exfalso;omega)
  refine bodyPost_ret (v:=.tuple #[]) (by first|rfl|simp[results,go_sem]) rfl ?_
  exact ⟨rfl,H.out.drew _,(Keeps.refl _ _).drewN _⟩
 by_cases h3:l.acked+l.own.length<f
 ·rw[if_pos (.inr (.inr h3))]
  go_enter Tryz.func305,Tryz.ntmps305
  go_wp2_with fail
  refine (HF.out _).mono ?_
  rintro e _ ⟨rfl,rfl⟩
  go_wp2_with fail
  go_quiet ((go_at_call 55;exact (HL.out _).mono fun _ _ h=>⟨h.1,_,h.2.symm⟩))
  go_wp2_with fail
  all_goals try (exfalso;omega)
  refine bodyPost_ret (v:=.tuple #[]) (by first|rfl|simp[results,go_sem]) rfl ?_
  exact ⟨rfl,H.out.drew _,(Keeps.refl _ _).drewN _⟩
 rw[if_neg (by omega)]
 obtain ⟨d,hd⟩:∃ d:Nat,f=l.acked+d:=⟨(f-l.acked).toNat,by omega⟩
 subst hd
 rw[show (l.acked+(d:Int)-l.acked).toNat=d by omega]
 have hdl:d≤l.own.length:=by omega
 go_enter Tryz.func305,Tryz.ntmps305
 go_wp2_with fail
 refine (HF.out _).mono ?_
 rintro e _ ⟨rfl,rfl⟩
 go_wp2_with fail
 go_quiet ((go_at_call 55;exact (HL.out _).mono fun _ _ h=>⟨h.1,_,h.2.symm⟩))
 go_wp2_with fail
 all_goals try (exfalso;omega)
 have hI:=H.out.drew nq
 have hK:=(Keeps.refl B.S w).drewN nq
 generalize w.drewN nq=w1 at *
 clear c6 c7 HL HF
 have e1:decide (l.own.length<d)=false:=by simp;omega
 have e2:decide (l.acked+(d:Int)<l.acked)=false:=by simp;omega
 simp only[e1,e2,Bool.or_false]
 clear e1 e2
 go_loopg [] d (fun g wr=>∃ k:Nat,g=d-k∧k≤d∧IsLink wr B { l with acked:=l.acked+k,own:=l.own.drop k }∧Keeps B.S w wr)
 case atStart=>exact ⟨0,rfl,Nat.zero_le _,by simpa using hI,hK⟩
 case round=>
  obtain ⟨k,rfl,hk,hIr,hKr⟩:=hrel
  have c7:=hIr.c7
  have c6:=hIr.c6
  have f7:=hIr.free 7
  by_cases hlt:k<d
  ·have hdr:l.own.drop k=l.own[k] :: l.own.drop (k+1):=List.drop_eq_getElem_cons (by omega)
   have hO:=hIr.own
   rw[show u8I (l.own.drop k)=((l.own[k]).toNat:Int) :: u8I (l.own.drop (k+1)) by rw[hdr];rfl] at hO
   have HI:=hid hIr
   have HK:=hid hKr
   clear hIr hKr hdr
   go_wp2_with fail
   refine (is_Pop hO).mono ?_
   rintro e w2 ⟨rfl,hR,hk2⟩
   have hI2:=HI.out.ownd (L:=l.own.drop (k+1)) (l':={ l with acked:=l.acked+k,own:=l.own.drop (k+1) }) hR hk2 rfl rfl rfl
   have hI3:=hI2.set 7 (.int .i64 (l.acked+k+1)) { l with acked:=l.acked+(k+1:Nat),own:=l.own.drop (k+1) } (by simp[lkC];omega) rfl rfl
   have hK2:=HK.out.trans (hk2.mono fun b _ h=>h.elim (fun e=>.inr (.inl e)) (fun e=>.inr (.inr (.inl e))))
   have hK3:=Keeps.setCell (S:=B.S) hK2 (p:=⟨B.p,7,none⟩) (.inl rfl) (.int .i64 (l.acked+k+1))
   have c7:=hI2.c7
   have f7:=hI2.free 7
   have HI3:=hid hI3
   have HK3:=hid hK3
   clear hI2 hI3 hK2 hK3 hR hk2 hO
   go_wp2_with fail
   go_roundg (d-(k+1))
   case rel=>exact ⟨k+1,by omega,by omega,HI3.out,HK3.out⟩
   case measure=>omega
  ·obtain rfl:k=d:=by omega
   have HI:=hid hIr
   have HK:=hid hKr
   clear hIr hKr
   go_wp2_with fail
   refine bodyPost_end (v:=.tuple #[]) (by first|rfl|simp[results,go_sem]) rfl ?_
   exact ⟨rfl,HI.out,HK.out⟩
end
section
open Go.RowKit
set_option maxRecDepth 10000
variable {w:World} {B:LB} {l:Lk}
structure Hrd where
 kind:Int
 frm:Int
 ins:List UInt8
 frame:Int
 sum:Int
 lead:Int
def Hrd.zero:Hrd:=⟨0,0,[],0,0,0⟩
def hC (h:Hrd) (a:Option Addr) (c:Nat):Array Value:=#[.int .i64 h.kind,.int .i64 h.frm,.slice a h.ins.length c,.int .i64 h.frame,.int .u32 h.sum,.int .i64 h.lead]
def HrdN (lo:Nat) (w:World) (B:LB) (h:Hrd) (ok:Value) (l':Lk) (e:Ending) (w':World):Prop:=
 (∃ a c,e=.returned (.tuple #[.agg (hC h a c),ok])∧IsBytes w' a c h.ins∧∀ x,a=some x→lo≤x.block)∧IsLink w' B l'∧Keeps B.S w w'
def inpF (l:Lk) (m:Msg):Hrd×Bool×Lk:=
 let p:=frm (min l.next 1073741824) m.serial
 if p.2≠0∨l.next<p.1∨p.1+m.ins.length≤l.next then (Hrd.zero,false,l) else (⟨m.kind,l.next,m.ins.drop (l.next-p.1).toNat,0,0,0⟩,true,{ l with next:=p.1+m.ins.length })
theorem hset {W:World} {b:Nat} {vs:Array Value} (h:W.heap[b]?=some (.cells vs 199 (0,0))) (hs:vs.size=6) (v0 v1 v2 v3 v4 v5:Value) :
  ((((((W.setCell ⟨b,0,none⟩ v0).setCell ⟨b,1,none⟩ v1).setCell ⟨b,2,none⟩ v2).setCell ⟨b,3,none⟩ v3).setCell ⟨b,4,none⟩ v4).setCell ⟨b,5,none⟩ v5).heap[b]?=some (.cells #[v0,v1,v2,v3,v4,v5] 199 (0,0)):=by
 rw[blk_set (blk_set (blk_set (blk_set (blk_set (blk_set h 0 v0) 1 v1) 2 v2) 3 v3) 4 v4) 5 v5]
 obtain ⟨vs⟩:=vs
 match vs,hs with
 | [a,b,c,d,e,f],_=>rfl
theorem hset_keeps {S:Nat→Prop} {w W:World} {b:Nat} (h:Keeps S w W) (hb:w.heap.size≤b) (v0 v1 v2 v3 v4 v5:Value) :
  Keeps S w ((((((W.setCell ⟨b,0,none⟩ v0).setCell ⟨b,1,none⟩ v1).setCell ⟨b,2,none⟩ v2).setCell ⟨b,3,none⟩ v3).setCell ⟨b,4,none⟩ v4).setCell ⟨b,5,none⟩ v5):=
 (((((h.setNew (p:=⟨b,0,none⟩) hb v0).setNew (p:=⟨b,1,none⟩) hb v1).setNew (p:=⟨b,2,none⟩) hb v2).setNew (p:=⟨b,3,none⟩) hb v3).setNew (p:=⟨b,4,none⟩) hb v4).setNew (p:=⟨b,5,none⟩) hb v5
theorem hset_in {S:Nat→Prop} {w W:World} {b:Nat} (h:Keeps S w W) (hb:S b) (v0 v1 v2 v3 v4 v5:Value) :
  Keeps S w ((((((W.setCell ⟨b,0,none⟩ v0).setCell ⟨b,1,none⟩ v1).setCell ⟨b,2,none⟩ v2).setCell ⟨b,3,none⟩ v3).setCell ⟨b,4,none⟩ v4).setCell ⟨b,5,none⟩ v5):=
 (((((h.setCell (p:=⟨b,0,none⟩) hb v0).setCell (p:=⟨b,1,none⟩) hb v1).setCell (p:=⟨b,2,none⟩) hb v2).setCell (p:=⟨b,3,none⟩) hb v3).setCell (p:=⟨b,4,none⟩) hb v4).setCell (p:=⟨b,5,none⟩) hb v5
theorem frm_in (a b:Int):0≤(frm a b).1∧(frm a b).1≤1073741824:=by
 unfold frm
 simp only[]
 (repeat' split)<;>simp only[]<;>omega
set_option maxHeartbeats 1000000 in
theorem inp_no (h:IsLink w B l) (m:Msg) {a:Option Addr} {c:Nat} {lo:Nat} (hn:0≤l.next∧l.next≤1073741824) (hm:m.ins.length≤1000000) (f er:Int) (hF:∀ W,Calls Tryz.prog 307 #[.int .i64 l.next,.int .u16 m.serial] W fun e w'=>e=.returned (.tuple #[.int .i64 f,.int .i64 er])∧W=w') (hfi:0≤f∧f≤1073741824)
  (hno:er≠0∨l.next<f∨f+m.ins.length≤l.next):Calls Tryz.prog 306 #[.pointer (some ⟨B.p,0,none⟩),(.agg #[.int .i64 m.kind,.int .u32 m.nonce,.int .u16 m.serial,.int .u16 m.ack,.slice a m.ins.length c,.int .u32 m.sum,.int .i64 m.lead])] w (HrdN lo w B Hrd.zero (.bool false) l):=by
 have c8:=h.c8
 have f8:=h.free 8
 have hq:min l.next 1073741824=l.next:=by omega
 have hlt:=h.lt.1
 have HF:=hid hF
 have H:=hid h
 clear h hF
 by_cases h1:er≠0
 ·clear hno
  have q1:(er != 0)=true:=by simpa using h1
  go_enter Tryz.func306,Tryz.ntmps306
  go_wp2_with fail
  go_quiet ((go_at_call 307;exact (HF.out _).mono fun _ _ h=>⟨h.1,_,h.2.symm⟩))
  go_wp2_with fail
  go_quiet (fail)
  go_wp2_with fail
  all_goals try (exfalso;omega)
  rename_i nqA _ _
  have hk0:=(((Keeps.refl (fun _=>False) w).alloc (.cells #[.int .i64 m.kind,.int .u32 m.nonce,.int .u16 m.serial,.int .u16 m.ack,.slice a m.ins.length c,.int .u32 m.sum,.int .i64 m.lead] 254)).alloc (.cells (hC Hrd.zero none 0) 199)).drewN (nqA+nq)
  have hR0:(((w.alloc (.cells #[.int .i64 m.kind,.int .u32 m.nonce,.int .u16 m.serial,.int .u16 m.ack,.slice a m.ins.length c,.int .u32 m.sum,.int .i64 m.lead] 254)).alloc (.cells (hC Hrd.zero none 0) 199)).drewN (nqA+nq)).heap[w.heap.size+1]?=some (.cells (hC Hrd.zero none 0) 199 (0,0)):=by
   have:=blk_new (w.alloc (.cells #[.int .i64 m.kind,.int .u32 m.nonce,.int .u16 m.serial,.int .u16 m.ack,.slice a m.ins.length c,.int .u32 m.sum,.int .i64 m.lead] 254)) (.cells (hC Hrd.zero none 0) 199)
   simpa using this
  have hload:=box_load _ _ _ _ (hset hR0 rfl (.int .i64 0) (.int .i64 0) (.slice none 0 0) (.int .i64 0) (.int .u32 0) (.int .i64 0)) 6 rfl
  simp only[hC,Hrd.zero,List.length_nil] at hload
  refine bodyPost_ret (v:=.tuple #[.agg (hC Hrd.zero none 0),.bool false]) (by simp[hC,Hrd.zero,results,Tryz.results306,asAddr,loadVar,loadCells,Tryz.isAgg199,Tryz.sizeOf199,hload]) rfl ?_
  exact ⟨⟨none,0,rfl,bytes_nil _,fun _ e=>nomatch e⟩,H.out.keeps (hset_keeps hk0 (Nat.le_succ _) _ _ _ _ _ _) (fun _ _ h=>h),(hset_keeps hk0 (Nat.le_succ _) _ _ _ _ _ _).mono fun _ _ h=>h.elim⟩
 have h1:er=0:=by omega
 subst h1
 by_cases h2:l.next<f
 ·clear hno
  go_enter Tryz.func306,Tryz.ntmps306
  go_wp2_with fail
  go_quiet ((go_at_call 307;exact (HF.out _).mono fun _ _ h=>⟨h.1,_,h.2.symm⟩))
  go_wp2_with fail
  go_quiet (fail)
  go_wp2_with fail
  all_goals try (exfalso;omega)
  rename_i nqA _ _
  have hk0:=(((Keeps.refl (fun _=>False) w).alloc (.cells #[.int .i64 m.kind,.int .u32 m.nonce,.int .u16 m.serial,.int .u16 m.ack,.slice a m.ins.length c,.int .u32 m.sum,.int .i64 m.lead] 254)).alloc (.cells (hC Hrd.zero none 0) 199)).drewN (nqA+nq)
  have hR0:(((w.alloc (.cells #[.int .i64 m.kind,.int .u32 m.nonce,.int .u16 m.serial,.int .u16 m.ack,.slice a m.ins.length c,.int .u32 m.sum,.int .i64 m.lead] 254)).alloc (.cells (hC Hrd.zero none 0) 199)).drewN (nqA+nq)).heap[w.heap.size+1]?=some (.cells (hC Hrd.zero none 0) 199 (0,0)):=by
   have:=blk_new (w.alloc (.cells #[.int .i64 m.kind,.int .u32 m.nonce,.int .u16 m.serial,.int .u16 m.ack,.slice a m.ins.length c,.int .u32 m.sum,.int .i64 m.lead] 254)) (.cells (hC Hrd.zero none 0) 199)
   simpa using this
  have hload:=box_load _ _ _ _ (hset hR0 rfl (.int .i64 0) (.int .i64 0) (.slice none 0 0) (.int .i64 0) (.int .u32 0) (.int .i64 0)) 6 rfl
  simp only[hC,Hrd.zero,List.length_nil] at hload
  refine bodyPost_ret (v:=.tuple #[.agg (hC Hrd.zero none 0),.bool false]) (by simp[hC,Hrd.zero,results,Tryz.results306,asAddr,loadVar,loadCells,Tryz.isAgg199,Tryz.sizeOf199,hload]) rfl ?_
  exact ⟨⟨none,0,rfl,bytes_nil _,fun _ e=>nomatch e⟩,H.out.keeps (hset_keeps hk0 (Nat.le_succ _) _ _ _ _ _ _) (fun _ _ h=>h),(hset_keeps hk0 (Nat.le_succ _) _ _ _ _ _ _).mono fun _ _ h=>h.elim⟩
 have hwr:IntKind.i64.wrap (f+(m.ins.length:Int))=f+(m.ins.length:Int):=by
  simp only[IntKind.wrap,IntKind.bits,IntKind.signed]
  simp
  omega
 have h3:f+m.ins.length≤l.next:=by omega
 clear hno
 go_enter Tryz.func306,Tryz.ntmps306
 go_wp2_with fail
 go_quiet ((go_at_call 307;exact (HF.out _).mono fun _ _ h=>⟨h.1,_,h.2.symm⟩))
 go_wp2_with fail
 go_quiet (fail)
 go_wp2_with fail
 all_goals try (exfalso;omega)
 rename_i nqA _ _
 have hk0:=(((Keeps.refl (fun _=>False) w).alloc (.cells #[.int .i64 m.kind,.int .u32 m.nonce,.int .u16 m.serial,.int .u16 m.ack,.slice a m.ins.length c,.int .u32 m.sum,.int .i64 m.lead] 254)).alloc (.cells (hC Hrd.zero none 0) 199)).drewN (nqA+nq)
 have hR0:(((w.alloc (.cells #[.int .i64 m.kind,.int .u32 m.nonce,.int .u16 m.serial,.int .u16 m.ack,.slice a m.ins.length c,.int .u32 m.sum,.int .i64 m.lead] 254)).alloc (.cells (hC Hrd.zero none 0) 199)).drewN (nqA+nq)).heap[w.heap.size+1]?=some (.cells (hC Hrd.zero none 0) 199 (0,0)):=by
  have:=blk_new (w.alloc (.cells #[.int .i64 m.kind,.int .u32 m.nonce,.int .u16 m.serial,.int .u16 m.ack,.slice a m.ins.length c,.int .u32 m.sum,.int .i64 m.lead] 254)) (.cells (hC Hrd.zero none 0) 199)
  simpa using this
 have hload:=box_load _ _ _ _ (hset hR0 rfl (.int .i64 0) (.int .i64 0) (.slice none 0 0) (.int .i64 0) (.int .u32 0) (.int .i64 0)) 6 rfl
 simp only[hC,Hrd.zero,List.length_nil] at hload
 refine bodyPost_ret (v:=.tuple #[.agg (hC Hrd.zero none 0),.bool false]) (by simp[hC,Hrd.zero,results,Tryz.results306,asAddr,loadVar,loadCells,Tryz.isAgg199,Tryz.sizeOf199,hload]) rfl ?_
 exact ⟨⟨none,0,rfl,bytes_nil _,fun _ e=>nomatch e⟩,H.out.keeps (hset_keeps hk0 (Nat.le_succ _) _ _ _ _ _ _) (fun _ _ h=>h),(hset_keeps hk0 (Nat.le_succ _) _ _ _ _ _ _).mono fun _ _ h=>h.elim⟩
theorem drew_heap (X:World):X.drew.heap=X.heap:=rfl
theorem bytes_off {a:Option Addr} {c:Nat} {L:List UInt8} (h:IsBytes w a c L) (hB:w.heap[B.p]?=some (.cells (lkC B l) 124 (0,0))) (hne:L≠[]) (x:Addr) (hx:a=some x):x.block≠B.p:=by
 obtain ⟨b,o,rfl,hc⟩:=h.at' hne
 cases hx
 intro e
 simp only at e
 subst e
 have h0:=hc 0 (List.length_pos_iff.2 hne)
 unfold World.cell? at h0
 rw[hB] at h0
 have h1:(lkC B l)[o]?=some (byteV (L[0]'(List.length_pos_iff.2 hne))):=by simpa using h0
 unfold lkC byteV at h1
 match o,h1 with
 | 0,h1=>simp at h1
 | 1,h1=>simp at h1
 | 2,h1=>simp at h1
 | 3,h1=>simp at h1
 | 4,h1=>simp at h1
 | 5,h1=>simp at h1
 | 6,h1=>simp at h1
 | 7,h1=>simp at h1
 | 8,h1=>simp at h1
 | 9,h1=>simp at h1
 | 10,h1=>simp at h1
 | 11,h1=>simp at h1
 | 12,h1=>simp at h1
 | o+13,h1=>simp at h1
set_option maxHeartbeats 8000000 in
theorem inp_ok (h:IsLink w B l) (m:Msg) {a:Option Addr} {c:Nat} {lo:Nat} (hlo:∀ x,a=some x→lo≤x.block) (hb:IsBytes w a c m.ins) (hn:0≤l.next∧l.next≤1073741824) (hm:m.ins.length≤1000000) (f:Int) (hF:∀ W,Calls Tryz.prog 307 #[.int .i64 l.next,.int .u16 m.serial] W fun e w'=>e=.returned (.tuple #[.int .i64 f,.int .i64 0])∧W=w') (hfi:0≤f∧f≤1073741824)
  (h2:¬ l.next<f) (h3:¬ f+m.ins.length≤l.next):Calls Tryz.prog 306 #[.pointer (some ⟨B.p,0,none⟩),(.agg #[.int .i64 m.kind,.int .u32 m.nonce,.int .u16 m.serial,.int .u16 m.ack,.slice a m.ins.length c,.int .u32 m.sum,.int .i64 m.lead])] w (HrdN lo w B ⟨m.kind,l.next,m.ins.drop (l.next-f).toNat,0,0,0⟩ (.bool true) { l with next:=f+m.ins.length }):=by
 have c8:=h.c8
 have f8:=h.free 8
 have hq:min l.next 1073741824=l.next:=by omega
 have hlt:=h.lt.1
 have HF:=hid hF
 have H:=hid h
 clear h hF
 have hwr:IntKind.i64.wrap (f+(m.ins.length:Int))=f+(m.ins.length:Int):=by
  simp only[IntKind.wrap,IntKind.bits,IntKind.signed]
  simp
  omega
 obtain ⟨d,hd⟩:∃ d:Nat,l.next-f=d:=⟨(l.next-f).toNat,by omega⟩
 have hdl:d<m.ins.length:=by omega
 obtain ⟨a',hsl,hb',hblk⟩:=hb.drop d (by omega)
 have Hlo:=hid (show ∀ x,a'=some x→lo≤x.block from fun x hx=>by obtain ⟨y,hy,hyb⟩:=hblk x hx;have:=hlo y hy;omega)
 clear hlo
 have hz:(l.next-f).toNat=d:=by omega
 rw[hz]
 go_enter Tryz.func306,Tryz.ntmps306
 go_wp2_with fail
 go_quiet ((go_at_call 307;exact (HF.out _).mono fun _ _ h=>⟨h.1,_,h.2.symm⟩))
 go_wp2_with fail
 go_quiet (fail)
 go_wp2_with fail
 all_goals try (exfalso;omega)
 have hwd:IntKind.i64.wrap (l.next-f)=(d:Int):=by
  simp only[IntKind.wrap,IntKind.bits,IntKind.signed]
  simp
  omega
 generalize hW:World.drewN (World.drewN (World.alloc (World.alloc w _) _) _) _=W
 have hk0:Keeps (fun _=>False) w W:=by
  rw[←hW]
  exact ((((Keeps.refl (fun _=>False) w).alloc _).alloc _).drewN _).drewN _
 have hR0:W.heap[w.heap.size+1]?=some (.cells (hC Hrd.zero none 0) 199 (0,0)):=by
  rw[←hW]
  have:=blk_new (w.alloc (.cells #[.int .i64 m.kind,.int .u32 m.nonce,.int .u16 m.serial,.int .u16 m.ack,.slice a m.ins.length c,.int .u32 m.sum,.int .i64 m.lead] 254)) (.cells (hC Hrd.zero none 0) 199)
  rw[show (w.alloc (.cells #[.int .i64 m.kind,.int .u32 m.nonce,.int .u16 m.serial,.int .u16 m.ack,.slice a m.ins.length c,.int .u32 m.sum,.int .i64 m.lead] 254)).heap.size=w.heap.size+1 by simp] at this
  exact this
 have hX0:W.heap[w.heap.size]?=some (.cells #[.int .i64 m.kind,.int .u32 m.nonce,.int .u16 m.serial,.int .u16 m.ack,.slice a m.ins.length c,.int .u32 m.sum,.int .i64 m.lead] 254 (0,0)):=by
  rw[←hW]
  exact blk_alloc (blk_new w (.cells #[.int .i64 m.kind,.int .u32 m.nonce,.int .u16 m.serial,.int .u16 m.ack,.slice a m.ins.length c,.int .u32 m.sum,.int .i64 m.lead] 254)) (.cells (hC Hrd.zero none 0) 199)
 have hsz:W.heap.size=w.heap.size+2:=by rw[←hW];simp
 clear hW c8 f8
 have HW:=H.out.keeps hk0 (fun _ _ h=>h)
 have hlt':B.p<W.heap.size:=by omega
 have hlt0:w.heap.size<W.heap.size:=by omega
 have hlt1:w.heap.size+1<W.heap.size:=by omega
 have c8:=HW.c8
 have f8:=HW.free 8
 obtain ⟨x0,x4⟩:=bc2 0 4 hX0 ⟨rfl,rfl⟩
 have rf:=fun k=>blk_free hR0 k
 have rf0:=rf 0
 have rf1:=rf 1
 have rf2:=rf 2
 have rf3:=rf 3
 have rf4:=rf 4
 have rf5:=rf 5
 have r0:W.cell? ⟨w.heap.size+1,0,none⟩=some (.int .i64 0):=blk_cell hR0 rfl
 have r1:W.cell? ⟨w.heap.size+1,1,none⟩=some (.int .i64 0):=blk_cell hR0 rfl
 have r2:W.cell? ⟨w.heap.size+1,2,none⟩=some (.slice none 0 0):=blk_cell hR0 rfl
 have r3:W.cell? ⟨w.heap.size+1,3,none⟩=some (.int .i64 0):=blk_cell hR0 rfl
 have r4:W.cell? ⟨w.heap.size+1,4,none⟩=some (.int .u32 0):=blk_cell hR0 rfl
 have r5:W.cell? ⟨w.heap.size+1,5,none⟩=some (.int .i64 0):=blk_cell hR0 rfl
 clear rf
 have hb2:=hb'.keeps hk0 (fun _ _ _=>id)
 have HWd:=hid HW
 have Hk0:=hid hk0
 have HR0:=hid hR0
 have HX0:=hid hX0
 have Hsz:=hid hsz
 have Hb2:=hid hb2
 clear HW hk0 hR0 hX0 hsz hb2
 simp only[List.getElem_toArray,List.getElem_cons_zero,List.getElem_cons_succ] at x0 x4
 go_region
 go_wp2_with fail
 generalize hFW:World.drew _=FW
 have hR1:=blk_other (p:=⟨B.p,8,none⟩) HR0.out (by show w.heap.size+1≠B.p;omega) (.int .i64 (f+(m.ins.length:Int)))
 have hR2:FW.heap[w.heap.size+1]?=some (.cells #[.int .i64 m.kind,.int .i64 l.next,.slice a' (m.ins.length-d) (c-d),.int .i64 0,.int .u32 0,.int .i64 0] 199 (0,0)):=by
  rw[←hFW,drew_heap]
  exact blk_alloc (hset hR1 rfl (.int .i64 m.kind) (.int .i64 l.next) (.slice a' (m.ins.length-d) (c-d)) (.int .i64 0) (.int .u32 0) (.int .i64 0)) _
 have hload:=box_load _ _ _ _ hR2 6 rfl
 have hS:=HWd.out.set 8 (.int .i64 (f+(m.ins.length:Int))) { l with next:=f+m.ins.length } rfl rfl rfl
 have hkS:Keeps B.S w _:=Keeps.setCell (S:=B.S) (Hk0.out.mono fun _ _ h=>h.elim) (p:=⟨B.p,8,none⟩) (.inl rfl) (.int .i64 (f+(m.ins.length:Int)))
 have hkT:Keeps B.S w FW:=by
  rw[←hFW]
  have e1:=hset_keeps (b:=w.heap.size+1) hkS (Nat.le_add_right _ 1) (.int .i64 m.kind) (.int .i64 l.next) (.slice a' (m.ins.length-d) (c-d)) (.int .i64 0) (.int .u32 0) (.int .i64 0)
  have e2:=e1.alloc (.cells #[.int .i64 m.kind,.int .i64 l.next,.slice a' (m.ins.length-d) (c-d),.int .i64 0,.int .u32 0,.int .i64 0] 199)
  have e3:=e2.drew
  exact e3
 have hkU:Keeps (fun b=>b=w.heap.size+1) (W.setCell ⟨B.p,8,none⟩ (.int .i64 (f+(m.ins.length:Int)))) FW:=by
  rw[←hFW]
  have e1:=hset_in (S:=fun b=>b=w.heap.size+1) (b:=w.heap.size+1) (Keeps.refl _ (W.setCell ⟨B.p,8,none⟩ (.int .i64 (f+(m.ins.length:Int))))) rfl (.int .i64 m.kind) (.int .i64 l.next) (.slice a' (m.ins.length-d) (c-d)) (.int .i64 0) (.int .u32 0) (.int .i64 0)
  have e2:=e1.alloc (.cells #[.int .i64 m.kind,.int .i64 l.next,.slice a' (m.ins.length-d) (c-d),.int .i64 0,.int .u32 0,.int .i64 0] 199)
  have e3:=e2.drew
  exact e3
 have hkV:=(Keeps.setCell (S:=fun b=>b=B.p∨b=w.heap.size+1) (Keeps.refl _ W) (p:=⟨B.p,8,none⟩) (.inl rfl) (.int .i64 (f+(m.ins.length:Int)))).trans (hkU.mono fun _ _ h=>.inr h)
 clear hFW hkS hR1
 refine bodyPost_ret (v:=.tuple #[.agg (hC ⟨m.kind,l.next,m.ins.drop d,0,0,0⟩ a' (c-d)),.bool true]) (by simp[hC,results,Tryz.results306,asAddr,loadVar,loadCells,Tryz.isAgg199,Tryz.sizeOf199,hload]) rfl ?_
 refine ⟨⟨a',c-d,rfl,Hb2.out.keeps hkV ?_,Hlo.out⟩,hS.keeps (S:=fun b=>b=w.heap.size+1) hkU ?_,hkT⟩
 ·intro _ x hx hxb
  obtain ⟨y,hy,hyb⟩:=hblk x hx
  have h9:y.block<w.heap.size:=hb.lt (by intro e;rw[e] at hdl;simp at hdl) y hy
  rcases hxb with e|e
  ·exact bytes_off hb H.out.blk (by intro e;rw[e] at hdl;simp at hdl) y hy (by omega)
  ·omega
 ·intro b hb2 e
  have h9:=H.out.lt
  rcases hb2 with e'|e'|e'|e'|e'<;>omega
theorem lk_inputs (h:IsLink w B l) (m:Msg) {a:Option Addr} {c:Nat} {lo:Nat} (hlo:∀ x,a=some x→lo≤x.block) (hb:IsBytes w a c m.ins) (hn:0≤l.next∧l.next≤1073741824) (hm:m.ins.length≤1000000) :
  Calls Tryz.prog 306 #[.pointer (some ⟨B.p,0,none⟩),(.agg #[.int .i64 m.kind,.int .u32 m.nonce,.int .u16 m.serial,.int .u16 m.ack,.slice a m.ins.length c,.int .u32 m.sum,.int .i64 m.lead])] w (HrdN lo w B (inpF l m).1 (.bool (inpF l m).2.1) (inpF l m).2.2):=by
 have hq:min l.next 1073741824=l.next:=by omega
 unfold inpF
 rw[hq]
 have hF:=fun W=>serial_Frame l.next m.serial W
 have hfi:=frm_in l.next m.serial
 generalize frm l.next m.serial=p at *
 obtain ⟨f,er⟩:=p
 simp only at *
 by_cases hno:er≠0∨l.next<f∨f+m.ins.length≤l.next
 ·rw[if_pos hno]
  exact inp_no h m hn hm f er hF hfi hno
 ·rw[if_neg hno]
  obtain rfl:er=0:=by omega
  exact inp_ok h m hlo hb hn hm f hF hfi (by omega) (by omega)
end
section
open Go.RowKit
set_option maxRecDepth 10000
variable {w:World} {B:LB} {l:Lk}
structure BoxSt (w V:World) (B:LB) (l:Lk) (m:Msg) (a:Option Addr) (c:Nat):Prop where
 box:V.heap[w.heap.size]?=some (.cells #[.int .i64 m.kind,.int .u32 m.nonce,.int .u16 m.serial,.int .u16 m.ack,.slice a m.ins.length c,.int .u32 m.sum,.int .i64 m.lead] 254 (0,0))
 res:V.heap[w.heap.size+1]?=some (.cells (hC Hrd.zero none 0) 199 (0,0))
 lk:IsLink V B l
 kp:Keeps B.S w V
 ins:IsBytes V a c m.ins
theorem BoxSt.start (h:IsLink w B l) (m:Msg) {a:Option Addr} {c:Nat} (hb:IsBytes w a c m.ins):BoxSt w ((w.alloc (.cells #[.int .i64 m.kind,.int .u32 m.nonce,.int .u16 m.serial,.int .u16 m.ack,.slice a m.ins.length c,.int .u32 m.sum,.int .i64 m.lead] 254)).alloc (.cells (hC Hrd.zero none 0) 199)) B l m a c:=by
 have hk:=((Keeps.refl (fun _=>False) w).alloc (.cells #[.int .i64 m.kind,.int .u32 m.nonce,.int .u16 m.serial,.int .u16 m.ack,.slice a m.ins.length c,.int .u32 m.sum,.int .i64 m.lead] 254)).alloc (.cells (hC Hrd.zero none 0) 199)
 refine ⟨blk_alloc (blk_new w _) _,?_,h.keeps hk (fun _ _=>id),hk.mono fun _ _ h=>h.elim,hb.keeps hk fun _ _ _=>id⟩
 have:=blk_new (w.alloc (.cells #[.int .i64 m.kind,.int .u32 m.nonce,.int .u16 m.serial,.int .u16 m.ack,.slice a m.ins.length c,.int .u32 m.sum,.int .i64 m.lead] 254)) (.cells (hC Hrd.zero none 0) 199)
 rw[show (w.alloc (.cells #[.int .i64 m.kind,.int .u32 m.nonce,.int .u16 m.serial,.int .u16 m.ack,.slice a m.ins.length c,.int .u32 m.sum,.int .i64 m.lead] 254)).heap.size=w.heap.size+1 by simp] at this
 exact this
theorem BoxSt.next {V V':World} {m:Msg} {a:Option Addr} {c:Nat} {l' l0:Lk} (h:BoxSt w V B l m a c) (h0:IsLink w B l0) (hn:∀ x,a=some x→¬ B.S x.block) (hl:IsLink V' B l') (hk:Keeps B.S V V'):BoxSt w V' B l' m a c:=by
 have h9:=h0.lt
 have hs:∀ b,B.S b→b<w.heap.size:=fun b hb=>by rcases hb with e|e|e|e|e<;>omega
 exact ⟨hk.heap h.box (fun x=>by have:=hs _ x;omega),hk.heap h.res (fun x=>by have:=hs _ x;omega),hl,h.kp.trans hk,h.ins.keeps hk fun _=>hn⟩
theorem BoxSt.drew {V:World} {m:Msg} {a:Option Addr} {c:Nat} (h:BoxSt w V B l m a c) (n:Nat):BoxSt w (V.drewN n) B l m a c:=
 ⟨h.box,h.res,h.lk.drew n,h.kp.drewN n,h.ins.keeps ((Keeps.refl (fun _=>False) V).drewN n) fun _ _ _=>id⟩
theorem bytes_not {a:Option Addr} {c:Nat} {L:List UInt8} {b:Nat} {cs:Array Value} {t:TypeId} (h:IsBytes w a c L) (hB:w.heap[b]?=some (.cells cs t (0,0))) (hcs:∀ n,Value.int .u8 n ∉ cs.toList) (hne:L≠[]) (x:Addr) (hx:a=some x):x.block≠b:=by
 obtain ⟨b',o,rfl,hc⟩:=h.at' hne
 cases hx
 intro e
 simp only at e
 subst e
 have h0:=hc 0 (List.length_pos_iff.2 hne)
 unfold World.cell? at h0
 rw[hB] at h0
 have h1:cs[o]?=some (byteV (L[0]'(List.length_pos_iff.2 hne))):=by simpa using h0
 refine hcs _ (List.mem_of_getElem? (i:=o) (a:=byteV (L[0]'(List.length_pos_iff.2 hne))) ?_)
 simpa using h1
theorem BoxSt.fin {l0:Lk} {V:World} {m:Msg} {a:Option Addr} {c:Nat} (h:BoxSt w V B l m a c) (h0:IsLink w B l0) (v0 v1 v2 v3 v4 v5:Value) :
  let FW:=((((((V.setCell ⟨w.heap.size+1,0,none⟩ v0).setCell ⟨w.heap.size+1,1,none⟩ v1).setCell ⟨w.heap.size+1,2,none⟩ v2).setCell ⟨w.heap.size+1,3,none⟩ v3).setCell ⟨w.heap.size+1,4,none⟩ v4).setCell ⟨w.heap.size+1,5,none⟩ v5)
  FW.heap[w.heap.size+1]?=some (.cells #[v0,v1,v2,v3,v4,v5] 199 (0,0))∧IsLink FW B l∧Keeps B.S w FW∧(∀ {a':Option Addr} {c':Nat} {L:List UInt8},IsBytes V a' c' L→IsBytes FW a' c' L):=by
 have h9:=h0.lt
 have hk:=hset_in (S:=fun b=>b=w.heap.size+1) (b:=w.heap.size+1) (Keeps.refl _ V) rfl v0 v1 v2 v3 v4 v5
 refine ⟨hset h.res rfl v0 v1 v2 v3 v4 v5,h.lk.keeps hk (fun b hb=>?_),hset_keeps h.kp (Nat.le_succ _) v0 v1 v2 v3 v4 v5,fun hb=>hb.keeps hk fun hne x e=>bytes_not hb h.res (by simp[hC,Hrd.zero]) hne x e⟩
 rcases hb with e|e|e|e|e<;>omega
def openF (l:Lk) (m:Msg):Hrd×Bool×Lk:=
 if m.kind=3 then inpF (ackL l m.ack) m else
 if m.kind=4 then (⟨4,0,[],(frm (min l.next 1073741824) m.serial).1,m.sum,0⟩,(frm (min l.next 1073741824) m.serial).2 == 0,l) else
 if m.kind=5 then (⟨5,0,[],0,0,0⟩,true,ackL l m.ack) else
 if m.kind=6 then (⟨6,0,[],0,0,m.lead⟩,true,l) else (⟨m.kind,0,[],0,0,0⟩,true,l)
theorem ackL_next (l:Lk) (s:Int):(ackL l s).next=l.next:=by
 unfold ackL
 simp only[]
 split<;>rfl
theorem lk_open (h:IsLink w B l) (m:Msg) {a:Option Addr} {c:Nat} {lo:Nat} (hlo:∀ x,a=some x→lo≤x.block) (hb:IsBytes w a c m.ins) (hab:∀ x,a=some x→¬ B.S x.block) (hn:0≤l.next∧l.next≤1073741824) (ha:0≤l.acked∧l.acked≤1073741824) (hm:m.ins.length≤1000000) :
  Calls Tryz.prog 247 #[.pointer (some ⟨B.p,0,none⟩),(.agg #[.int .i64 m.kind,.int .u32 m.nonce,.int .u16 m.serial,.int .u16 m.ack,.slice a m.ins.length c,.int .u32 m.sum,.int .i64 m.lead])] w (HrdN lo w B (openF l m).1 (.bool (openF l m).2.1) (openF l m).2.2):=by
 have hS:=BoxSt.start h m hb
 simp only[hC,Hrd.zero,List.length_nil] at hS
 have h9:=h.lt
 have hnx:=ackL_next l m.ack
 obtain ⟨mk,mn,ms,ma,mi,mu,ml⟩:=m
 simp only at *
 have H:=hid h
 have Hlo:=hid hlo
 clear h hlo
 unfold openF
 by_cases k3:mk=3
 ·subst k3
  rw[if_pos rfl]
  simp only
  have HS:=hid hS
  clear hS
  go_enter Tryz.func247,Tryz.ntmps247
  go_wp2_with fail
  refine (lk_ack HS.out.lk _ ha).mono ?_
  rintro e V ⟨rfl,hL,hK⟩
  have hS:=HS.out.next H.out hab hL hK
  clear HS hL hK
  have y9:=(hS).lk.lt
  obtain ⟨x0,x1,x2,x3,x4,x5,x6⟩:=bc7 0 1 2 3 4 5 6 (hS).box ⟨rfl,rfl,rfl,rfl,rfl,rfl,rfl⟩
  obtain ⟨z0,z1,z2,z3,z4,z5⟩:=bf6 (hS).res 0 1 2 3 4 5
  obtain ⟨q0,q1,q2,q3,q4,q5⟩:=bc6 0 1 2 3 4 5 (hS).res ⟨rfl,rfl,rfl,rfl,rfl,rfl⟩
  have HS:=hid hS
  clear hS
  go_wp2_with fail
  refine (lk_inputs HS.out.lk ⟨3,mn,ms,ma,mi,mu,ml⟩ Hlo.out HS.out.ins (by rw[hnx];exact hn) hm).mono ?_
  rintro e V2 ⟨⟨a2,c2,rfl,hb2,hlo2⟩,hL,hK⟩
  have Hlo2:=hid hlo2
  clear hlo2
  have hS:=HS.out.next H.out hab hL hK
  clear HS hL hK x0 x1 x2 x3 x4 x5 x6 y9
  generalize inpF (ackL l ma) ⟨3,mn,ms,ma,mi,mu,ml⟩=R at *
  obtain ⟨R,ok,l2⟩:=R
  simp only at *
  have y9:=(hS).lk.lt
  obtain ⟨x0,x1,x2,x3,x4,x5,x6⟩:=bc7 0 1 2 3 4 5 6 (hS).box ⟨rfl,rfl,rfl,rfl,rfl,rfl,rfl⟩
  obtain ⟨z0,z1,z2,z3,z4,z5⟩:=bf6 (hS).res 0 1 2 3 4 5
  obtain ⟨q0,q1,q2,q3,q4,q5⟩:=bc6 0 1 2 3 4 5 (hS).res ⟨rfl,rfl,rfl,rfl,rfl,rfl⟩
  have HS:=hid hS
  have Hb2:=hid hb2
  clear hS hb2
  unfold hC
  go_wp2_with fail
  have hF:=BoxSt.fin (HS.out) H.out (.int .i64 (R).kind) (.int .i64 (R).frm) (.slice a2 (R).ins.length c2) (.int .i64 (R).frame) (.int .u32 (R).sum) (.int .i64 (R).lead)
  simp only at hF
  generalize World.setCell _ ⟨w.heap.size+1,5,none⟩ _=FW at *
  obtain ⟨hR2,hL2,hK2,hB2⟩:=hF
  have hload:=box_load _ _ _ _ hR2 6 rfl
  refine bodyPost_ret (v:=.tuple #[.agg (hC R a2 c2),.bool ok]) (by simp[hC,results,Tryz.results247,asAddr,loadVar,loadCells,Tryz.isAgg199,Tryz.sizeOf199,hload]) rfl ?_
  exact ⟨⟨a2,c2,rfl,hB2 Hb2.out,Hlo2.out⟩,hL2,hK2⟩
 rw[if_neg k3]
 by_cases k4:mk=4
 ·subst k4
  rw[if_pos rfl]
  have hF:=fun W=>serial_Frame l.next ms W
  have hq:min l.next 1073741824=l.next:=by omega
  rw[hq]
  generalize frm l.next ms=p at *
  obtain ⟨f,er⟩:=p
  have HF:=hid hF
  have c8:=hS.lk.c8
  go_enter Tryz.func247,Tryz.ntmps247
  go_upto_region 1 with fail
  generalize World.alloc (World.alloc w _) _=V0 at *
  have y9:=(hS).lk.lt
  obtain ⟨x0,x1,x2,x3,x4,x5,x6⟩:=bc7 0 1 2 3 4 5 6 (hS).box ⟨rfl,rfl,rfl,rfl,rfl,rfl,rfl⟩
  obtain ⟨z0,z1,z2,z3,z4,z5⟩:=bf6 (hS).res 0 1 2 3 4 5
  obtain ⟨q0,q1,q2,q3,q4,q5⟩:=bc6 0 1 2 3 4 5 (hS).res ⟨rfl,rfl,rfl,rfl,rfl,rfl⟩
  have HS:=hid hS
  clear hS hF
  have c8:=HS.out.lk.c8
  go_wp2_with fail
  go_quiet ((go_at_call 307;exact (HF.out _).mono fun _ _ h=>⟨h.1,_,h.2.symm⟩))
  go_wp2_with fail
  have HS:=hid (HS.out.drew nq)
  have hF:=BoxSt.fin (HS.out) H.out (.int .i64 ((⟨4,0,[],f,mu,0⟩:Hrd)).kind) (.int .i64 ((⟨4,0,[],f,mu,0⟩:Hrd)).frm) (.slice none ((⟨4,0,[],f,mu,0⟩:Hrd)).ins.length 0) (.int .i64 ((⟨4,0,[],f,mu,0⟩:Hrd)).frame) (.int .u32 ((⟨4,0,[],f,mu,0⟩:Hrd)).sum) (.int .i64 ((⟨4,0,[],f,mu,0⟩:Hrd)).lead)
  simp only at hF
  generalize World.setCell _ ⟨w.heap.size+1,5,none⟩ _=FW at *
  obtain ⟨hR2,hL2,hK2,hB2⟩:=hF
  have hload:=box_load _ _ _ _ hR2 6 rfl
  refine bodyPost_ret (v:=.tuple #[.agg (hC (⟨4,0,[],f,mu,0⟩:Hrd) none 0),.bool (er == 0)]) (by simp[hC,results,Tryz.results247,asAddr,loadVar,loadCells,Tryz.isAgg199,Tryz.sizeOf199,hload]) rfl ?_
  exact ⟨⟨none,0,rfl,hB2 (bytes_nil _),(fun _ e=>nomatch e)⟩,hL2,hK2⟩
 rw[if_neg k4]
 by_cases k5:mk=5
 ·subst k5
  rw[if_pos rfl]
  go_enter Tryz.func247,Tryz.ntmps247
  go_upto_region 1 with fail
  generalize World.alloc (World.alloc w _) _=V0 at *
  have y9:=(hS).lk.lt
  obtain ⟨x0,x1,x2,x3,x4,x5,x6⟩:=bc7 0 1 2 3 4 5 6 (hS).box ⟨rfl,rfl,rfl,rfl,rfl,rfl,rfl⟩
  obtain ⟨z0,z1,z2,z3,z4,z5⟩:=bf6 (hS).res 0 1 2 3 4 5
  obtain ⟨q0,q1,q2,q3,q4,q5⟩:=bc6 0 1 2 3 4 5 (hS).res ⟨rfl,rfl,rfl,rfl,rfl,rfl⟩
  have HS:=hid hS
  clear hS
  go_wp2_with fail
  refine (lk_ack HS.out.lk _ ha).mono ?_
  rintro e V ⟨rfl,hL,hK⟩
  have hS:=HS.out.next H.out hab hL hK
  clear HS hL hK x0 x1 x2 x3 x4 x5 x6 y9 q0 q1 q2 q3 q4 q5 z0 z1 z2 z3 z4 z5
  have y9:=(hS).lk.lt
  obtain ⟨x0,x1,x2,x3,x4,x5,x6⟩:=bc7 0 1 2 3 4 5 6 (hS).box ⟨rfl,rfl,rfl,rfl,rfl,rfl,rfl⟩
  obtain ⟨z0,z1,z2,z3,z4,z5⟩:=bf6 (hS).res 0 1 2 3 4 5
  obtain ⟨q0,q1,q2,q3,q4,q5⟩:=bc6 0 1 2 3 4 5 (hS).res ⟨rfl,rfl,rfl,rfl,rfl,rfl⟩
  have HS:=hid hS
  clear hS
  go_wp2_with fail
  have hF:=BoxSt.fin (HS.out) H.out (.int .i64 ((⟨5,0,[],0,0,0⟩:Hrd)).kind) (.int .i64 ((⟨5,0,[],0,0,0⟩:Hrd)).frm) (.slice none ((⟨5,0,[],0,0,0⟩:Hrd)).ins.length 0) (.int .i64 ((⟨5,0,[],0,0,0⟩:Hrd)).frame) (.int .u32 ((⟨5,0,[],0,0,0⟩:Hrd)).sum) (.int .i64 ((⟨5,0,[],0,0,0⟩:Hrd)).lead)
  simp only at hF
  generalize World.setCell _ ⟨w.heap.size+1,5,none⟩ _=FW at *
  obtain ⟨hR2,hL2,hK2,hB2⟩:=hF
  have hload:=box_load _ _ _ _ hR2 6 rfl
  refine bodyPost_ret (v:=.tuple #[.agg (hC (⟨5,0,[],0,0,0⟩:Hrd) none 0),.bool true]) (by simp[hC,results,Tryz.results247,asAddr,loadVar,loadCells,Tryz.isAgg199,Tryz.sizeOf199,hload]) rfl ?_
  exact ⟨⟨none,0,rfl,hB2 (bytes_nil _),(fun _ e=>nomatch e)⟩,hL2,hK2⟩
 rw[if_neg k5]
 by_cases k6:mk=6
 ·subst k6
  rw[if_pos rfl]
  go_enter Tryz.func247,Tryz.ntmps247
  go_upto_region 1 with fail
  generalize World.alloc (World.alloc w _) _=V0 at *
  have y9:=(hS).lk.lt
  obtain ⟨x0,x1,x2,x3,x4,x5,x6⟩:=bc7 0 1 2 3 4 5 6 (hS).box ⟨rfl,rfl,rfl,rfl,rfl,rfl,rfl⟩
  obtain ⟨z0,z1,z2,z3,z4,z5⟩:=bf6 (hS).res 0 1 2 3 4 5
  obtain ⟨q0,q1,q2,q3,q4,q5⟩:=bc6 0 1 2 3 4 5 (hS).res ⟨rfl,rfl,rfl,rfl,rfl,rfl⟩
  have HS:=hid hS
  clear hS
  go_wp2_with fail
  have hF:=BoxSt.fin (HS.out) H.out (.int .i64 ((⟨6,0,[],0,0,ml⟩:Hrd)).kind) (.int .i64 ((⟨6,0,[],0,0,ml⟩:Hrd)).frm) (.slice none ((⟨6,0,[],0,0,ml⟩:Hrd)).ins.length 0) (.int .i64 ((⟨6,0,[],0,0,ml⟩:Hrd)).frame) (.int .u32 ((⟨6,0,[],0,0,ml⟩:Hrd)).sum) (.int .i64 ((⟨6,0,[],0,0,ml⟩:Hrd)).lead)
  simp only at hF
  generalize World.setCell _ ⟨w.heap.size+1,5,none⟩ _=FW at *
  obtain ⟨hR2,hL2,hK2,hB2⟩:=hF
  have hload:=box_load _ _ _ _ hR2 6 rfl
  refine bodyPost_ret (v:=.tuple #[.agg (hC (⟨6,0,[],0,0,ml⟩:Hrd) none 0),.bool true]) (by simp[hC,results,Tryz.results247,asAddr,loadVar,loadCells,Tryz.isAgg199,Tryz.sizeOf199,hload]) rfl ?_
  exact ⟨⟨none,0,rfl,hB2 (bytes_nil _),(fun _ e=>nomatch e)⟩,hL2,hK2⟩
 rw[if_neg k6]
 have d3:(mk == 3)=false:=by simpa using k3
 have d4:(mk == 4)=false:=by simpa using k4
 have d5:(mk == 5)=false:=by simpa using k5
 have d6:(mk == 6)=false:=by simpa using k6
 go_enter Tryz.func247,Tryz.ntmps247
 go_upto_region 1 with fail
 generalize World.alloc (World.alloc w _) _=V0 at *
 have y9:=(hS).lk.lt
 obtain ⟨x0,x1,x2,x3,x4,x5,x6⟩:=bc7 0 1 2 3 4 5 6 (hS).box ⟨rfl,rfl,rfl,rfl,rfl,rfl,rfl⟩
 obtain ⟨z0,z1,z2,z3,z4,z5⟩:=bf6 (hS).res 0 1 2 3 4 5
 obtain ⟨q0,q1,q2,q3,q4,q5⟩:=bc6 0 1 2 3 4 5 (hS).res ⟨rfl,rfl,rfl,rfl,rfl,rfl⟩
 have HS:=hid hS
 clear hS
 go_wp2_with fail
 have hF:=BoxSt.fin (HS.out) H.out (.int .i64 ((⟨mk,0,[],0,0,0⟩:Hrd)).kind) (.int .i64 ((⟨mk,0,[],0,0,0⟩:Hrd)).frm) (.slice none ((⟨mk,0,[],0,0,0⟩:Hrd)).ins.length 0) (.int .i64 ((⟨mk,0,[],0,0,0⟩:Hrd)).frame) (.int .u32 ((⟨mk,0,[],0,0,0⟩:Hrd)).sum) (.int .i64 ((⟨mk,0,[],0,0,0⟩:Hrd)).lead)
 simp only at hF
 generalize World.setCell _ ⟨w.heap.size+1,5,none⟩ _=FW at *
 obtain ⟨hR2,hL2,hK2,hB2⟩:=hF
 have hload:=box_load _ _ _ _ hR2 6 rfl
 refine bodyPost_ret (v:=.tuple #[.agg (hC (⟨mk,0,[],0,0,0⟩:Hrd) none 0),.bool true]) (by simp[hC,results,Tryz.results247,asAddr,loadVar,loadCells,Tryz.isAgg199,Tryz.sizeOf199,hload]) rfl ?_
 exact ⟨⟨none,0,rfl,hB2 (bytes_nil _),(fun _ e=>nomatch e)⟩,hL2,hK2⟩
end
section
open Go.RowKit
set_option maxRecDepth 10000
variable {w:World} {B:LB} {l:Lk}
theorem BoxSt.next0 {V V':World} {m:Msg} {a:Option Addr} {c:Nat} (h:BoxSt w V B l m a c) (hk:Keeps (fun _=>False) V V'):BoxSt w V' B l m a c:=
 ⟨hk.heap h.box id,hk.heap h.res id,h.lk.keeps hk fun _ _=>id,h.kp.trans (hk.mono fun _ _ h=>h.elim),h.ins.keeps hk fun _ _ _=>id⟩
def takesF (l:Lk) (m:Msg):Hrd×Bool×Lk:=
 if m.kind=1 then (⟨1,0,[],0,0,0⟩,true,if l.out.length=8 then l else { l with out:=l.out++[⟨2,m.nonce,0,0,[],0,0⟩] }) else
 if m.kind=2 then (if m.nonce=l.nonce then (⟨2,0,[],0,0,0⟩,true,{ l with state:=1 }) else (Hrd.zero,false,l)) else
 if m.kind=7 then (⟨7,0,[],0,0,0⟩,true,{ l with state:=2 }) else
 if l.state=1 then openF l m else (Hrd.zero,false,l)
set_option maxHeartbeats 1000000 in
theorem lk_takes (h:IsLink w B l) (m:Msg) {a:Option Addr} {c:Nat} {lo:Nat} (hlo:∀ x,a=some x→lo≤x.block) (hb:IsBytes w a c m.ins) (hab:∀ x,a=some x→¬ B.S x.block) (hn:0≤l.next∧l.next≤1073741824) (ha:0≤l.acked∧l.acked≤1073741824) (hm:m.ins.length≤1000000) :
  Calls Tryz.prog 167 #[.pointer (some ⟨B.p,0,none⟩),(.agg #[.int .i64 m.kind,.int .u32 m.nonce,.int .u16 m.serial,.int .u16 m.ack,.slice a m.ins.length c,.int .u32 m.sum,.int .i64 m.lead])] w (HrdN lo w B (takesF l m).1 (.bool (takesF l m).2.1) (takesF l m).2.2):=by
 have hS:=BoxSt.start h m hb
 simp only[hC,Hrd.zero,List.length_nil] at hS
 have h9:=h.lt
 obtain ⟨mk,mn,ms,ma,mi,mu,ml⟩:=m
 simp only at *
 have H:=hid h
 have Hlo:=hid hlo
 clear h hlo
 unfold takesF
 by_cases k1:mk=1
 ·subst k1
  rw[if_pos rfl]
  by_cases h8:l.out.length=8
  ·simp only[if_pos h8]
   go_enter Tryz.func167,Tryz.ntmps167
   go_upto_region 1 with fail
   generalize World.alloc (World.alloc w _) _=V0 at *
   have hlt0:=blk_lt hS.box
   have x0:=blk_cell (k:=0) hS.box rfl
   go_upto_region 2 with fail
   clear x0
   have hh0:=blk_new V0 (.cells (hC ⟨1,0,[],0,0,0⟩ none 0) 199)
   simp only[hC,List.length_nil] at hh0
   have hS:=hS.next0 ((Keeps.refl (fun _=>False) V0).alloc (.cells (hC ⟨1,0,[],0,0,0⟩ none 0) 199))
   simp only[hC,List.length_nil] at hS
   generalize World.alloc V0 _=V1 at *
   have y9:=(hS).lk.lt
   obtain ⟨x0,x1,x2,x3,x4,x5,x6⟩:=bc7 0 1 2 3 4 5 6 (hS).box ⟨rfl,rfl,rfl,rfl,rfl,rfl,rfl⟩
   obtain ⟨z0,z1,z2,z3,z4,z5⟩:=bf6 (hS).res 0 1 2 3 4 5
   obtain ⟨q0,q1,q2,q3,q4,q5⟩:=bc6 0 1 2 3 4 5 (hS).res ⟨rfl,rfl,rfl,rfl,rfl,rfl⟩
   have hh0lt:=blk_lt hh0
   obtain ⟨hp0,hp1,hp2,hp3,hp4,hp5⟩:=bc6 0 1 2 3 4 5 hh0 ⟨rfl,rfl,rfl,rfl,rfl,rfl⟩
   have c9:=hS.lk.c9
   have HS:=hid hS
   have Hh:=hid hh0
   clear hS hh0
   go_wp2_with fail
   refine wp_region_taild 7 (by kernel_rfl) (by kernel_rfl) ?_
   simp only[List.take_succ_cons,List.take_zero,List.drop_succ_cons,List.drop_zero]
   repeat (go_big_quiet_step ((fail)))
   refine wpQuiet_nil ?_
   intro _ hw'
   obtain ⟨nq,hw''⟩:=hw'
   subst hw''
   go_wp2_with fail
   refine ((ms_Push_full (HS.out.drew nq).lk.out h8 ⟨2,mn,0,0,[],0,0⟩)).mono ?_
   rintro e V2 ⟨rfl,hR,hk⟩
   have hS:=(HS.out.drew nq).next (l':=l) H.out hab ((HS.out.drew nq).lk.outd hR hk rfl rfl rfl) (hk.mono fun b _ h=>h.elim (fun e=>.inr (.inr (.inr (.inl e)))) (fun e=>.inr (.inr (.inr (.inr e)))))
   have hh0:=(((Keeps.refl (fun b=>b=B.h2∨b=B.d2) V1).drewN nq).trans hk).heap Hh.out (by omega)
   clear HS Hh hR hk x0 x1 x2 x3 x4 x5 x6 y9 q0 q1 q2 q3 q4 q5 z0 z1 z2 z3 z4 z5 hp0 hp1 hp2 hp3 hp4 hp5 hh0lt c9
   have y9:=(hS).lk.lt
   obtain ⟨x0,x1,x2,x3,x4,x5,x6⟩:=bc7 0 1 2 3 4 5 6 (hS).box ⟨rfl,rfl,rfl,rfl,rfl,rfl,rfl⟩
   obtain ⟨z0,z1,z2,z3,z4,z5⟩:=bf6 (hS).res 0 1 2 3 4 5
   obtain ⟨q0,q1,q2,q3,q4,q5⟩:=bc6 0 1 2 3 4 5 (hS).res ⟨rfl,rfl,rfl,rfl,rfl,rfl⟩
   have hh0lt:=blk_lt hh0
   obtain ⟨hp0,hp1,hp2,hp3,hp4,hp5⟩:=bc6 0 1 2 3 4 5 hh0 ⟨rfl,rfl,rfl,rfl,rfl,rfl⟩
   have HS:=hid hS
   clear hS hh0
   go_wp2_with fail
   have hF:=BoxSt.fin (HS.out) H.out (.int .i64 ((⟨1,0,[],0,0,0⟩:Hrd)).kind) (.int .i64 ((⟨1,0,[],0,0,0⟩:Hrd)).frm) (.slice none ((⟨1,0,[],0,0,0⟩:Hrd)).ins.length 0) (.int .i64 ((⟨1,0,[],0,0,0⟩:Hrd)).frame) (.int .u32 ((⟨1,0,[],0,0,0⟩:Hrd)).sum) (.int .i64 ((⟨1,0,[],0,0,0⟩:Hrd)).lead)
   simp only at hF
   generalize World.setCell _ ⟨w.heap.size+1,5,none⟩ _=FW at *
   obtain ⟨hR2,hL2,hK2,hB2⟩:=hF
   have hload:=box_load _ _ _ _ hR2 6 rfl
   refine bodyPost_ret (v:=.tuple #[.agg (hC (⟨1,0,[],0,0,0⟩:Hrd) none 0),.bool true]) (by simp[hC,results,Tryz.results167,asAddr,loadVar,loadCells,Tryz.isAgg199,Tryz.sizeOf199,hload]) rfl ?_
   exact ⟨⟨none,0,rfl,hB2 (bytes_nil _),(fun _ e=>nomatch e)⟩,hL2,hK2⟩
  ·simp only[if_neg h8]
   have h8':l.out.length<8:=by have:=H.out.out.le.1;omega
   go_enter Tryz.func167,Tryz.ntmps167
   go_upto_region 1 with fail
   generalize World.alloc (World.alloc w _) _=V0 at *
   have hlt0:=blk_lt hS.box
   have x0:=blk_cell (k:=0) hS.box rfl
   go_upto_region 2 with fail
   clear x0
   have hh0:=blk_new V0 (.cells (hC ⟨1,0,[],0,0,0⟩ none 0) 199)
   simp only[hC,List.length_nil] at hh0
   have hS:=hS.next0 ((Keeps.refl (fun _=>False) V0).alloc (.cells (hC ⟨1,0,[],0,0,0⟩ none 0) 199))
   simp only[hC,List.length_nil] at hS
   generalize World.alloc V0 _=V1 at *
   have y9:=(hS).lk.lt
   obtain ⟨x0,x1,x2,x3,x4,x5,x6⟩:=bc7 0 1 2 3 4 5 6 (hS).box ⟨rfl,rfl,rfl,rfl,rfl,rfl,rfl⟩
   obtain ⟨z0,z1,z2,z3,z4,z5⟩:=bf6 (hS).res 0 1 2 3 4 5
   obtain ⟨q0,q1,q2,q3,q4,q5⟩:=bc6 0 1 2 3 4 5 (hS).res ⟨rfl,rfl,rfl,rfl,rfl,rfl⟩
   have hh0lt:=blk_lt hh0
   obtain ⟨hp0,hp1,hp2,hp3,hp4,hp5⟩:=bc6 0 1 2 3 4 5 hh0 ⟨rfl,rfl,rfl,rfl,rfl,rfl⟩
   have c9:=hS.lk.c9
   have HS:=hid hS
   have Hh:=hid hh0
   clear hS hh0
   go_wp2_with fail
   refine wp_region_taild 7 (by kernel_rfl) (by kernel_rfl) ?_
   simp only[List.take_succ_cons,List.take_zero,List.drop_succ_cons,List.drop_zero]
   repeat (go_big_quiet_step ((fail)))
   refine wpQuiet_nil ?_
   intro _ hw'
   obtain ⟨nq,hw''⟩:=hw'
   subst hw''
   go_wp2_with fail
   refine ((ms_Push (HS.out.drew nq).lk.out h8' ⟨2,mn,0,0,[],0,0⟩)).mono ?_
   rintro e V2 ⟨rfl,hR,hk⟩
   have hS:=(HS.out.drew nq).next (l':={ l with out:=l.out++[⟨2,mn,0,0,[],0,0⟩] }) H.out hab ((HS.out.drew nq).lk.outd hR hk rfl rfl rfl) (hk.mono fun b _ h=>h.elim (fun e=>.inr (.inr (.inr (.inl e)))) (fun e=>.inr (.inr (.inr (.inr e)))))
   have hh0:=(((Keeps.refl (fun b=>b=B.h2∨b=B.d2) V1).drewN nq).trans hk).heap Hh.out (by omega)
   clear HS Hh hR hk x0 x1 x2 x3 x4 x5 x6 y9 q0 q1 q2 q3 q4 q5 z0 z1 z2 z3 z4 z5 hp0 hp1 hp2 hp3 hp4 hp5 hh0lt c9
   have y9:=(hS).lk.lt
   obtain ⟨x0,x1,x2,x3,x4,x5,x6⟩:=bc7 0 1 2 3 4 5 6 (hS).box ⟨rfl,rfl,rfl,rfl,rfl,rfl,rfl⟩
   obtain ⟨z0,z1,z2,z3,z4,z5⟩:=bf6 (hS).res 0 1 2 3 4 5
   obtain ⟨q0,q1,q2,q3,q4,q5⟩:=bc6 0 1 2 3 4 5 (hS).res ⟨rfl,rfl,rfl,rfl,rfl,rfl⟩
   have hh0lt:=blk_lt hh0
   obtain ⟨hp0,hp1,hp2,hp3,hp4,hp5⟩:=bc6 0 1 2 3 4 5 hh0 ⟨rfl,rfl,rfl,rfl,rfl,rfl⟩
   have HS:=hid hS
   clear hS hh0
   go_wp2_with fail
   have hF:=BoxSt.fin (HS.out) H.out (.int .i64 ((⟨1,0,[],0,0,0⟩:Hrd)).kind) (.int .i64 ((⟨1,0,[],0,0,0⟩:Hrd)).frm) (.slice none ((⟨1,0,[],0,0,0⟩:Hrd)).ins.length 0) (.int .i64 ((⟨1,0,[],0,0,0⟩:Hrd)).frame) (.int .u32 ((⟨1,0,[],0,0,0⟩:Hrd)).sum) (.int .i64 ((⟨1,0,[],0,0,0⟩:Hrd)).lead)
   simp only at hF
   generalize World.setCell _ ⟨w.heap.size+1,5,none⟩ _=FW at *
   obtain ⟨hR2,hL2,hK2,hB2⟩:=hF
   have hload:=box_load _ _ _ _ hR2 6 rfl
   refine bodyPost_ret (v:=.tuple #[.agg (hC (⟨1,0,[],0,0,0⟩:Hrd) none 0),.bool true]) (by simp[hC,results,Tryz.results167,asAddr,loadVar,loadCells,Tryz.isAgg199,Tryz.sizeOf199,hload]) rfl ?_
   exact ⟨⟨none,0,rfl,hB2 (bytes_nil _),(fun _ e=>nomatch e)⟩,hL2,hK2⟩
 rw[if_neg k1]
 by_cases k2:mk=2
 ·subst k2
  rw[if_pos rfl]
  by_cases hnn:mn=l.nonce
  ·rw[if_pos hnn]
   subst hnn
   go_enter Tryz.func167,Tryz.ntmps167
   go_upto_region 1 with fail
   generalize World.alloc (World.alloc w _) _=V0 at *
   have hlt0:=blk_lt hS.box
   have x0:=blk_cell (k:=0) hS.box rfl
   go_upto_region 2 with fail
   clear x0
   have hh0:=blk_new V0 (.cells (hC ⟨2,0,[],0,0,0⟩ none 0) 199)
   simp only[hC,List.length_nil] at hh0
   have hS:=hS.next0 ((Keeps.refl (fun _=>False) V0).alloc (.cells (hC ⟨2,0,[],0,0,0⟩ none 0) 199))
   simp only[hC,List.length_nil] at hS
   generalize World.alloc V0 _=V1 at *
   have y9:=(hS).lk.lt
   obtain ⟨x0,x1,x2,x3,x4,x5,x6⟩:=bc7 0 1 2 3 4 5 6 (hS).box ⟨rfl,rfl,rfl,rfl,rfl,rfl,rfl⟩
   obtain ⟨z0,z1,z2,z3,z4,z5⟩:=bf6 (hS).res 0 1 2 3 4 5
   obtain ⟨q0,q1,q2,q3,q4,q5⟩:=bc6 0 1 2 3 4 5 (hS).res ⟨rfl,rfl,rfl,rfl,rfl,rfl⟩
   have hh0lt:=blk_lt hh0
   obtain ⟨hp0,hp1,hp2,hp3,hp4,hp5⟩:=bc6 0 1 2 3 4 5 hh0 ⟨rfl,rfl,rfl,rfl,rfl,rfl⟩
   have c0:=hS.lk.c0
   have f2:=hS.lk.free 2
   have c2:=hS.lk.c2
   have HS:=hid hS
   have Hh:=hid hh0
   clear hS hh0
   go_wp2_with fail
   go_quiet (fail)
   go_wp2_with fail
   have hD:=HS.out.drew nq
   have HS:=hid (hD.next (V':=(V1.drewN nq).setCell ⟨B.p,2,none⟩ (.int .i64 1)) (l':={ l with state:=1 }) H.out hab (hD.lk.set 2 (.int .i64 1) _ rfl rfl rfl) (Keeps.setCell (Keeps.refl _ _) (.inl rfl) _))
   have hF:=BoxSt.fin (HS.out) H.out (.int .i64 ((⟨2,0,[],0,0,0⟩:Hrd)).kind) (.int .i64 ((⟨2,0,[],0,0,0⟩:Hrd)).frm) (.slice none ((⟨2,0,[],0,0,0⟩:Hrd)).ins.length 0) (.int .i64 ((⟨2,0,[],0,0,0⟩:Hrd)).frame) (.int .u32 ((⟨2,0,[],0,0,0⟩:Hrd)).sum) (.int .i64 ((⟨2,0,[],0,0,0⟩:Hrd)).lead)
   simp only at hF
   generalize World.setCell _ ⟨w.heap.size+1,5,none⟩ _=FW at *
   obtain ⟨hR2,hL2,hK2,hB2⟩:=hF
   have hload:=box_load _ _ _ _ hR2 6 rfl
   refine bodyPost_ret (v:=.tuple #[.agg (hC (⟨2,0,[],0,0,0⟩:Hrd) none 0),.bool true]) (by simp[hC,results,Tryz.results167,asAddr,loadVar,loadCells,Tryz.isAgg199,Tryz.sizeOf199,hload]) rfl ?_
   exact ⟨⟨none,0,rfl,hB2 (bytes_nil _),(fun _ e=>nomatch e)⟩,hL2,hK2⟩
  ·rw[if_neg hnn]
   have hnn':(mn != l.nonce)=true:=by simpa using hnn
   go_enter Tryz.func167,Tryz.ntmps167
   go_upto_region 1 with fail
   generalize World.alloc (World.alloc w _) _=V0 at *
   have hlt0:=blk_lt hS.box
   have x0:=blk_cell (k:=0) hS.box rfl
   go_upto_region 2 with fail
   clear x0
   have hh0:=blk_new V0 (.cells (hC ⟨2,0,[],0,0,0⟩ none 0) 199)
   simp only[hC,List.length_nil] at hh0
   have hS:=hS.next0 ((Keeps.refl (fun _=>False) V0).alloc (.cells (hC ⟨2,0,[],0,0,0⟩ none 0) 199))
   simp only[hC,List.length_nil] at hS
   generalize World.alloc V0 _=V1 at *
   have y9:=(hS).lk.lt
   obtain ⟨x0,x1,x2,x3,x4,x5,x6⟩:=bc7 0 1 2 3 4 5 6 (hS).box ⟨rfl,rfl,rfl,rfl,rfl,rfl,rfl⟩
   obtain ⟨z0,z1,z2,z3,z4,z5⟩:=bf6 (hS).res 0 1 2 3 4 5
   obtain ⟨q0,q1,q2,q3,q4,q5⟩:=bc6 0 1 2 3 4 5 (hS).res ⟨rfl,rfl,rfl,rfl,rfl,rfl⟩
   have c0:=hS.lk.c0
   have HS:=hid hS
   clear hS hh0
   go_wp2_with fail
   go_quiet (fail)
   go_wp2_with fail
   have HS:=hid (HS.out.drew nq)
   have hF:=BoxSt.fin (HS.out) H.out (.int .i64 ((⟨0,0,[],0,0,0⟩:Hrd)).kind) (.int .i64 ((⟨0,0,[],0,0,0⟩:Hrd)).frm) (.slice none ((⟨0,0,[],0,0,0⟩:Hrd)).ins.length 0) (.int .i64 ((⟨0,0,[],0,0,0⟩:Hrd)).frame) (.int .u32 ((⟨0,0,[],0,0,0⟩:Hrd)).sum) (.int .i64 ((⟨0,0,[],0,0,0⟩:Hrd)).lead)
   simp only at hF
   generalize World.setCell _ ⟨w.heap.size+1,5,none⟩ _=FW at *
   obtain ⟨hR2,hL2,hK2,hB2⟩:=hF
   have hload:=box_load _ _ _ _ hR2 6 rfl
   refine bodyPost_ret (v:=.tuple #[.agg (hC (⟨0,0,[],0,0,0⟩:Hrd) none 0),.bool false]) (by simp[hC,results,Tryz.results167,asAddr,loadVar,loadCells,Tryz.isAgg199,Tryz.sizeOf199,hload]) rfl ?_
   exact ⟨⟨none,0,rfl,hB2 (bytes_nil _),(fun _ e=>nomatch e)⟩,hL2,hK2⟩
 rw[if_neg k2]
 by_cases k7:mk=7
 ·subst k7
  rw[if_pos rfl]
  go_enter Tryz.func167,Tryz.ntmps167
  go_upto_region 1 with fail
  generalize World.alloc (World.alloc w _) _=V0 at *
  have hlt0:=blk_lt hS.box
  have x0:=blk_cell (k:=0) hS.box rfl
  go_upto_region 2 with fail
  clear x0
  have hh0:=blk_new V0 (.cells (hC ⟨7,0,[],0,0,0⟩ none 0) 199)
  simp only[hC,List.length_nil] at hh0
  have hS:=hS.next0 ((Keeps.refl (fun _=>False) V0).alloc (.cells (hC ⟨7,0,[],0,0,0⟩ none 0) 199))
  simp only[hC,List.length_nil] at hS
  generalize World.alloc V0 _=V1 at *
  have y9:=(hS).lk.lt
  obtain ⟨x0,x1,x2,x3,x4,x5,x6⟩:=bc7 0 1 2 3 4 5 6 (hS).box ⟨rfl,rfl,rfl,rfl,rfl,rfl,rfl⟩
  obtain ⟨z0,z1,z2,z3,z4,z5⟩:=bf6 (hS).res 0 1 2 3 4 5
  obtain ⟨q0,q1,q2,q3,q4,q5⟩:=bc6 0 1 2 3 4 5 (hS).res ⟨rfl,rfl,rfl,rfl,rfl,rfl⟩
  have hh0lt:=blk_lt hh0
  obtain ⟨hp0,hp1,hp2,hp3,hp4,hp5⟩:=bc6 0 1 2 3 4 5 hh0 ⟨rfl,rfl,rfl,rfl,rfl,rfl⟩
  have f2:=hS.lk.free 2
  have c2:=hS.lk.c2
  have HS:=hid hS
  have Hh:=hid hh0
  clear hS hh0
  go_wp2_with fail
  have hD:=HS.out
  have HS:=hid (hD.next (V':=V1.setCell ⟨B.p,2,none⟩ (.int .i64 2)) (l':={ l with state:=2 }) H.out hab (hD.lk.set 2 (.int .i64 2) _ rfl rfl rfl) (Keeps.setCell (Keeps.refl _ _) (.inl rfl) _))
  have hF:=BoxSt.fin (HS.out) H.out (.int .i64 ((⟨7,0,[],0,0,0⟩:Hrd)).kind) (.int .i64 ((⟨7,0,[],0,0,0⟩:Hrd)).frm) (.slice none ((⟨7,0,[],0,0,0⟩:Hrd)).ins.length 0) (.int .i64 ((⟨7,0,[],0,0,0⟩:Hrd)).frame) (.int .u32 ((⟨7,0,[],0,0,0⟩:Hrd)).sum) (.int .i64 ((⟨7,0,[],0,0,0⟩:Hrd)).lead)
  simp only at hF
  generalize World.setCell _ ⟨w.heap.size+1,5,none⟩ _=FW at *
  obtain ⟨hR2,hL2,hK2,hB2⟩:=hF
  have hload:=box_load _ _ _ _ hR2 6 rfl
  refine bodyPost_ret (v:=.tuple #[.agg (hC (⟨7,0,[],0,0,0⟩:Hrd) none 0),.bool true]) (by simp[hC,results,Tryz.results167,asAddr,loadVar,loadCells,Tryz.isAgg199,Tryz.sizeOf199,hload]) rfl ?_
  exact ⟨⟨none,0,rfl,hB2 (bytes_nil _),(fun _ e=>nomatch e)⟩,hL2,hK2⟩
 rw[if_neg k7]
 have d1:(mk == 1)=false:=by simpa using k1
 have d2:(mk == 2)=false:=by simpa using k2
 have d7:(mk == 7)=false:=by simpa using k7
 by_cases hs1:l.state=1
 ·rw[if_pos hs1]
  go_enter Tryz.func167,Tryz.ntmps167
  go_upto_region 1 with fail
  generalize World.alloc (World.alloc w _) _=V0 at *
  have hlt0:=blk_lt hS.box
  have x0:=blk_cell (k:=0) hS.box rfl
  go_upto_region 2 with fail
  clear x0
  have hh0:=blk_new V0 (.cells (hC ⟨mk,0,[],0,0,0⟩ none 0) 199)
  simp only[hC,List.length_nil] at hh0
  have hS:=hS.next0 ((Keeps.refl (fun _=>False) V0).alloc (.cells (hC ⟨mk,0,[],0,0,0⟩ none 0) 199))
  simp only[hC,List.length_nil] at hS
  generalize World.alloc V0 _=V1 at *
  have y9:=(hS).lk.lt
  obtain ⟨x0,x1,x2,x3,x4,x5,x6⟩:=bc7 0 1 2 3 4 5 6 (hS).box ⟨rfl,rfl,rfl,rfl,rfl,rfl,rfl⟩
  obtain ⟨z0,z1,z2,z3,z4,z5⟩:=bf6 (hS).res 0 1 2 3 4 5
  obtain ⟨q0,q1,q2,q3,q4,q5⟩:=bc6 0 1 2 3 4 5 (hS).res ⟨rfl,rfl,rfl,rfl,rfl,rfl⟩
  have c2:=hS.lk.c2
  rw[hs1] at c2
  have HS:=hid hS
  clear hS hh0
  go_wp2_with fail
  refine (lk_open HS.out.lk ⟨mk,mn,ms,ma,mi,mu,ml⟩ Hlo.out HS.out.ins hab hn ha hm).mono ?_
  rintro e V2 ⟨⟨a2,c2,rfl,hb2,hlo2⟩,hL,hK⟩
  have Hlo2:=hid hlo2
  clear hlo2
  have hS:=HS.out.next H.out hab hL hK
  clear HS hL hK x0 x1 x2 x3 x4 x5 x6 y9 q0 q1 q2 q3 q4 q5 z0 z1 z2 z3 z4 z5
  generalize openF l ⟨mk,mn,ms,ma,mi,mu,ml⟩=R at *
  obtain ⟨R,ok,l2⟩:=R
  simp only at *
  have y9:=(hS).lk.lt
  obtain ⟨x0,x1,x2,x3,x4,x5,x6⟩:=bc7 0 1 2 3 4 5 6 (hS).box ⟨rfl,rfl,rfl,rfl,rfl,rfl,rfl⟩
  obtain ⟨z0,z1,z2,z3,z4,z5⟩:=bf6 (hS).res 0 1 2 3 4 5
  obtain ⟨q0,q1,q2,q3,q4,q5⟩:=bc6 0 1 2 3 4 5 (hS).res ⟨rfl,rfl,rfl,rfl,rfl,rfl⟩
  have HS:=hid hS
  have Hb2:=hid hb2
  clear hS hb2
  unfold hC
  go_wp2_with fail
  have hF:=BoxSt.fin (HS.out) H.out (.int .i64 (R).kind) (.int .i64 (R).frm) (.slice a2 (R).ins.length c2) (.int .i64 (R).frame) (.int .u32 (R).sum) (.int .i64 (R).lead)
  simp only at hF
  generalize World.setCell _ ⟨w.heap.size+1,5,none⟩ _=FW at *
  obtain ⟨hR2,hL2,hK2,hB2⟩:=hF
  have hload:=box_load _ _ _ _ hR2 6 rfl
  refine bodyPost_ret (v:=.tuple #[.agg (hC R a2 c2),.bool ok]) (by simp[hC,results,Tryz.results167,asAddr,loadVar,loadCells,Tryz.isAgg199,Tryz.sizeOf199,hload]) rfl ?_
  exact ⟨⟨a2,c2,rfl,hB2 Hb2.out,Hlo2.out⟩,hL2,hK2⟩
 ·rw[if_neg hs1]
  have d9:(l.state != 1)=true:=by simpa using hs1
  go_enter Tryz.func167,Tryz.ntmps167
  go_upto_region 1 with fail
  generalize World.alloc (World.alloc w _) _=V0 at *
  have hlt0:=blk_lt hS.box
  have x0:=blk_cell (k:=0) hS.box rfl
  go_upto_region 2 with fail
  clear x0
  have hh0:=blk_new V0 (.cells (hC ⟨mk,0,[],0,0,0⟩ none 0) 199)
  simp only[hC,List.length_nil] at hh0
  have hS:=hS.next0 ((Keeps.refl (fun _=>False) V0).alloc (.cells (hC ⟨mk,0,[],0,0,0⟩ none 0) 199))
  simp only[hC,List.length_nil] at hS
  generalize World.alloc V0 _=V1 at *
  have y9:=(hS).lk.lt
  obtain ⟨x0,x1,x2,x3,x4,x5,x6⟩:=bc7 0 1 2 3 4 5 6 (hS).box ⟨rfl,rfl,rfl,rfl,rfl,rfl,rfl⟩
  obtain ⟨z0,z1,z2,z3,z4,z5⟩:=bf6 (hS).res 0 1 2 3 4 5
  obtain ⟨q0,q1,q2,q3,q4,q5⟩:=bc6 0 1 2 3 4 5 (hS).res ⟨rfl,rfl,rfl,rfl,rfl,rfl⟩
  have c2:=hS.lk.c2
  have HS:=hid hS
  clear hS hh0
  go_wp2_with fail
  have hF:=BoxSt.fin (HS.out) H.out (.int .i64 ((⟨0,0,[],0,0,0⟩:Hrd)).kind) (.int .i64 ((⟨0,0,[],0,0,0⟩:Hrd)).frm) (.slice none ((⟨0,0,[],0,0,0⟩:Hrd)).ins.length 0) (.int .i64 ((⟨0,0,[],0,0,0⟩:Hrd)).frame) (.int .u32 ((⟨0,0,[],0,0,0⟩:Hrd)).sum) (.int .i64 ((⟨0,0,[],0,0,0⟩:Hrd)).lead)
  simp only at hF
  generalize World.setCell _ ⟨w.heap.size+1,5,none⟩ _=FW at *
  obtain ⟨hR2,hL2,hK2,hB2⟩:=hF
  have hload:=box_load _ _ _ _ hR2 6 rfl
  refine bodyPost_ret (v:=.tuple #[.agg (hC (⟨0,0,[],0,0,0⟩:Hrd) none 0),.bool false]) (by simp[hC,results,Tryz.results167,asAddr,loadVar,loadCells,Tryz.isAgg199,Tryz.sizeOf199,hload]) rfl ?_
  exact ⟨⟨none,0,rfl,hB2 (bytes_nil _),(fun _ e=>nomatch e)⟩,hL2,hK2⟩
end
section
open Go.RowKit
set_option maxRecDepth 10000
variable {w:World} {B:LB} {l:Lk}
structure ResSt (w V:World) (r:Nat) (B:LB) (l:Lk):Prop where
 res:V.heap[r]?=some (.cells (hC Hrd.zero none 0) 199 (0,0))
 rb:w.heap.size≤r
 lk:IsLink V B l
 kp:Keeps B.S w V
theorem ResSt.start (h:IsLink w B l):ResSt w (w.alloc (.cells (hC Hrd.zero none 0) 199)) w.heap.size B l:=by
 have hk:=(Keeps.refl (fun _=>False) w).alloc (.cells (hC Hrd.zero none 0) 199)
 exact ⟨blk_new w _,Nat.le_refl _,h.keeps hk (fun _ _=>id),hk.mono fun _ _ h=>h.elim⟩
theorem ResSt.next {V V':World} {r:Nat} {l' l0:Lk} (h:ResSt w V r B l) (h0:IsLink w B l0) (hl:IsLink V' B l') (hk:Keeps B.S V V'):ResSt w V' r B l':=by
 have h9:=h0.lt
 have hs:∀ b,B.S b→b<w.heap.size:=fun b hb=>by rcases hb with e|e|e|e|e<;>omega
 exact ⟨hk.heap h.res (fun x=>by have:=hs _ x;have:=h.rb;omega),h.rb,hl,h.kp.trans hk⟩
theorem ResSt.next0 {V V':World} {r:Nat} (h:ResSt w V r B l) (hk:Keeps (fun _=>False) V V'):ResSt w V' r B l:=
 ⟨hk.heap h.res id,h.rb,h.lk.keeps hk fun _ _=>id,h.kp.trans (hk.mono fun _ _ h=>h.elim)⟩
theorem ResSt.fin {l0:Lk} {V:World} {r:Nat} (h:ResSt w V r B l) (h0:IsLink w B l0) (v0 v1 v2 v3 v4 v5:Value) :
  let FW:=((((((V.setCell ⟨r,0,none⟩ v0).setCell ⟨r,1,none⟩ v1).setCell ⟨r,2,none⟩ v2).setCell ⟨r,3,none⟩ v3).setCell ⟨r,4,none⟩ v4).setCell ⟨r,5,none⟩ v5)
  FW.heap[r]?=some (.cells #[v0,v1,v2,v3,v4,v5] 199 (0,0))∧IsLink FW B l∧Keeps B.S w FW∧(∀ {a':Option Addr} {c':Nat} {L:List UInt8},IsBytes V a' c' L→IsBytes FW a' c' L):=by
 have h9:=h0.lt
 have hk:=hset_in (S:=fun b=>b=r) (b:=r) (Keeps.refl _ V) rfl v0 v1 v2 v3 v4 v5
 have hr:=h.rb
 refine ⟨hset h.res rfl v0 v1 v2 v3 v4 v5,h.lk.keeps hk (fun b hb=>?_),hset_keeps h.kp h.rb v0 v1 v2 v3 v4 v5,fun hb=>hb.keeps hk fun hne x e=>bytes_not hb h.res (by simp[hC,Hrd.zero]) hne x e⟩
 rcases hb with e|e|e|e|e<;>omega
def hearF (l:Lk) (s:List UInt8):Hrd×Int×Lk:=
 if l.state=2 then (Hrd.zero,12,l) else
 if (unpM s).2≠0 then (Hrd.zero,(unpM s).2,{ l with bad:=l.bad+1 }) else
 if (takesF { l with heard:=l.ticks } (unpM s).1).2.1 then ((takesF { l with heard:=l.ticks } (unpM s).1).1,0,{ (takesF { l with heard:=l.ticks } (unpM s).1).2.2 with good:=(takesF { l with heard:=l.ticks } (unpM s).1).2.2.good+1 })
 else (Hrd.zero,0,{ (takesF { l with heard:=l.ticks } (unpM s).1).2.2 with stale:=(takesF { l with heard:=l.ticks } (unpM s).1).2.2.stale+1 })
theorem ackL_same (l:Lk) (s:Int):(ackL l s).nonce=l.nonce∧(ackL l s).patience=l.patience∧(ackL l s).bye=l.bye∧(ackL l s).ticks=l.ticks∧(ackL l s).heard=l.heard∧(ackL l s).good=l.good∧(ackL l s).bad=l.bad∧(ackL l s).stale=l.stale:=by
 unfold ackL
 simp only[]
 split<;>exact ⟨rfl,rfl,rfl,rfl,rfl,rfl,rfl,rfl⟩
theorem inpF_same (l:Lk) (m:Msg):(inpF l m).2.2.nonce=l.nonce∧(inpF l m).2.2.patience=l.patience∧(inpF l m).2.2.bye=l.bye∧(inpF l m).2.2.ticks=l.ticks∧(inpF l m).2.2.heard=l.heard∧(inpF l m).2.2.good=l.good∧(inpF l m).2.2.bad=l.bad∧(inpF l m).2.2.stale=l.stale:=by
 unfold inpF
 simp only[]
 split<;>exact ⟨rfl,rfl,rfl,rfl,rfl,rfl,rfl,rfl⟩
theorem takesF_same (l:Lk) (m:Msg):(takesF l m).2.2.nonce=l.nonce∧(takesF l m).2.2.patience=l.patience∧(takesF l m).2.2.bye=l.bye∧(takesF l m).2.2.ticks=l.ticks∧(takesF l m).2.2.heard=l.heard∧(takesF l m).2.2.good=l.good∧(takesF l m).2.2.bad=l.bad∧(takesF l m).2.2.stale=l.stale:=by
 have h1:=ackL_same l m.ack
 have h2:=inpF_same (ackL l m.ack) m
 have h3:(openF l m).2.2.nonce=l.nonce∧(openF l m).2.2.patience=l.patience∧(openF l m).2.2.bye=l.bye∧(openF l m).2.2.ticks=l.ticks∧(openF l m).2.2.heard=l.heard∧(openF l m).2.2.good=l.good∧(openF l m).2.2.bad=l.bad∧(openF l m).2.2.stale=l.stale:=by
  unfold openF
  split
  ·exact ⟨h2.1.trans h1.1,h2.2.1.trans h1.2.1,h2.2.2.1.trans h1.2.2.1,h2.2.2.2.1.trans h1.2.2.2.1,h2.2.2.2.2.1.trans h1.2.2.2.2.1,h2.2.2.2.2.2.1.trans h1.2.2.2.2.2.1,h2.2.2.2.2.2.2.1.trans h1.2.2.2.2.2.2.1,h2.2.2.2.2.2.2.2.trans h1.2.2.2.2.2.2.2⟩
  split
  ·exact ⟨rfl,rfl,rfl,rfl,rfl,rfl,rfl,rfl⟩
  split
  ·exact h1
  split<;>exact ⟨rfl,rfl,rfl,rfl,rfl,rfl,rfl,rfl⟩
 unfold takesF
 split
 ·simp only[]
  split<;>exact ⟨rfl,rfl,rfl,rfl,rfl,rfl,rfl,rfl⟩
 split
 ·split<;>exact ⟨rfl,rfl,rfl,rfl,rfl,rfl,rfl,rfl⟩
 split
 ·exact ⟨rfl,rfl,rfl,rfl,rfl,rfl,rfl,rfl⟩
 split
 ·exact h3
 ·exact ⟨rfl,rfl,rfl,rfl,rfl,rfl,rfl,rfl⟩
theorem unp_short (l:List UInt8) (h:(unpM l).2=0):(unpM l).1.ins.length≤1000000:=by
 unfold unpM at *
 split at h
 ·rename_i h0
  rw[if_pos h0]
  unfold unpT at *
  split at h
  ·cases h
  ·rename_i h1
   rw[if_neg h1]
   have h2:RightP (parseT (opened l).1).1:=Decidable.byContradiction fun hc=>h1 (.inr (.inr hc))
   have h3:=h2.2.1
   unfold fits at h3
   simp only[Bool.and_eq_true,decide_eq_true_eq] at h3
   exact Nat.le_trans h3.2 (by decide)
 ·rename_i h0
  exact absurd h h0
set_option maxHeartbeats 1000000 in
theorem lk_HearN (h:IsLink w B l) (s:ByteArray) (hs:s.size≤100000) (hn:0≤l.next∧l.next≤1073741824) (ha:0≤l.acked∧l.acked≤1073741824) (hg:0≤l.good∧l.good≤1000000) (hb:0≤l.bad∧l.bad≤1000000) (ht:0≤l.stale∧l.stale≤1000000) :
  Calls Tryz.prog 102 #[.pointer (some ⟨B.p,0,none⟩),.string s] w (HrdN w.heap.size w B (hearF l s.data.toList).1 (.int .i64 (hearF l s.data.toList).2.1) (hearF l s.data.toList).2.2):=by
 have hS:=ResSt.start h
 simp only[hC,Hrd.zero,List.length_nil] at hS
 have h9:=h.lt
 have H:=hid h
 clear h
 unfold hearF
 by_cases k2:l.state=2
 ·rw[if_pos k2]
  go_enter Tryz.func102,Tryz.ntmps102
  go_upto_region 3 with fail
  generalize World.alloc w _=V0 at *
  have y9:=(hS).lk.lt
  have yr:=blk_lt (hS).res
  obtain ⟨z0,z1,z2,z3,z4,z5⟩:=bf6 (hS).res 0 1 2 3 4 5
  obtain ⟨q0,q1,q2,q3,q4,q5⟩:=bc6 0 1 2 3 4 5 (hS).res ⟨rfl,rfl,rfl,rfl,rfl,rfl⟩
  have f2:=hS.lk.free 2
  have c2:=hS.lk.c2
  rw[k2] at c2
  have HS:=hid hS
  clear hS
  go_wp2_with fail
  have hF:=ResSt.fin (HS.out) H.out (.int .i64 ((⟨0,0,[],0,0,0⟩:Hrd)).kind) (.int .i64 ((⟨0,0,[],0,0,0⟩:Hrd)).frm) (.slice none ((⟨0,0,[],0,0,0⟩:Hrd)).ins.length 0) (.int .i64 ((⟨0,0,[],0,0,0⟩:Hrd)).frame) (.int .u32 ((⟨0,0,[],0,0,0⟩:Hrd)).sum) (.int .i64 ((⟨0,0,[],0,0,0⟩:Hrd)).lead)
  simp only at hF
  generalize World.setCell _ ⟨w.heap.size,5,none⟩ _=FW at *
  obtain ⟨hR2,hL2,hK2,hB2⟩:=hF
  have hload:=box_load _ _ _ _ hR2 6 rfl
  refine bodyPost_ret (v:=.tuple #[.agg (hC (⟨0,0,[],0,0,0⟩:Hrd) none 0),.int .i64 12]) (by simp[hC,results,Tryz.results102,asAddr,loadVar,loadCells,Tryz.isAgg199,Tryz.sizeOf199,hload]) rfl ?_
  exact ⟨⟨none,0,rfl,hB2 (bytes_nil _),(fun _ e=>nomatch e)⟩,hL2,hK2⟩
 rw[if_neg k2]
 have d2:(l.state == 2)=false:=by simpa using k2
 have hU:=fun W=>wire_UnpackN (w:=W) s hs
 have hmr:=unp_short s.data.toList
 generalize unpM s.data.toList=u at *
 obtain ⟨m,er⟩:=u
 simp only at *
 have HU:=hid hU
 clear hU
 by_cases k3:er≠0
 ·rw[if_pos k3]
  have d3:(er != 0)=true:=by simpa using k3
  go_enter Tryz.func102,Tryz.ntmps102
  go_upto_region 3 with fail
  generalize World.alloc w _=V0 at *
  have y9:=(hS).lk.lt
  have yr:=blk_lt (hS).res
  obtain ⟨z0,z1,z2,z3,z4,z5⟩:=bf6 (hS).res 0 1 2 3 4 5
  obtain ⟨q0,q1,q2,q3,q4,q5⟩:=bc6 0 1 2 3 4 5 (hS).res ⟨rfl,rfl,rfl,rfl,rfl,rfl⟩
  have f2:=hS.lk.free 2
  have c2:=hS.lk.c2
  have HS:=hid hS
  clear hS
  go_wp2_with fail
  refine (HU.out _).mono ?_
  rintro e V1 ⟨a,c,rfl,hb1,hbe,hnew⟩
  have hS:=HS.out.next0 (Keeps.of_below hbe (fun k h1 h2=>by omega))
  clear HS hbe c2 f2 q0 q1 q2 q3 q4 q5 z0 z1 z2 z3 z4 z5
  go_upto_region 6 with fail
  have ylt:=hS.lk.lt.1
  have hm0:=blk_new V1 (.cells #[.int .i64 m.kind,.int .u32 m.nonce,.int .u16 m.serial,.int .u16 m.ack,.slice a m.ins.length c,.int .u32 m.sum,.int .i64 m.lead] 254)
  have hS:=hS.next0 ((Keeps.refl (fun _=>False) V1).alloc (.cells #[.int .i64 m.kind,.int .u32 m.nonce,.int .u16 m.serial,.int .u16 m.ack,.slice a m.ins.length c,.int .u32 m.sum,.int .i64 m.lead] 254))
  have hb1:=hb1.keeps ((Keeps.refl (fun _=>False) V1).alloc (.cells #[.int .i64 m.kind,.int .u32 m.nonce,.int .u16 m.serial,.int .u16 m.ack,.slice a m.ins.length c,.int .u32 m.sum,.int .i64 m.lead] 254)) (fun _ _ _=>id)
  have hnew:∀ x,a=some x→w.heap.size≤x.block:=fun x hx=>by have:=hnew x hx;omega
  clear y9 yr
  generalize World.alloc V1 _=V2 at *
  have y9:=(hS).lk.lt
  have yr:=blk_lt (hS).res
  obtain ⟨z0,z1,z2,z3,z4,z5⟩:=bf6 (hS).res 0 1 2 3 4 5
  obtain ⟨q0,q1,q2,q3,q4,q5⟩:=bc6 0 1 2 3 4 5 (hS).res ⟨rfl,rfl,rfl,rfl,rfl,rfl⟩
  have c11:=hS.lk.c11
  have f11:=hS.lk.free 11
  have HS:=hid hS
  clear hS
  go_wp2_with fail
  have HS:=hid (HS.out.next (V':=V2.setCell ⟨B.p,11,none⟩ (.int .i64 (l.bad+1))) (l':={ l with bad:=l.bad+1 }) H.out (HS.out.lk.set 11 (.int .i64 (l.bad+1)) _ rfl rfl rfl) (Keeps.setCell (Keeps.refl _ _) (.inl rfl) _))
  have hF:=ResSt.fin (HS.out) H.out (.int .i64 ((⟨0,0,[],0,0,0⟩:Hrd)).kind) (.int .i64 ((⟨0,0,[],0,0,0⟩:Hrd)).frm) (.slice none ((⟨0,0,[],0,0,0⟩:Hrd)).ins.length 0) (.int .i64 ((⟨0,0,[],0,0,0⟩:Hrd)).frame) (.int .u32 ((⟨0,0,[],0,0,0⟩:Hrd)).sum) (.int .i64 ((⟨0,0,[],0,0,0⟩:Hrd)).lead)
  simp only at hF
  generalize World.setCell _ ⟨w.heap.size,5,none⟩ _=FW at *
  obtain ⟨hR2,hL2,hK2,hB2⟩:=hF
  have hload:=box_load _ _ _ _ hR2 6 rfl
  refine bodyPost_ret (v:=.tuple #[.agg (hC (⟨0,0,[],0,0,0⟩:Hrd) none 0),.int .i64 er]) (by simp[hC,results,Tryz.results102,asAddr,loadVar,loadCells,Tryz.isAgg199,Tryz.sizeOf199,hload]) rfl ?_
  exact ⟨⟨none,0,rfl,hB2 (bytes_nil _),(fun _ e=>nomatch e)⟩,hL2,hK2⟩
 rw[if_neg k3]
 obtain rfl:er=0:=by omega
 clear k3
 have hm:=(hmr rfl)
 have hT:=fun (W:World) (a:Option Addr) (c:Nat) (h:IsLink W B { l with heard:=l.ticks }) (hb:IsBytes W a c m.ins) (hab:∀ x,a=some x→¬ B.S x.block) (hlo:∀ x,a=some x→w.heap.size≤x.block)=>lk_takes h m hlo hb hab hn ha hm
 have hsm:=takesF_same { l with heard:=l.ticks } m
 generalize takesF { l with heard:=l.ticks } m=T at *
 obtain ⟨R,ok,l2⟩:=T
 simp only at *
 obtain ⟨n2,p2,st2,by2,tk2,hd2,ow2,ak2,nx2,ou2,gd2,bd2,sl2⟩:=l2
 simp only at hsm
 obtain ⟨rfl,rfl,rfl,rfl,rfl,rfl,rfl,rfl⟩:=hsm
 have HT:=hid hT
 clear hT
 cases ok with
 | true=>
  simp only[if_true]
  go_enter Tryz.func102,Tryz.ntmps102
  go_upto_region 3 with fail
  generalize World.alloc w _=V0 at *
  have y9:=(hS).lk.lt
  have yr:=blk_lt (hS).res
  obtain ⟨z0,z1,z2,z3,z4,z5⟩:=bf6 (hS).res 0 1 2 3 4 5
  obtain ⟨q0,q1,q2,q3,q4,q5⟩:=bc6 0 1 2 3 4 5 (hS).res ⟨rfl,rfl,rfl,rfl,rfl,rfl⟩
  have f2:=hS.lk.free 2
  have c2:=hS.lk.c2
  have HS:=hid hS
  clear hS
  go_wp2_with fail
  refine (HU.out _).mono ?_
  rintro e V1 ⟨a,c,rfl,hb1,hbe,hnew⟩
  have hS:=HS.out.next0 (Keeps.of_below hbe (fun k h1 h2=>by omega))
  clear HS hbe c2 f2 q0 q1 q2 q3 q4 q5 z0 z1 z2 z3 z4 z5
  go_upto_region 6 with fail
  have ylt:=hS.lk.lt.1
  have hm0:=blk_new V1 (.cells #[.int .i64 m.kind,.int .u32 m.nonce,.int .u16 m.serial,.int .u16 m.ack,.slice a m.ins.length c,.int .u32 m.sum,.int .i64 m.lead] 254)
  have hS:=hS.next0 ((Keeps.refl (fun _=>False) V1).alloc (.cells #[.int .i64 m.kind,.int .u32 m.nonce,.int .u16 m.serial,.int .u16 m.ack,.slice a m.ins.length c,.int .u32 m.sum,.int .i64 m.lead] 254))
  have hb1:=hb1.keeps ((Keeps.refl (fun _=>False) V1).alloc (.cells #[.int .i64 m.kind,.int .u32 m.nonce,.int .u16 m.serial,.int .u16 m.ack,.slice a m.ins.length c,.int .u32 m.sum,.int .i64 m.lead] 254)) (fun _ _ _=>id)
  have hnew:∀ x,a=some x→w.heap.size≤x.block:=fun x hx=>by have:=hnew x hx;omega
  clear y9 yr
  generalize World.alloc V1 _=V2 at *
  have y9:=(hS).lk.lt
  have yr:=blk_lt (hS).res
  obtain ⟨z0,z1,z2,z3,z4,z5⟩:=bf6 (hS).res 0 1 2 3 4 5
  obtain ⟨q0,q1,q2,q3,q4,q5⟩:=bc6 0 1 2 3 4 5 (hS).res ⟨rfl,rfl,rfl,rfl,rfl,rfl⟩
  have c4:=hS.lk.c4
  have c5:=hS.lk.c5
  have f5:=hS.lk.free 5
  obtain ⟨x0,x1,x2,x3,x4,x5,x6⟩:=bc7 0 1 2 3 4 5 6 hm0 ⟨rfl,rfl,rfl,rfl,rfl,rfl,rfl⟩
  have xl:=blk_lt hm0
  have HS:=hid hS
  have Hb1:=hid hb1
  clear hS hb1
  go_wp2_with fail
  have hS:=HS.out.next (V':=V2.setCell ⟨B.p,5,none⟩ (.int .i64 l.ticks)) (l':={ l with heard:=l.ticks }) H.out (HS.out.lk.set 5 (.int .i64 l.ticks) _ rfl rfl rfl) (Keeps.setCell (Keeps.refl _ _) (.inl rfl) _)
  have hb1:=Hb1.out.keeps (Keeps.setCell (S:=fun b=>b=B.p) (Keeps.refl _ _) (p:=⟨B.p,5,none⟩) rfl (.int .i64 l.ticks)) (fun _ x hx e=>by have:=hnew x hx;omega)
  refine (HT.out _ a c hS.lk hb1 (fun x hx hc=>by have:=hnew x hx;rcases hc with e|e|e|e|e<;>omega) hnew).mono ?_
  rintro e V3 ⟨⟨a2,c2,rfl,hb2,hlo2⟩,hL,hK⟩
  have Hlo2:=hid hlo2
  clear hlo2
  have hS:=hS.next H.out hL hK
  clear HS Hb1 hb1 hL hK x0 x1 x2 x3 x4 x5 x6 xl c4 c5 f5 y9 yr q0 q1 q2 q3 q4 q5 z0 z1 z2 z3 z4 z5 hm0
  unfold hC
  go_upto_region 11 with fail
  have ylt3:=hS.lk.lt.1
  have hh0:=blk_new V3 (.cells (hC R a2 c2) 199)
  have hS:=hS.next0 ((Keeps.refl (fun _=>False) V3).alloc (.cells (hC R a2 c2) 199))
  have hb2:=hb2.keeps ((Keeps.refl (fun _=>False) V3).alloc (.cells (hC R a2 c2) 199)) (fun _ _ _=>id)
  simp only[hC] at hh0 hS hb2
  generalize World.alloc V3 _=V4 at *
  obtain ⟨xh0,xh1,xh2,xh3,xh4,xh5⟩:=bc6 0 1 2 3 4 5 hh0 ⟨rfl,rfl,rfl,rfl,rfl,rfl⟩
  have xhl:=blk_lt hh0
  have y9:=(hS).lk.lt
  have yr:=blk_lt (hS).res
  obtain ⟨z0,z1,z2,z3,z4,z5⟩:=bf6 (hS).res 0 1 2 3 4 5
  obtain ⟨q0,q1,q2,q3,q4,q5⟩:=bc6 0 1 2 3 4 5 (hS).res ⟨rfl,rfl,rfl,rfl,rfl,rfl⟩
  have c10:=hS.lk.c10
  have f10:=hS.lk.free 10
  have HS:=hid hS
  have Hb2:=hid hb2
  clear hS hb2
  go_wp2_with fail
  have hb3:=Hb2.out.keeps (Keeps.setCell (S:=fun b=>b=B.p) (Keeps.refl _ _) (p:=⟨B.p,10,none⟩) rfl (.int .i64 (l.good+1))) (fun hne x e=>bytes_off Hb2.out HS.out.lk.blk hne x e)
  have HS:=hid (HS.out.next (V':=V4.setCell ⟨B.p,10,none⟩ (.int .i64 (l.good+1))) (l':=⟨l.nonce,l.patience,st2,l.bye,l.ticks,l.ticks,ow2,ak2,nx2,ou2,l.good+1,l.bad,l.stale⟩) H.out (HS.out.lk.set 10 (.int .i64 (l.good+1)) _ rfl rfl rfl) (Keeps.setCell (Keeps.refl _ _) (.inl rfl) _))
  have hF:=ResSt.fin (HS.out) H.out (.int .i64 (R).kind) (.int .i64 (R).frm) (.slice a2 (R).ins.length c2) (.int .i64 (R).frame) (.int .u32 (R).sum) (.int .i64 (R).lead)
  simp only at hF
  generalize World.setCell _ ⟨w.heap.size,5,none⟩ _=FW at *
  obtain ⟨hR2,hL2,hK2,hB2⟩:=hF
  have hload:=box_load _ _ _ _ hR2 6 rfl
  refine bodyPost_ret (v:=.tuple #[.agg (hC R a2 c2),.int .i64 0]) (by simp[hC,results,Tryz.results102,asAddr,loadVar,loadCells,Tryz.isAgg199,Tryz.sizeOf199,hload]) rfl ?_
  exact ⟨⟨a2,c2,rfl,hB2 hb3,Hlo2.out⟩,hL2,hK2⟩
 | false=>
  simp only[Bool.false_eq_true,if_false]
  go_enter Tryz.func102,Tryz.ntmps102
  go_upto_region 3 with fail
  generalize World.alloc w _=V0 at *
  have y9:=(hS).lk.lt
  have yr:=blk_lt (hS).res
  obtain ⟨z0,z1,z2,z3,z4,z5⟩:=bf6 (hS).res 0 1 2 3 4 5
  obtain ⟨q0,q1,q2,q3,q4,q5⟩:=bc6 0 1 2 3 4 5 (hS).res ⟨rfl,rfl,rfl,rfl,rfl,rfl⟩
  have f2:=hS.lk.free 2
  have c2:=hS.lk.c2
  have HS:=hid hS
  clear hS
  go_wp2_with fail
  refine (HU.out _).mono ?_
  rintro e V1 ⟨a,c,rfl,hb1,hbe,hnew⟩
  have hS:=HS.out.next0 (Keeps.of_below hbe (fun k h1 h2=>by omega))
  clear HS hbe c2 f2 q0 q1 q2 q3 q4 q5 z0 z1 z2 z3 z4 z5
  go_upto_region 6 with fail
  have ylt:=hS.lk.lt.1
  have hm0:=blk_new V1 (.cells #[.int .i64 m.kind,.int .u32 m.nonce,.int .u16 m.serial,.int .u16 m.ack,.slice a m.ins.length c,.int .u32 m.sum,.int .i64 m.lead] 254)
  have hS:=hS.next0 ((Keeps.refl (fun _=>False) V1).alloc (.cells #[.int .i64 m.kind,.int .u32 m.nonce,.int .u16 m.serial,.int .u16 m.ack,.slice a m.ins.length c,.int .u32 m.sum,.int .i64 m.lead] 254))
  have hb1:=hb1.keeps ((Keeps.refl (fun _=>False) V1).alloc (.cells #[.int .i64 m.kind,.int .u32 m.nonce,.int .u16 m.serial,.int .u16 m.ack,.slice a m.ins.length c,.int .u32 m.sum,.int .i64 m.lead] 254)) (fun _ _ _=>id)
  have hnew:∀ x,a=some x→w.heap.size≤x.block:=fun x hx=>by have:=hnew x hx;omega
  clear y9 yr
  generalize World.alloc V1 _=V2 at *
  have y9:=(hS).lk.lt
  have yr:=blk_lt (hS).res
  obtain ⟨z0,z1,z2,z3,z4,z5⟩:=bf6 (hS).res 0 1 2 3 4 5
  obtain ⟨q0,q1,q2,q3,q4,q5⟩:=bc6 0 1 2 3 4 5 (hS).res ⟨rfl,rfl,rfl,rfl,rfl,rfl⟩
  have c4:=hS.lk.c4
  have c5:=hS.lk.c5
  have f5:=hS.lk.free 5
  obtain ⟨x0,x1,x2,x3,x4,x5,x6⟩:=bc7 0 1 2 3 4 5 6 hm0 ⟨rfl,rfl,rfl,rfl,rfl,rfl,rfl⟩
  have xl:=blk_lt hm0
  have HS:=hid hS
  have Hb1:=hid hb1
  clear hS hb1
  go_wp2_with fail
  have hS:=HS.out.next (V':=V2.setCell ⟨B.p,5,none⟩ (.int .i64 l.ticks)) (l':={ l with heard:=l.ticks }) H.out (HS.out.lk.set 5 (.int .i64 l.ticks) _ rfl rfl rfl) (Keeps.setCell (Keeps.refl _ _) (.inl rfl) _)
  have hb1:=Hb1.out.keeps (Keeps.setCell (S:=fun b=>b=B.p) (Keeps.refl _ _) (p:=⟨B.p,5,none⟩) rfl (.int .i64 l.ticks)) (fun _ x hx e=>by have:=hnew x hx;omega)
  refine (HT.out _ a c hS.lk hb1 (fun x hx hc=>by have:=hnew x hx;rcases hc with e|e|e|e|e<;>omega) hnew).mono ?_
  rintro e V3 ⟨⟨a2,c2,rfl,hb2,hlo2⟩,hL,hK⟩
  have Hlo2:=hid hlo2
  clear hlo2
  have hS:=hS.next H.out hL hK
  clear HS Hb1 hb1 hL hK x0 x1 x2 x3 x4 x5 x6 xl c4 c5 f5 y9 yr q0 q1 q2 q3 q4 q5 z0 z1 z2 z3 z4 z5 hm0
  unfold hC
  go_upto_region 11 with fail
  have ylt3:=hS.lk.lt.1
  have hh0:=blk_new V3 (.cells (hC R a2 c2) 199)
  have hS:=hS.next0 ((Keeps.refl (fun _=>False) V3).alloc (.cells (hC R a2 c2) 199))
  have hb2:=hb2.keeps ((Keeps.refl (fun _=>False) V3).alloc (.cells (hC R a2 c2) 199)) (fun _ _ _=>id)
  simp only[hC] at hh0 hS hb2
  generalize World.alloc V3 _=V4 at *
  obtain ⟨xh0,xh1,xh2,xh3,xh4,xh5⟩:=bc6 0 1 2 3 4 5 hh0 ⟨rfl,rfl,rfl,rfl,rfl,rfl⟩
  have xhl:=blk_lt hh0
  have y9:=(hS).lk.lt
  have yr:=blk_lt (hS).res
  obtain ⟨z0,z1,z2,z3,z4,z5⟩:=bf6 (hS).res 0 1 2 3 4 5
  obtain ⟨q0,q1,q2,q3,q4,q5⟩:=bc6 0 1 2 3 4 5 (hS).res ⟨rfl,rfl,rfl,rfl,rfl,rfl⟩
  have c12:=hS.lk.c12
  have f12:=hS.lk.free 12
  have HS:=hid hS
  clear hS hb2
  go_wp2_with fail
  have HS:=hid (HS.out.next (V':=V4.setCell ⟨B.p,12,none⟩ (.int .i64 (l.stale+1))) (l':=⟨l.nonce,l.patience,st2,l.bye,l.ticks,l.ticks,ow2,ak2,nx2,ou2,l.good,l.bad,l.stale+1⟩) H.out (HS.out.lk.set 12 (.int .i64 (l.stale+1)) _ rfl rfl rfl) (Keeps.setCell (Keeps.refl _ _) (.inl rfl) _))
  have hF:=ResSt.fin (HS.out) H.out (.int .i64 ((⟨0,0,[],0,0,0⟩:Hrd)).kind) (.int .i64 ((⟨0,0,[],0,0,0⟩:Hrd)).frm) (.slice none ((⟨0,0,[],0,0,0⟩:Hrd)).ins.length 0) (.int .i64 ((⟨0,0,[],0,0,0⟩:Hrd)).frame) (.int .u32 ((⟨0,0,[],0,0,0⟩:Hrd)).sum) (.int .i64 ((⟨0,0,[],0,0,0⟩:Hrd)).lead)
  simp only at hF
  generalize World.setCell _ ⟨w.heap.size,5,none⟩ _=FW at *
  obtain ⟨hR2,hL2,hK2,hB2⟩:=hF
  have hload:=box_load _ _ _ _ hR2 6 rfl
  refine bodyPost_ret (v:=.tuple #[.agg (hC (⟨0,0,[],0,0,0⟩:Hrd) none 0),.int .i64 0]) (by simp[hC,results,Tryz.results102,asAddr,loadVar,loadCells,Tryz.isAgg199,Tryz.sizeOf199,hload]) rfl ?_
  exact ⟨⟨none,0,rfl,hB2 (bytes_nil _),(fun _ e=>nomatch e)⟩,hL2,hK2⟩
end
section
open Go.RowKit
set_option maxRecDepth 10000
variable {w:World}
theorem bk {w A C:World} {S:Nat→Prop} (h:Below w.heap.size w A) (hk:Keeps S A C) (hs:∀ k,S k→w.heap.size≤k):Below w.heap.size w C:=
 h.trans (hk.below h.size fun k h1 h2=>by have:=hs k h2;omega)
end
end Go.Proofs.YtalagblioepadaaGreatDoor
