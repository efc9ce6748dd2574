/- The proof, part 28. -/
import Derived.Test.YtalagblioepadaaGreatDoorZa25
import Derived.Test.YtalagblioepadaaGreatDoorZa11
import Derived.Shelf.RegionOpen
import Derived.LoopNIn
import Derived.LoopIn
import Derived.Test.YtalagblioepadaaGreatDoorZa01
namespace Go.Proofs.YtalagblioepadaaGreatDoor
section
open Go.RowKit
attribute [local go_sem] Oper.semAt_some
theorem fits_bad (L:List UInt8) (k:Nat) (h:k<L.length) (h2:63<L[k].toNat):fits L=false:=by
 unfold fits
 have:L.all (fun c=>decide (c.toNat≤63))=false:=by
  rw[List.all_eq_false]
  exact ⟨L[k],List.getElem_mem h,by simp;omega⟩
 rw[this];rfl
theorem fits_end (L:List UInt8) (h:∀ i (hi:i<L.length),L[i].toNat≤63):fits L=decide (L.length≤64):=by
 unfold fits
 have:L.all (fun c=>decide (c.toNat≤63))=true:=by
  rw[List.all_eq_true]
  intro c hc
  obtain ⟨i,hi,rfl⟩:=List.getElem_of_mem hc
  simpa using h i hi
 rw[this];rfl
theorem pack_Fits (w:World) (a:Option Addr) (cap:Nat) (L:List UInt8) (h:IsBytes w a cap L) :
  Calls Tryz.prog 266 #[.slice a L.length cap] w fun e w'=>e=.returned (.bool (fits L))∧w=w':=by
 have hm:L.length≤9223372036854775807:=Nat.le_trans h.1 h.2.1
 go_enter Tryz.func266,Tryz.ntmps266
 go_wp2
 go_loop [7] (fun i=>∃ k:Nat,k≤L.length∧i=.int .i64 k∧Hid (∀ i (hi:i<L.length),i<k→L[i].toNat≤63)) (fun i=>L.length-(intOf i).toNat)
 case atStart=>exact ⟨0,Nat.zero_le _,rfl,fun _ _ h=>absurd h (Nat.not_lt_zero _)⟩
 case round=>
  obtain ⟨k,hk,rfl,hall⟩:=hrel
  by_cases hlt:k<L.length
  ·obtain ⟨b,o,rfl,hc⟩:=h.at' (by intro e;rw[e] at hlt;simp at hlt)
   have hck:w.cell? ⟨b,o+k,none⟩=some (.int .u8 L[k].toNat):=hc k hlt
   clear hc
   by_cases hb:63<L[k].toNat
   ·have hbad:=hid (fits_bad L k hlt hb)
    go_wp2
    go_ret
    exact ⟨by rw[hbad.out];rfl,rfl⟩
   ·go_wp2
    go_round
    case rel=>exact ⟨k+1,by omega,by go_num,fun i hi h2=>by
     by_cases e:i=k
     ·subst e;omega
     ·exact hall i hi (by omega)⟩
    case measure=>simp[intOf];omega
  ·have hend:=hid (fits_end L fun i hi=>hall i hi (by omega))
   go_wp2
   go_ret
   exact ⟨by rw[hend.out];exact ret_bool (by simp;try omega),rfl⟩
theorem add_strings (w:World) (l m:List UInt8) (h:l.length+m.length≤9223372036854775807):(Op.stringOp .add ⟨l.toArray⟩ ⟨m.toArray⟩).run Tryz.prog w=.ok (.string ⟨(l++m).toArray⟩) w:=by
 have e:(ByteArray.mk l.toArray)++(ByteArray.mk m.toArray)=⟨(l++m).toArray⟩:=by apply ByteArray.ext;simp[ByteArray.data_append]
 have h2:=run_string_add_sum (P:=Tryz.prog) w ⟨l.toArray⟩ ⟨m.toArray⟩ (by simpa[ByteArray.size] using h)
 rw[e] at h2
 exact h2
def runR (c:UInt8) (n:Nat) (S:List UInt8) (i:Nat) (v:Value) (w:World):Prop:=
 match i with
 | 0=>v=.string ⟨S.toArray⟩
 | 1=>v=.int .u8 c.toNat
 | 2=>∃ B,v=.slice (some ⟨B,0,none⟩) 1 1∧w.cell? ⟨B,0,none⟩=some (.int .u8 c.toNat)
 | 3=>v=.string ⟨#[c]⟩
 | 4=>v=.int .i64 n
 | 5=>v=.int .u64 n
 | 6=>v=.string ⟨(num n).toArray⟩
 | 7=>v=.string ⟨(c :: num n).toArray⟩
 | 8=>v=.string ⟨(S++c :: num n).toArray⟩
 | _=>True
theorem runR_keeps {c:UInt8} {n:Nat} {S:List UInt8} {w w':World} (h:Keeps (fun _=>False) w w') (i:Nat) (v:Value) (hr:runR c n S i v w):runR c n S i v w':=by
 match i,hr with
 | 2,⟨B,h1,h2⟩=>exact ⟨B,h1,h.cell h2 id⟩
 | 0,hr|1,hr|3,hr|4,hr|5,hr|6,hr|7,hr|8,hr=>exact hr
 | _+9,_=>trivial
set_option maxHeartbeats 800000 in
theorem pack_Run (w:World) (a:Option Addr) (cap:Nat) (L:List UInt8) (h:IsBytes w a cap L) (hf:fits L=true) :
  Calls Tryz.prog 203 #[.slice a L.length cap] w fun e w'=>e=.returned (.tuple #[.string ⟨(runBytes L).toArray⟩,.int .i64 0])∧Below w.heap.size w w':=by
 have hl64:L.length≤64:=by unfold fits at hf;simp at hf;exact hf.2
 refine (callsIn_wide (n:=0)).1 ?_
 refine callsIn_of_wp_marks Tryz.func203 rfl trivial ?_ rfl
 simp only[Tryz.ntmps203,List.size_toArray,List.length_cons,List.length_nil,Nat.reduceAdd,Nat.reduceSub,Array.replicate_succ,Array.replicate_zero,List.push_toArray,List.append_toArray,List.nil_append,List.cons_append]
 have hf':=hid hf
 gi_wp2_with (fail)
 refine ⟨trivial,rfl,callsIn_wide.2 ((pack_Fits w a cap L h).mono ?_)⟩
 rintro e w' ⟨rfl,rfl⟩
 rw[hf]
 gi_wp2_with (fail)
 refine ⟨trivial,rfl,callsIn_wide.2 ((pack_Number L.length (by unfold two64;omega) _).mono ?_)⟩
 rintro e w1 ⟨rfl,hb1⟩
 gi_wp2_with (fail)
 refine ⟨trivial,rfl,callsIn_wide.2 ((pack_stretches _ a L.length cap).mono ?_)⟩
 rintro e w2 ⟨rfl,hw2⟩
 gi_wp2_with (fail)
 subst hw2
 have hLw:IsBytes ((w1.alloc (.cells #[.string ⟨(num L.length).toArray⟩] 9)).alloc (.cells #[.slice a L.length cap] 51)) a cap L:=
  h.keeps (S:=fun k=>w.heap.size≤k) (((Keeps.of_below hb1 (fun _ _ h=>h)).alloc _).alloc _) (fun hne x hx hge=>absurd (h.lt hne x hx) (Nat.not_lt.2 hge))
 refine wpIn_range (gf:=312) (lb:=#[.pointer (some ⟨w1.heap.size+1,0,none⟩)]) rfl (enters_of Tryz.func312 (by kernel_rfl) rfl)
  (fun _=>rfl) (runs L) (fun k=>k=w1.heap.size∨w1.heap.size+3<k) (fun k=>k=w1.heap.size+1)
  (stretches1 _ (w1.heap.size+1) (by simp) a cap L (by go_simp) (by go_simp) hLw _ (by omega) (fun hne x hx=>by have:=h.lt hne x hx;have:=hb1.size;simp;omega))
  (by simp;omega) (by simp;omega)
  (fun pre W=>W.cell? ⟨w1.heap.size,0,none⟩=some (.string ⟨(num L.length++runsBytes pre).toArray⟩)∧W.frozen? ⟨w1.heap.size,0,none⟩=false∧Below w.heap.size w W∧w1.heap.size+2≤W.heap.size)
  (fun pre A B ⟨i1,i2,i3,i4⟩ hsz hk=>⟨hk.cell i1 (fun h=>by simp at h;omega),(hk.frozen (p:=⟨w1.heap.size,0,none⟩) (World.block_lt_of_cell? A _ i1) (fun h=>by simp at h;omega)).trans i2,i3.trans (hk.below i3.size (fun k h1 h2=>by have:=hb1.size;simp at h2;omega)),Nat.le_trans i4 hk.size⟩)
  ⟨by simp only[runsBytes,List.flatMap_nil,List.append_nil];exact cell_past (cell_one_new' _ _ _) _,frozen_past (cell_one_new' _ _ _) (frozen_one_new _ _ _) _,(hb1.alloc hb1.size _).alloc (by have:=hb1.size;simp;omega) _,by simp⟩
  (fun x=>{ tmps:=#[.slice a L.length cap,undef,.string { data:=#[] },.int .i64 0,.pointer (some ⟨w1.heap.size,0,none⟩),.int .u8 x.1.toNat,.int .i64 x.2,.slice a L.length cap,.bool true,.bool false,.slice a L.length cap,.int .i64 L.length,.int .u64 L.length,.string ⟨(num L.length).toArray⟩,.slice a L.length cap,.func (.func 312) #[] #[.pointer (some ⟨w1.heap.size+1,0,none⟩)],.int .u8 x.1.toNat,.int .i64 x.2,undef,undef,undef,undef,undef,undef,undef,undef,undef,undef],defers:=[] })
  ?assign ?body ?done
 case assign=>
  intro l x W K hK
  gi_wp2
  exact hK
 case body=>
  rintro l pre ⟨c,n⟩ rest A hl hx ⟨hc,hfz,hbA,hsA⟩ hsA2
  have hn:n≤64:=Nat.le_trans (runs_le _ L (Nat.le_refl _) (c,n) (by rw[hx];simp)).2 hl64
  have hpl:=pre_len L hl64 pre _ hx
  have hnl:(num n).length≤10:=num_len10 n (by unfold two64;omega)
  simp only[List.length_append] at hpl
  have Hx:=hid hx
  clear hx
  have Hl:=hid hl
  have Hs:=hid hsA2
  clear hl hsA2
  have hx2:n<two64:=by unfold two64;omega
  have hwx:IntKind.u64.wrap (n:Int)=(n:Int):=u64_nat n hx2
  have Hx2:=hid hx2
  clear hx2
  have hmix:Tryz.prog.follows .mixedOrders=true:=by kernel_rfl
  gi_wp2
  gi_wp2
  refine round_rel l 9 hmix (by kernel_rfl)
   (fun vals=>{ tmps:=#[.slice a L.length cap,undef,.string { data:=#[] },.int .i64 0,.pointer (some ⟨w1.heap.size,0,none⟩),.int .u8 c.toNat,.int .i64 n,.slice a L.length cap,.bool true,.bool false,.slice a L.length cap,.int .i64 L.length,.int .u64 L.length,.string ⟨(num L.length).toArray⟩,.slice a L.length cap,.func (.func 312) #[] #[.pointer (some ⟨w1.heap.size+1,0,none⟩)],.int .u8 c.toNat,.int .i64 n,vals 0,vals 1,vals 2,vals 3,vals 4,vals 5,vals 6,vals 7,vals 8,undef],defers:=[] })
   (fun w=>Keeps (fun _=>False) A w) (runR c n (num L.length++runsBytes pre)) (fun _=>undef) rfl ((Keeps.refl _ A).drew) ?hrun ?hfin
  case hrun=>
   intro i o vals W hi ho hC hd
   have hcW:=hC.cell hc id
   match i,hi,ho,hd with
   | 0,_,ho,hd=>
    obtain rfl:=Option.some.inj ho
    clear hd
    go_simp
    exact ⟨.string ⟨(num L.length++runsBytes pre).toArray⟩,by simp[upd],rfl⟩
   | 1,_,ho,hd=>
    obtain rfl:=Option.some.inj ho
    clear hd
    go_simp
    exact ⟨.int .u8 c.toNat,by simp[upd],rfl⟩
   | 2,_,ho,hd=>
    obtain rfl:=Option.some.inj ho
    have q1:=hd ⟨1,.data⟩ (by simp) rfl
    simp only[runR] at q1
    clear hd
    go_simp
    exact ⟨.slice (some ⟨W.heap.size,0,none⟩) 1 1,by simp[upd,q1],⟨W.heap.size,rfl,by go_simp⟩,hC.alloc _,fun j u h=>runR_keeps ((Keeps.refl _ W).alloc _) j u h⟩
   | 3,_,ho,hd=>
    obtain rfl:=Option.some.inj ho
    have q2:=hd ⟨2,.data⟩ (by simp) rfl
    simp only[runR] at q2
    obtain ⟨B,q2,q3⟩:=q2
    have hcv:=conv1_at W B c q3
    clear hd
    go_simp
    exact ⟨.string ⟨#[c]⟩,by simp[upd,q2],rfl⟩
   | 4,_,ho,hd=>
    obtain rfl:=Option.some.inj ho
    clear hd
    go_simp
    exact ⟨.int .i64 n,by simp[upd],rfl⟩
   | 5,_,ho,hd=>
    obtain rfl:=Option.some.inj ho
    have q1:=hd ⟨4,.data⟩ (by simp) rfl
    simp only[runR] at q1
    clear hd
    go_simp
    exact ⟨.int .u64 n,by simp[upd,q1],rfl⟩
   | 6,_,ho,hd=>
    obtain rfl:=Option.some.inj ho
    have q1:=hd ⟨5,.data⟩ (by simp) rfl
    simp only[runR] at q1
    clear hd
    go_simp
    refine ⟨trivial,rfl,CallsIn.inRound l (callsIn_wide.2 ((pack_Number n Hx2.out _).mono ?_))⟩
    rintro e w3 ⟨rfl,hb3⟩
    exact ⟨.string ⟨(num n).toArray⟩,by simp[upd,q1],rfl,hC.then_below hb3,fun j u h=>runR_keeps ((Keeps.refl _ W).then_below hb3) j u h⟩
   | 7,_,ho,hd=>
    obtain rfl:=Option.some.inj ho
    have q1:=hd ⟨3,.data⟩ (by simp) rfl
    simp only[runR] at q1
    have q2:=hd ⟨6,.data⟩ (by simp) rfl
    simp only[runR] at q2
    have hadd:=add_strings W [c] (num n) (by simp;omega)
    clear hd
    go_simp
    exact ⟨.string ⟨(c :: num n).toArray⟩,by simp[upd,q1,q2],rfl⟩
   | 8,_,ho,hd=>
    obtain rfl:=Option.some.inj ho
    have q1:=hd ⟨0,.data⟩ (by simp) rfl
    simp only[runR] at q1
    have q2:=hd ⟨7,.data⟩ (by simp) rfl
    simp only[runR] at q2
    have hadd:=add_strings W (num L.length++runsBytes pre) (c :: num n) (by simp;omega)
    clear hd
    go_simp
    exact ⟨.string ⟨(num L.length++runsBytes pre++c :: num n).toArray⟩,by simp[upd,q1,q2],rfl⟩
  case hfin=>
   intro tl ht vals W hC hR
   obtain rfl:=Option.some.inj ht
   have q8:=hR 8 (by omega)
   simp only[runR] at q8
   have hcW:=hC.cell hc id
   have hfW:=(hC.frozen (p:=⟨w1.heap.size,0,none⟩) (by simp;omega) id).trans hfz
   go_simp
   have hk:Keeps (fun k=>k=w1.heap.size∨w1.heap.size+3<k) A (W.setCell ⟨w1.heap.size,0,none⟩ (.string ⟨(num L.length++(runsBytes pre++c :: num n)).toArray⟩)):=
    (hC.mono (fun _ _ h=>h.elim)).setCell (p:=⟨w1.heap.size,0,none⟩) (.inl rfl) _
   refine ⟨rfl,hk,?_,by rw[World.frozen?_setCell];exact hfW,?_,Nat.le_trans hsA hk.size⟩
   ·rw[runsBytes_snoc]
    exact World.cell?_setCell_same _ _ _ hcW
   ·exact hbA.trans (hk.below hbA.size (fun k h1 h2=>by have:=hb1.size;omega))
 case done=>
  rintro W ⟨hc,hfz,hbW,hsW⟩ hD
  gi_wp2
  refine ⟨by simp,.inl ⟨_,_,rfl,run_takeDeferred hD,?_⟩⟩
  refine ⟨_,results_tmp2 rfl _ _ _,rfl,?_⟩
  have hlt:=(Array.getElem?_eq_some_iff.1 hD).1
  exact hbW.trans (((Keeps.refl (fun k=>w.heap.size≤k) W).putObj (by have:=hb1.size;simp;omega) _).below hbW.size (fun k h1 h2=>by omega))
end
section
open Go.RowKit
set_option maxRecDepth 10000
def st (l:List UInt8) (left:Nat):Nat×Nat×Nat×Int:=
 match l with
 | []=>(0,0,0,3)
 | x :: r=>if 63<x.toNat then (0,0,0,4) else if (rdNum r).2.2≠0 then (0,0,0,(rdNum r).2.2) else
  if (rdNum r).1=0∨left<(rdNum r).1 then (0,0,0,4) else (x.toNat,(rdNum r).1,(rdNum r).2.1+1,0)
theorem toList_data (s:ByteArray):s.toList=s.data.toList:=ByteArray.toList_eq s
theorem results_tmp4 {fn:Func} {t u v x:Tmp} (h:fn.results=#[.tmp t,.tmp u,.tmp v,.tmp x]) (tmps:Array Value) (P:Program) (w:World) :
  (results fn tmps).run P w=.ok (.tuple #[tmps.getD t undef,tmps.getD u undef,tmps.getD v undef,tmps.getD x undef]) w:=by
 simp[results,h]
theorem pack_stretch (s:ByteArray) (hs:s.size≤maxLen) (left:Nat) (hleft:left≤64) (w:World) :
  Calls Tryz.prog 303 #[.string s,.int .i64 left] w fun e w'=>
   e=.returned (.tuple #[.int .u8 ((st s.data.toList left).1:Int),.int .i64 ((st s.data.toList left).2.1:Int),.int .i64 ((st s.data.toList left).2.2.1:Int),.int .i64 (st s.data.toList left).2.2.2])∧w=w':=by
 unfold maxLen at hs
 by_cases h0:s.size=0
 ·have hst:st s.data.toList left=(0,0,0,3):=by
   have:s.data.toList=[]:=List.length_eq_zero_iff.1 (by simpa using h0)
   rw[this];rfl
  have Hst:=hid hst
  have hne:s.toList.isEmpty=true:=by
   rw[toList_data,show s.data.toList=[] from List.length_eq_zero_iff.1 (by simpa using h0)];rfl
  clear hst h0
  go_enter Tryz.func303,Tryz.ntmps303
  go_wp2
  try simp only[Exit.inBlock,Exit.then]
  refine bodyPost_ret (results_tmp4 rfl _ _ _) rfl ?_
  exact ⟨by rw[Hst.out];rfl,rfl⟩
 ·have hpos:0<s.size:=by omega
  have hd:s.data.toList=s[0] :: s.data.toList.drop 1:=by
   have h2:0<s.data.toList.length:=by simpa using hpos
   have:=List.drop_eq_getElem_cons h2
   rw[List.drop_zero] at this
   exact this
  have hne:s.toList.isEmpty=false:=by rw[toList_data,hd];rfl
  have hst:st s.data.toList left=if 63<s[0].toNat then (0,0,0,4) else if (rdNum (s.data.toList.drop 1)).2.2≠0 then (0,0,0,(rdNum (s.data.toList.drop 1)).2.2) else
    if (rdNum (s.data.toList.drop 1)).1=0∨left<(rdNum (s.data.toList.drop 1)).1 then (0,0,0,4) else (s[0].toNat,(rdNum (s.data.toList.drop 1)).1,(rdNum (s.data.toList.drop 1)).2.1+1,0):=by
   rw[hd];rfl
  have hex:(s.extract 1 s.size).data.toList=s.data.toList.drop 1:=extract_end s 1
  have hexs:(s.extract 1 s.size).size≤maxLen:=by simp;unfold maxLen;omega
  have hin:=rd_in (s.data.toList.drop 1)
  clear hd h0
  by_cases hb:63<s[0].toNat
  ·rw[if_pos hb] at hst
   have Hst:=hid hst
   clear hst hex hin
   go_enter Tryz.func303,Tryz.ntmps303
   go_wp2
   try simp only[Exit.inBlock,Exit.then]
   refine bodyPost_ret (results_tmp4 rfl _ _ _) rfl ?_
   exact ⟨by rw[Hst.out];rfl,rfl⟩
  ·rw[if_neg hb] at hst
   have Hst:=hid hst
   clear hst
   have hx2:¬ (63:Int)<(s[0].toNat:Int):=by omega
   have hrd:=pack_ReadNumber (s.extract 1 s.size) hexs
   rw[hex] at hrd
   generalize s.data.toList.drop 1=r at *
   clear hex hexs
   have hlw:IntKind.u64.wrap (left:Int)=(left:Int):=u64_nat _ (by unfold two64;omega)
   have hin1:=hin.1
   unfold two64 at hin1
   have hin2:=hin.2.1
   have hin3:=hin.2.2
   clear hin
   by_cases he:(rdNum r).2.2=0
   ·rw[if_neg (by simpa using he)] at Hst
    generalize hR:rdNum r=R at *
    obtain ⟨n,k,e⟩:=R
    simp only at he hin1 hin2 hin3 Hst hrd
    subst he
    clear hR
    by_cases h1:n=0
    ·rw[if_pos (.inl h1)] at Hst
     subst h1
     go_enter Tryz.func303,Tryz.ntmps303
     go_wp2_with fail
     refine (hrd w).mono ?_
     rintro e w' ⟨rfl,rfl⟩
     go_wp2
     try simp only[Exit.inBlock,Exit.then]
     refine bodyPost_ret (results_tmp4 rfl _ _ _) rfl ?_
     exact ⟨by rw[Hst.out];rfl,rfl⟩
    ·by_cases h2:left<n
     ·rw[if_pos (.inr h2)] at Hst
      go_enter Tryz.func303,Tryz.ntmps303
      go_wp2_with fail
      refine (hrd w).mono ?_
      rintro e w' ⟨rfl,rfl⟩
      go_wp2
      try simp only[Exit.inBlock,Exit.then]
      refine bodyPost_ret (results_tmp4 rfl _ _ _) rfl ?_
      exact ⟨by rw[Hst.out];rfl,rfl⟩
     ·rw[if_neg (by omega)] at Hst
      go_enter Tryz.func303,Tryz.ntmps303
      go_wp2_with fail
      refine (hrd w).mono ?_
      rintro e w' ⟨rfl,rfl⟩
      go_wp2
      try simp only[Exit.inBlock,Exit.then]
      refine bodyPost_ret (results_tmp4 rfl _ _ _) rfl ?_
      exact ⟨by rw[Hst.out];rfl,rfl⟩
   ·rw[if_pos he] at Hst
    have hq:((rdNum r).2.2 == 0)=false:=by rw[beq_eq_false_iff_ne];exact he
    clear he
    go_enter Tryz.func303,Tryz.ntmps303
    go_wp2_with fail
    refine (hrd w).mono ?_
    rintro e w' ⟨rfl,rfl⟩
    go_wp2
    try simp only[Exit.inBlock,Exit.then]
    refine bodyPost_ret (results_tmp4 rfl _ _ _) rfl ?_
    exact ⟨by rw[Hst.out];rfl,rfl⟩
end
section
open Go.RowKit
set_option maxRecDepth 10000
theorem rdRun_err (l:List UInt8) (h:(rdNum l).2.2≠0):rdRun l=([],0,(rdNum l).2.2):=by unfold rdRun;rw[if_pos h]
theorem rdRun_long (l:List UInt8) (h:(rdNum l).2.2=0) (h2:64<(rdNum l).1):rdRun l=([],0,5):=by unfold rdRun;rw[if_neg (by simpa using h),if_pos h2]
theorem rdRun_go (l:List UInt8) (h:(rdNum l).2.2=0) (h2:¬ 64<(rdNum l).1):rdRun l=rr l (rdNum l).1 [] (rdNum l).2.1:=by unfold rdRun;rw[if_neg (by simpa using h),if_neg h2]
theorem st_err (l:List UInt8) (count:Nat) (out:List UInt8) (k:Nat) (h:¬ count≤out.length) (hlast:∀ x,(l.drop k).head?=some x→out.getLast?≠some x) (he:(st (l.drop k) (count-out.length)).2.2.2≠0) :
  rr l count out k=([],0,(st (l.drop k) (count-out.length)).2.2.2):=by
 cases hd:l.drop k with
 | nil=>rw[rr_short _ _ _ _ h hd];rfl
 | cons x r=>
  rw[hd] at he hlast
  have hl:=hlast x rfl
  by_cases h1:63<x.toNat
  ·rw[rr_form _ _ _ _ h x r hd (.inl h1)]
   simp only[st,if_pos h1]
  ·by_cases h2:(rdNum r).2.2=0
   ·by_cases h3:(rdNum r).1=0∨count-out.length<(rdNum r).1
    ·rw[rr_size _ _ _ _ h x r hd (by simp[hl,h1]) h2 h3]
     simp only[st,if_neg h1,if_neg (not_not_intro h2),if_pos h3]
    ·simp only[st,if_neg h1,if_neg (not_not_intro h2),if_neg h3] at he
     exact absurd rfl he
   ·rw[rr_err _ _ _ _ h x r hd (by simp[hl,h1]) h2]
    simp only[st,if_neg h1,if_pos h2]
theorem st_ok (l:List UInt8) (count:Nat) (out:List UInt8) (k:Nat) (h:¬ count≤out.length) (hlast:∀ x,(l.drop k).head?=some x→out.getLast?≠some x) (he:(st (l.drop k) (count-out.length)).2.2.2=0) :
  ∃ x n m,st (l.drop k) (count-out.length)=(x.toNat,n,m,0)∧rr l count out k=rr l count (out++List.replicate n x) (k+m)∧1≤n∧n≤count-out.length∧k+m≤l.length:=by
 cases hd:l.drop k with
 | nil=>rw[hd] at he;cases he
 | cons x r=>
  rw[hd] at he hlast
  have hl:=hlast x rfl
  have hlen:=congrArg List.length hd
  simp only[List.length_drop,List.length_cons] at hlen
  have hin:=(rd_in r).2.1
  by_cases h1:63<x.toNat
  ·simp only[st,if_pos h1] at he
   cases he
  ·by_cases h2:(rdNum r).2.2=0
   ·by_cases h3:(rdNum r).1=0∨count-out.length<(rdNum r).1
    ·simp only[st,if_neg h1,if_neg (not_not_intro h2),if_pos h3] at he
     cases he
    ·refine ⟨x,(rdNum r).1,(rdNum r).2.1+1,?_,?_,by omega,by omega,by omega⟩
     ·simp only[st,if_neg h1,if_neg (not_not_intro h2),if_neg h3]
     ·rw[rr_on _ _ _ _ h x r hd (by simp[hl,h1]) h2 h3,show k+1+(rdNum r).2.1=k+((rdNum r).2.1+1) by omega]
   ·simp only[st,if_neg h1,if_pos h2] at he
    exact absurd he h2
theorem own_bytes {w:World} {base:Nat} {v:Value} {L:List UInt8} (h:w.ownsRow base 5 1 v L.length (L.map byteV)):∃ a cap,v=.slice a L.length cap∧IsBytes w a cap L:=by
 rcases id h.2 with ⟨rfl,h0⟩|⟨g,cap,cur,rfl,_,_,h1,h2,_⟩
 ·refine ⟨none,0,by rw[h0],by omega,Nat.zero_le _,.inl (List.length_eq_zero_iff.1 h0)⟩
 ·refine ⟨_,cap,rfl,h1,h2,.inr ⟨g,0,rfl,fun i hi=>?_⟩⟩
  rw[Nat.zero_add,h.cellAt i (by omega)]
  simp[hi]
def slLen:Value→Nat|.slice _ n _=>n|_=>0
theorem own_len {w:World} {base n:Nat} {v:Value} {l:List Value} (h:w.ownsRow base 5 1 v n l):slLen v=n:=by
 rcases id h.2 with ⟨rfl,h0⟩|⟨g,cap,cur,rfl,_⟩
 ·exact h0.symm
 ·rfl
theorem own_snoc2 {w:World} {base n:Nat} {v:Value} {acc:List UInt8} {x:Int} (c:UInt8) (hn:n=acc.length+1) (h:w.ownsRow base 5 1 v n (acc.map byteV++[.int .u8 x])) (hx:x=c.toNat) :
  w.ownsRow base 5 1 v (acc++[c]).length ((acc++[c]).map byteV):=by
 subst hn
 exact own_snoc c h hx
end
section
open Go.RowKit
set_option maxRecDepth 10000
def ReadsRun (w:World) (l:List UInt8) (e:Ending) (w':World):Prop:=
 ∃ v,e=.returned (.tuple #[v,.int .i64 ((rdRun l).2.1:Int),.int .i64 (rdRun l).2.2])∧w'.ownsRow w.heap.size 5 1 v (rdRun l).1.length ((rdRun l).1.map byteV)∧Below w.heap.size w w'
theorem reads_err {w w':World} {l:List UInt8} {e:Int} (h:rdRun l=([],0,e)) (hb:Below w.heap.size w w'):ReadsRun w l (.returned (.tuple #[.slice none 0 0,.int .i64 0,.int .i64 e])) w':=
 ⟨.slice none 0 0,by rw[h];rfl,by rw[h];exact World.ownsRow_nil _ _ _ _,hb⟩
theorem reads_ok {w w':World} {l out:List UInt8} {v:Value} {k:Nat} (h:rdRun l=(out,k,0)) (ho:w'.ownsRow w.heap.size 5 1 v out.length (out.map byteV)) (hb:Below w.heap.size w w'):ReadsRun w l (.returned (.tuple #[v,.int .i64 (k:Int),.int .i64 0])) w':=
 ⟨v,by rw[h],by rw[h];exact ho,hb⟩
set_option maxHeartbeats 1000000 in
theorem pack_ReadRun (s:ByteArray) (hs:s.size≤maxLen) (w:World) :
  Calls Tryz.prog 243 #[.string s] w (ReadsRun w s.data.toList):=by
 obtain ⟨i0,hi,hz0,hz1,hz2⟩:=info_parts info_u8
 have hrd:=pack_ReadNumber s hs w
 unfold maxLen at hs
 have hin:=rd_in s.data.toList
 by_cases h1:(rdNum s.data.toList).2.2=0
 case neg=>
  have hr:=hid (rdRun_err _ h1)
  have hq:((rdNum s.data.toList).2.2 == 0)=false:=by rw[beq_eq_false_iff_ne];exact h1
  clear h1 hin
  go_enter Tryz.func243,Tryz.ntmps243
  go_wp2_with fail
  refine (hrd).mono ?_
  rintro e w' ⟨rfl,rfl⟩
  clear hrd
  go_wp2
  go_ret3
  exact reads_err hr.out (Below.refl _ _)
 by_cases h2:64<(rdNum s.data.toList).1
 ·have hr:=hid (rdRun_long _ h1 h2)
  have hu:=hin.1
  unfold two64 at hu
  clear hin
  rw[h1] at hrd
  go_enter Tryz.func243,Tryz.ntmps243
  go_wp2_with fail
  refine (hrd).mono ?_
  rintro e w' ⟨rfl,rfl⟩
  clear hrd
  go_wp2
  go_ret3
  exact reads_err hr.out (Below.refl _ _)
 have hr:=hid (rdRun_go _ h1 h2)
 rw[h1] at hrd
 have hk0:(rdNum s.data.toList).2.1≤s.size:=by simpa using hin.2.1
 clear h1 hin
 generalize (rdNum s.data.toList).2.1=k0 at *
 generalize (rdNum s.data.toList).1=count at *
 go_enter Tryz.func243,Tryz.ntmps243
 go_wp2_with fail
 refine (hrd).mono ?_
 rintro e w' ⟨rfl,rfl⟩
 clear hrd
 go_wp2_with fail
 go_loopw [6,8] (fun at' v wr=>∃ (k:Nat) (out:List UInt8),at'=.int .i64 k∧k≤s.size∧out.length≤count∧Hid (rdRun s.data.toList=rr s.data.toList count out k)∧wr.ownsRow w.heap.size 5 1 v out.length (out.map byteV)∧Below w.heap.size w wr)
  (fun _ v _=>count-slLen v)
 case atStart=>exact ⟨k0,[],rfl,hk0,Nat.zero_le _,hr,World.ownsRow_nil _ _ _ _,Below.refl _ _⟩
 case round=>
  clear hr
  obtain ⟨k,out,rfl,hk,hoc,hr,hown,hb⟩:=hrel
  obtain ⟨a,cap,rfl,hIB⟩:=own_bytes hown
  have hwc0:IntKind.i64.wrap (count:Int)=(count:Int):=IntWalk.i64_in _ (by omega)
  by_cases hend:count≤out.length
  ·have Hr:=hid (hr.out.trans (rr_end _ _ _ _ hend))
   clear hIB
   go_wp2
   go_ret3
   exact reads_ok Hr.out hown hb
  by_cases ho:out.length=0
  ·have Hlast:=hid (show ∀ x,(s.data.toList.drop k).head?=some x→out.getLast?≠some x from fun x _ h=>by
    rw[List.length_eq_zero_iff.1 ho] at h;cases h)
   have hown0:wr.ownsRow w.heap.size 5 1 (.slice a 0 cap) out.length (out.map byteV):=by
    rw[show Value.slice a 0 cap=.slice a out.length cap by rw[ho]]
    exact hown
   clear hIB
   go_wp2
   go_quiet (fail)
   obtain ⟨left,hleft⟩:∃ left,left=count-out.length:=⟨_,rfl⟩
   have hexs:(s.extract k s.size).size≤maxLen:=by simp;unfold maxLen;omega
   have hst:=pack_stretch (s.extract k s.size) hexs left (by omega) (wr.drewN nq)
   rw[extract_end,show (left:Int)=(count:Int) by omega] at hst
   have hcnt:¬ count≤out.length:=by omega
   have hwc:IntKind.i64.wrap (count:Int)=(count:Int):=IntWalk.i64_in _ (by omega)
   by_cases he:(st (s.data.toList.drop k) left).2.2.2=0
   ·obtain ⟨x,n,m,hx,hrr,hn1,hn2,hkm⟩:=st_ok s.data.toList count out k hcnt Hlast.out (hleft▸he)
    rw[←hleft] at hx hn2
    rw[hx] at hst
    have Hrr:=hid (hr.out.trans hrr)
    have hsl:k+m≤s.size:=by simpa using hkm
    have Hst:=hid hst
    have Hleft:=hid hleft
    clear hx hrr he hkm hst hleft
    go_wp2_with fail
    refine Hst.out.mono ?_
    rintro e w' ⟨rfl,rfl⟩
    clear Hst
    go_wp2
    go_loopw [8,70] (fun v i w2=>∃ j:Nat,j≤n∧i=.int .i64 j∧w2.ownsRow w.heap.size 5 1 v (out++List.replicate j x).length ((out++List.replicate j x).map byteV)∧Below w.heap.size w w2)
     (fun _ i _=>n-(intOf i).toNat)
    case atStart=>exact ⟨0,Nat.zero_le _,rfl,by rw[List.replicate_zero,List.append_nil];exact hown0,⟨hb.1,hb.2,hb.3,hb.4,hb.5⟩⟩
    case round=>
     clear hown hown0 hb
     obtain ⟨j,hj,rfl,hown,hb⟩:=hrel
     have hol:(out++List.replicate j x).length=out.length+j:=by simp
     have hle:out.length+n≤count:=by have:=Hleft.out;omega
     generalize hacc:out++List.replicate j x=acc at *
     have Hacc:=hid hacc
     clear hacc
     by_cases hjn:j<n
     ·go_wp2_with (at_builtin;refine wpList_append_own _ rfl (.tmp 72) (.tmp 74) 51 rfl w.heap.size 5 i0 (.int .u8 0) 1 1 Tryz.underlying51 hi hz0 hz1 hz2 rfl (by decide) _ _ _ rfl (hown.alloc _) ⟨wr.heap.size,0,none⟩ 1 1 [.int .u8 (x.toNat:Int)] rfl rfl (cell_one_new _ _ _) (by simp[Value.oneCell']) (by unfold maxLen;omega) (by omega) (by have:=hb.size;simp;omega) ?_)
      intro v' w1 hown' hgrow _
      have hb1:Below w.heap.size w w1:=(hb.alloc hb.size _).grown hgrow (by simpa using Nat.le_succ_of_le hb.size) (fun k e=>((hown.alloc (.cells #[.int .u8 (x.toNat:Int)] 5)).lt k e).1)
      have hown2:=own_snoc2 x (by omega) hown' rfl
      clear hown' hgrow hown
      go_wp2
      go_roundw
      case rel=>exact ⟨j+1,by omega,by go_num,by rw[List.replicate_succ',←List.append_assoc,Hacc.out];exact hown2,hb1⟩
      case measure=>simp[intOf];omega
     ·obtain rfl:j=n:=by omega
      go_wp2
      go_roundw
      case rel=>exact ⟨k+m,acc,by go_num,hsl,by omega,Hrr.out.trans (by rw[Hacc.out]),hown,hb⟩
      case measure=>
       have hsl:=own_len hown
       have hlf:=Hleft.out
       simp[slLen] at hsl ⊢
       omega
   ·have hrr:=st_err s.data.toList count out k hcnt Hlast.out (hleft▸he)
    rw[←hleft] at hrr
    have Hrr:=hid (hr.out.trans hrr)
    have hq:((st (s.data.toList.drop k) left).2.2.2 == 0)=false:=by rw[beq_eq_false_iff_ne];exact he
    have Hst:=hid hst
    clear hrr he hst hleft
    go_wp2_with fail
    refine Hst.out.mono ?_
    rintro e w' ⟨rfl,rfl⟩
    clear Hst
    go_wp2
    go_ret3
    exact reads_err Hrr.out ⟨hb.1,hb.2,hb.3,hb.4,hb.5⟩
  ·have hone:out≠[]:=fun e=>ho (by rw[e];rfl)
   obtain ⟨b,o,rfl,hc⟩:=hIB.at' hone
   have hck:wr.cell? ⟨b,o+(out.length-1),none⟩=some (.int .u8 out[out.length-1].toNat):=hc _ (by omega)
   have hlst:out.getLast?=some out[out.length-1]:=by rw[List.getLast?_eq_getElem?,List.getElem?_eq_getElem]
   have hix:(out.length:Int)-1=((out.length-1:Nat):Int):=by omega
   clear hc hIB
   have hown0:=hown
   have hpos:0<out.length:=by omega
   by_cases hks:k<s.size
   ·have hd:s.data.toList.drop k=s[k] :: s.data.toList.drop (k+1):=by
     rw[List.drop_eq_getElem_cons (by simpa using hks)];rfl
    by_cases heq:s[k]=out[out.length-1]
    ·have Hr:=hid (hr.out.trans (rr_form _ _ _ _ hend _ _ hd (.inr (by rw[hlst,heq]))))
     have hq:((s[k].toNat:Int) == (out[out.length-1].toNat:Int))=true:=by rw[beq_iff_eq,heq]
     clear hd hlst heq
     go_wp2
     go_quiet (fail)
     go_wp2
     go_ret3
     exact reads_err Hr.out ⟨hb.1,hb.2,hb.3,hb.4,hb.5⟩
    ·have hq:((s[k].toNat:Int) == (out[out.length-1].toNat:Int))=false:=by
      rw[beq_eq_false_iff_ne]
      intro h
      exact heq (UInt8.toNat_inj.1 (by omega))
     have Hlast:=hid (show ∀ x,(s.data.toList.drop k).head?=some x→out.getLast?≠some x from fun x h h2=>by
      rw[hd] at h
      rw[hlst] at h2
      exact heq (by simp at h h2;rw[h,h2]))
     clear hd hlst heq
     go_wp2
     go_quiet (fail)
     obtain ⟨left,hleft⟩:∃ left,left=count-out.length:=⟨_,rfl⟩
     have hexs:(s.extract k s.size).size≤maxLen:=by simp;unfold maxLen;omega
     have hst:=pack_stretch (s.extract k s.size) hexs left (by omega) (wr.drewN nq)
     rw[extract_end,show (left:Int)=(count:Int)-(out.length:Int) by omega] at hst
     have hcnt:¬ count≤out.length:=by omega
     have hwc:IntKind.i64.wrap (count:Int)=(count:Int):=IntWalk.i64_in _ (by omega)
     by_cases he:(st (s.data.toList.drop k) left).2.2.2=0
     ·obtain ⟨x,n,m,hx,hrr,hn1,hn2,hkm⟩:=st_ok s.data.toList count out k hcnt Hlast.out (hleft▸he)
      rw[←hleft] at hx hn2
      rw[hx] at hst
      have Hrr:=hid (hr.out.trans hrr)
      have hsl:k+m≤s.size:=by simpa using hkm
      have Hst:=hid hst
      have Hleft:=hid hleft
      clear hx hrr he hkm hst hleft
      go_wp2_with fail
      refine Hst.out.mono ?_
      rintro e w' ⟨rfl,rfl⟩
      clear Hst
      go_wp2
      go_loopw [8,70] (fun v i w2=>∃ j:Nat,j≤n∧i=.int .i64 j∧w2.ownsRow w.heap.size 5 1 v (out++List.replicate j x).length ((out++List.replicate j x).map byteV)∧Below w.heap.size w w2)
       (fun _ i _=>n-(intOf i).toNat)
      case atStart=>exact ⟨0,Nat.zero_le _,rfl,by rw[List.replicate_zero,List.append_nil];exact hown0,⟨hb.1,hb.2,hb.3,hb.4,hb.5⟩⟩
      case round=>
       clear hown hown0 hb
       obtain ⟨j,hj,rfl,hown,hb⟩:=hrel
       have hol:(out++List.replicate j x).length=out.length+j:=by simp
       have hle:out.length+n≤count:=by have:=Hleft.out;omega
       generalize hacc:out++List.replicate j x=acc at *
       have Hacc:=hid hacc
       clear hacc
       by_cases hjn:j<n
       ·go_wp2_with (at_builtin;refine wpList_append_own _ rfl (.tmp 72) (.tmp 74) 51 rfl w.heap.size 5 i0 (.int .u8 0) 1 1 Tryz.underlying51 hi hz0 hz1 hz2 rfl (by decide) _ _ _ rfl (hown.alloc _) ⟨wr.heap.size,0,none⟩ 1 1 [.int .u8 (x.toNat:Int)] rfl rfl (cell_one_new _ _ _) (by simp[Value.oneCell']) (by unfold maxLen;omega) (by omega) (by have:=hb.size;simp;omega) ?_)
        intro v' w1 hown' hgrow _
        have hb1:Below w.heap.size w w1:=(hb.alloc hb.size _).grown hgrow (by simpa using Nat.le_succ_of_le hb.size) (fun k e=>((hown.alloc (.cells #[.int .u8 (x.toNat:Int)] 5)).lt k e).1)
        have hown2:=own_snoc2 x (by omega) hown' rfl
        clear hown' hgrow hown
        go_wp2
        go_roundw
        case rel=>exact ⟨j+1,by omega,by go_num,by rw[List.replicate_succ',←List.append_assoc,Hacc.out];exact hown2,hb1⟩
        case measure=>simp[intOf];omega
       ·obtain rfl:j=n:=by omega
        go_wp2
        go_roundw
        case rel=>exact ⟨k+m,acc,by go_num,hsl,by omega,Hrr.out.trans (by rw[Hacc.out]),hown,hb⟩
        case measure=>
         have hsl:=own_len hown
         have hlf:=Hleft.out
         simp[slLen] at hsl ⊢
         omega
     ·have hrr:=st_err s.data.toList count out k hcnt Hlast.out (hleft▸he)
      rw[←hleft] at hrr
      have Hrr:=hid (hr.out.trans hrr)
      have hq:((st (s.data.toList.drop k) left).2.2.2 == 0)=false:=by rw[beq_eq_false_iff_ne];exact he
      have Hst:=hid hst
      clear hrr he hst hleft
      go_wp2_with fail
      refine Hst.out.mono ?_
      rintro e w' ⟨rfl,rfl⟩
      clear Hst
      go_wp2
      go_ret3
      exact reads_err Hrr.out ⟨hb.1,hb.2,hb.3,hb.4,hb.5⟩
   ·have Hlast:=hid (show ∀ x,(s.data.toList.drop k).head?=some x→out.getLast?≠some x from fun x h=>by
     rw[List.drop_eq_nil_of_le (by simp;omega)] at h
     cases h)
    clear hlst
    go_wp2
    go_quiet (fail)
    obtain ⟨left,hleft⟩:∃ left,left=count-out.length:=⟨_,rfl⟩
    have hexs:(s.extract k s.size).size≤maxLen:=by simp;unfold maxLen;omega
    have hst:=pack_stretch (s.extract k s.size) hexs left (by omega) (wr.drewN nq)
    rw[extract_end,show (left:Int)=(count:Int)-(out.length:Int) by omega] at hst
    have hcnt:¬ count≤out.length:=by omega
    have hwc:IntKind.i64.wrap (count:Int)=(count:Int):=IntWalk.i64_in _ (by omega)
    by_cases he:(st (s.data.toList.drop k) left).2.2.2=0
    ·obtain ⟨x,n,m,hx,hrr,hn1,hn2,hkm⟩:=st_ok s.data.toList count out k hcnt Hlast.out (hleft▸he)
     rw[←hleft] at hx hn2
     rw[hx] at hst
     have Hrr:=hid (hr.out.trans hrr)
     have hsl:k+m≤s.size:=by simpa using hkm
     have Hst:=hid hst
     have Hleft:=hid hleft
     clear hx hrr he hkm hst hleft
     go_wp2_with fail
     refine Hst.out.mono ?_
     rintro e w' ⟨rfl,rfl⟩
     clear Hst
     go_wp2
     go_loopw [8,70] (fun v i w2=>∃ j:Nat,j≤n∧i=.int .i64 j∧w2.ownsRow w.heap.size 5 1 v (out++List.replicate j x).length ((out++List.replicate j x).map byteV)∧Below w.heap.size w w2)
      (fun _ i _=>n-(intOf i).toNat)
     case atStart=>exact ⟨0,Nat.zero_le _,rfl,by rw[List.replicate_zero,List.append_nil];exact hown0,⟨hb.1,hb.2,hb.3,hb.4,hb.5⟩⟩
     case round=>
      clear hown hown0 hb
      obtain ⟨j,hj,rfl,hown,hb⟩:=hrel
      have hol:(out++List.replicate j x).length=out.length+j:=by simp
      have hle:out.length+n≤count:=by have:=Hleft.out;omega
      generalize hacc:out++List.replicate j x=acc at *
      have Hacc:=hid hacc
      clear hacc
      by_cases hjn:j<n
      ·go_wp2_with (at_builtin;refine wpList_append_own _ rfl (.tmp 72) (.tmp 74) 51 rfl w.heap.size 5 i0 (.int .u8 0) 1 1 Tryz.underlying51 hi hz0 hz1 hz2 rfl (by decide) _ _ _ rfl (hown.alloc _) ⟨wr.heap.size,0,none⟩ 1 1 [.int .u8 (x.toNat:Int)] rfl rfl (cell_one_new _ _ _) (by simp[Value.oneCell']) (by unfold maxLen;omega) (by omega) (by have:=hb.size;simp;omega) ?_)
       intro v' w1 hown' hgrow _
       have hb1:Below w.heap.size w w1:=(hb.alloc hb.size _).grown hgrow (by simpa using Nat.le_succ_of_le hb.size) (fun k e=>((hown.alloc (.cells #[.int .u8 (x.toNat:Int)] 5)).lt k e).1)
       have hown2:=own_snoc2 x (by omega) hown' rfl
       clear hown' hgrow hown
       go_wp2
       go_roundw
       case rel=>exact ⟨j+1,by omega,by go_num,by rw[List.replicate_succ',←List.append_assoc,Hacc.out];exact hown2,hb1⟩
       case measure=>simp[intOf];omega
      ·obtain rfl:j=n:=by omega
       go_wp2
       go_roundw
       case rel=>exact ⟨k+m,acc,by go_num,hsl,by omega,Hrr.out.trans (by rw[Hacc.out]),hown,hb⟩
       case measure=>
        have hsl:=own_len hown
        have hlf:=Hleft.out
        simp[slLen] at hsl ⊢
        omega
    ·have hrr:=st_err s.data.toList count out k hcnt Hlast.out (hleft▸he)
     rw[←hleft] at hrr
     have Hrr:=hid (hr.out.trans hrr)
     have hq:((st (s.data.toList.drop k) left).2.2.2 == 0)=false:=by rw[beq_eq_false_iff_ne];exact he
     have Hst:=hid hst
     clear hrr he hst hleft
     go_wp2_with fail
     refine Hst.out.mono ?_
     rintro e w' ⟨rfl,rfl⟩
     clear Hst
     go_wp2
     go_ret3
     exact reads_err Hrr.out ⟨hb.1,hb.2,hb.3,hb.4,hb.5⟩
end
end Go.Proofs.YtalagblioepadaaGreatDoor
