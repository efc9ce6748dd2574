/- The proof, part 50. -/
import Derived.Test.YtalagblioepadaaGreatDoorZa49
import Derived.Test.YtalagblioepadaaGreatDoorZa21
namespace Go.Proofs.YtalagblioepadaaGreatDoor
section
open Go.RowKit
open Go.Maps
set_option maxRecDepth 100000
variable {w w':World} {B:BB} {u:SuP} {lo cnt:Nat}
theorem SpI.keep (h:SpI u lo cnt B w) (hk:Keeps (fun _=>False) w w'):SpI u lo cnt B w':=by
 obtain ⟨T,bad,g,cs,r,h⟩:=h
 exact ⟨T,bad,g,cs,r,(h.bt.keep hk).fit (fun j hj=>hj.1),Nat.le_trans h.lo hk.size,h.T,h.bad,h.lost,h.fly,h.n⟩
theorem sp_new {r:Rw} (h:BtR w (Zlo lo w) B ⟨newP u.seed u.d u.n u.pat u.ent u.voi,⟨[],[],0⟩⟩ r) (hr:∀ j,r.n j=0) (hl:lo≤w.heap.size):SpI u lo 0 B w:=
 ⟨fun _=>0,fun _=>0,fun _=>false,⟨[],[],0⟩,r,h,hl,fun _=>by omega,fun _=>by omega,by simp,(fun x hx=>by rcases hx with hx|hx<;>cases hx),fun k=>by rw[hr];exact Nat.le_refl _⟩
structure SpS (w:World) (B:BB) (k:Nat) (st bad:Int):Prop where
 peer:Calls Tryz.prog 15 #[.pointer (some ⟨B.b,0,none⟩),.int .i64 k] w fun e w'=>e=.returned (.pointer (some ⟨(B.p k).p,0,none⟩))∧w=w'
 link:∀ W,Keeps (fun _=>False) w W→Calls Tryz.prog 18 #[.pointer (some ⟨(B.p k).p,0,none⟩)] W fun e w'=>e=.returned (.pointer (some ⟨(B.p k).L.p,0,none⟩))∧W=w'
 counts:∀ W,Keeps (fun _=>False) w W→Calls Tryz.prog 19 #[.pointer (some ⟨(B.p k).L.p,0,none⟩)] W fun e w'=>e=.returned (.tuple #[.int .i64 0,.int .i64 bad,.int .i64 0])∧∃ q,w'=W.drewN q
 state:∀ W,Keeps (fun _=>False) w W→Calls Tryz.prog 20 #[.pointer (some ⟨(B.p k).L.p,0,none⟩)] W fun e w'=>e=.returned (.int .i64 st)∧W=w'
 core:∀ W,Keeps (fun _=>False) w W→Calls Tryz.prog 21 #[.pointer (some ⟨(B.p k).p,0,none⟩)] W fun e w'=>e=.returned (.pointer (some ⟨(B.p k).c.c,0,none⟩))∧W=w'
 current:∀ W,Keeps (fun _=>False) w W→Calls Tryz.prog 22 #[.pointer (some ⟨(B.p k).c.c,0,none⟩)] W fun e w'=>e=.returned (.int .i64 0)∧W=w'
 stream:∀ W,Keeps (fun _=>False) w W→Calls Tryz.prog 11 #[.pointer (some ⟨B.b,0,none⟩),.int .i64 k] W fun e w'=>e=.returned (.slice none 0 0)∧W=w'
theorem sp_says (h:SpI u lo cnt B w) (k:Nat) (hk:k<2):∃ st bad,(st == (1:Int))=false∧SpS w B k st bad:=by
 obtain ⟨T,bad,g,cs,r,h⟩:=h
 have hp:∀ W,Keeps (fun _=>False) w W→IsPeer W (B.p k) (spP u k (T k) (bad k) (g k)):=fun W hW=>(h.bt.keep hW).peer hk
 refine ⟨if g k then 2 else 0,bad k,?_,bo_Peer h.bt k hk,fun W hW=>pe_Link (hp W hW),fun W hW=>lk_Counts (hp W hW).link,fun W hW=>lk_State (hp W hW).link,fun W hW=>pe_Core (hp W hW),fun W hW=>co_Current (hp W hW).core,fun W hW=>bo_Stream (h.bt.keep hW) k hk⟩
 cases g k<;>rfl
theorem law_Spoilt_no (seed d n me0 non0 pat ent voi:Int) (la:Value) (hg:¬ goodS d n pat ent voi) (w:World):Calls Tryz.prog 5 #[.agg #[.int .u32 seed,.int .i64 d,.int .i64 n,.int .i64 me0,.int .u32 non0,.int .i64 pat,.int .i64 ent,.int .i64 voi],la] w fun e w'=>e=.returned (.bool true)∧Below w.heap.size w w':=by
 have HO:=hid (tp_open_no seed d n pat ent voi me0 non0 hg)
 clear hg
 have b0:=(Below.refl w.heap.size w).alloc (Nat.le_refl _) (.cells #[.int .u32 seed,.int .i64 d,.int .i64 n,.int .i64 me0,.int .u32 non0,.int .i64 pat,.int .i64 ent,.int .i64 voi] 26)
 have hX:=blk_new w (.cells #[.int .u32 seed,.int .i64 d,.int .i64 n,.int .i64 me0,.int .u32 non0,.int .i64 pat,.int .i64 ent,.int .i64 voi] 26)
 go_enter Tryz.func5,Tryz.ntmps5
 go_wp2_with fail
 generalize World.alloc w _=w0 at *
 refine (tp_awake w0).mono ?_
 rintro e w1 ⟨rfl,hb1⟩
 have hbb:=b0.trans (hb1.mono b0.size)
 have hX1:=(Keeps.of_below (S:=fun _=>False) hb1 (fun k h1 h2=>by omega)).heap hX id
 clear hX b0 hb1
 obtain ⟨s0,s1,s2,s3,s4,s5,s6,s7⟩:=bc8 0 1 2 3 4 5 6 7 hX1 ⟨rfl,rfl,rfl,rfl,rfl,rfl,rfl,rfl⟩
 have hz1:=hbb.size
 go_wp2_with fail
 refine (HO.out w1).mono ?_
 rintro e w2 ⟨rfl,hb2⟩
 have hfin:=hbb.trans (hb2.mono hz1)
 clear hbb hb2 s0 s1 s2 s3 s4 s5 s6 s7 HO hX1
 go_wp2_with fail
 go_ret
 exact ⟨rfl,hfin⟩
structure SpR (w:World) (u:SuP) (lo k:Nat) (B:BB) (wr:World):Prop where
 sp:SpI u lo k B wr
 bl:Below w.heap.size w wr
theorem SpI.more (h:SpI u lo cnt B w) {c:Nat} (hc:cnt≤c):SpI u lo c B w:=by
 obtain ⟨T,bad,g,cs,r,h⟩:=h
 exact ⟨T,bad,g,cs,r,h.bt,h.lo,fun k=>by have:=h.T k;omega,fun k=>by have:=h.bad k;omega,by have:=h.lost;omega,h.fly,fun k=>Nat.le_trans (h.n k) hc⟩
theorem SpR.keep {k:Nat} {wr:World} (h:SpR w u lo k B wr) (hk:Keeps (fun _=>False) wr w'):SpR w u lo k B w':=
 ⟨h.sp.keep hk,h.bl.trans (hk.below h.bl.size (fun _ _ e=>e))⟩
theorem turn_by {x:Int} (h:0≤x∧x<256):0<(1+x.tmod 255)%256∧(1+x.tmod 255)%256<256:=by
 rw[Int.tmod_eq_emod_of_nonneg h.1]
 omega
set_option maxHeartbeats 4000000 in
theorem law_Spoilt (seed:Int) (d n:Nat) (me0 non0 pat ent voi:Int) (hd:d≤8) (hn:1≤n∧n≤16) (hp:1≤pat∧pat≤10000) (he:1≤ent∧ent≤256) (hv:1≤voi∧voi≤16) (la:Option Addr) (lc:Nat) (M:List Mv) (w:World) (hM:Vals w 6 la M.length lc (mvs M)) (hMw:∀ c∈M,c.wf) :
  Calls Tryz.prog 5 #[.agg #[.int .u32 seed,.int .i64 d,.int .i64 n,.int .i64 me0,.int .u32 non0,.int .i64 pat,.int .i64 ent,.int .i64 voi],.slice la M.length lc] w fun e w'=>e=.returned (.bool true)∧Below w.heap.size w w':=by
 have hm1:M.length≤9223372036854775807:=Nat.le_trans hM.2.1 hM.2.2.1
 obtain ⟨u,hu0⟩:∃ u:SuP,u=⟨seed,d,n,pat,ent,voi⟩:=⟨_,rfl⟩
 have Hu:=hid (show u.ok by rw[hu0];exact ⟨hd,hn,hp,he,hv⟩)
 have HO:=hid (tp_open seed d n pat ent voi me0 non0 hd hn hp he hv)
 have HM:=hid hM
 have HMw:=hid hMw
 clear hd hn hp he hv hM hMw
 have b0:=(Below.refl w.heap.size w).alloc (Nat.le_refl _) (.cells #[.int .u32 seed,.int .i64 d,.int .i64 n,.int .i64 me0,.int .u32 non0,.int .i64 pat,.int .i64 ent,.int .i64 voi] 26)
 have hX:=blk_new w (.cells #[.int .u32 seed,.int .i64 d,.int .i64 n,.int .i64 me0,.int .u32 non0,.int .i64 pat,.int .i64 ent,.int .i64 voi] 26)
 go_enter Tryz.func5,Tryz.ntmps5
 go_wp2_with fail
 generalize World.alloc w _=w0 at *
 refine (tp_awake w0).mono ?_
 rintro e w1 ⟨rfl,hb1⟩
 have hbb:=b0.trans (hb1.mono b0.size)
 have hX1:=(Keeps.of_below (S:=fun _=>False) hb1 (fun k h1 h2=>by omega)).heap hX id
 clear hX b0 hb1
 obtain ⟨s0,s1,s2,s3,s4,s5,s6,s7⟩:=bc8 0 1 2 3 4 5 6 7 hX1 ⟨rfl,rfl,rfl,rfl,rfl,rfl,rfl,rfl⟩
 have hz1:=hbb.size
 go_wp2_with fail
 refine (HO.out w1).mono ?_
 rintro e w2 ⟨B,r,rfl,hbt,hr,hb2⟩
 have hI0:SpI u w1.heap.size 0 B w2:=sp_new (by rw[hu0];exact hbt) hr hb2.size
 have HR0:Hid (SpR w u w1.heap.size 0 B w2):=hid ⟨hI0,hbb.trans (hb2.mono hz1)⟩
 have Hlo:=hid hz1
 clear hbb hb2 hI0 hbt hr hz1 s0 s1 s2 s3 s4 s5 s6 s7 HO hX1 hu0
 generalize w1.heap.size=lo at *
 go_wp2_with fail
 go_loopg [7,8] 300 (fun g i _ wr=>∃ k:Nat,g=300-k∧k≤300∧i=.int .i64 k∧SpR w u lo k B wr)
 case atStart=>exact ⟨0,rfl,by omega,rfl,HR0.out⟩
 case round=>
  obtain ⟨k,hg,hk3,rfl,hR⟩:=hrel
  have HR:=hid hR
  have Hk3:=hid hk3
  clear HR0 hR
  by_cases hlt:k<M.length
  ·by_cases hl3:k<300
   ·obtain ⟨b,o,rfl,hc⟩:=(HM.out.below HR.out.bl (fun hn x hx=>HM.out.lt (by omega) hn hx)).at' (by omega)
    have hat:=mvs_at M k hlt
    have hc0:wr.cell? ⟨b,o+k*6,none⟩=some (.int .i64 M[k].kd):=hc _ _ (hat 0 (by omega))
    have hc1:wr.cell? ⟨b,o+k*6+1,none⟩=some (.int .i64 M[k].who):=by rw[Nat.add_assoc];exact hc _ _ (hat 1 (by omega))
    have hc2:wr.cell? ⟨b,o+k*6+2,none⟩=some (.int .i64 M[k].i):=by rw[Nat.add_assoc];exact hc _ _ (hat 2 (by omega))
    have hc3:wr.cell? ⟨b,o+k*6+3,none⟩=some (.int .i64 M[k].at'):=by rw[Nat.add_assoc];exact hc _ _ (hat 3 (by omega))
    have hc4:wr.cell? ⟨b,o+k*6+4,none⟩=some (.int .u8 M[k].by'):=by rw[Nat.add_assoc];exact hc _ _ (hat 4 (by omega))
    have hc5:wr.cell? ⟨b,o+k*6+5,none⟩=some (.int .u8 M[k].in'):=by rw[Nat.add_assoc];exact hc _ _ (hat 5 (by omega))
    have Hw:=hid (HMw.out M[k] (List.getElem_mem hlt))
    have kA0:=(Keeps.refl (fun _=>False) wr).alloc (.cells #[.int .i64 M[k].kd,.int .i64 M[k].who,.int .i64 M[k].i,.int .i64 M[k].at',.int .u8 M[k].by',.int .u8 M[k].in'] 40)
    have hBx:=blk_new wr (.cells #[.int .i64 M[k].kd,.int .i64 M[k].who,.int .i64 M[k].i,.int .i64 M[k].at',.int .u8 M[k].by',.int .u8 M[k].in'] 40)
    clear hc hat
    go_upto_region 10 with fail
    clear hc0 hc1 hc2 hc3 hc4 hc5
    have hmb:=Nat.le_refl wr.heap.size
    generalize World.alloc wr _=wA at *
    obtain ⟨x0,x1,x2,x3,x4,x5⟩:=bc6 0 1 2 3 4 5 hBx ⟨rfl,rfl,rfl,rfl,rfl,rfl⟩
    simp only[List.getElem_toArray,List.getElem_cons_zero,List.getElem_cons_succ] at x0 x1 x2 x3 x4 x5
    obtain ⟨f0,f4⟩:=bf2 hBx 0 4
    have hlx:=blk_lt hBx
    by_cases e2:M[k].kd=2
    ·rw[e2] at x0
     have kA:=((kA0.setNew (p:=⟨wr.heap.size,0,none⟩) hmb (.int .i64 5)).setNew (p:=⟨wr.heap.size,4,none⟩) hmb (.int .u8 ((1+M[k].by'.tmod 255)%256)))
     have hB2:=blk_set (blk_set hBx 0 (.int .i64 5)) 4 (.int .u8 ((1+M[k].by'.tmod 255)%256))
     simp only[List.setIfInBounds_toArray,List.set_cons_succ,List.set_cons_zero] at hB2
     have KA:=hid kA
     have HB2:=hid hB2
     clear kA hB2 hBx kA0
     go_upto_region 14 with fail
     clear x0 x1 x2 x3 x4 x5 f0 f4 hlx
     have hX:Hid (0<((1+M[k].by'.tmod 255)%256:Int)∧((1+M[k].by'.tmod 255)%256:Int)<256):=hid (turn_by Hw.out.by')
     generalize World.setCell (World.setCell wA _ _) _ _=wC at *
     obtain ⟨x0,x1,x2,x3,x4,x5⟩:=bc6 0 1 2 3 4 5 HB2.out ⟨rfl,rfl,rfl,rfl,rfl,rfl⟩
     simp only[List.getElem_toArray,List.getElem_cons_zero,List.getElem_cons_succ] at x0 x1 x2 x3 x4 x5
     have hDo:=hid (sp_Do (HR.out.sp.keep KA.out) Hu.out (by have:=Hk3.out;omega) 5 M[k].who M[k].i M[k].at' ((1+M[k].by'.tmod 255)%256) M[k].in' (by have:=hX.out;omega) (by have:=hX.out;omega))
     have HbA:=hid (HR.out.keep KA.out).bl
     have Hlo9:=hid (Nat.le_trans Hlo.out (Nat.le_refl lo))
     clear HR
     go_wp2_with fail
     refine hDo.out.mono ?_
     rintro e w9 ⟨⟨A9,n9,c9,m9,er9,rfl⟩,hI9,hb9⟩
     have hbl9:=HbA.out.trans (hb9.mono Hlo.out)
     clear hDo HbA hb9
     go_wp2_with fail
     go_roundg (300-(k+1))
     case rel=>exact ⟨k+1,rfl,by omega,by go_num,⟨hI9,hbl9⟩⟩
     case measure=>omega
    by_cases e3:M[k].kd=3
    ·rw[e3] at x0
     have kA:=((kA0.setNew (p:=⟨wr.heap.size,0,none⟩) hmb (.int .i64 5)).setNew (p:=⟨wr.heap.size,4,none⟩) hmb (.int .u8 ((1+M[k].by'.tmod 255)%256)))
     have hB2:=blk_set (blk_set hBx 0 (.int .i64 5)) 4 (.int .u8 ((1+M[k].by'.tmod 255)%256))
     simp only[List.setIfInBounds_toArray,List.set_cons_succ,List.set_cons_zero] at hB2
     have KA:=hid kA
     have HB2:=hid hB2
     clear kA hB2 hBx kA0
     go_upto_region 14 with fail
     clear x0 x1 x2 x3 x4 x5 f0 f4 hlx
     have hX:Hid (0<((1+M[k].by'.tmod 255)%256:Int)∧((1+M[k].by'.tmod 255)%256:Int)<256):=hid (turn_by Hw.out.by')
     generalize World.setCell (World.setCell wA _ _) _ _=wC at *
     obtain ⟨x0,x1,x2,x3,x4,x5⟩:=bc6 0 1 2 3 4 5 HB2.out ⟨rfl,rfl,rfl,rfl,rfl,rfl⟩
     simp only[List.getElem_toArray,List.getElem_cons_zero,List.getElem_cons_succ] at x0 x1 x2 x3 x4 x5
     have hDo:=hid (sp_Do (HR.out.sp.keep KA.out) Hu.out (by have:=Hk3.out;omega) 5 M[k].who M[k].i M[k].at' ((1+M[k].by'.tmod 255)%256) M[k].in' (by have:=hX.out;omega) (by have:=hX.out;omega))
     have HbA:=hid (HR.out.keep KA.out).bl
     have Hlo9:=hid (Nat.le_trans Hlo.out (Nat.le_refl lo))
     clear HR
     go_wp2_with fail
     refine hDo.out.mono ?_
     rintro e w9 ⟨⟨A9,n9,c9,m9,er9,rfl⟩,hI9,hb9⟩
     have hbl9:=HbA.out.trans (hb9.mono Hlo.out)
     clear hDo HbA hb9
     go_wp2_with fail
     go_roundg (300-(k+1))
     case rel=>exact ⟨k+1,rfl,by omega,by go_num,⟨hI9,hbl9⟩⟩
     case measure=>omega
    by_cases e6:M[k].kd=6
    ·rw[e6] at x0
     go_wp2_with fail
     go_roundg (300-(k+1))
     case rel=>exact ⟨k+1,rfl,by omega,by go_num,⟨(HR.out.sp.keep kA0).more (Nat.le_succ k),(HR.out.keep kA0).bl⟩⟩
     case measure=>omega
    by_cases e5:M[k].kd=5
    ·rw[e5] at x0
     by_cases eb:M[k].by'=0
     ·have b0:(M[k].by' == 0)=true:=by rw[eb];rfl
      have kA:=((kA0.setNew (p:=⟨wr.heap.size,0,none⟩) hmb (.int .i64 5)).setNew (p:=⟨wr.heap.size,4,none⟩) hmb (.int .u8 (1)))
      have hB2:=blk_set (blk_set hBx 0 (.int .i64 5)) 4 (.int .u8 (1))
      simp only[List.setIfInBounds_toArray,List.set_cons_succ,List.set_cons_zero] at hB2
      have KA:=hid kA
      have HB2:=hid hB2
      clear kA hB2 hBx kA0
      go_upto_region 14 with fail
      clear x0 x1 x2 x3 x4 x5 f0 f4 hlx
      have hX:Hid (0<(1:Int)∧(1:Int)<256):=hid ⟨by decide,by decide⟩
      generalize World.setCell (World.setCell wA _ _) _ _=wC at *
      obtain ⟨x0,x1,x2,x3,x4,x5⟩:=bc6 0 1 2 3 4 5 HB2.out ⟨rfl,rfl,rfl,rfl,rfl,rfl⟩
      simp only[List.getElem_toArray,List.getElem_cons_zero,List.getElem_cons_succ] at x0 x1 x2 x3 x4 x5
      have hDo:=hid (sp_Do (HR.out.sp.keep KA.out) Hu.out (by have:=Hk3.out;omega) 5 M[k].who M[k].i M[k].at' (1) M[k].in' (by have:=hX.out;omega) (by have:=hX.out;omega))
      have HbA:=hid (HR.out.keep KA.out).bl
      have Hlo9:=hid (Nat.le_trans Hlo.out (Nat.le_refl lo))
      clear HR
      go_wp2_with fail
      refine hDo.out.mono ?_
      rintro e w9 ⟨⟨A9,n9,c9,m9,er9,rfl⟩,hI9,hb9⟩
      have hbl9:=HbA.out.trans (hb9.mono Hlo.out)
      clear hDo HbA hb9
      go_wp2_with fail
      go_roundg (300-(k+1))
      case rel=>exact ⟨k+1,rfl,by omega,by go_num,⟨hI9,hbl9⟩⟩
      case measure=>omega
     ·have b0:(M[k].by' == 0)=false:=by simpa using eb
      have KA:=hid kA0
      clear kA0
      have hDo:=hid (sp_Do (HR.out.sp.keep KA.out) Hu.out (by have:=Hk3.out;omega) 5 M[k].who M[k].i M[k].at' M[k].by' M[k].in' Hw.out.by' ⟨by omega,by omega,by omega,fun _=>eb⟩)
      have HbA:=hid (HR.out.keep KA.out).bl
      have Hlo9:=hid (Nat.le_trans Hlo.out (Nat.le_refl lo))
      clear HR
      go_wp2_with fail
      refine hDo.out.mono ?_
      rintro e w9 ⟨⟨A9,n9,c9,m9,er9,rfl⟩,hI9,hb9⟩
      have hbl9:=HbA.out.trans (hb9.mono Hlo.out)
      clear hDo HbA hb9
      go_wp2_with fail
      go_roundg (300-(k+1))
      case rel=>exact ⟨k+1,rfl,by omega,by go_num,⟨hI9,hbl9⟩⟩
      case measure=>omega
    ·have b2:(M[k].kd == 2)=false:=by simpa using e2
     have b3:(M[k].kd == 3)=false:=by simpa using e3
     have b5:(M[k].kd == 5)=false:=by simpa using e5
     have b6:(M[k].kd == 6)=false:=by simpa using e6
     have KA:=hid kA0
     clear kA0
     have hDo:=hid (sp_Do (HR.out.sp.keep KA.out) Hu.out (by have:=Hk3.out;omega) M[k].kd M[k].who M[k].i M[k].at' M[k].by' M[k].in' Hw.out.by' ⟨e2,e3,e6,fun e=>absurd e e5⟩)
     have HbA:=hid (HR.out.keep KA.out).bl
     have Hlo9:=hid (Nat.le_trans Hlo.out (Nat.le_refl lo))
     clear HR
     go_wp2_with fail
     refine hDo.out.mono ?_
     rintro e w9 ⟨⟨A9,n9,c9,m9,er9,rfl⟩,hI9,hb9⟩
     have hbl9:=HbA.out.trans (hb9.mono Hlo.out)
     clear hDo HbA hb9
     go_wp2_with fail
     go_roundg (300-(k+1))
     case rel=>exact ⟨k+1,rfl,by omega,by go_num,⟨hI9,hbl9⟩⟩
     case measure=>omega
   ·obtain rfl:k=300:=by omega
    go_wp2_with fail
    go_loopg [9,10,11,12,13] 2 (fun g i _ _ _ _ wr=>∃ j:Nat,g=2-j∧j≤2∧i=.int .i64 j∧SpR w u lo 300 B wr)
    case atStart=>exact ⟨0,rfl,by omega,rfl,HR.out⟩
    case round=>
     obtain ⟨j,hg,hj,rfl,hR2⟩:=hrel
     clear HR
     by_cases hj2:j<2
     ·obtain ⟨st,bad,hst,hS⟩:=sp_says hR2.sp j hj2
      have HS:=hid hS
      have HR2:=hid hR2
      clear hS hR2
      go_wp2_with fail
      refine HS.out.peer.mono ?_
      rintro e _ ⟨rfl,rfl⟩
      go_wp2_with fail
      refine (HS.out.link _ (Keeps.refl _ _)).mono ?_
      rintro e _ ⟨rfl,rfl⟩
      go_wp2_with fail
      refine (HS.out.counts _ (Keeps.refl _ _)).mono ?_
      rintro e v2 ⟨rfl,q,rfl⟩
      have k2:=(Keeps.refl (fun _=>False) wr).drewN q
      have HR3:=hid (HR2.out.keep k2)
      have K2:=hid k2
      clear HR2 k2
      generalize wr.drewN q=v2 at *
      go_wp2_with fail
      refine (HS.out.link _ K2.out).mono ?_
      rintro e _ ⟨rfl,rfl⟩
      go_wp2_with fail
      refine (HS.out.state _ K2.out).mono ?_
      rintro e _ ⟨rfl,rfl⟩
      go_wp2_with fail
      refine (HS.out.core _ K2.out).mono ?_
      rintro e _ ⟨rfl,rfl⟩
      go_wp2_with fail
      refine (HS.out.current _ K2.out).mono ?_
      rintro e _ ⟨rfl,rfl⟩
      go_wp2_with fail
      refine (HS.out.stream _ K2.out).mono ?_
      rintro e _ ⟨rfl,rfl⟩
      go_wp2_with fail
      go_roundg (2-(j+1))
      case rel=>exact ⟨j+1,rfl,by omega,by go_num,HR3.out⟩
      case measure=>omega
     ·obtain rfl:j=2:=by omega
      go_wp2_with fail
      go_ret
      exact ⟨rfl,hR2.bl⟩
  ·go_wp2_with fail
   go_loopg [9,10,11,12,13] 2 (fun g i _ _ _ _ wr=>∃ j:Nat,g=2-j∧j≤2∧i=.int .i64 j∧SpR w u lo k B wr)
   case atStart=>exact ⟨0,rfl,by omega,rfl,HR.out⟩
   case round=>
    obtain ⟨j,hg,hj,rfl,hR2⟩:=hrel
    clear HR
    by_cases hj2:j<2
    ·obtain ⟨st,bad,hst,hS⟩:=sp_says hR2.sp j hj2
     have HS:=hid hS
     have HR2:=hid hR2
     clear hS hR2
     go_wp2_with fail
     refine HS.out.peer.mono ?_
     rintro e _ ⟨rfl,rfl⟩
     go_wp2_with fail
     refine (HS.out.link _ (Keeps.refl _ _)).mono ?_
     rintro e _ ⟨rfl,rfl⟩
     go_wp2_with fail
     refine (HS.out.counts _ (Keeps.refl _ _)).mono ?_
     rintro e v2 ⟨rfl,q,rfl⟩
     have k2:=(Keeps.refl (fun _=>False) wr).drewN q
     have HR3:=hid (HR2.out.keep k2)
     have K2:=hid k2
     clear HR2 k2
     generalize wr.drewN q=v2 at *
     go_wp2_with fail
     refine (HS.out.link _ K2.out).mono ?_
     rintro e _ ⟨rfl,rfl⟩
     go_wp2_with fail
     refine (HS.out.state _ K2.out).mono ?_
     rintro e _ ⟨rfl,rfl⟩
     go_wp2_with fail
     refine (HS.out.core _ K2.out).mono ?_
     rintro e _ ⟨rfl,rfl⟩
     go_wp2_with fail
     refine (HS.out.current _ K2.out).mono ?_
     rintro e _ ⟨rfl,rfl⟩
     go_wp2_with fail
     refine (HS.out.stream _ K2.out).mono ?_
     rintro e _ ⟨rfl,rfl⟩
     go_wp2_with fail
     go_roundg (2-(j+1))
     case rel=>exact ⟨j+1,rfl,by omega,by go_num,HR3.out⟩
     case measure=>omega
    ·obtain rfl:j=2:=by omega
     go_wp2_with fail
     go_ret
     exact ⟨rfl,hR2.bl⟩
theorem law_WholeSpoilt (seed d n me0 non0 pat ent voi:Int) (la:Option Addr) (lc:Nat) (M:List Mv) (w:World) (hM:Vals w 6 la M.length lc (mvs M)) (hMw:∀ c∈M,c.wf) :
  Calls Tryz.prog 5 #[.agg #[.int .u32 seed,.int .i64 d,.int .i64 n,.int .i64 me0,.int .u32 non0,.int .i64 pat,.int .i64 ent,.int .i64 voi],.slice la M.length lc] w fun e w'=>e=.returned (.bool true)∧Below w.heap.size w w':=by
 by_cases hg:goodS d n pat ent voi
 ·obtain ⟨h1,hp,he,hv⟩:=hg
  have h2:0≤d∧d≤8∧1≤n∧n≤16:=of_decide_eq_true h1
  obtain ⟨d,rfl⟩:=Int.eq_ofNat_of_zero_le h2.1
  obtain ⟨n,rfl⟩:=Int.eq_ofNat_of_zero_le (show 0≤n by omega)
  exact law_Spoilt seed d n me0 non0 pat ent voi (by omega) (by omega) hp he hv la lc M w hM hMw
 ·exact law_Spoilt_no seed d n me0 non0 pat ent voi _ hg w
end
end Go.Proofs.YtalagblioepadaaGreatDoor
