/- The proof, part 43. -/
import Derived.Test.YtalagblioepadaaGreatDoorZa42
import Derived.Deep.LoopGhost
import Derived.Test.YtalagblioepadaaGreatDoorZa36
namespace Go.Proofs.YtalagblioepadaaGreatDoor
section
open Go.RowKit
set_option maxRecDepth 10000
variable {w w':World} {b:CoB} {x:Co}
def setF (f:Nat→Fd) (k:Nat) (y:Fd):Nat→Fd:=fun j=>if j=k then y else f j
theorem setF_same (f:Nat→Fd) (k:Nat) (y:Fd):setF f k y k=y:=by simp[setF]
theorem setF_ne (f:Nat→Fd) {j k:Nat} (y:Fd) (h:j≠k):setF f k y j=f j:=by simp[setF,h]
theorem IsCore.feed (h:IsCore w b x) {k:Nat} (hk2:k<2) {y:Fd} (hy:FdAt w' (b.D k) y) (hk:Keeps (fun j=>Feeds (b.D k) j) w w') (hn:y.next≤1000000):IsCore w' b { x with f:=setF x.f k y }:=by
 have ok:=h.ok
 have hc:¬ Feeds (b.D k) b.c:=by
  have:k=0∨k=1:=by omega
  rcases this with rfl|rfl
  ·exact ok.c0
  ·exact ok.c1
 have hr:¬ Feeds (b.D k) b.r:=by
  have:k=0∨k=1:=by omega
  rcases this with rfl|rfl
  ·exact ok.r0
  ·exact ok.r1
 have hB:¬ Feeds (b.D k) b.B:=by
  have:k=0∨k=1:=by omega
  rcases this with rfl|rfl
  ·exact ok.B0
  ·exact ok.B1
 refine ⟨hk.heap h.head hc,fun i hi=>?_,h.st.keeps hk hr hB,ok,h.me,h.nw,fun i hi=>?_,h.wn⟩
 ·by_cases e:i=k
  ·subst e
   show FdAt w' (b.D i) (setF x.f i y i)
   rw[setF_same]
   exact hy
  ·show FdAt w' (b.D i) (setF x.f k y i)
   rw[setF_ne _ _ e]
   refine IsFeed.keeps (h.fd i hi) hk fun j h1 h2 h3=>?_
   have hd:=ok.dd
   unfold Feeds at h3
   have e1:(i=0∧k=1)∨(i=1∧k=0):=by omega
   rcases e1 with ⟨rfl,rfl⟩|⟨rfl,rfl⟩<;>omega
 ·by_cases e:i=k
  ·subst e
   show (setF x.f i y i).next≤_
   rw[setF_same]
   exact hn
  ·show (setF x.f k y i).next≤_
   rw[setF_ne _ _ e]
   exact h.nx i hi
theorem feeds_S {k:Nat} (hk2:k<2) {j:Nat} (hj:Feeds (b.D k) j):b.S j:=by
 have:k=0∨k=1:=by omega
 rcases this with rfl|rfl
 ·exact .inr (.inl hj)
 ·exact .inr (.inr (.inl hj))
theorem IsCore.win (h:IsCore w b x) {sf:Nat} {L:List (Nat×(Nat→Int))} (hy:SIsWin w' b.r b.B 81 sf L) (hk:Keeps (fun j=>j=b.r∨j=b.B) w w'):IsCore w' b { x with sf:=sf,L:=L }:=by
 have ok:=h.ok
 have o1:=ok.cr
 have o2:=ok.cB
 have o3:=ok.r0
 have o4:=ok.r1
 have o5:=ok.B0
 have o6:=ok.B1
 refine ⟨hk.heap h.head (by omega),fun i hi=>IsFeed.keeps (h.fd i hi) hk fun j h1 h2 h3=>?_,hy,ok,h.me,h.nw,h.nx,h.wn⟩
 have:i=0∨i=1:=by omega
 rcases this with rfl|rfl<;>omega
def putC (x:Co) (k:Nat) (v:Int):Co:={ x with f:=setF x.f k { x.f k with next:=(x.f k).next+1,last:=v,K:=putL (x.f k).K (x.f k).next v } }
theorem co_Hear (h:IsCore w b x) (v:Int) (hv:v≤63) (f:Int) (hf:f=(x.f (1-x.me)).next) (hn:(x.f (1-x.me)).next<1000000) (hw:(x.f (1-x.me)).first≤(x.f (1-x.me)).next∧(x.f (1-x.me)).next<(x.f (1-x.me)).first+64) :
  Calls Tryz.prog 103 #[.pointer (some ⟨b.c,0,none⟩),.int .i64 f,.int .u8 v] w fun e w'=>e=.returned (.int .i64 0)∧IsCore w' b (putC x (1-x.me) v)∧Keeps b.S w w':=by
 have hk2:1-x.me<2:=by omega
 have hT:=hid (co_theirs h)
 have hP:=hid (fun n=>feed_Put ((h.fd (1-x.me) hk2).drew n) v hv f hf (by omega) hw)
 have H:=hid h
 unfold putC
 clear h hv hf hw
 generalize 1-x.me=k at *
 go_enter Tryz.func103,Tryz.ntmps103
 go_wp2_with fail
 refine hT.out.mono ?_
 rintro e _ ⟨rfl,q,rfl⟩
 go_wp2_with fail
 refine (hP.out q).mono ?_
 rintro e w2 ⟨rfl,h2,hk⟩
 have hfin:=(H.out.drew q).feed hk2 (y:={ x.f k with next:=(x.f k).next+1,last:=v,K:=putL (x.f k).K (x.f k).next v }) h2 hk (by simp only;omega)
 have hkk:Keeps b.S w w2:=((Keeps.refl _ w).drewN q).trans (hk.mono fun j _ hj=>feeds_S hk2 hj)
 go_wp2
 go_ret
 exact ⟨rfl,hfin,hkk⟩
theorem co_Repair_no (h:IsCore w b x) (hno:wrongF x=none):Calls Tryz.prog 138 #[.pointer (some ⟨b.c,0,none⟩)] w fun e w'=>e=.returned (.tuple #[.slice none 0 0,.int .i64 0])∧Keeps (fun _=>False) w w':=by
 have hT:=hid (fun (W:World) (hk:Keeps (fun _=>False) w W)=>co_theirs (h.keep hk))
 have hW:=hid (fun (W:World) (hk:Keeps (fun _=>False) w W)=>feed_Wrong ((h.keep hk).fd (1-x.me) (by omega)))
 unfold wrongF thF at hno
 rw[hno] at hW
 have hk0:Keeps (fun _=>False) w ((w.alloc (.cells #[.slice none 0 0] 267)).alloc (.cells #[.int .i64 0] 36)):=((Keeps.refl _ w).alloc _).alloc _
 have b0:(((w.alloc (.cells #[.slice none 0 0] 267)).alloc (.cells #[.int .i64 0] 36))).heap[w.heap.size]?=some (.cells #[.slice none 0 0] 267 (0,0)):=blk_alloc (blk_new w _) _
 have b1:(((w.alloc (.cells #[.slice none 0 0] 267)).alloc (.cells #[.int .i64 0] 36))).heap[w.heap.size+1]?=some (.cells #[.int .i64 0] 36 (0,0)):=by
  have:=blk_new (w.alloc (.cells #[.slice none 0 0] 267)) (.cells #[.int .i64 0] 36)
  rwa [World.size_alloc] at this
 clear h hno
 go_enter Tryz.func138,Tryz.ntmps138
 go_wp2_with fail
 generalize ((w.alloc (.cells #[.slice none 0 0] 267)).alloc (.cells #[.int .i64 0] 36))=w0 at *
 refine (hT.out _ hk0).mono ?_
 rintro e w1 ⟨rfl,q,hq⟩
 have hk1:Keeps (fun _=>False) w0 w1:=by rw[hq];exact (Keeps.refl _ w0).drewN q
 clear hq
 go_wp2_with fail
 refine (hW.out _ (hk0.trans hk1)).mono ?_
 rintro e w2 ⟨rfl,hk2⟩
 have hk3:=hk1.trans hk2
 have d0:=blk_cell (k:=0) (hk3.heap b0 id) rfl
 have d1:=blk_cell (k:=0) (hk3.heap b1 id) rfl
 have g0:=blk_free (hk3.heap b0 id) 0
 have g1:=blk_free (hk3.heap b1 id) 0
 have hk4:=hk0.trans hk3
 clear hk0 hk1 hk2 hk3 b0 b1
 simp only[Option.getD_none,Option.isSome_none]
 go_wp2
 have e0:((w2.setCell ⟨w.heap.size,0,none⟩ (.slice none 0 0)).setCell ⟨w.heap.size+1,0,none⟩ (.int .i64 0)).cell? ⟨w.heap.size,0,none⟩=some (.slice none 0 0):=by
  rw[World.cell?_setCell_other _ _ _ _ (by simp),World.cell?_setCell_same _ _ _ d0]
 have e1:((w2.setCell ⟨w.heap.size,0,none⟩ (.slice none 0 0)).setCell ⟨w.heap.size+1,0,none⟩ (.int .i64 0)).cell? ⟨w.heap.size+1,0,none⟩=some (.int .i64 0):=
  World.cell?_setCell_same _ _ _ (by rw[World.cell?_setCell_other _ _ _ _ (by simp)];exact d1)
 refine bodyPost_ret (v:=.tuple #[.slice none 0 0,.int .i64 0]) (by simp[results,Tryz.results138,asAddr,loadVar,Tryz.isAgg267,Tryz.isAgg36,go_sem,e0,e1]) rfl ?_
 exact ⟨rfl,(hk4.setNew (p:=⟨w.heap.size,0,none⟩) (Nat.le_refl _) _).setNew (p:=⟨w.heap.size+1,0,none⟩) (by simp) _⟩
end
section
open Go.RowKit
set_option maxRecDepth 10000
variable {w w':World} {b:CoB} {x:Co}
theorem setF_self (f:Nat→Fd) (k:Nat):setF f k (f k)=f:=by
 funext j
 unfold setF
 split
 ·rename_i h;rw[h]
 ·rfl
theorem feeds_ix0 (p q:Option Addr) (w:World):(Instr.index 126 (.agg #[.pointer p,.pointer q]) (.int .i64 0)).run Tryz.prog w=.ok (.pointer p) w:=by kernel_rfl
theorem feeds_ix1 (p q:Option Addr) (w:World):(Instr.index 126 (.agg #[.pointer p,.pointer q]) (.int .i64 1)).run Tryz.prog w=.ok (.pointer q) w:=by kernel_rfl
theorem co_Free_no (h:IsCore w b x) (hno:wrongF x=none) (fr:Int) (hfr:fr=-1) (hs:setlF x=-1) (hz:∀ k,k<2→(x.f k).first≤(x.f k).next) :
  Calls Tryz.prog 90 #[.pointer (some ⟨b.c,0,none⟩),.int .i64 fr] w fun e w'=>(∃ n:Int,e=.returned (.int .i64 n))∧IsCore w' b x∧Keeps b.S w w':=by
 subst hfr
 have hS:=hid (co_Settled h hno)
 rw[hs] at hS
 have H:=hid h
 clear h hno hs
 have hmin:min (-1:Int) 0=-1:=by decide
 have ix0:=feeds_ix0
 have ix1:=feeds_ix1
 go_enter Tryz.func90,Tryz.ntmps90
 go_wp2_with fail
 refine hS.out.mono ?_
 rintro e w1 ⟨rfl,hk1⟩
 have h1:=H.out.keep hk1
 have c4:=h1.cD (k:=0) (by omega)
 have c5:=h1.cD (k:=1) (by omega)
 have H1:=hid h1
 clear h1
 go_wp2_with fail
 go_loopg [18] 2 (fun g i wr=>∃ k:Nat,g=2-k∧k≤2∧i=.int .i64 k∧IsCore wr b x∧Keeps b.S w wr)
 case atStart=>exact ⟨0,rfl,by omega,rfl,H1.out,keeps_any hk1⟩
 case round=>
  obtain ⟨k,hg,hk,rfl,hC,hkk⟩:=hrel
  clear H1
  by_cases hlt:k<2
  ·have hTr:=hid (feed_Trim_no (hC.fd k hlt) (hz k hlt) (-1) (by omega))
   have HC:=hid hC
   clear hC
   have hk01:k=0∨k=1:=by omega
   rcases hk01 with rfl|rfl
   ·go_wp2_with fail
    refine hTr.out.mono ?_
    rintro e w2 ⟨⟨n,rfl⟩,hF,hk2⟩
    have hfin:=HC.out.feed hlt (y:=x.f 0) hF hk2 (HC.out.nx 0 (by omega))
    rw[setF_self] at hfin
    have hk3:=hkk.trans (hk2.mono fun j _ hj=>feeds_S hlt hj)
    have Hfin:=hid hfin
    clear hF hk2 hfin
    go_wp2_with fail
    go_roundg 1
    case rel=>exact ⟨1,rfl,by omega,by go_num,Hfin.out,hk3⟩
    case measure=>omega
   ·go_wp2_with fail
    refine hTr.out.mono ?_
    rintro e w2 ⟨⟨n,rfl⟩,hF,hk2⟩
    have hfin:=HC.out.feed hlt (y:=x.f 1) hF hk2 (HC.out.nx 1 (by omega))
    rw[setF_self] at hfin
    have hk3:=hkk.trans (hk2.mono fun j _ hj=>feeds_S hlt hj)
    have Hfin:=hid hfin
    clear hF hk2 hfin
    go_wp2_with fail
    go_roundg 0
    case rel=>exact ⟨2,rfl,by omega,by go_num,Hfin.out,hk3⟩
    case measure=>omega
  ·obtain rfl:k=2:=by omega
   have c6:=hC.c6
   have hM:=hid (fun n=>s_is_Move_no (hC.drew n).st (-1) (by omega))
   have HC:=hid hC
   clear hC
   go_wp2_with fail
   refine (hM.out 0).mono ?_
   rintro e w2 ⟨rfl,hW,hk2⟩
   have hfin:=HC.out.keep hk2
   go_wp2
   go_ret
   exact ⟨⟨_,rfl⟩,hfin,hkk.trans (keeps_any hk2)⟩
end
section
open Go.RowKit
set_option maxRecDepth 10000
variable {w w':World} {b:CoB} {x:Co}
theorem keeps_of_drew {w w':World} {q:Nat} (h:w'=w.drewN q):Keeps (fun _=>False) w w':=by rw[h];exact (Keeps.refl _ w).drewN q
set_option maxHeartbeats 400000 in
theorem co_Offer (h:IsCore w b x) (v:Int) (hv:v≤63) (hfu:fullF x=false) (hd:(x.f x.me).next≤x.now+x.delay) (hdl:x.delay≤1000) (hn:(x.f x.me).next<1000000) (hw:(x.f x.me).first≤(x.f x.me).next∧(x.f x.me).next<(x.f x.me).first+64) :
  Calls Tryz.prog 144 #[.pointer (some ⟨b.c,0,none⟩),.int .u8 v] w fun e w'=>e=.returned (.tuple #[.int .i64 (x.f x.me).next,.int .i64 0])∧IsCore w' b (putC x x.me v)∧Keeps b.S w w':=by
 have hme:=h.me
 have hnw:=h.nw
 have hM:=hid (fun (W:World) (hk:Keeps (fun _=>False) w W)=>co_mine (h.keep hk))
 have hN:=hid (fun (W:World) (hk:Keeps (fun _=>False) w W)=>feed_Next ((h.keep hk).fd x.me hme))
 have hF:=hid (fun (W:World) (hk:Keeps (fun _=>False) w W)=>co_full (h.keep hk))
 rw[hfu] at hF
 have hP:=hid (fun (W:World) (hk:Keeps (fun _=>False) w W)=>feed_Put ((h.keep hk).fd x.me hme) v hv ((x.f x.me).next:Int) rfl (by omega) hw)
 have c1:=fun (W:World) (hk:Keeps (fun _=>False) w W)=>(h.keep hk).c1
 have c7:=fun (W:World) (hk:Keeps (fun _=>False) w W)=>(h.keep hk).c7
 have C1:=hid c1
 have C7:=hid c7
 have H:=hid h
 have hfd:FdAt w (b.D x.me) (x.f x.me):=h.fd x.me hme
 clear h c1 c7 hfu hv hw hfd
 unfold putC
 have hx:((x.f x.me).next:Int)≤(x.now:Int)+(x.delay:Int):=by omega
 have hnb:(x.f x.me).next<1000000:=hn
 generalize hnx:(x.f x.me).next=nx at *
 have Hnx:=hid hnx
 clear hnx hd hn
 have e1:IntKind.i64.wrap ((x.now:Int)+(x.delay:Int))=(x.now:Int)+(x.delay:Int):=IntWalk.i64_in _ (by omega)
 go_enter Tryz.func144,Tryz.ntmps144
 go_wp2_with fail
 refine (hM.out _ (Keeps.refl _ w)).mono ?_
 rintro e w1 ⟨rfl,q1,hq1⟩
 have k1:=keeps_of_drew hq1
 clear hq1
 go_wp2_with fail
 refine (hN.out _ k1).mono ?_
 rintro e _ ⟨rfl,rfl⟩
 go_wp2_with fail
 refine (hF.out _ k1).mono ?_
 rintro e w2 ⟨rfl,q2,hq2⟩
 have k2:=k1.trans (keeps_of_drew hq2)
 clear hq2
 have y1:=C1.out _ k2
 have y7:=C7.out _ k2
 go_wp2_with fail
 go_quiet (fail)
 have k3:=k2.drewN nq
 generalize w2.drewN nq=w3 at *
 clear y1 y7 k1 k2
 go_wp2_with fail
 refine (hM.out _ k3).mono ?_
 rintro e w4 ⟨rfl,q4,hq4⟩
 have k4:=k3.trans (keeps_of_drew hq4)
 clear hq4 k3
 go_wp2_with fail
 refine (hP.out _ k4).mono ?_
 rintro e w5 ⟨rfl,h5,k5⟩
 have hfin:=(H.out.keep k4).feed hme (y:={ x.f x.me with next:=nx+1,last:=v,K:=putL (x.f x.me).K nx v }) h5 k5 (by simp only;omega)
 have Hfin:=hid hfin
 have kk:Keeps b.S w w5:=(k4.mono fun _ _ x=>x.elim).trans (k5.mono fun j _ hj=>feeds_S hme hj)
 clear h5 hfin k5 k4
 go_wp2
 go_ret2
 exact ⟨rfl,by have:=Hfin.out;rw[←Hnx.out] at this ⊢;exact this,kk⟩
def cutFd (y:Fd) (k:Nat):Fd:={ y with first:=k,K:=cutL k y.K,U:=cutL k y.U }
def cutC (x:Co) (k:Nat):Co:={ x with f:=fun j=>if j<2 then cutFd (x.f j) k else x.f j,sf:=k,L:=x.L.filter fun p=>!decide (p.1<k) }
def cutN (x:Co) (k j:Nat):Co:={ x with f:=fun i=>if i<j then cutFd (x.f i) k else x.f i }
theorem cutN_zero (x:Co) (k:Nat):cutN x k 0=x:=by simp[cutN]
theorem cutN_next (x:Co) (k j:Nat):{ cutN x k j with f:=setF (cutN x k j).f j (cutFd (x.f j) k) }=cutN x k (j+1):=by
 unfold cutN setF
 simp only[Co.mk.injEq,true_and,and_true]
 funext i
 by_cases e:i=j
 ·subst e;simp
 ·by_cases e2:i<j
  ·rw[if_neg e,if_pos e2,if_pos (by omega)]
  ·rw[if_neg e,if_neg e2,if_neg (by omega)]
set_option maxHeartbeats 1000000 in
theorem co_Free (h:IsCore w b x) (hno:wrongF x=none) (k:Nat) (fr:Int) (hfr:fr=k) (hs:(k:Int)≤setlF x+1) (hsb:setlF x≤1000000) (hz:∀ j,j<2→(x.f j).first≤k∧k≤(x.f j).next) (hsf:x.sf≤k) (hkb:k≤1000000) :
  Calls Tryz.prog 90 #[.pointer (some ⟨b.c,0,none⟩),.int .i64 fr] w fun e w'=>(∃ n:Int,e=.returned (.int .i64 n))∧IsCore w' b (cutC x k)∧Keeps b.S w w':=by
 subst hfr
 have hS:=hid (co_Settled h hno)
 have H:=hid h
 clear h hno
 have hmin:min (k:Int) (setlF x+1)=(k:Int):=by omega
 have hset:-1≤setlF x:=by omega
 have hw1:IntKind.i64.wrap (setlF x+1)=setlF x+1:=IntWalk.i64_in _ (by omega)
 generalize setlF x=s at *
 have Hz:=hid hz
 clear hz
 have ix0:=feeds_ix0
 have ix1:=feeds_ix1
 go_enter Tryz.func90,Tryz.ntmps90
 go_wp2_with fail
 refine hS.out.mono ?_
 rintro e w1 ⟨rfl,hk1⟩
 have h1:=H.out.keep hk1
 have c4:=h1.cD (k:=0) (by omega)
 have c5:=h1.cD (k:=1) (by omega)
 have H1:=hid h1
 clear h1
 go_wp2_with fail
 all_goals try (exfalso;omega)
 go_loopg [18] 2 (fun g i wr=>∃ j:Nat,g=2-j∧j≤2∧i=.int .i64 j∧IsCore wr b (cutN x k j)∧Keeps b.S w wr)
 case atStart=>exact ⟨0,rfl,by omega,rfl,by rw[cutN_zero];exact H1.out,keeps_any hk1⟩
 case round=>
  obtain ⟨j,hg,hj,rfl,hC,hkk⟩:=hrel
  clear H1
  by_cases hlt:j<2
  ·have hfj:(cutN x k j).f j=x.f j:=by simp[cutN]
   have hfd:=hC.fd j hlt
   rw[hfj] at hfd
   have hzj:=Hz.out j hlt
   have hTr:=hid (feed_Trim hfd k (k:Int) ⟨hzj.1,by omega⟩ (.inl ⟨rfl,hzj.2⟩))
   have hnx:(x.f j).next≤1000000:=by have:=H.out.nx j hlt;exact this
   have HC:=hid hC
   clear hC hfj hfd hzj
   have hk01:j=0∨j=1:=by omega
   rcases hk01 with rfl|rfl
   ·go_wp2_with fail
    refine hTr.out.mono ?_
    rintro e w2 ⟨⟨n,rfl⟩,hF,hk2⟩
    have hfin:=HC.out.feed hlt (y:=cutFd (x.f 0) k) hF hk2 hnx
    rw[cutN_next] at hfin
    have hk3:=hkk.trans (hk2.mono fun j _ hj=>feeds_S hlt hj)
    have Hfin:=hid hfin
    clear hF hk2 hfin
    go_wp2_with fail
    go_roundg 1
    case rel=>exact ⟨1,rfl,by omega,by go_num,Hfin.out,hk3⟩
    case measure=>omega
   ·go_wp2_with fail
    refine hTr.out.mono ?_
    rintro e w2 ⟨⟨n,rfl⟩,hF,hk2⟩
    have hfin:=HC.out.feed hlt (y:=cutFd (x.f 1) k) hF hk2 hnx
    rw[cutN_next] at hfin
    have hk3:=hkk.trans (hk2.mono fun j _ hj=>feeds_S hlt hj)
    have Hfin:=hid hfin
    clear hF hk2 hfin
    go_wp2_with fail
    go_roundg 0
    case rel=>exact ⟨2,rfl,by omega,by go_num,Hfin.out,hk3⟩
    case measure=>omega
  ·obtain rfl:j=2:=by omega
   have c6:=hC.c6
   have hM:=hid (s_is_Move hC.st k (k:Int) rfl ⟨hsf,by omega⟩)
   have HC:=hid hC
   clear hC
   go_wp2_with fail
   refine hM.out.mono ?_
   rintro e w2 ⟨rfl,hW,hk2⟩
   have hfin:IsCore w2 b (cutC x k):=HC.out.win hW hk2
   have kk:=hkk.trans (hk2.mono (T:=b.S) fun j _ hj=>by rcases hj with e|e;(· exact .inr (.inr (.inr (.inl e))));(· exact .inr (.inr (.inr (.inr e)))))
   clear hW hk2
   have Hf:=hid hfin
   clear hfin
   go_wp2
   go_ret
   exact ⟨⟨_,rfl⟩,Hf.out,kk⟩
end
end Go.Proofs.YtalagblioepadaaGreatDoor
