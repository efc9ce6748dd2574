/- The proof, part 48. -/
import Derived.Test.YtalagblioepadaaGreatDoorZa46
import Derived.Carry
import Derived.Test.YtalagblioepadaaGreatDoorZa47
import Derived.Test.YtalagblioepadaaGreatDoorZa35
import Derived.Test.YtalagblioepadaaGreatDoorZa01
import Derived.Test.YtalagblioepadaaGreatDoorZa16
import Derived.Test.YtalagblioepadaaGreatDoorZa44
namespace Go.Proofs.YtalagblioepadaaGreatDoor
section
open Go.RowKit
open Go.Maps
set_option maxRecDepth 100000
variable {w w':World}
def mayC (d n:Int):Bool:=decide (0≤d∧d≤8∧1≤n∧n≤16)
theorem co_may (seed d n me:Int) (hme:me=0∨me=1) (w:World):Calls Tryz.prog 189 #[.agg #[.int .u32 seed,.int .i64 d,.int .i64 n,.int .i64 me]] w fun e w'=>e=.returned (.bool (mayC d n))∧Below w.heap.size w w':=by
 rcases hme with rfl|rfl
 ·have k0:=(Below.refl w.heap.size w).alloc (Nat.le_refl _) (.cells #[.int .u32 seed,.int .i64 d,.int .i64 n,.int .i64 0] 24)
  unfold mayC
  go_enter Tryz.func189,Tryz.ntmps189
  go_wp2_with fail
  all_goals (go_ret;exact ⟨ret_bool (by simp;omega),k0⟩)
 ·have k0:=(Below.refl w.heap.size w).alloc (Nat.le_refl _) (.cells #[.int .u32 seed,.int .i64 d,.int .i64 n,.int .i64 1] 24)
  unfold mayC
  go_enter Tryz.func189,Tryz.ntmps189
  go_wp2_with fail
  all_goals (go_ret;exact ⟨ret_bool (by simp;omega),k0⟩)
theorem le_New (most:Int) (hm:1≤most∧most≤256) (w:World):Calls Tryz.prog 130 #[.int .i64 most] w fun e w'=>e=.returned (.tuple #[.pointer (some ⟨w.heap.size+2,0,none⟩),.int .i64 0])∧w'=((w.alloc (.map #[] 0)).alloc (.map #[] 0)).alloc (.cells #[.int .i64 most,.map (some w.heap.size),.map (some (w.heap.size+1)),.int .i64 (-1),.bool false] 118):=by
 have hmm:=@run_makeMap Tryz.prog
 go_enter Tryz.func130,Tryz.ntmps130
 go_wp2
 go_ret2
 exact ⟨rfl,rfl⟩
theorem le_New_no (most:Int) (hm:¬ (1≤most∧most≤256)) (w:World):Calls Tryz.prog 130 #[.int .i64 most] w fun e w'=>e=.returned (.tuple #[.pointer none,.int .i64 1])∧w=w':=by
 by_cases h1:most<1
 ·go_enter Tryz.func130,Tryz.ntmps130
  go_wp2
  go_ret2
  exact ⟨rfl,rfl⟩
 ·have h2:256<most:=by omega
  go_enter Tryz.func130,Tryz.ntmps130
  go_wp2
  go_ret2
  exact ⟨rfl,rfl⟩
theorem mx_New (n:Int) (hm:1≤n∧n≤16) (w:World):Calls Tryz.prog 131 #[.int .i64 n] w fun e w'=>e=.returned (.tuple #[.pointer (some ⟨w.heap.size,0,none⟩),.int .i64 0])∧w'=w.alloc (.cells #[.int .i64 n,.int .i64 0,.slice none 0 0] 177):=by
 go_enter Tryz.func131,Tryz.ntmps131
 go_wp2
 go_ret2
 exact ⟨rfl,rfl⟩
theorem mx_New_no (n:Int) (hm:¬ (1≤n∧n≤16)) (w:World):Calls Tryz.prog 131 #[.int .i64 n] w fun e w'=>e=.returned (.tuple #[.pointer none,.int .i64 1])∧w=w':=by
 by_cases h1:n<1
 ·go_enter Tryz.func131,Tryz.ntmps131
  go_wp2
  go_ret2
  exact ⟨rfl,rfl⟩
 ·have h2:16<n:=by omega
  go_enter Tryz.func131,Tryz.ntmps131
  go_wp2
  go_ret2
  exact ⟨rfl,rfl⟩
end
section
open Go.RowKit
open Go.Maps
set_option maxRecDepth 100000
variable {w w':World}
theorem lk_New_no (nonce patience first:Int) (hp:¬ (1≤patience∧patience≤10000)∨¬ (0≤first∧first≤1073741824)) (w:World):Calls Tryz.prog 129 #[.int .u32 nonce,.int .i64 patience,.int .i64 first] w fun e w'=>e=.returned (.tuple #[.pointer none,.int .i64 1])∧w=w':=by
 by_cases h1:patience<1
 ·clear hp
  go_enter Tryz.func129,Tryz.ntmps129
  go_wp2
  go_ret2
  exact ⟨rfl,rfl⟩
 by_cases h2:10000<patience
 ·clear hp
  go_enter Tryz.func129,Tryz.ntmps129
  go_wp2
  go_ret2
  exact ⟨rfl,rfl⟩
 have h3:¬ (0≤first∧first≤1073741824):=by omega
 have hF:=lk_frame first w
 rw[decide_eq_false h3] at hF
 have HF:=hid hF
 clear hp h3 hF
 go_enter Tryz.func129,Tryz.ntmps129
 go_wp2_with fail
 refine HF.out.mono ?_
 rintro e _ ⟨rfl,rfl⟩
 go_wp2
 go_ret2
 exact ⟨rfl,rfl⟩
theorem co_New_no (seed d n me:Int) (hme:me=0∨me=1) (hm:mayC d n=false) (w:World):Calls Tryz.prog 128 #[.agg #[.int .u32 seed,.int .i64 d,.int .i64 n,.int .i64 me]] w fun e w'=>e=.returned (.tuple #[.pointer none,.int .i64 1])∧Below w.heap.size w w':=by
 have k0:=(Below.refl w.heap.size w).alloc (Nat.le_refl _) (.cells #[.int .u32 seed,.int .i64 d,.int .i64 n,.int .i64 me] 24)
 have HM:=hid (co_may seed d n me hme)
 rw[hm] at HM
 clear hme hm
 go_enter Tryz.func128,Tryz.ntmps128
 go_wp2_with fail
 refine (HM.out _).mono ?_
 rintro e w1 ⟨rfl,hb⟩
 have hbb:=k0.trans (hb.mono (by have:=k0.size;omega))
 clear hb k0
 go_wp2
 go_ret2
 exact ⟨rfl,hbb⟩
end
section
open Go.RowKit
open Go.Maps
set_option maxRecDepth 100000
variable {w w':World}
def fdZ (j:Nat):Fd:=⟨0,j,0,noL 0 j,[]⟩
def begC (seed:Int) (d n me j i:Nat):Co:=⟨seed,d,n,me,fun k=>if k<i then fdZ (j+1) else fdZ j,0,[],0⟩
theorem begC_round (seed:Int) (d n me j:Nat):∀ k,k<2→((begC seed d n me j 2).f k)=((begC seed d n me (j+1) 0).f k):=by
 intro k hk
 simp[begC,hk]
theorem begC_next (seed:Int) (d n me j i:Nat):{ begC seed d n me j i with f:=setF (begC seed d n me j i).f i (fdZ (j+1)) }=begC seed d n me j (i+1):=by
 simp only[begC,Co.mk.injEq,and_true,true_and]
 funext k
 unfold setF
 by_cases e:k=i
 ·rw[if_pos e,if_pos (by omega)]
 ·rw[if_neg e]
  by_cases e2:k<i
  ·simp only[if_pos e2]
   rw[if_pos (by omega)]
  ·simp only[if_neg e2]
   rw[if_neg (by omega)]
theorem IsCore.like {b:CoB} {x y:Co} (h:IsCore w b x) (h1:y.seed=x.seed) (h2:y.delay=x.delay) (h3:y.wnd=x.wnd) (h4:y.me=x.me) (h5:∀ k,k<2→y.f k=x.f k) (h6:y.sf=x.sf) (h7:y.L=x.L) (h8:y.now=x.now):IsCore w b y:=
 ⟨by rw[h1,h2,h3,h4,h8];exact h.head,fun k hk=>by rw[h5 k hk];exact h.fd k hk,by rw[h6,h7];exact h.st,h.ok,by rw[h4];exact h.me,by rw[h8];exact h.nw,fun k hk=>by rw[h5 k hk];exact h.nx k hk,by rw[h3];exact h.wn⟩
theorem build_f2 (p q:Option Addr) (W:World):(Instr.build 126 #[(0,.pointer p),(1,.pointer q)]).run Tryz.prog W=.ok (.agg #[.pointer p,.pointer q]) W:=by kernel_rfl
theorem build_core (x y z v:Int) (p q r:Option Addr) (W:World):(Instr.build 129 #[(0,.agg #[.int .u32 x,.int .i64 y,.int .i64 z,.int .i64 v]),(1,.agg #[.pointer p,.pointer q]),(2,.pointer r)]).run Tryz.prog W=.ok (.agg #[.int .u32 x,.int .i64 y,.int .i64 z,.int .i64 v,.pointer p,.pointer q,.pointer r,.int .i64 0]) W:=by kernel_rfl
theorem s_win_empty {w:World} {r B:Nat} (h:SWinAt w r B 81 0 (List.replicate 81 (zeroV,false))):SIsWin w r B 81 0 []:=
 ⟨_,h,by simp,by omega,.nil,(fun p hp=>by cases hp),(fun f x h=>by cases h),fun f h1 h2 h3 _=>⟨zeroV,by rw[List.getElem?_replicate,if_pos (Nat.mod_lt _ (by omega))]⟩⟩
theorem cob_ok {c D0 D1 r B:Nat} (h1:D0+4<D1) (h2:D1+4<c) (h3:B<r) (h4:r<D0):CoB.ok ⟨c,fun k=>if k=0 then D0 else D1,r,B⟩:=by
 constructor<;>simp<;>omega
structure CN (w:World) (b:CoB) (x:Co) (seed:Int) (d n me:Nat) (W:World):Prop where
 co:IsCore W b x
 cf:W.heap[w.heap.size]?=some (.cells #[.int .u32 seed,.int .i64 d,.int .i64 n,.int .i64 me] 24 (0,0))
 bl:Below w.heap.size w W
theorem CN.turn {b:CoB} {x y:Co} {seed:Int} {d n me:Nat} {T:Nat→Prop} {W W':World} (h:CN w b x seed d n me W) (hb:∀ j,b.S j→w.heap.size<j) (hc:IsCore W' b y) (hk:Keeps T W W') (hT:∀ j,T j→b.S j):CN w b y seed d n me W':=
 ⟨hc,hk.heap h.cf (fun e=>by have:=hb _ (hT _ e);omega),h.bl.trans (hk.below (h.bl.size) (fun k hk2 e=>by have:=hb _ (hT _ e);omega))⟩
set_option maxHeartbeats 1000000 in
theorem co_New (seed:Int) (d n me:Nat) (hd:d≤8) (hn:1≤n∧n≤16) (hme:me<2) (w:World):Calls Tryz.prog 128 #[.agg #[.int .u32 seed,.int .i64 d,.int .i64 n,.int .i64 me]] w fun e w'=>
  ∃ b:CoB,e=.returned (.tuple #[.pointer (some ⟨b.c,0,none⟩),.int .i64 0])∧IsCore w' b ⟨seed,d,n,me,fun _=>fdZ d,0,[(0,standV seed 0)],0⟩∧(∀ j,b.S j→w.heap.size≤j)∧Below w.heap.size w w':=by
 have k0:=(Below.refl w.heap.size w).alloc (Nat.le_refl _) (.cells #[.int .u32 seed,.int .i64 d,.int .i64 n,.int .i64 me] 24)
 have hB:=blk_new w (.cells #[.int .u32 seed,.int .i64 d,.int .i64 n,.int .i64 me] 24)
 have hz:(w.alloc (.cells #[.int .u32 seed,.int .i64 d,.int .i64 n,.int .i64 me] 24)).heap.size=w.heap.size+1:=by simp
 have hm:=co_may seed d n me (by omega)
 rw[show mayC d n=true from decide_eq_true (by omega)] at hm
 have HM:=hid hm
 have Hd:=hid hd
 have Hn:=hid hn
 have Hme:=hid hme
 clear hm hd hn hme
 go_enter Tryz.func128,Tryz.ntmps128
 go_wp2_with fail
 refine (HM.out _).mono ?_
 rintro e w1 ⟨rfl,hb1⟩
 have hz1:=hb1.size
 have k1:=k0.trans (hb1.mono (by omega))
 have hB1:=(Keeps.of_below (S:=fun _=>False) hb1 (fun k h1 h2=>by omega)).heap hB id
 clear hb1 k0 hB
 generalize w.alloc (.cells #[.int .u32 seed,.int .i64 d,.int .i64 n,.int .i64 me] 24)=w0 at *
 have Hz:=hid (show w.heap.size+1≤w1.heap.size by omega)
 have K1:=hid k1
 clear hz hz1 k1
 go_wp2_with fail
 refine (s_win_Open 81 (by omega) (by omega) w1).mono ?_
 rintro e w2 ⟨rfl,hW2,hb2,hz2⟩
 have hS2:SIsWin w2 (w1.heap.size+1) w1.heap.size 81 0 []:=s_win_empty hW2
 have k2:=K1.out.trans (hb2.mono (by have:=Hz.out;omega))
 have hB2:=(Keeps.of_below (S:=fun _=>False) hb2 (fun k h1 h2=>by omega)).heap hB1 id
 have Hz2:=hid hz2
 have Hb2:=hid hB2
 have K2:=hid k2
 have HS2:=hid hS2
 clear hb2 hW2 hB1 hB2 K1 k2 hS2 hz2
 generalize w1.heap.size=B at *
 have hF:w2.drew.heap[w.heap.size]?=some (.cells #[.int .u32 seed,.int .i64 d,.int .i64 n,.int .i64 me] 24 (0,0)):=Hb2.out
 have hf2:=build_f2
 have hcr:=build_core
 have q0:∀ x:HeldC (fun W=>W.heap[w.heap.size]?=some (.cells #[.int .u32 seed,.int .i64 d,.int .i64 n,.int .i64 me] 24 (0,0))),x.to.cell? ⟨w.heap.size,0,none⟩=some (.int .u32 seed):=fun x=>blk_cell (k:=0) x.held rfl
 have q1:∀ x:HeldC (fun W=>W.heap[w.heap.size]?=some (.cells #[.int .u32 seed,.int .i64 d,.int .i64 n,.int .i64 me] 24 (0,0))),x.to.cell? ⟨w.heap.size,1,none⟩=some (.int .i64 d):=fun x=>blk_cell (k:=1) x.held rfl
 have q2:∀ x:HeldC (fun W=>W.heap[w.heap.size]?=some (.cells #[.int .u32 seed,.int .i64 d,.int .i64 n,.int .i64 me] 24 (0,0))),x.to.cell? ⟨w.heap.size,2,none⟩=some (.int .i64 n):=fun x=>blk_cell (k:=2) x.held rfl
 have q3:∀ x:HeldC (fun W=>W.heap[w.heap.size]?=some (.cells #[.int .u32 seed,.int .i64 d,.int .i64 n,.int .i64 me] 24 (0,0))),x.to.cell? ⟨w.heap.size,3,none⟩=some (.int .i64 me):=fun x=>blk_cell (k:=3) x.held rfl
 go_upto_region 6 with fail
 refine stages_start (by kernel_rfl) 8 rfl ?_
 refine ht_start (fun W=>W.heap[w.heap.size]?=some (.cells #[.int .u32 seed,.int .i64 d,.int .i64 n,.int .i64 me] 24 (0,0))) [0,1,2,3,4,5] 2 6 rfl #[true,true,true,true,true,true,false,false] ?_
 have hne:Nonempty (HeldC (fun W=>W.heap[w.heap.size]?=some (.cells #[.int .u32 seed,.int .i64 d,.int .i64 n,.int .i64 me] 24 (0,0)))):=⟨⟨_,hF⟩⟩
 refine ht_heads (m:=4) (hF) [0,4] 2 rfl #[true,false,false,false,true,false,false,false] (by kernel_rfl) (by kernel_rfl) (fun _ _ _ d _ h=>by first|(cases d<;>exact h)|cases h.1) ?_
 simp only[opsAt,List.map_cons,List.map_nil,List.getElem?_toArray,List.getElem?_cons_zero,List.getElem?_cons_succ,Option.getD_some]
 repeat (go_big_quiet_step (fail))
 refine wpQuiet_nil ?_
 clear hne
 have kd:Keeps (fun _=>False) w2 w2.drew:=(Keeps.refl _ w2).drew
 have hzd:w2.drew.heap.size=B+2:=Hz2.out
 generalize w2.drew=w3 at *
 refine ht_one (m:=3) 1 #[true,true,false,false,true,false,false,false] (by kernel_rfl) (by kernel_rfl) (by kernel_rfl) (by kernel_rfl) (by simp only[opAt,List.getElem?_toArray,List.getElem?_cons_zero,List.getElem?_cons_succ,Option.getD_some];first|rfl|simp[go_sem]) (fun K hK=>?_)
 simp only[opAt,List.getElem?_toArray,List.getElem?_cons_zero,List.getElem?_cons_succ,Option.getD_some]
 go_simp
 refine (feed_New w3).mono ?_
 rintro e w4 ⟨rfl,hD0,hb4⟩
 have k4:Keeps (fun _=>False) w3 w4:=Keeps.of_below hb4 (fun k h1 h2=>by omega)
 have hF4:=k4.heap hF id
 refine hK _ _ (hF4) ?_
 clear hK K
 refine ht_one (m:=2) 2 #[true,true,true,false,true,false,false,false] (by kernel_rfl) (by kernel_rfl) (by kernel_rfl) (by kernel_rfl) (by simp only[opAt,List.getElem?_toArray,List.getElem?_cons_zero,List.getElem?_cons_succ,Option.getD_some];first|rfl|simp[go_sem]) (fun K hK=>?_)
 simp only[opAt,List.getElem?_toArray,List.getElem?_cons_zero,List.getElem?_cons_succ,Option.getD_some]
 go_simp
 refine (feed_New w4).mono ?_
 rintro e w5 ⟨rfl,hD1,hb5⟩
 have k5:Keeps (fun _=>False) w4 w5:=Keeps.of_below hb5 (fun k h1 h2=>by omega)
 have hF5:=k5.heap hF4 id
 refine hK _ _ (hF5) ?_
 clear hK K
 have hne:Nonempty (HeldC (fun W=>W.heap[w.heap.size]?=some (.cells #[.int .u32 seed,.int .i64 d,.int .i64 n,.int .i64 me] 24 (0,0)))):=⟨⟨_,hF5⟩⟩
 refine ht_heads (m:=0) (hF5) [3,5] 2 rfl #[true,true,true,true,true,true,false,false] (by kernel_rfl) (by kernel_rfl) (fun _ _ _ d _ h=>by first|(cases d<;>exact h)|cases h.1) ?_
 simp only[opsAt,List.map_cons,List.map_nil,List.getElem?_toArray,List.getElem?_cons_zero,List.getElem?_cons_succ,Option.getD_some]
 repeat (go_big_quiet_step (fail))
 refine wpQuiet_nil ?_
 clear hne
 refine ht_nil (by kernel_rfl) ?_
 refine ht_start (fun _=>True) [6,7] 0 2 rfl #[true,true,true,true,true,true,true,true] ?_
 refine ht_one (m:=1) 6 #[true,true,true,true,true,true,true,false] (by kernel_rfl) (by kernel_rfl) (by kernel_rfl) (by kernel_rfl) (by simp only[opAt,List.getElem?_toArray,List.getElem?_cons_zero,List.getElem?_cons_succ,Option.getD_some];first|rfl|simp[go_sem]) (fun K hK=>?_)
 simp only[opAt,List.getElem?_toArray,List.getElem?_cons_zero,List.getElem?_cons_succ,Option.getD_some]
 go_simp
 refine hK _ _ (trivial) ?_
 clear hK K
 refine ht_one (m:=0) 7 #[true,true,true,true,true,true,true,true] (by kernel_rfl) (by kernel_rfl) (by kernel_rfl) (by kernel_rfl) (by simp only[opAt,List.getElem?_toArray,List.getElem?_cons_zero,List.getElem?_cons_succ,Option.getD_some];first|rfl|simp[go_sem]) (fun K hK=>?_)
 simp only[opAt,List.getElem?_toArray,List.getElem?_cons_zero,List.getElem?_cons_succ,Option.getD_some]
 go_simp
 refine hK _ _ (trivial) ?_
 clear hK K
 refine ht_nil (by kernel_rfl) ?_
 refine stages_end (by kernel_rfl) ?_
 have kC:=(Keeps.refl (fun _=>False) w5).alloc (.cells #[.int .u32 seed,.int .i64 d,.int .i64 n,.int .i64 me,.pointer (some ⟨B+2+4,0,none⟩),.pointer (some ⟨w4.heap.size+4,0,none⟩),.pointer (some ⟨B+1,0,none⟩),.int .i64 0] 129)
 have hCb:=blk_new w5 (.cells #[.int .u32 seed,.int .i64 d,.int .i64 n,.int .i64 me,.pointer (some ⟨B+2+4,0,none⟩),.pointer (some ⟨w4.heap.size+4,0,none⟩),.pointer (some ⟨B+1,0,none⟩),.int .i64 0] 129)
 have hzz:=hb4.size
 have hzy:=hb5.size
 have hlD0:=hD0.lt
 have hlD1:=hD1.lt
 rw[hzd] at hD0
 have hDa:FdAt (w5.alloc (.cells #[.int .u32 seed,.int .i64 d,.int .i64 n,.int .i64 me,.pointer (some ⟨B+2+4,0,none⟩),.pointer (some ⟨w4.heap.size+4,0,none⟩),.pointer (some ⟨B+1,0,none⟩),.int .i64 0] 129)) (B+2) (fdZ 0):=IsFeed.keep (IsFeed.keep hD0 k5) kC
 have hDb:FdAt (w5.alloc (.cells #[.int .u32 seed,.int .i64 d,.int .i64 n,.int .i64 me,.pointer (some ⟨B+2+4,0,none⟩),.pointer (some ⟨w4.heap.size+4,0,none⟩),.pointer (some ⟨B+1,0,none⟩),.int .i64 0] 129)) w4.heap.size (fdZ 0):=IsFeed.keep hD1 kC
 have hSt:=HS2.out.keeps (kd.trans (k4.trans (k5.trans kC))) id id
 have hcf:=(kd.trans (k4.trans (k5.trans kC))).heap Hb2.out id
 have hbl:=K2.out.trans ((kd.trans (k4.trans (k5.trans kC))).below K2.out.size (fun _ _ e=>e))
 obtain ⟨b,hb⟩:∃ b:CoB,b=⟨w5.heap.size,fun k=>if k=0 then B+2 else w4.heap.size,B+1,B⟩:=⟨_,rfl⟩
 have hCN:CN w b (begC seed d n me 0 0) seed d n me (w5.alloc (.cells #[.int .u32 seed,.int .i64 d,.int .i64 n,.int .i64 me,.pointer (some ⟨B+2+4,0,none⟩),.pointer (some ⟨w4.heap.size+4,0,none⟩),.pointer (some ⟨B+1,0,none⟩),.int .i64 0] 129)):=by
  subst hb
  refine ⟨⟨hCb,fun k hk=>?_,hSt,cob_ok (by omega) (by omega) (by omega) (by omega),Hme.out,Nat.zero_le _,fun k _=>?_,?_⟩,hcf,hbl⟩
  ·have:k=0∨k=1:=by omega
   rcases this with rfl|rfl
   ·exact hDa
   ·exact hDb
  ·simp[begC,fdZ]
  ·have:=Hn.out
   simp only[begC]
   omega
 have hbS:∀ j,b.S j→w.heap.size<j:=by
  subst hb
  intro j hj
  have:=Hz.out
  unfold CoB.S at hj
  simp only[if_pos,if_neg (show ¬ (1=0) by omega)] at hj
  omega
 have hbc:w5.heap.size=b.c:=by rw[hb]
 have hbr:B+1=b.r:=by rw[hb]
 rw[hbc,hbr]
 rw[hbr] at hCN
 have HCN:=hid hCN
 have HbS:=hid hbS
 clear hCN hbS hbc hbr hb hbl hcf hSt hDa hDb hlD0 hlD1 hzz hzy hCb kC hF5 k5 hb5 hD1 hF4 k4 hb4 hD0 hF hzd kd q0 q1 q2 q3 HS2 K2 Hb2 Hz2 Hz HM
 generalize World.alloc w5 _=W0 at *
 have d1:W0.cell? ⟨w.heap.size,1,none⟩=some (.int .i64 d):=blk_cell (k:=1) HCN.out.cf rfl
 go_wp2_with fail
 clear d1
 go_loopg [7,9,29,35,36] d (fun g _ _ i _ _ wr=>∃ j:Nat,g=d-j∧j≤d∧i=.int .i64 j∧CN w b (begC seed d n me j 0) seed d n me wr)
 case atStart=>exact ⟨0,rfl,Nat.zero_le _,rfl,HCN.out⟩
 case round=>
  obtain ⟨j,hg,hj,rfl,hC⟩:=hrel
  have HC:=hid hC
  have Hd':=Hd.out
  clear HCN hC
  by_cases hlt:j<d
  ·have z4:wr.cell? ⟨b.c,4,none⟩=some (.pointer (some ⟨b.D 0+4,0,none⟩)):=HC.out.co.cD (k:=0) (by omega)
   have z5:wr.cell? ⟨b.c,5,none⟩=some (.pointer (some ⟨b.D 1+4,0,none⟩)):=HC.out.co.cD (k:=1) (by omega)
   have ix0:=feeds_ix0
   have ix1:=feeds_ix1
   have hbl:=blk_lt HC.out.co.head
   go_wp2_with fail
   clear z4 z5 hbl
   go_loopg [9,36] 2 (fun g _ i vr=>∃ q:Nat,g=2-q∧q≤2∧i=.int .i64 q∧CN w b (begC seed d n me j q) seed d n me vr)
   case atStart=>exact ⟨0,rfl,by omega,rfl,HC.out⟩
   case round=>
    obtain ⟨q,hg,hq,rfl,hV⟩:=hrel
    clear HC
    have hq3:q=0∨q=1∨q=2:=by omega
    rcases hq3 with rfl|rfl|rfl
    ·have hfd:=hV.co.fd 0 (by omega)
     change IsFeed _ (b.D 0) 0 j 0 (noL 0 j) [] at hfd
     have hPt:=hid (feed_Put hfd 0 (by omega) (j:Int) rfl (by omega) (by omega))
     have HV:=hid hV
     clear hV hfd
     go_wp2_with fail
     refine hPt.out.mono ?_
     rintro e w9 ⟨rfl,hF9,k9⟩
     have hy:FdAt w9 (b.D 0) (fdZ (j+1)):=by
      unfold FdAt fdZ
      have e9:=seqL_put (fun _=>(0:Int)) (f:=0) (n:=j) (by omega)
      unfold noL at hF9 ⊢
      rw[←e9]
      exact hF9
     have hfin:=HV.out.co.feed (k:=0) (by omega) hy k9 (by show j+1≤1000000;omega)
     rw[begC_next] at hfin
     have hV9:=HV.out.turn HbS.out hfin k9 (fun _ e=>feeds_S (by omega) e)
     clear hF9 k9 hy hfin HV hPt
     go_wp2_with fail
     go_roundg 1
     case rel=>exact ⟨1,rfl,by omega,by go_num,hV9⟩
     case measure=>omega
    ·have hfd:=hV.co.fd 1 (by omega)
     change IsFeed _ (b.D 1) 0 j 0 (noL 0 j) [] at hfd
     have hPt:=hid (feed_Put hfd 0 (by omega) (j:Int) rfl (by omega) (by omega))
     have HV:=hid hV
     clear hV hfd
     go_wp2_with fail
     refine hPt.out.mono ?_
     rintro e w9 ⟨rfl,hF9,k9⟩
     have hy:FdAt w9 (b.D 1) (fdZ (j+1)):=by
      unfold FdAt fdZ
      have e9:=seqL_put (fun _=>(0:Int)) (f:=0) (n:=j) (by omega)
      unfold noL at hF9 ⊢
      rw[←e9]
      exact hF9
     have hfin:=HV.out.co.feed (k:=1) (by omega) hy k9 (by show j+1≤1000000;omega)
     rw[begC_next] at hfin
     have hV9:=HV.out.turn HbS.out hfin k9 (fun _ e=>feeds_S (by omega) e)
     clear hF9 k9 hy hfin HV hPt
     go_wp2_with fail
     go_roundg 0
     case rel=>exact ⟨2,rfl,by omega,by go_num,hV9⟩
     case measure=>omega
    ·have hV2:=hV.turn HbS.out (hV.co.like (y:=begC seed d n me (j+1) 0) rfl rfl rfl rfl (fun k hk=>(begC_round seed d n me j k hk).symm) rfl rfl rfl) (Keeps.refl (fun _=>False) _) (fun _ e=>e.elim)
     clear hV
     go_wp2_with fail
     go_roundg (d-(j+1))
     case rel=>exact ⟨j+1,rfl,by omega,by go_num,hV2⟩
     case measure=>omega
  ·obtain rfl:j=d:=by omega
   have s0:wr.cell? ⟨w.heap.size,0,none⟩=some (.int .u32 seed):=blk_cell (k:=0) HC.out.cf rfl
   go_wp2_with fail
   refine (gm_Begin seed wr).mono ?_
   rintro e w9 ⟨rfl,hb9⟩
   have k9:Keeps (fun _=>False) wr w9:=Keeps.of_below hb9 (fun k h1 h2=>by omega)
   have hC9:=HC.out.turn HbS.out (HC.out.co.keep k9) k9 (fun _ e=>e.elim)
   have hP:=hid (s_is_Put hC9.co.st 0 (0:Int) rfl (by unfold inW;simp[begC]) (standV seed 0))
   have HC9:=hid hC9
   clear hC9 k9 hb9 HC s0
   go_wp2_with fail
   refine hP.out.mono ?_
   rintro e wA ⟨rfl,hWA,kA⟩
   have hfin:=HC9.out.co.win hWA (kA.mono fun _ _ e=>.inr e)
   have hCA:=HC9.out.turn HbS.out hfin kA (fun j e=>.inr (.inr (.inr (.inr e))))
   clear hWA kA hfin HC9 hP
   go_wp2_with fail
   go_ret2
   exact ⟨b,rfl,hCA.co.like rfl rfl rfl rfl (fun k _=>by simp[begC]) rfl rfl rfl,fun j hj=>Nat.le_of_lt (HbS.out j hj),hCA.bl⟩
end
section
open Go.RowKit
open Go.Maps
set_option maxRecDepth 100000
variable {w w':World}
theorem co_New_any (seed d n:Int) (me:Nat) (hme:me<2) (w:World):Calls Tryz.prog 128 #[.agg #[.int .u32 seed,.int .i64 d,.int .i64 n,.int .i64 me]] w fun e w'=>∃ p er,e=.returned (.tuple #[.pointer p,.int .i64 er])∧(er=0→mayC d n=true)∧Below w.heap.size w w':=by
 cases hm:mayC d n with
 | false=>exact (co_New_no seed d n me (by omega) hm w).mono fun e w' h=>⟨none,1,h.1,fun e=>by omega,h.2⟩
 | true=>
  have hm2:0≤d∧d≤8∧1≤n∧n≤16:=of_decide_eq_true hm
  obtain ⟨d,rfl⟩:=Int.eq_ofNat_of_zero_le hm2.1
  obtain ⟨n,rfl⟩:=Int.eq_ofNat_of_zero_le (show 0≤n by omega)
  exact (co_New seed d n me (by omega) (by omega) hme w).mono fun e w' ⟨b,h1,_,_,h2⟩=>⟨_,0,h1,fun _=>rfl,h2⟩
theorem lk_New_any (nonce patience first:Int) (w:World):Calls Tryz.prog 129 #[.int .u32 nonce,.int .i64 patience,.int .i64 first] w fun e w'=>∃ p er,e=.returned (.tuple #[.pointer p,.int .i64 er])∧(er=0→1≤patience∧patience≤10000)∧Below w.heap.size w w':=by
 by_cases hp:(1≤patience∧patience≤10000)∧(0≤first∧first≤1073741824)
 ·exact (lk_New nonce patience first hp.1 hp.2 w).mono fun e w' h=>⟨_,0,h.1,fun _=>hp.1,h.2.2⟩
 ·exact (lk_New_no nonce patience first (by omega) w).mono fun e w' h=>⟨none,1,h.1,fun e=>by omega,h.2▸Below.refl _ w⟩
theorem le_New_any (most:Int) (w:World):Calls Tryz.prog 130 #[.int .i64 most] w fun e w'=>∃ p er,e=.returned (.tuple #[.pointer p,.int .i64 er])∧(er=0→1≤most∧most≤256)∧Below w.heap.size w w':=by
 by_cases hp:1≤most∧most≤256
 ·exact (le_New most hp w).mono fun e w' h=>⟨_,0,h.1,fun _=>hp,by rw[h.2];exact (((Below.refl _ w).alloc (Nat.le_refl _) _).alloc (by simp) _).alloc (by simp;omega) _⟩
 ·exact (le_New_no most hp w).mono fun e w' h=>⟨none,1,h.1,fun e=>by omega,h.2▸Below.refl _ w⟩
theorem mx_New_any (most:Int) (w:World):Calls Tryz.prog 131 #[.int .i64 most] w fun e w'=>∃ p er,e=.returned (.tuple #[.pointer p,.int .i64 er])∧(er=0→1≤most∧most≤16)∧Below w.heap.size w w':=by
 by_cases hp:1≤most∧most≤16
 ·exact (mx_New most hp w).mono fun e w' h=>⟨_,0,h.1,fun _=>hp,by rw[h.2];exact (Below.refl _ w).alloc (Nat.le_refl _) _⟩
 ·exact (mx_New_no most hp w).mono fun e w' h=>⟨none,1,h.1,fun e=>by omega,h.2▸Below.refl _ w⟩
def goodS (d n pat ent voi:Int):Prop:=mayC d n=true∧(1≤pat∧pat≤10000)∧(1≤ent∧ent≤256)∧(1≤voi∧voi≤16)
abbrev QT:=World→Option Addr→Int→World→Prop
def MadeP (QC QL QG QM:QT) (w:World) (e:Ending) (w':World):Prop:=
 ∃ (W0:World) (pc:Option Addr) (ec:Int) (W1:World) (pl:Option Addr) (el:Int) (W2:World) (pg:Option Addr) (eg:Int) (W3:World) (pm:Option Addr) (em:Int) (W4:World),
  (w.heap.size+2≤W0.heap.size∧Below w.heap.size w W0)∧(QC W0 pc ec W1∧Below W0.heap.size W0 W1)∧(QL W1 pl el W2∧Below W1.heap.size W1 W2)∧(QG W2 pg eg W3∧Below W2.heap.size W2 W3)∧(QM W3 pm em W4∧Below W3.heap.size W3 W4)∧
  e=.returned (.tuple #[.agg #[.pointer pc,.pointer pl,.pointer pg,.pointer pm,.pointer (some ⟨W4.heap.size,0,none⟩),.pointer (some ⟨W4.heap.size+1,0,none⟩)],.bool (decide (ec=0∧el=0∧eg=0∧em=0))])∧
  Keeps (fun j=>j=w.heap.size+1) ((W4.alloc (.cells #[.slice none 0 0] 291)).alloc (.cells #[.int .i32 0,.int .i32 0,.int .i32 0,.int .i32 0] 278)) w'
theorem blk_six {w:World} {b:Nat} {t:TypeId} {c0 c1 c2 c3 c4 c5:Value} (h:w.heap[b]?=some (.cells #[c0,c1,c2,c3,c4,c5] t (0,0))) (v0 v1 v2 v3 v4 v5:Value) :
  ((((((w.setCell ⟨b,0,none⟩ v0).setCell ⟨b,1,none⟩ v1).setCell ⟨b,2,none⟩ v2).setCell ⟨b,3,none⟩ v3).setCell ⟨b,4,none⟩ v4).setCell ⟨b,5,none⟩ v5).heap[b]?=some (.cells #[v0,v1,v2,v3,v4,v5] t (0,0)):=by
 rw[blk_set (blk_set (blk_set (blk_set (blk_set (blk_set h 0 v0) 1 v1) 2 v2) 3 v3) 4 v4) 5 v5]
 rfl
set_option maxHeartbeats 1000000 in
theorem pe_made (seed d n nonce pat ent voi:Int) (me:Nat) (QC QL QG QM:QT)
  (hC:∀ W,Calls Tryz.prog 128 #[.agg #[.int .u32 seed,.int .i64 d,.int .i64 n,.int .i64 me]] W fun e w'=>∃ p er,e=.returned (.tuple #[.pointer p,.int .i64 er])∧QC W p er w'∧Below W.heap.size W w')
  (hL:∀ W,Calls Tryz.prog 129 #[.int .u32 nonce,.int .i64 pat,.int .i64 d] W fun e w'=>∃ p er,e=.returned (.tuple #[.pointer p,.int .i64 er])∧QL W p er w'∧Below W.heap.size W w')
  (hG:∀ W,Calls Tryz.prog 130 #[.int .i64 ent] W fun e w'=>∃ p er,e=.returned (.tuple #[.pointer p,.int .i64 er])∧QG W p er w'∧Below W.heap.size W w')
  (hM:∀ W,Calls Tryz.prog 131 #[.int .i64 voi] W fun e w'=>∃ p er,e=.returned (.tuple #[.pointer p,.int .i64 er])∧QM W p er w'∧Below W.heap.size W w')
  (w:World):Calls Tryz.prog 84 #[.agg #[.int .u32 seed,.int .i64 d,.int .i64 n,.int .i64 me,.int .u32 nonce,.int .i64 pat,.int .i64 ent,.int .i64 voi]] w (MadeP QC QL QG QM w):=by
 have hS:=blk_alloc (blk_new w (.cells #[.int .u32 seed,.int .i64 d,.int .i64 n,.int .i64 me,.int .u32 nonce,.int .i64 pat,.int .i64 ent,.int .i64 voi] 26)) (.cells #[.pointer none,.pointer none,.pointer none,.pointer none,.pointer none,.pointer none] 109)
 have hz:(w.alloc (.cells #[.int .u32 seed,.int .i64 d,.int .i64 n,.int .i64 me,.int .u32 nonce,.int .i64 pat,.int .i64 ent,.int .i64 voi] 26)).heap.size=w.heap.size+1:=by simp
 have hz2:w.heap.size+2≤((w.alloc (.cells #[.int .u32 seed,.int .i64 d,.int .i64 n,.int .i64 me,.int .u32 nonce,.int .i64 pat,.int .i64 ent,.int .i64 voi] 26)).alloc (.cells #[.pointer none,.pointer none,.pointer none,.pointer none,.pointer none,.pointer none] 109)).heap.size:=by simp
 have hP:=blk_new (w.alloc (.cells #[.int .u32 seed,.int .i64 d,.int .i64 n,.int .i64 me,.int .u32 nonce,.int .i64 pat,.int .i64 ent,.int .i64 voi] 26)) (.cells #[.pointer none,.pointer none,.pointer none,.pointer none,.pointer none,.pointer none] 109)
 rw[hz] at hP
 have k0:=((Below.refl w.heap.size w).alloc (Nat.le_refl _) (.cells #[.int .u32 seed,.int .i64 d,.int .i64 n,.int .i64 me,.int .u32 nonce,.int .i64 pat,.int .i64 ent,.int .i64 voi] 26)).alloc (by simp) (.cells #[.pointer none,.pointer none,.pointer none,.pointer none,.pointer none,.pointer none] 109)
 have K0:=hid k0
 have Z0:=hid hz2
 have HS:=hid hS
 have HP:=hid hP
 have HC:=hid hC
 have HL:=hid hL
 have HG:=hid hG
 have HM:=hid hM
 clear hz hz2 k0 hC hL hG hM hS hP
 go_enter Tryz.func84,Tryz.ntmps84
 go_wp2_with fail
 generalize World.alloc (World.alloc w _) _=W0 at *
 refine (HC.out W0).mono ?_
 rintro e W1 ⟨pc,ec,rfl,q1⟩
 have k1:Keeps (fun _=>False) W0 W1:=Keeps.of_below q1.2 (fun k h1 h2=>by omega)
 have HS:=hid (k1.heap HS.out id)
 have HP:=hid (k1.heap HP.out id)
 have Q1:=hid q1
 clear HC q1 k1
 obtain ⟨s0,s1,s2,s3,s4,s5,s6,s7⟩:=bc8 0 1 2 3 4 5 6 7 (HS.out) ⟨rfl,rfl,rfl,rfl,rfl,rfl,rfl,rfl⟩
 go_wp2_with fail
 refine (HL.out W1).mono ?_
 rintro e W2 ⟨pl,el,rfl,q2⟩
 have k1:Keeps (fun _=>False) W1 W2:=Keeps.of_below q2.2 (fun k h1 h2=>by omega)
 have HS:=hid (k1.heap HS.out id)
 have HP:=hid (k1.heap HP.out id)
 have Q2:=hid q2
 clear HL q2 k1 s0 s1 s2 s3 s4 s5 s6 s7
 obtain ⟨s0,s1,s2,s3,s4,s5,s6,s7⟩:=bc8 0 1 2 3 4 5 6 7 (HS.out) ⟨rfl,rfl,rfl,rfl,rfl,rfl,rfl,rfl⟩
 go_wp2_with fail
 refine (HG.out W2).mono ?_
 rintro e W3 ⟨pg,eg,rfl,q3⟩
 have k1:Keeps (fun _=>False) W2 W3:=Keeps.of_below q3.2 (fun k h1 h2=>by omega)
 have HS:=hid (k1.heap HS.out id)
 have HP:=hid (k1.heap HP.out id)
 have Q3:=hid q3
 clear HG q3 k1 s0 s1 s2 s3 s4 s5 s6 s7
 obtain ⟨s0,s1,s2,s3,s4,s5,s6,s7⟩:=bc8 0 1 2 3 4 5 6 7 (HS.out) ⟨rfl,rfl,rfl,rfl,rfl,rfl,rfl,rfl⟩
 go_wp2_with fail
 refine (HM.out W3).mono ?_
 rintro e W4 ⟨pm,em,rfl,q4⟩
 have k1:Keeps (fun _=>False) W3 W4:=Keeps.of_below q4.2 (fun k h1 h2=>by omega)
 have HP:=hid (k1.heap HP.out id)
 have Q4:=hid q4
 clear HM q4 k1 s0 s1 s2 s3 s4 s5 s6 s7 HS
 go_wp2_with fail
 ·refine (fe_New W4).mono ?_
  rintro e _ ⟨rfl,rfl⟩
  go_wp2_with fail
  refine (ea_New _).mono ?_
  rintro e _ ⟨rfl,rfl⟩
  have k1:=((Keeps.refl (fun _=>False) W4).alloc (.cells #[.slice none 0 0] 291)).alloc (.cells #[.int .i32 0,.int .i32 0,.int .i32 0,.int .i32 0] 278)
  have hP:=k1.heap HP.out id
  have hz4:(W4.alloc (.cells #[.slice none 0 0] 291)).heap.size=W4.heap.size+1:=by simp
  have h6:=blk_six hP (.pointer pc) (.pointer pl) (.pointer pg) (.pointer pm) (.pointer (some ⟨W4.heap.size,0,none⟩)) (.pointer (some ⟨W4.heap.size+1,0,none⟩))
  obtain ⟨g0,g1,g2,g3,g4,g5⟩:=bf6 hP 0 1 2 3 4 5
  obtain ⟨p0,p1,p2,p3,p4,p5⟩:=bc6 0 1 2 3 4 5 hP ⟨rfl,rfl,rfl,rfl,rfl,rfl⟩
  have k6:=((((((Keeps.refl (fun j=>j=w.heap.size+1) ((W4.alloc (.cells #[.slice none 0 0] 291)).alloc (.cells #[.int .i32 0,.int .i32 0,.int .i32 0,.int .i32 0] 278))).setCell (p:=⟨w.heap.size+1,0,none⟩) rfl (.pointer pc)).setCell (p:=⟨w.heap.size+1,1,none⟩) rfl (.pointer pl)).setCell (p:=⟨w.heap.size+1,2,none⟩) rfl (.pointer pg)).setCell (p:=⟨w.heap.size+1,3,none⟩) rfl (.pointer pm)).setCell (p:=⟨w.heap.size+1,4,none⟩) rfl (.pointer (some ⟨W4.heap.size,0,none⟩))).setCell (p:=⟨w.heap.size+1,5,none⟩) rfl (.pointer (some ⟨W4.heap.size+1,0,none⟩))
  have H6:=hid h6
  have K6:=hid k6
  clear h6 k6 k1 hP HP
  rw[hz4]
  clear hz4
  generalize hW:(W4.alloc (.cells #[.slice none 0 0] 291)).alloc (.cells #[.int .i32 0,.int .i32 0,.int .i32 0,.int .i32 0] 278)=W6 at *
  have HW:=hid hW
  clear hW
  go_wp2_with fail
  have hload:=box_load _ _ _ _ H6.out 6 rfl
  refine bodyPost_ret (v:=.tuple #[.agg #[.pointer pc,.pointer pl,.pointer pg,.pointer pm,.pointer (some ⟨W4.heap.size,0,none⟩),.pointer (some ⟨W4.heap.size+1,0,none⟩)],.bool (decide (ec=0∧el=0∧eg=0∧em=0))]) (by simp[results,Tryz.results84,asAddr,loadVar,loadCells,Tryz.isAgg109,Tryz.sizeOf109, *]<;>rfl) rfl ?_
  exact ⟨W0,pc,ec,W1,pl,el,W2,pg,eg,W3,pm,em,W4,⟨Z0.out,K0.out⟩,Q1.out,Q2.out,Q3.out,Q4.out,rfl,by rw[HW.out];exact K6.out⟩
 ·refine (fe_New W4).mono ?_
  rintro e _ ⟨rfl,rfl⟩
  go_wp2_with fail
  refine (ea_New _).mono ?_
  rintro e _ ⟨rfl,rfl⟩
  have k1:=((Keeps.refl (fun _=>False) W4).alloc (.cells #[.slice none 0 0] 291)).alloc (.cells #[.int .i32 0,.int .i32 0,.int .i32 0,.int .i32 0] 278)
  have hP:=k1.heap HP.out id
  have hz4:(W4.alloc (.cells #[.slice none 0 0] 291)).heap.size=W4.heap.size+1:=by simp
  have h6:=blk_six hP (.pointer pc) (.pointer pl) (.pointer pg) (.pointer pm) (.pointer (some ⟨W4.heap.size,0,none⟩)) (.pointer (some ⟨W4.heap.size+1,0,none⟩))
  obtain ⟨g0,g1,g2,g3,g4,g5⟩:=bf6 hP 0 1 2 3 4 5
  obtain ⟨p0,p1,p2,p3,p4,p5⟩:=bc6 0 1 2 3 4 5 hP ⟨rfl,rfl,rfl,rfl,rfl,rfl⟩
  have k6:=((((((Keeps.refl (fun j=>j=w.heap.size+1) ((W4.alloc (.cells #[.slice none 0 0] 291)).alloc (.cells #[.int .i32 0,.int .i32 0,.int .i32 0,.int .i32 0] 278))).setCell (p:=⟨w.heap.size+1,0,none⟩) rfl (.pointer pc)).setCell (p:=⟨w.heap.size+1,1,none⟩) rfl (.pointer pl)).setCell (p:=⟨w.heap.size+1,2,none⟩) rfl (.pointer pg)).setCell (p:=⟨w.heap.size+1,3,none⟩) rfl (.pointer pm)).setCell (p:=⟨w.heap.size+1,4,none⟩) rfl (.pointer (some ⟨W4.heap.size,0,none⟩))).setCell (p:=⟨w.heap.size+1,5,none⟩) rfl (.pointer (some ⟨W4.heap.size+1,0,none⟩))
  have H6:=hid h6
  have K6:=hid k6
  clear h6 k6 k1 hP HP
  rw[hz4]
  clear hz4
  generalize hW:(W4.alloc (.cells #[.slice none 0 0] 291)).alloc (.cells #[.int .i32 0,.int .i32 0,.int .i32 0,.int .i32 0] 278)=W6 at *
  have HW:=hid hW
  clear hW
  go_wp2_with fail
  have hload:=box_load _ _ _ _ H6.out 6 rfl
  refine bodyPost_ret (v:=.tuple #[.agg #[.pointer pc,.pointer pl,.pointer pg,.pointer pm,.pointer (some ⟨W4.heap.size,0,none⟩),.pointer (some ⟨W4.heap.size+1,0,none⟩)],.bool (decide (ec=0∧el=0∧eg=0∧em=0))]) (by simp[results,Tryz.results84,asAddr,loadVar,loadCells,Tryz.isAgg109,Tryz.sizeOf109, *]<;>rfl) rfl ?_
  exact ⟨W0,pc,ec,W1,pl,el,W2,pg,eg,W3,pm,em,W4,⟨Z0.out,K0.out⟩,Q1.out,Q2.out,Q3.out,Q4.out,rfl,by rw[HW.out];exact K6.out⟩
 ·refine (fe_New W4).mono ?_
  rintro e _ ⟨rfl,rfl⟩
  go_wp2_with fail
  refine (ea_New _).mono ?_
  rintro e _ ⟨rfl,rfl⟩
  have k1:=((Keeps.refl (fun _=>False) W4).alloc (.cells #[.slice none 0 0] 291)).alloc (.cells #[.int .i32 0,.int .i32 0,.int .i32 0,.int .i32 0] 278)
  have hP:=k1.heap HP.out id
  have hz4:(W4.alloc (.cells #[.slice none 0 0] 291)).heap.size=W4.heap.size+1:=by simp
  have h6:=blk_six hP (.pointer pc) (.pointer pl) (.pointer pg) (.pointer pm) (.pointer (some ⟨W4.heap.size,0,none⟩)) (.pointer (some ⟨W4.heap.size+1,0,none⟩))
  obtain ⟨g0,g1,g2,g3,g4,g5⟩:=bf6 hP 0 1 2 3 4 5
  obtain ⟨p0,p1,p2,p3,p4,p5⟩:=bc6 0 1 2 3 4 5 hP ⟨rfl,rfl,rfl,rfl,rfl,rfl⟩
  have k6:=((((((Keeps.refl (fun j=>j=w.heap.size+1) ((W4.alloc (.cells #[.slice none 0 0] 291)).alloc (.cells #[.int .i32 0,.int .i32 0,.int .i32 0,.int .i32 0] 278))).setCell (p:=⟨w.heap.size+1,0,none⟩) rfl (.pointer pc)).setCell (p:=⟨w.heap.size+1,1,none⟩) rfl (.pointer pl)).setCell (p:=⟨w.heap.size+1,2,none⟩) rfl (.pointer pg)).setCell (p:=⟨w.heap.size+1,3,none⟩) rfl (.pointer pm)).setCell (p:=⟨w.heap.size+1,4,none⟩) rfl (.pointer (some ⟨W4.heap.size,0,none⟩))).setCell (p:=⟨w.heap.size+1,5,none⟩) rfl (.pointer (some ⟨W4.heap.size+1,0,none⟩))
  have H6:=hid h6
  have K6:=hid k6
  clear h6 k6 k1 hP HP
  rw[hz4]
  clear hz4
  generalize hW:(W4.alloc (.cells #[.slice none 0 0] 291)).alloc (.cells #[.int .i32 0,.int .i32 0,.int .i32 0,.int .i32 0] 278)=W6 at *
  have HW:=hid hW
  clear hW
  go_wp2_with fail
  have hload:=box_load _ _ _ _ H6.out 6 rfl
  refine bodyPost_ret (v:=.tuple #[.agg #[.pointer pc,.pointer pl,.pointer pg,.pointer pm,.pointer (some ⟨W4.heap.size,0,none⟩),.pointer (some ⟨W4.heap.size+1,0,none⟩)],.bool (decide (ec=0∧el=0∧eg=0∧em=0))]) (by simp[results,Tryz.results84,asAddr,loadVar,loadCells,Tryz.isAgg109,Tryz.sizeOf109, *]<;>rfl) rfl ?_
  exact ⟨W0,pc,ec,W1,pl,el,W2,pg,eg,W3,pm,em,W4,⟨Z0.out,K0.out⟩,Q1.out,Q2.out,Q3.out,Q4.out,rfl,by rw[HW.out];exact K6.out⟩
 ·refine (fe_New W4).mono ?_
  rintro e _ ⟨rfl,rfl⟩
  go_wp2_with fail
  refine (ea_New _).mono ?_
  rintro e _ ⟨rfl,rfl⟩
  have k1:=((Keeps.refl (fun _=>False) W4).alloc (.cells #[.slice none 0 0] 291)).alloc (.cells #[.int .i32 0,.int .i32 0,.int .i32 0,.int .i32 0] 278)
  have hP:=k1.heap HP.out id
  have hz4:(W4.alloc (.cells #[.slice none 0 0] 291)).heap.size=W4.heap.size+1:=by simp
  have h6:=blk_six hP (.pointer pc) (.pointer pl) (.pointer pg) (.pointer pm) (.pointer (some ⟨W4.heap.size,0,none⟩)) (.pointer (some ⟨W4.heap.size+1,0,none⟩))
  obtain ⟨g0,g1,g2,g3,g4,g5⟩:=bf6 hP 0 1 2 3 4 5
  obtain ⟨p0,p1,p2,p3,p4,p5⟩:=bc6 0 1 2 3 4 5 hP ⟨rfl,rfl,rfl,rfl,rfl,rfl⟩
  have k6:=((((((Keeps.refl (fun j=>j=w.heap.size+1) ((W4.alloc (.cells #[.slice none 0 0] 291)).alloc (.cells #[.int .i32 0,.int .i32 0,.int .i32 0,.int .i32 0] 278))).setCell (p:=⟨w.heap.size+1,0,none⟩) rfl (.pointer pc)).setCell (p:=⟨w.heap.size+1,1,none⟩) rfl (.pointer pl)).setCell (p:=⟨w.heap.size+1,2,none⟩) rfl (.pointer pg)).setCell (p:=⟨w.heap.size+1,3,none⟩) rfl (.pointer pm)).setCell (p:=⟨w.heap.size+1,4,none⟩) rfl (.pointer (some ⟨W4.heap.size,0,none⟩))).setCell (p:=⟨w.heap.size+1,5,none⟩) rfl (.pointer (some ⟨W4.heap.size+1,0,none⟩))
  have H6:=hid h6
  have K6:=hid k6
  clear h6 k6 k1 hP HP
  rw[hz4]
  clear hz4
  generalize hW:(W4.alloc (.cells #[.slice none 0 0] 291)).alloc (.cells #[.int .i32 0,.int .i32 0,.int .i32 0,.int .i32 0] 278)=W6 at *
  have HW:=hid hW
  clear hW
  go_wp2_with fail
  have hload:=box_load _ _ _ _ H6.out 6 rfl
  refine bodyPost_ret (v:=.tuple #[.agg #[.pointer pc,.pointer pl,.pointer pg,.pointer pm,.pointer (some ⟨W4.heap.size,0,none⟩),.pointer (some ⟨W4.heap.size+1,0,none⟩)],.bool (decide (ec=0∧el=0∧eg=0∧em=0))]) (by simp[results,Tryz.results84,asAddr,loadVar,loadCells,Tryz.isAgg109,Tryz.sizeOf109, *]<;>rfl) rfl ?_
  exact ⟨W0,pc,ec,W1,pl,el,W2,pg,eg,W3,pm,em,W4,⟨Z0.out,K0.out⟩,Q1.out,Q2.out,Q3.out,Q4.out,rfl,by rw[HW.out];exact K6.out⟩
end
section
open Go.RowKit
open Go.Maps
set_option maxRecDepth 100000
variable {w w':World}
theorem Sep.pick {L:List Res} (h:Sep w L) (I:List Nat) (hI:I.Nodup) (hb:∀ i∈I,i<L.length):Sep w (I.map fun i=>L.getD i Res.none):=by
 have key:∀ i∈I,L[i]?=some (L.getD i Res.none):=fun i hi=>by
  have:=hb i hi
  rw[List.getElem?_eq_getElem this]
  simp[List.getD,List.getElem?_eq_getElem this]
 refine ⟨fun r hr=>?_,List.pairwise_map.2 (List.Pairwise.imp_of_mem (fun {i j} hi hj hne=>h.apart' (key i hi) (key j hj) hne) hI)⟩
 obtain ⟨i,hi,rfl⟩:=List.mem_map.1 hr
 exact h.at' i (key i hi)
structure SepN (n:Nat) (w:World) (L:List Res):Prop where
 sep:Sep w L
 lo:∀ r∈L,∀ j,r.S j→n≤j
theorem SepN.nil (n:Nat) (w:World):SepN n w []:=⟨Sep.nil w,fun _ h=>by cases h⟩
theorem SepN.cons {n:Nat} {L:List Res} (h:SepN n w L) {r:Res} (hk:Keeps (fun _=>False) w w') (hP:r.P w') (hS:∀ b,r.S b→w.heap.size≤b) (hn:n≤w.heap.size):SepN n w' (r :: L):=
 ⟨h.sep.cons hk (fun _ _ _ _ e=>e) hP hS,fun s hs j hj=>by
  rcases List.mem_cons.1 hs with rfl|hs
  ·exact Nat.le_trans hn (hS j hj)
  ·exact h.lo s hs j hj⟩
theorem SepN.keeps {n:Nat} {L:List Res} {T:Nat→Prop} (h:SepN n w L) (hk:Keeps T w w') (hT:∀ j,n≤j→¬ T j):SepN n w' L:=
 ⟨h.sep.keeps hk fun r hr j hj=>hT j (h.lo r hr j hj),h.lo⟩
theorem SepN.pick {n:Nat} {L:List Res} (h:SepN n w L) (I:List Nat) (hI:I.Nodup) (hb:∀ i∈I,i<L.length):SepN n w (I.map fun i=>L.getD i Res.none):=
 ⟨h.sep.pick I hI hb,fun r hr j hj=>by
  obtain ⟨i,hi,rfl⟩:=List.mem_map.1 hr
  have hl:=hb i hi
  refine h.lo (L[i]) (List.getElem_mem hl) j ?_
  simpa[List.getD,List.getElem?_eq_getElem hl] using hj⟩
def newPe (x:Co) (l:Lk) (ent voi:Int):Pe:=⟨x,l,ent,-1,false,0,voi,0,.map [],0,.map [],0,false,0⟩
theorem told_new (w:World) (n:Nat):(Res.told w.heap.size n).P (w.alloc (.map #[] 0)):=⟨.map [],(World.ownsMap_made w _ _ _).mono (Nat.zero_le n)⟩
def QC0 (x:Co):QT:=fun W p er W'=>er=0∧∃ b:CoB,p=some ⟨b.c,0,none⟩∧IsCore W' b x∧∀ j,b.S j→W.heap.size≤j
def QL0 (l:Lk):QT:=fun W p er W'=>er=0∧p=some ⟨W.heap.size+4,0,none⟩∧IsLink W' ⟨W.heap.size+4,W.heap.size+1,W.heap.size,W.heap.size+3,W.heap.size+2⟩ l
def QG0 (most:Int):QT:=fun W p er W'=>er=0∧p=some ⟨W.heap.size+2,0,none⟩∧W'=((W.alloc (.map #[] 0)).alloc (.map #[] 0)).alloc (.cells #[.int .i64 most,.map (some W.heap.size),.map (some (W.heap.size+1)),.int .i64 (-1),.bool false] 118)
def QM0 (voi:Int):QT:=fun W p er W'=>er=0∧p=some ⟨W.heap.size,0,none⟩∧W'=W.alloc (.cells #[.int .i64 voi,.int .i64 0,.slice none 0 0] 177)
theorem made_good {x:Co} {l:Lk} {ent voi:Int} {e:Ending} (h:MadeP (QC0 x) (QL0 l) (QG0 ent) (QM0 voi) w e w') :
  ∃ b:PeB,e=.returned (.tuple #[.agg #[.pointer (some ⟨b.c.c,0,none⟩),.pointer (some ⟨b.L.p,0,none⟩),.pointer (some ⟨b.ld,0,none⟩),.pointer (some ⟨b.mx,0,none⟩),.pointer (some ⟨b.fe,0,none⟩),.pointer (some ⟨b.ea,0,none⟩)],.bool true])∧
   SepN w.heap.size w' [Res.blk b.ea (#[.int .i32 0,.int .i32 0,.int .i32 0,.int .i32 0],278),Res.blk b.fe (#[.slice none 0 0],291),Res.blk b.mx (#[.int .i64 voi,.int .i64 0,.slice none 0 0],177),Res.blk b.ld (#[.int .i64 ent,.map (some b.lv),.map (some b.tl),.int .i64 (-1),.bool false],118),Res.told b.tl 0,Res.live b.lv,Res.link b.L l,Res.core b.c x]∧
   Below w.heap.size w w':=by
 obtain ⟨W0,pc,ec,W1,pl,el,W2,pg,eg,W3,pm,em,W4,⟨hz,hb0⟩,⟨⟨rfl,bc,rfl,hc,hcS⟩,hb1⟩,⟨⟨rfl,rfl,hl⟩,hb2⟩,⟨⟨rfl,rfl,hg⟩,hb3⟩,⟨⟨rfl,rfl,hm⟩,hb4⟩,rfl,hk⟩:=h
 refine ⟨⟨0,bc,⟨W1.heap.size+4,W1.heap.size+1,W1.heap.size,W1.heap.size+3,W1.heap.size+2⟩,W2.heap.size+2,W2.heap.size,W2.heap.size+1,W3.heap.size,W4.heap.size,W4.heap.size+1,0,0⟩,by simp,?_,?_⟩
 ·have z1:=hb1.size
  have z2:=hb2.size
  have z3:=hb3.size
  have z4:=hb4.size
  have h1:SepN (w.heap.size+2) W1 [Res.core bc x]:=(SepN.nil _ W0).cons (Keeps.of_below (S:=fun _=>False) hb1 (fun k h1 h2=>by omega)) hc hcS hz
  have h2:=h1.cons (r:=Res.link ⟨W1.heap.size+4,W1.heap.size+1,W1.heap.size,W1.heap.size+3,W1.heap.size+2⟩ l) (Keeps.of_below (S:=fun _=>False) hb2 (fun k h1 h2=>by omega)) hl (fun j hj=>by rcases hj with e|e|e|e|e<;>simp only at e<;>omega) (by omega)
  have h3:=h2.cons (r:=Res.live W2.heap.size) ((Keeps.refl (fun _=>False) W2).alloc (.map #[] 0)) (World.ownsMap_made W2 _ _ _) (fun j hj=>Nat.le_of_eq hj.symm) (by omega)
  have e1:(W2.alloc (.map #[] 0)).heap.size=W2.heap.size+1:=by simp
  have h4:=h3.cons (r:=Res.told (W2.alloc (.map #[] 0)).heap.size 0) ((Keeps.refl (fun _=>False) _).alloc (.map #[] 0)) (told_new _ 0) (fun j hj=>Nat.le_of_eq hj.symm) (by omega)
  have e2:((W2.alloc (.map #[] 0)).alloc (.map #[] 0)).heap.size=W2.heap.size+2:=by simp
  have h5:=h4.cons (r:=Res.blk ((W2.alloc (.map #[] 0)).alloc (.map #[] 0)).heap.size (#[.int .i64 ent,.map (some W2.heap.size),.map (some (W2.heap.size+1)),.int .i64 (-1),.bool false],118)) ((Keeps.refl (fun _=>False) _).alloc _) (blk_new _ _) (fun j hj=>Nat.le_of_eq hj.symm) (by omega)
  rw[e1,e2,←hg] at h5
  have h6:=h5.cons (r:=Res.blk W3.heap.size (#[.int .i64 voi,.int .i64 0,.slice none 0 0],177)) ((Keeps.refl (fun _=>False) _).alloc _) (blk_new _ _) (fun j hj=>Nat.le_of_eq hj.symm) (by omega)
  rw[←hm] at h6
  have h7:=h6.cons (r:=Res.blk W4.heap.size (#[.slice none 0 0],291)) ((Keeps.refl (fun _=>False) _).alloc _) (blk_new _ _) (fun j hj=>Nat.le_of_eq hj.symm) (by omega)
  have e3:(W4.alloc (.cells #[.slice none 0 0] 291)).heap.size=W4.heap.size+1:=by simp
  have h8:=h7.cons (r:=Res.blk (W4.alloc (.cells #[.slice none 0 0] 291)).heap.size (#[.int .i32 0,.int .i32 0,.int .i32 0,.int .i32 0],278)) ((Keeps.refl (fun _=>False) _).alloc _) (blk_new _ _) (fun j hj=>Nat.le_of_eq hj.symm) (by show _≤(W4.alloc (.cells #[.slice none 0 0] 291)).heap.size;omega)
  rw[e3] at h8
  have h9:=h8.keeps hk (fun j h1 h2=>by omega)
  exact ⟨h9.sep,fun r hr j hj=>by have:=h9.lo r hr j hj;omega⟩
 ·have z0:=hb0.size
  have z1:=hb1.size
  have z2:=hb2.size
  have z3:=hb3.size
  have z4:=hb4.size
  have b4:=(((hb0.trans (hb1.mono (by omega))).trans (hb2.mono (by omega))).trans (hb3.mono (by omega))).trans (hb4.mono (by omega))
  have b5:=(b4.alloc (by omega) (.cells #[.slice none 0 0] 291)).alloc (by simp;omega) (.cells #[.int .i32 0,.int .i32 0,.int .i32 0,.int .i32 0] 278)
  exact b5.trans (hk.below b5.size (fun k h1 h2=>by omega))
theorem pe_New_no (seed d n nonce pat ent voi:Int) (me:Nat) (hme:me<2) (hno:¬ goodS d n pat ent voi) (w:World):Calls Tryz.prog 58 #[.agg #[.int .u32 seed,.int .i64 d,.int .i64 n,.int .i64 me,.int .u32 nonce,.int .i64 pat,.int .i64 ent,.int .i64 voi]] w fun e w'=>e=.returned (.tuple #[.pointer none,.int .i64 1])∧Below w.heap.size w w':=by
 have k0:=(Below.refl w.heap.size w).alloc (Nat.le_refl _) (.cells #[.int .u32 seed,.int .i64 d,.int .i64 n,.int .i64 me,.int .u32 nonce,.int .i64 pat,.int .i64 ent,.int .i64 voi] 26)
 have hM:=pe_made seed d n nonce pat ent voi me (fun _ _ er _=>er=0→mayC d n=true) (fun _ _ er _=>er=0→1≤pat∧pat≤10000) (fun _ _ er _=>er=0→1≤ent∧ent≤256) (fun _ _ er _=>er=0→1≤voi∧voi≤16)
  (co_New_any seed d n me hme) (lk_New_any nonce pat d) (le_New_any ent) (mx_New_any voi)
 have HM:=hid hM
 have Hno:=hid hno
 have K0:=hid k0
 clear hM hno k0 hme
 go_enter Tryz.func58,Tryz.ntmps58
 go_wp2_with fail
 generalize World.alloc w _=w0 at *
 refine (HM.out _).mono ?_
 rintro e w1 ⟨W0,pc,ec,W1,pl,el,W2,pg,eg,W3,pm,em,W4,⟨hz,hb0⟩,q1,q2,q3,q4,rfl,hk⟩
 have hd:decide (ec=0∧el=0∧eg=0∧em=0)=false:=decide_eq_false fun h=>Hno.out ⟨q1.1 h.1,q2.1 h.2.1,q3.1 h.2.2.1,q4.1 h.2.2.2⟩
 have hbe:Below w.heap.size w (w1.alloc (.cells #[.pointer pc,.pointer pl,.pointer pg,.pointer pm,.pointer (some ⟨W4.heap.size,0,none⟩),.pointer (some ⟨W4.heap.size+1,0,none⟩)] 109)):=by
  have z:=K0.out.size
  have z0:=hb0.size
  have z1:=q1.2.size
  have z2:=q2.2.size
  have z3:=q3.2.size
  have z4:=q4.2.size
  have b4:=((((K0.out.trans (hb0.mono z)).trans (q1.2.mono (by omega))).trans (q2.2.mono (by omega))).trans (q3.2.mono (by omega))).trans (q4.2.mono (by omega))
  have b5:=(b4.alloc (by omega) (.cells #[.slice none 0 0] 291)).alloc (by simp;omega) (.cells #[.int .i32 0,.int .i32 0,.int .i32 0,.int .i32 0] 278)
  have b6:=b5.trans (hk.below b5.size (fun k h1 h2=>by omega))
  exact b6.alloc b6.size _
 rw[hd]
 have Hbe:=hid hbe
 clear hk q1 q2 q3 q4 hz hb0 hbe hd
 go_wp2_with fail
 go_ret2
 exact ⟨rfl,Hbe.out⟩
def peB (b:PeB) (p o t:Nat):PeB:={ b with p:=p,ow:=o,wt:=t }
set_option maxHeartbeats 1000000 in
theorem pe_New (seed:Int) (d n me:Nat) (nonce pat ent voi:Int) (hme:me<2) (hd:d≤8) (hn:1≤n∧n≤16) (hp:1≤pat∧pat≤10000) (he:1≤ent∧ent≤256) (hv:1≤voi∧voi≤16) (w:World):Calls Tryz.prog 58 #[.agg #[.int .u32 seed,.int .i64 d,.int .i64 n,.int .i64 me,.int .u32 nonce,.int .i64 pat,.int .i64 ent,.int .i64 voi]] w fun e w'=>
  ∃ b:PeB,e=.returned (.tuple #[.pointer (some ⟨b.p,0,none⟩),.int .i64 0])∧IsPeer w' b (newPe ⟨seed,d,n,me,fun _=>fdZ d,0,[(0,standV seed 0)],0⟩ (Lk.new nonce pat d) ent voi)∧(∀ j,b.S (newPe ⟨seed,d,n,me,fun _=>fdZ d,0,[(0,standV seed 0)],0⟩ (Lk.new nonce pat d) ent voi) j→w.heap.size≤j)∧Below w.heap.size w w':=by
 have k0:=(Below.refl w.heap.size w).alloc (Nat.le_refl _) (.cells #[.int .u32 seed,.int .i64 d,.int .i64 n,.int .i64 me,.int .u32 nonce,.int .i64 pat,.int .i64 ent,.int .i64 voi] 26)
 obtain ⟨x,hx⟩:∃ x:Co,x=⟨seed,d,n,me,fun _=>fdZ d,0,[(0,standV seed 0)],0⟩:=⟨_,rfl⟩
 rw[←hx]
 have hM:=pe_made seed d n nonce pat ent voi me (QC0 x) (QL0 (Lk.new nonce pat d)) (QG0 ent) (QM0 voi)
  (fun W=>(co_New seed d n me hd hn hme W).mono fun e w' ⟨b,h1,h2,h3,h4⟩=>⟨_,0,h1,⟨rfl,b,rfl,hx▸h2,h3⟩,h4⟩)
  (fun W=>(lk_New nonce pat d hp (by omega) W).mono fun e w' ⟨h1,h2,h3⟩=>⟨_,0,h1,⟨rfl,rfl,h2⟩,h3⟩)
  (fun W=>(le_New ent he W).mono fun e w' ⟨h1,h2⟩=>⟨_,0,h1,⟨rfl,rfl,h2⟩,by rw[h2];exact (((Below.refl _ W).alloc (Nat.le_refl _) _).alloc (by simp) _).alloc (by simp;omega) _⟩)
  (fun W=>(mx_New voi hv W).mono fun e w' ⟨h1,h2⟩=>⟨_,0,h1,⟨rfl,rfl,h2⟩,by rw[h2];exact (Below.refl _ W).alloc (Nat.le_refl _) _⟩)
 have HM:=hid hM
 have K0:=hid k0
 have hmm:=@run_makeMap Tryz.prog
 clear hM k0 hme hd hn hp he hv hx
 generalize Lk.new nonce pat d=l at *
 go_enter Tryz.func58,Tryz.ntmps58
 go_wp2_with fail
 generalize World.alloc w _=w0 at *
 refine (HM.out _).mono ?_
 intro e w1 hmd
 obtain ⟨b,rfl,hS,hb1⟩:=made_good hmd
 have Hb1:=hid (K0.out.trans (hb1.mono K0.out.size))
 have HS:=hid hS
 have z0:=K0.out.size
 have z1:=hb1.size
 clear hmd hS hb1
 go_wp2_with fail
 go_ret2
 have h1:=HS.out.keeps ((Keeps.refl (fun _=>False) w1).alloc (.cells #[.pointer (some ⟨b.c.c,0,none⟩),.pointer (some ⟨b.L.p,0,none⟩),.pointer (some ⟨b.ld,0,none⟩),.pointer (some ⟨b.mx,0,none⟩),.pointer (some ⟨b.fe,0,none⟩),.pointer (some ⟨b.ea,0,none⟩)] 109)) (fun _ _ e=>e)
 generalize hA:w1.alloc (.cells #[.pointer (some ⟨b.c.c,0,none⟩),.pointer (some ⟨b.L.p,0,none⟩),.pointer (some ⟨b.ld,0,none⟩),.pointer (some ⟨b.mx,0,none⟩),.pointer (some ⟨b.fe,0,none⟩),.pointer (some ⟨b.ea,0,none⟩)] 109)=A at *
 have hzA:A.heap.size=w1.heap.size+1:=by rw[←hA];simp
 have hbA:Below w.heap.size w A:=by rw[←hA];exact Hb1.out.alloc (by omega) _
 clear hA
 have e1:(A.alloc (.map #[] 0)).heap.size=w1.heap.size+1+1:=by rw[←hzA];simp
 have e2:((A.alloc (.map #[] 0)).alloc (.map #[] 0)).heap.size=w1.heap.size+1+1+1:=by rw[←e1];simp
 have h2:=h1.cons (r:=Res.sums A.heap.size 0 (.map [])) ((Keeps.refl (fun _=>False) A).alloc (.map #[] 0)) (World.ownsMap_made A _ _ _) (fun j hj=>Nat.le_of_eq hj.symm) (by omega)
 have h3:=h2.cons (r:=Res.sums (A.alloc (.map #[] 0)).heap.size 0 (.map [])) ((Keeps.refl (fun _=>False) _).alloc (.map #[] 0)) (World.ownsMap_made _ _ _ _) (fun j hj=>Nat.le_of_eq hj.symm) (by omega)
 have h4:=h3.cons (r:=Res.blk ((A.alloc (.map #[] 0)).alloc (.map #[] 0)).heap.size (peC (peB b (w1.heap.size+1+1+1) (w1.heap.size+1) (w1.heap.size+1+1)) (newPe x l ent voi),114)) ((Keeps.refl (fun _=>False) _).alloc _) (blk_new _ _) (fun j hj=>Nat.le_of_eq hj.symm) (by omega)
 rw[e1,e2,hzA] at h4
 have h5:=h4.pick [0,10,9,6,8,7,5,4,3,2,1] (by decide) (fun i hi=>by show i<11;exact (show ∀ i∈[0,10,9,6,8,7,5,4,3,2,1],i<11 by decide) i hi)
 refine ⟨peB b (w1.heap.size+1+1+1) (w1.heap.size+1) (w1.heap.size+1+1),rfl,h5.sep,fun j hj=>?_,?_⟩
 ·obtain ⟨r,hr,hj⟩:=hj
  have:=h5.lo r hr j hj
  omega
 ·have b1:=((hbA.alloc (by omega) (.map #[] 0)).alloc (by omega) (.map #[] 0)).alloc (by omega) (.cells (peC (peB b (w1.heap.size+1+1+1) (w1.heap.size+1) (w1.heap.size+1+1)) (newPe x l ent voi)) 114)
  exact b1
end
section
open Go.RowKit
open Go.Maps
set_option maxRecDepth 100000
variable {w w':World}
def Res.peer (b:PeB) (s:Pe):Res:=Sep.res (peL b s)
def Res.cable (c:Nat) (s:CS):Res where
 S:=ofCable c
 P w:=IsCable w c 64 s
 lt h hb:=by
  have h1:=h.rb.le.2.2.2.1
  unfold ofCable at hb
  omega
 frame h hk hs:=h.keeps hk hs
def Res.row (v:Value) (n:Nat) (xs:List Value):Res where
 S j:=v.ownBlock=some j
 P w:=w.ownsRow 0 5 1 v n xs
 lt h hb:=by
  obtain ⟨A,cap,rfl,_,hA⟩:=vals_of_own h
  cases A with
  | none=>simp[Value.ownBlock] at hb
  | some x=>have:=hA x rfl;rw[this.2.2] at hb;cases hb;exact this.2.1
 frame h hk hs:=own_keeps h hk hs
structure BB where
 b:Nat
 c:Nat
 p:Nat→PeB
structure BS where
 s:Nat→Pe
 cs:CS
def btC (B:BB) (V:Nat→Value) (mv:Int):Array Value:=#[.pointer (some ⟨(B.p 0).p,0,none⟩),V 0,.slice none 0 0,.pointer (some ⟨(B.p 1).p,0,none⟩),V 1,.slice none 0 0,.pointer (some ⟨B.c,0,none⟩),.int .i64 mv]
structure Rw where
 V:Nat→Value
 n:Nat→Nat
 xs:Nat→List Value
 mv:Int
def btL (B:BB) (t:BS) (r:Rw):List Res:=[Res.blk B.b (btC B r.V r.mv,82),Res.peer (B.p 0) (t.s 0),Res.peer (B.p 1) (t.s 1),Res.cable B.c t.cs,Res.row (r.V 0) (r.n 0) (r.xs 0),Res.row (r.V 1) (r.n 1) (r.xs 1)]
structure BtR (w:World) (Z:Nat→Prop) (B:BB) (t:BS) (r:Rw):Prop where
 sep:Sep w (btL B t r)
 z:∀ x∈btL B t r,∀ j,x.S j→Z j
 few:∀ k,k<2→r.n k≤100000
namespace BtR
variable {Z Z':Nat→Prop} {B:BB} {t:BS} {r:Rw}
theorem mono (h:BtR w Z B t r) (hz:∀ j,Z j→Z' j):BtR w Z' B t r:=⟨h.sep,fun x hx j hj=>hz j (h.z x hx j hj),h.few⟩
theorem keep (h:BtR w Z B t r) (hk:Keeps (fun _=>False) w w'):BtR w' Z B t r:=⟨h.sep.keep hk,h.z,h.few⟩
theorem keeps {T:Nat→Prop} (h:BtR w Z B t r) (hk:Keeps T w w') (hT:∀ j,Z j→¬ T j):BtR w' Z B t r:=⟨h.sep.keeps hk fun x hx j hj=>hT j (h.z x hx j hj),h.z,h.few⟩
theorem blk (h:BtR w Z B t r):w.heap[B.b]?=some (.cells (btC B r.V r.mv) 82 (0,0)):=h.sep.at' 0 rfl
theorem peer (h:BtR w Z B t r) {k:Nat} (hk:k<2):IsPeer w (B.p k) (t.s k):=by
 have:k=0∨k=1:=by omega
 rcases this with rfl|rfl
 ·exact h.sep.at' 1 rfl
 ·exact h.sep.at' 2 rfl
theorem cable (h:BtR w Z B t r):IsCable w B.c 64 t.cs:=h.sep.at' 3 rfl
theorem row (h:BtR w Z B t r) {k:Nat} (hk:k<2):w.ownsRow 0 5 1 (r.V k) (r.n k) (r.xs k):=by
 have:k=0∨k=1:=by omega
 rcases this with rfl|rfl
 ·exact h.sep.at' 4 rfl
 ·exact h.sep.at' 5 rfl
theorem cp (h:BtR w Z B t r) {k:Nat} (hk:k<2):w.cell? ⟨B.b,3*k,none⟩=some (.pointer (some ⟨(B.p k).p,0,none⟩)):=by
 have:k=0∨k=1:=by omega
 rcases this with rfl|rfl
 ·exact blk_cell h.blk rfl
 ·exact blk_cell h.blk rfl
theorem ci (h:BtR w Z B t r) {k:Nat} (hk:k<2):w.cell? ⟨B.b,3*k+1,none⟩=some (r.V k):=by
 have:k=0∨k=1:=by omega
 rcases this with rfl|rfl
 ·exact blk_cell h.blk rfl
 ·exact blk_cell h.blk rfl
theorem cst (h:BtR w Z B t r) {k:Nat} (hk:k<2):w.cell? ⟨B.b,3*k+2,none⟩=some (.slice none 0 0):=by
 have:k=0∨k=1:=by omega
 rcases this with rfl|rfl
 ·exact blk_cell h.blk rfl
 ·exact blk_cell h.blk rfl
theorem c6 (h:BtR w Z B t r):w.cell? ⟨B.b,6,none⟩=some (.pointer (some ⟨B.c,0,none⟩)):=blk_cell h.blk rfl
theorem c7 (h:BtR w Z B t r):w.cell? ⟨B.b,7,none⟩=some (.int .i64 r.mv):=blk_cell h.blk rfl
theorem free (h:BtR w Z B t r) (k:Nat):w.frozen? ⟨B.b,k,none⟩=false:=blk_free h.blk k
theorem inZ (h:BtR w Z B t r) (i:Nat) {x:Res} (hi:(btL B t r)[i]?=some x) {j:Nat} (hj:x.S j):Z j:=h.z x (List.mem_of_getElem? hi) j hj
theorem part0 {T:Nat→Prop} {t':BS} {r':Rw} (h:BtR w Z B t r) (i:Nat) {x x':Res} (hi:(btL B t r)[i]?=some x) (hk:Keeps T w w') (hT:∀ j,T j→x.S j) (hP:x'.P w') (hS:∀ j,x'.S j→x.S j) (he:(btL B t r).set i x'=btL B t' r') (hf:∀ k,k<2→r'.n k≤100000):BtR w' Z B t' r':=by
 have h1:=Sep.set (r':=x') h.sep i hi hk (fun j _=>hT j) hP (fun j hj=>.inl (hS j hj))
 refine ⟨he▸h1,fun y hy j hj=>?_,hf⟩
 rw[←he] at hy
 rcases List.mem_or_eq_of_mem_set hy with hy|rfl
 ·exact h.z y hy j hj
 ·exact h.inZ i hi (hS j hj)
end BtR
def setS (f:Nat→Pe) (k:Nat) (y:Pe):Nat→Pe:=fun j=>if j=k then y else f j
theorem setS_same (f:Nat→Pe) (k:Nat) (y:Pe):setS f k y k=y:=by simp[setS]
namespace BtR
variable {Z Z':Nat→Prop} {B:BB} {t:BS} {r:Rw}
theorem setPeer {T:Nat→Prop} {k:Nat} {s':Pe} (h:BtR w Z B t r) (hk2:k<2) (hp:IsPeer w' (B.p k) s') (hk:Keeps T w w') (hT:∀ j,T j→(B.p k).S s' j):BtR w' Z B { t with s:=setS t.s k s' } r:=by
 have hT2:∀ j,T j→(B.p k).S (t.s k) j:=fun j hj=>by rw[peS_same (B.p k) (t.s k) s'];exact hT j hj
 have hS:∀ j,(B.p k).S s' j→(B.p k).S (t.s k) j:=fun j hj=>by rw[peS_same (B.p k) (t.s k) s'];exact hj
 have:k=0∨k=1:=by omega
 rcases this with rfl|rfl
 ·exact h.part0 1 (x:=Res.peer (B.p 0) (t.s 0)) (x':=Res.peer (B.p 0) s') rfl hk hT2 hp hS rfl h.few
 ·exact h.part0 2 (x:=Res.peer (B.p 1) (t.s 1)) (x':=Res.peer (B.p 1) s') rfl hk hT2 hp hS rfl h.few
theorem setCable {T:Nat→Prop} {cs:CS} (h:BtR w Z B t r) (hc:IsCable w' B.c 64 cs) (hk:Keeps T w w') (hT:∀ j,T j→ofCable B.c j):BtR w' Z B { t with cs:=cs } r:=
 h.part0 3 (x:=Res.cable B.c t.cs) (x':=Res.cable B.c cs) rfl hk hT hc (fun _ e=>e) rfl h.few
theorem setMv (h:BtR w Z B t r) (m:Int):BtR (w.setCell ⟨B.b,7,none⟩ (.int .i64 m)) Z B t { r with mv:=m }:=
 h.part0 0 (x:=Res.blk B.b (btC B r.V r.mv,82)) (x':=Res.blk B.b (btC B r.V m,82)) rfl (Keeps.setCell (S:=fun j=>j=B.b) (Keeps.refl _ w) (p:=⟨B.b,7,none⟩) rfl _) (fun _ e=>e) (by show _=_;simpa[btC] using blk_set h.blk 7 (.int .i64 m)) (fun _ e=>e) rfl h.few
theorem lt (h:BtR w Z B t r) (i:Nat) {x:Res} (hi:(btL B t r)[i]?=some x) {j:Nat} (hj:x.S j):j<w.heap.size:=h.sep.lt (List.mem_of_getElem? hi) hj
end BtR
variable {b:PeB} {s:Pe}
theorem pe_Core (h:IsPeer w b s):Calls Tryz.prog 21 #[.pointer (some ⟨b.p,0,none⟩)] w fun e w'=>e=.returned (.pointer (some ⟨b.c.c,0,none⟩))∧w=w':=by
 have c0:=h.c0
 go_enter Tryz.func21,Tryz.ntmps21
 go_wp2
 go_ret
 exact ⟨rfl,rfl⟩
theorem pe_Link (h:IsPeer w b s):Calls Tryz.prog 18 #[.pointer (some ⟨b.p,0,none⟩)] w fun e w'=>e=.returned (.pointer (some ⟨b.L.p,0,none⟩))∧w=w':=by
 have c1:=h.c1
 go_enter Tryz.func18,Tryz.ntmps18
 go_wp2
 go_ret
 exact ⟨rfl,rfl⟩
theorem pe_Ledger (h:IsPeer w b s):Calls Tryz.prog 16 #[.pointer (some ⟨b.p,0,none⟩)] w fun e w'=>e=.returned (.pointer (some ⟨b.ld,0,none⟩))∧w=w':=by
 have c2:=h.c2
 go_enter Tryz.func16,Tryz.ntmps16
 go_wp2
 go_ret
 exact ⟨rfl,rfl⟩
theorem pe_Halted (h:IsPeer w b s):Calls Tryz.prog 27 #[.pointer (some ⟨b.p,0,none⟩)] w fun e w'=>e=.returned (.tuple #[.bool s.halted,.int .i64 s.reason])∧∃ q,w'=w.drewN q:=by
 have c9:=h.c9
 have c10:=h.c10
 clear h
 go_enter Tryz.func27,Tryz.ntmps27
 go_wp2_with fail
 go_quiet (fail)
 go_wp2
 go_ret2
 exact ⟨rfl,_,rfl⟩
theorem bo_side (b who:Nat) (hw:who<2) (w:World):Calls Tryz.prog 36 #[.pointer (some ⟨b,0,none⟩),.int .i64 who] w fun e w'=>e=.returned (.pointer (some ⟨b,3*who,none⟩))∧w=w':=by
 have:who=0∨who=1:=by omega
 rcases this with rfl|rfl
 ·go_enter Tryz.func36,Tryz.ntmps36
  go_wp2
  go_ret
  exact ⟨rfl,rfl⟩
 ·go_enter Tryz.func36,Tryz.ntmps36
  go_wp2
  go_ret
  exact ⟨rfl,rfl⟩
theorem bo_side_no (b:Nat) (who:Int) (hw:¬ (0≤who∧who<2)) (w:World):Calls Tryz.prog 36 #[.pointer (some ⟨b,0,none⟩),.int .i64 who] w fun e w'=>e=.returned (.pointer none)∧w=w':=by
 by_cases h1:who<0
 ·go_enter Tryz.func36,Tryz.ntmps36
  go_wp2
  go_ret
  exact ⟨rfl,rfl⟩
 ·have h2:2≤who:=by omega
  go_enter Tryz.func36,Tryz.ntmps36
  go_wp2
  go_ret
  exact ⟨rfl,rfl⟩
theorem bo_Peer {Z:Nat→Prop} {B:BB} {t:BS} {r:Rw} (h:BtR w Z B t r) (who:Nat) (hw:who<2):Calls Tryz.prog 15 #[.pointer (some ⟨B.b,0,none⟩),.int .i64 who] w fun e w'=>e=.returned (.pointer (some ⟨(B.p who).p,0,none⟩))∧w=w':=by
 have hc:=h.cp hw
 have hS:=hid (bo_side B.b who hw w)
 clear h
 go_enter Tryz.func15,Tryz.ntmps15
 go_wp2_with fail
 refine hS.out.mono ?_
 rintro e _ ⟨rfl,rfl⟩
 go_wp2
 go_ret
 exact ⟨rfl,rfl⟩
theorem bo_keep0 (a:Option Addr) (S:Value) (m:Bool) (w:World):Calls Tryz.prog 39 #[.pointer a,.agg #[.slice none 0 0,S,.bool m]] w fun e w'=>e=.returned (.tuple #[])∧Keeps (fun _=>False) w w':=by
 have k0:=(Keeps.refl (fun _=>False) w).alloc (.cells #[.slice none 0 0,S,.bool m] 35)
 go_enter Tryz.func39,Tryz.ntmps39
 go_wp2_with fail
 go_loopg [5,9] 0 (fun g _ i wr=>i=.int .i64 0∧Keeps (fun _=>False) w wr)
 case atStart=>exact ⟨rfl,k0⟩
 case round=>
  obtain ⟨rfl,hk⟩:=hrel
  go_wp2
  go_end0
  exact ⟨rfl,hk⟩
end
section
open Go.RowKit
open Go.Maps
set_option maxRecDepth 100000
variable {w w':World}
def updA {α:Type} (f:Nat→α) (k:Nat) (y:α):Nat→α:=fun j=>if j=k then y else f j
def textM (m:Msg):ByteArray:=⟨(packM m).toArray⟩
def sendsC (cs:CS) (to:Int) (ms:List Msg):CS:=ms.foldl (fun c m=>sendC c 64 to (textM m)) cs
theorem sendsC_snoc (cs:CS) (to:Int) (ms:List Msg) (m:Msg):sendsC cs to (ms++[m])=sendC (sendsC cs to ms) 64 to (textM m):=by
 unfold sendsC
 rw[List.foldl_append]
 rfl
theorem sendC_lost (cs:CS) (to:Int) (t:ByteArray):cs.lost≤(sendC cs 64 to t).lost∧(sendC cs 64 to t).lost≤cs.lost+1:=by
 unfold sendC CS.put
 split
 ·split
  ·split<;>exact ⟨by simp,by simp only;omega⟩
  ·exact ⟨by simp only;omega,by simp⟩
 ·exact ⟨Int.le_refl _,by omega⟩
theorem sendsC_lost (to:Int):∀ (ms:List Msg) (cs:CS),cs.lost≤(sendsC cs to ms).lost∧(sendsC cs to ms).lost≤cs.lost+ms.length
 | [],cs=>⟨Int.le_refl _,by simp[sendsC]⟩
 | m :: r,cs=>by
  have h1:=sendsC_lost to r (sendC cs 64 to (textM m))
  have h2:=sendC_lost cs to (textM m)
  have e:sendsC cs to (m :: r)=sendsC (sendC cs 64 to (textM m)) to r:=rfl
  rw[e,List.length_cons]
  omega
theorem BtR.setRow {Z:Nat→Prop} {B:BB} {t:BS} {r:Rw} {k:Nat} (h:BtR w Z B t r) (hk2:k<2) {w1:World} {v':Value} {n':Nat} {xs':List Value} (hrow:w1.ownsRow 0 5 1 v' n' xs') (hg:w.grownBy w1 (r.V k).ownBlock)
  (hb:v'.ownBlock=(r.V k).ownBlock∨v'.ownBlock=some w.heap.size) (hn:n'≤100000) :
  BtR (w1.setCell ⟨B.b,3*k+1,none⟩ v') (fun j=>Z j∨w.heap.size≤j) B t ⟨updA r.V k v',updA r.n k n',updA r.xs k xs',r.mv⟩:=by
 have hkg:Keeps (fun j=>(r.V k).ownBlock=some j) w w1:=(Keeps.refl _ w).grown hg (fun j e=>.inl e)
 have h2:k=0∨k=1:=by omega
 have hnew:v'.ownBlock=some w.heap.size→∀ x∈btL B t r,¬ x.S w.heap.size:=fun _ x hx e=>by have:=h.sep.lt hx e;omega
 have hrl:∀ j,v'.ownBlock=some j→(r.V k).ownBlock=some j∨w.heap.size≤j:=fun j e=>by
  rcases hb with hb|hb
  ·exact .inl (hb▸e)
  ·rw[hb] at e
   cases e
   exact .inr (Nat.le_refl _)
 rcases h2 with rfl|rfl
 ·have h1:=Sep.set (r':=Res.row v' n' xs') h.sep 4 (r:=Res.row (r.V 0) (r.n 0) (r.xs 0)) rfl hkg (fun j _ e=>e) hrow hrl
  have hbk:w1.heap[B.b]?=some (.cells (btC B r.V r.mv) 82 (0,0)):=h1.at' 0 rfl
  have hks:=(Keeps.refl (fun j=>j=B.b) w1).setCell (p:=⟨B.b,1,none⟩) rfl v'
  have h3:=Sep.set (r':=Res.blk B.b (btC B (updA r.V 0 v') r.mv,82)) h1 0 (r:=Res.blk B.b (btC B r.V r.mv,82)) rfl hks (fun j _ e=>e) (by show _=_;simpa[btC,updA] using blk_set hbk 1 v') (fun j e=>.inl e)
  refine ⟨h3,fun x hx j hj=>?_,fun j hj=>?_⟩
  ·have hx2:x∈[Res.blk B.b (btC B (updA r.V 0 v') r.mv,82),Res.peer (B.p 0) (t.s 0),Res.peer (B.p 1) (t.s 1),Res.cable B.c t.cs,Res.row v' n' xs',Res.row (r.V 1) (r.n 1) (r.xs 1)]:=hx
   simp only[List.mem_cons,List.not_mem_nil,or_false] at hx2
   rcases hx2 with rfl|rfl|rfl|rfl|rfl|rfl
   ·exact .inl (h.inZ 0 rfl hj)
   ·exact .inl (h.inZ 1 rfl hj)
   ·exact .inl (h.inZ 2 rfl hj)
   ·exact .inl (h.inZ 3 rfl hj)
   ·rcases hrl j hj with e|e
    ·exact .inl (h.inZ 4 rfl e)
    ·exact .inr e
   ·exact .inl (h.inZ 5 rfl hj)
  ·have:j=0∨j=1:=by omega
   rcases this with rfl|rfl
   ·exact hn
   ·exact h.few 1 (by omega)
 ·have h1:=Sep.set (r':=Res.row v' n' xs') h.sep 5 (r:=Res.row (r.V 1) (r.n 1) (r.xs 1)) rfl hkg (fun j _ e=>e) hrow hrl
  have hbk:w1.heap[B.b]?=some (.cells (btC B r.V r.mv) 82 (0,0)):=h1.at' 0 rfl
  have hks:=(Keeps.refl (fun j=>j=B.b) w1).setCell (p:=⟨B.b,4,none⟩) rfl v'
  have h3:=Sep.set (r':=Res.blk B.b (btC B (updA r.V 1 v') r.mv,82)) h1 0 (r:=Res.blk B.b (btC B r.V r.mv,82)) rfl hks (fun j _ e=>e) (by show _=_;simpa[btC,updA] using blk_set hbk 4 v') (fun j e=>.inl e)
  refine ⟨h3,fun x hx j hj=>?_,fun j hj=>?_⟩
  ·have hx2:x∈[Res.blk B.b (btC B (updA r.V 1 v') r.mv,82),Res.peer (B.p 0) (t.s 0),Res.peer (B.p 1) (t.s 1),Res.cable B.c t.cs,Res.row (r.V 0) (r.n 0) (r.xs 0),Res.row v' n' xs']:=hx
   simp only[List.mem_cons,List.not_mem_nil,or_false] at hx2
   rcases hx2 with rfl|rfl|rfl|rfl|rfl|rfl
   ·exact .inl (h.inZ 0 rfl hj)
   ·exact .inl (h.inZ 1 rfl hj)
   ·exact .inl (h.inZ 2 rfl hj)
   ·exact .inl (h.inZ 3 rfl hj)
   ·exact .inl (h.inZ 4 rfl hj)
   ·rcases hrl j hj with e|e
    ·exact .inl (h.inZ 5 rfl e)
    ·exact .inr e
  ·have:j=0∨j=1:=by omega
   rcases this with rfl|rfl
   ·exact h.few 0 (by omega)
   ·exact hn
end
section
open Go.RowKit
open Go.Maps
set_option maxRecDepth 100000
variable {w w':World}
def BoPost (w:World) (Z:Nat→Prop) (B:BB) (t':BS) (r:Rw) (e:Ending) (w':World):Prop:=
 (∃ (A:Option Addr) (n c:Nat) (m:Bool) (er:Int),e=.returned (.tuple #[.agg #[.slice none 0 0,.slice A n c,.bool m],.int .i64 er]))∧
  (∃ r',BtR w' (fun j=>Z j∨w.heap.size≤j) B t' r'∧∀ j,r'.n j≤r.n j+1)∧Keeps Z w w'
structure SnI (w:World) (Z:Nat→Prop) (B:BB) (t:BS) (r:Rw) (A:Option Addr) (c o:Nat) (ms:List Msg) (m1:Bool) (cs:CS) (W:World):Prop where
 bt:BtR W (fun j=>Z j∨(w.heap.size+1≤j∧j≠o)) B { t with cs:=cs } r
 rs:W.heap[w.heap.size]?=some (.cells #[.slice none 0 0,.slice none 0 0,.bool false] 35 (0,0))
 ou:W.heap[o]?=some (.cells #[.slice none 0 0,.slice A ms.length c,.bool m1] 35 (0,0))
 vals:Vals W 1 A ms.length c (strsM ms)
 kp:Keeps Z w W
structure SnP (w:World) (Z:Nat→Prop) (B:BB) (A:Option Addr) (o:Nat):Prop where
 z:∀ j,ofCable B.c j→Z j
 zlt:∀ j,ofCable B.c j→j<w.heap.size
 o:w.heap.size<o
 a:∀ x,A=some x→w.heap.size<x.block
theorem SnI.turn {Z:Nat→Prop} {B:BB} {t:BS} {r:Rw} {A:Option Addr} {c o:Nat} {ms:List Msg} {m1:Bool} {cs cs':CS} {W W':World} (h:SnI w Z B t r A c o ms m1 cs W) (hp:SnP w Z B A o) (hc:IsCable W' B.c 64 cs') (hk:Keeps (ofCable B.c) W W'):SnI w Z B t r A c o ms m1 cs' W':=
 ⟨h.bt.setCable hc hk (fun _ e=>e),hk.heap h.rs (fun e=>by have:=hp.zlt _ e;omega),hk.heap h.ou (fun e=>by have:=hp.zlt _ e;have:=hp.o;omega),
  h.vals.keeps hk (fun _ x e1 e2=>by have:=hp.zlt _ e2;have:=hp.a x e1;omega),h.kp.trans (hk.mono fun j _ e=>hp.z j e)⟩
theorem info_u8x:∃ i,Tryz.prog.info? 5=some i∧i.zero=some (.int .u8 0)∧i.size=1∧i.bytes=1:=by
 have h:(Tryz.prog.info? 5).map (fun i=>(i.zero,i.size,i.bytes))=some (some (.int .u8 0),1,1):=by kernel_rfl
 cases hh:Tryz.prog.info? 5 with
 | none=>rw[hh] at h;cases h
 | some i=>rw[hh] at h;simp only[Option.map_some,Option.some.injEq,Prod.mk.injEq] at h;exact ⟨i,rfl,h⟩
theorem BtR.rowZ {Z:Nat→Prop} {B:BB} {t:BS} {r:Rw} {k:Nat} (h:BtR w Z B t r) (hk2:k<2) {j:Nat} (hj:(r.V k).ownBlock=some j):Z j∧j≠B.b:=by
 have h2:k=0∨k=1:=by omega
 rcases h2 with rfl|rfl
 ·exact ⟨h.inZ 4 (x:=Res.row (r.V 0) (r.n 0) (r.xs 0)) rfl hj,fun e=>h.sep.apart' (i:=4) (j:=0) (r:=Res.row (r.V 0) (r.n 0) (r.xs 0)) (s:=Res.blk B.b (btC B r.V r.mv,82)) rfl rfl (by omega) j hj e⟩
 ·exact ⟨h.inZ 5 (x:=Res.row (r.V 1) (r.n 1) (r.xs 1)) rfl hj,fun e=>h.sep.apart' (i:=5) (j:=0) (r:=Res.row (r.V 1) (r.n 1) (r.xs 1)) (s:=Res.blk B.b (btC B r.V r.mv,82)) rfl rfl (by omega) j hj e⟩
set_option maxHeartbeats 1000000 in
theorem bo_tick {Z:Nat→Prop} {B:BB} {t:BS} {r:Rw} (h:BtR w Z B t r) (hZl:∀ j,Z j→j<w.heap.size) (k:Nat) (hk2:k<2) (v:Int) (s5:Pe) (ms:List Msg) (m1:Bool)
  (hT:∀ W,IsPeer W (B.p k) (t.s k)→Calls Tryz.prog 60 #[.pointer (some ⟨(B.p k).p,0,none⟩),.int .u8 v] W (PTick W (B.p k) s5 ms m1))
  (hln:ms.length≤100) (hlo:0≤t.cs.lost∧t.cs.lost≤900000) (hsz:∀ m∈ms,(packM m).length≤100000) (hf:r.n k<100000) :
  Calls Tryz.prog 37 #[.pointer (some ⟨B.b,0,none⟩),.int .i64 k,.int .u8 v] w (BoPost w Z B ⟨setS t.s k s5,sendsC t.cs (1-(k:Int)) ms⟩ r):=by
 have k0:=(Keeps.refl (fun _=>False) w).alloc (.cells #[.slice none 0 0,.slice none 0 0,.bool false] 35)
 have h0:=h.keep k0
 have K0:=hid (keeps_any (S:=Z) k0)
 have HR0:=hid (blk_new w (.cells #[.slice none 0 0,.slice none 0 0,.bool false] 35))
 have hcp:=h0.cp hk2
 have hCo:=hid (pe_Core (h0.peer hk2))
 have hOu:=hid (co_Ours (h0.peer hk2).core)
 have Hcz:=hid (fun j (hj:ofCable B.c j)=>h.inZ 3 rfl hj)
 have Hcl:=hid (fun j (hj:ofCable B.c j)=>h.lt 3 (x:=Res.cable B.c t.cs) rfl hj)
 have Hpl:=hid (show ∀ j,(B.p k).S (t.s k) j→j<w.heap.size from fun j hj=>(h.peer hk2).lt hj)
 have Hpz:=hid (show ∀ j,(B.p k).S (t.s k) j→Z j from fun j hj=>by
  have:k=0∨k=1:=by omega
  rcases this with rfl|rfl
  ·exact h.inZ 1 (x:=Res.peer (B.p 0) (t.s 0)) rfl hj
  ·exact h.inZ 2 (x:=Res.peer (B.p 1) (t.s 1)) rfl hj)
 have HZ:=hid (show ∀ j,Z j→j≠w.heap.size from fun j hj=>by have:=hZl j hj;omega)
 have HZl:=hid hZl
 have H0:=hid h0
 have HT:=hid hT
 have Hln:=hid hln
 have Hlo:=hid hlo
 have Hsz:=hid hsz
 have Hf:=hid hf
 clear h h0 k0 hT hln hlo hsz hf hZl
 have hk3:k=0∨k=1:=by omega
 rcases hk3 with rfl|rfl
 ·have cp:(w.alloc (.cells #[.slice none 0 0,.slice none 0 0,.bool false] 35)).cell? ⟨B.b,0,none⟩=some (.pointer (some ⟨(B.p 0).p,0,none⟩)):=hcp
  clear hcp
  go_enter Tryz.func37,Tryz.ntmps37
  go_wp2_with fail
  generalize w.alloc (.cells #[.slice none 0 0,.slice none 0 0,.bool false] 35)=w0 at *
  refine hCo.out.mono ?_
  rintro e _ ⟨rfl,rfl⟩
  go_wp2_with fail
  refine hOu.out.mono ?_
  rintro e _ ⟨rfl,q,rfl⟩
  have h1:=H0.out.keep ((Keeps.refl _ w0).drewN q)
  have hrs1:(w0.drewN q).heap[w.heap.size]?=some (.cells #[.slice none 0 0,.slice none 0 0,.bool false] 35 (0,0)):=HR0.out
  have k1:=K0.out.drewN q
  have c0:(w0.drewN q).cell? ⟨B.b,0,none⟩=some (.pointer (some ⟨(B.p 0).p,0,none⟩)):=h1.cp (k:=0) (by omega)
  have hTk:=hid (HT.out (w0.drewN q) (h1.peer (k:=0) (by omega)))
  have H1:=hid h1
  have HR1:=hid hrs1
  have K1:=hid k1
  clear H0 HR0 K0 hCo hOu h1 hrs1 k1 cp
  generalize w0.drewN q=w1 at *
  go_wp2_with fail
  refine hTk.out.mono ?_
  rintro e w2 ⟨⟨A,c,rfl,hV,hA⟩,hp2,k2⟩
  have hsl:∀ j,(B.p 0).S s5 j→j<w.heap.size:=fun j hj=>Hpl.out j (by rw[peS_same (B.p 0) _ s5];exact hj)
  have hsz:∀ j,(B.p 0).S s5 j→Z j:=fun j hj=>Hpz.out j (by rw[peS_same (B.p 0) _ s5];exact hj)
  have h2:=H1.out.setPeer (k:=0) (by omega) hp2 k2 (fun _ e=>e)
  have hrs2:=k2.heap HR1.out (fun e=>by have:=hsl _ e;omega)
  have kk2:=K1.out.trans (k2.mono fun j _ e=>hsz j e)
  have kq:=(Keeps.refl (fun _=>False) w2).alloc (.cells #[.slice none 0 0,.slice A ms.length c,.bool m1] 35)
  have h3:=h2.keep kq
  have hrs3:=kq.heap hrs2 id
  have hV3:=hV.keeps kq (fun _ _ _=>id)
  have hou:=blk_new w2 (.cells #[.slice none 0 0,.slice A ms.length c,.bool m1] 35)
  have hs12:=K1.out.size
  have hs2:=k2.size
  have hrl:=blk_lt HR1.out
  have hPA:SnP w Z B A w2.heap.size:=⟨Hcz.out,Hcl.out,by omega,fun x e=>by have:=hA x e;omega⟩
  have kk3:=kk2.trans (keeps_any kq)
  have c0:(w2.alloc (.cells #[.slice none 0 0,.slice A ms.length c,.bool m1] 35)).cell? ⟨B.b,0,none⟩=some (.pointer (some ⟨(B.p 0).p,0,none⟩)):=h3.cp (k:=0) (by omega)
  have hpe3:IsPeer (w2.alloc (.cells #[.slice none 0 0,.slice A ms.length c,.bool m1] 35)) (B.p 0) s5:=by
   have:=h3.peer (k:=0) (by omega)
   rw[show ({ t with s:=setS t.s 0 s5 }:BS).s 0=s5 from by show setS t.s 0 s5 0=s5;exact setS_same _ _ _] at this
   exact this
  have hCo2:=hid (pe_Core hpe3)
  have hOu2:=hid (co_Ours hpe3.core)
  obtain ⟨oo,hoo⟩:∃ oo,oo=w2.heap.size:=⟨_,rfl⟩
  rw[←hoo] at hPA hou
  have HP:=hid hPA
  have H3:=hid h3
  have HR3:=hid hrs3
  have HV3:=hid hV3
  have HO:=hid hou
  have K3:=hid kk3
  have HAo:=hid (show ∀ x,A=some x→x.block<oo∨True from fun _ _=>.inr trivial)
  have HA2:=hid (show ∀ x,0<ms.length→A=some x→x.block<oo from fun x h0 e=>by rw[hoo];exact hV.lt (by omega) h0 e)
  clear hTk H1 HR1 K1 hp2 k2 hsl hsz h2 hrs2 kk2 kq h3 hrs3 hV3 hou hs12 hs2 hrl hPA kk3 hpe3 hV hA c0
  go_upto_region 6 with fail
  rw[←hoo]
  clear hoo
  generalize w2.alloc (.cells #[.slice none 0 0,.slice A ms.length c,.bool m1] 35)=w3 at *
  have c0:w3.cell? ⟨B.b,0,none⟩=some (.pointer (some ⟨(B.p 0).p,0,none⟩)):=H3.out.cp (k:=0) (by omega)
  go_wp2_with fail
  refine hCo2.out.mono ?_
  rintro e _ ⟨rfl,rfl⟩
  go_wp2_with fail
  refine hOu2.out.mono ?_
  rintro e _ ⟨rfl,q3,rfl⟩
  have h4:=H3.out.keep ((Keeps.refl _ w3).drewN q3)
  have HR4:=hid (show (w3.drewN q3).heap[w.heap.size]?=some (.cells #[.slice none 0 0,.slice none 0 0,.bool false] 35 (0,0)) from HR3.out)
  have HV4:=hid (HV3.out.keeps ((Keeps.refl (fun _=>False) w3).drewN q3) (fun _ _ _=>id))
  have HO4:=hid (show (w3.drewN q3).heap[oo]?=some (.cells #[.slice none 0 0,.slice A ms.length c,.bool m1] 35 (0,0)) from HO.out)
  have K4:=hid (K3.out.drewN q3)
  have H4:=hid h4
  clear H3 HR3 HV3 HO K3 h4 hCo2 hOu2 c0
  generalize w3.drewN q3=w4 at *
  by_cases hours:((t.s 0).x.f (t.s 0).x.me).next<(s5.x.f s5.x.me).next
  ·have hcm:(((t.s 0).x.f (t.s 0).x.me).next:Int)<((s5.x.f s5.x.me).next:Int):=by omega
   obtain ⟨i0,hi,hz0,hz1,hz2⟩:=info_u8x
   have ci:w4.cell? ⟨B.b,1,none⟩=some (r.V 0):=H4.out.ci (k:=0) (by omega)
   have hown:=H4.out.row (k:=0) (by omega)
   have Hown:=hid hown
   have Hi:=hid hi
   clear hown hi
   have hbl:=blk_lt H4.out.blk
   go_wp2_with (first|(at_builtin;refine wpList_append_vals _ rfl (.tmp 50) (.tmp 52) _ rfl 0 5 i0 _ 1 1 Tryz.underlying51 Hi.out hz0 hz1 hz2 rfl (by omega) _ (r.n 0) (r.xs 0) rfl (own_keeps Hown.out ((Keeps.refl (fun _=>False) _).alloc _) (fun _ _=>id)) (some ⟨_,0,none⟩) 1 1 [.int .u8 v] rfl (vals_one _ _ _) (by simp[Value.oneCell']) (by have:=Hf.out;simp only[maxLen];omega) (by have:=Hf.out;omega) (Nat.zero_le _) ?_)|fail)
   intro v' w5 hrow hgr hob
   obtain ⟨A2,c2,rfl,_,_⟩:=vals_of_own hrow
   have hz5:(w4.alloc (.cells #[.int .u8 v] 5)).heap.size=w4.heap.size+1:=by simp
   rw[←hz5] at hob
   have h4a:=H4.out.keep ((Keeps.refl (fun _=>False) w4).alloc (.cells #[.int .u8 v] 5))
   have h5:=h4a.setRow (k:=0) (by omega) hrow hgr hob (by have:=Hf.out;omega)
   have hkr:Keeps (fun j=>(r.V 0).ownBlock=some j) (w4.alloc (.cells #[.int .u8 v] 5)) w5:=(Keeps.refl _ _).grown hgr (fun j e=>.inl e)
   have hrz:∀ j,(r.V 0).ownBlock=some j→Z j∧j≠B.b:=fun j e=>H4.out.rowZ (k:=0) (by omega) e
   have hbb:w5.heap[B.b]?=some (.cells (btC B r.V r.mv) 82 (0,0)):=hkr.heap h4a.blk (fun e=>(hrz _ e).2 rfl)
   have ci5:w5.cell? ⟨B.b,1,none⟩=some (r.V 0):=blk_cell hbb rfl
   have fi5:=blk_free hbb 1
   have kz:=(((Keeps.refl (fun _=>False) w4).alloc (.cells #[.int .u8 v] 5)).mono (T:=Z) (fun _ _ e=>e.elim)).trans ((hkr.mono (T:=Z) fun j _ e=>(hrz j e).1).setCell (p:=⟨B.b,1,none⟩) (H4.out.inZ 0 rfl rfl) (.slice A2 (r.n 0+1) c2))
   obtain ⟨r2,hr2⟩:∃ r2:Rw,r2=⟨updA r.V 0 (.slice A2 (r.n 0+1) c2),updA r.n 0 (r.n 0+1),updA r.xs 0 (r.xs 0++[.int .u8 v]),r.mv⟩:=⟨_,rfl⟩
   have Hr2:=hid (show ∀ j,r2.n j≤r.n j+1 from fun j=>by rw[hr2];show updA r.n 0 (r.n 0+1) j≤_;unfold updA;split<;>(try subst_vars)<;>omega)
   have ho4:=blk_lt HO4.out
   have HI:=hid (show SnI w Z B { t with s:=setS t.s 0 s5 } r2 A c oo ms m1 (sendsC t.cs 1 (ms.take 0)) (w5.setCell ⟨B.b,1,none⟩ (.slice A2 (r.n 0+1) c2)) from ⟨by
    rw[hr2]
    exact h5.mono (fun j hj=>by
     rcases hj with hj|hj
     ·exact .inl hj
     ·have h7:=HP.out.o
      exact .inr ⟨by omega,by omega⟩),kz.heap HR4.out (fun e=>by have:=HZl.out _ e;omega),kz.heap HO4.out (fun e=>by have:=HZl.out _ e;have:=HP.out.o;omega),HV4.out.keeps kz (fun _ x e1 e2=>by have:=HZl.out _ e2;have:=HP.out.a x e1;omega),K4.out.trans kz⟩)
   have o1:=blk_cell (k:=1) HI.out.ou rfl
   clear hr2 H4 HR4 HO4 HV4 K4 h4a h5 hkr hrz hrow hgr hob hbb kz hz5 ci ho4 hbl Hown Hi
   go_wp2_with fail
   clear hcm ci5 fi5
   generalize w5.setCell ⟨B.b,1,none⟩ (.slice A2 (r.n 0+1) c2)=w6 at *
   go_loopg [13,59] ms.length (fun g _ i wr=>∃ j:Nat,g=ms.length-j∧j≤ms.length∧i=.int .i64 j∧SnI w Z B { t with s:=setS t.s 0 s5 } r2 A c oo ms m1 (sendsC t.cs 1 (ms.take j)) wr)
   case atStart=>exact ⟨0,rfl,Nat.zero_le _,rfl,HI.out⟩
   case round=>
    obtain ⟨j,hg,hj,rfl,hJ⟩:=hrel
    clear HI
    have hln:=Hln.out
    by_cases hlt:j<ms.length
    ·obtain ⟨bb,oq,rfl,hc⟩:=hJ.vals.at' (by omega)
     have y0:wr.cell? ⟨bb,oq+j,none⟩=some (.string (textM ms[j])):=hc j _ (by simp[strsM,textM,hlt])
     have c6:=hJ.bt.c6
     have hlo:=sendsC_lost 1 (ms.take j) t.cs
     have hle:(ms.take j).length≤100:=by rw[List.length_take];omega
     have hSd:=hid (cable_Send hJ.bt.cable (show 0≤(sendsC t.cs 1 (ms.take j)).lost∧(sendsC t.cs 1 (ms.take j)).lost≤1000000 by have:=Hlo.out;omega) 1 (textM ms[j]) (by have:=Hsz.out ms[j] (List.getElem_mem hlt);unfold textM maxLen;simp[ByteArray.size];omega))
     have hlb:=World.block_lt_of_cell? _ _ y0
     have hlB:=blk_lt hJ.bt.blk
     have e9:sendC (sendsC t.cs 1 (ms.take j)) 64 1 (textM ms[j])=sendsC t.cs 1 (ms.take (j+1)):=by rw[List.take_succ_eq_append_getElem hlt,sendsC_snoc]
     rw[e9] at hSd
     have HJ:=hid hJ
     clear hJ hc hlo hle e9
     go_wp2_with fail
     refine hSd.out.mono ?_
     rintro e w9 ⟨rfl,hc9,k9⟩
     have hJ9:=HJ.out.turn HP.out hc9 k9
     clear HJ hSd hc9 k9
     go_wp2_with fail
     go_roundg (ms.length-(j+1))
     case rel=>exact ⟨j+1,rfl,by omega,by go_num,hJ9⟩
     case measure=>omega
    ·obtain rfl:j=ms.length:=by omega
     rw[List.take_length] at hJ
     obtain ⟨o0,o1,o2⟩:=bc3 0 1 2 hJ.ou ⟨rfl,rfl,rfl⟩
     have HJ:=hid hJ
     clear hJ
     go_wp2_with fail
     refine (bo_keep0 _ _ _ _).mono ?_
     rintro e wK ⟨rfl,kK⟩
     have hrs:=kK.heap HJ.out.rs id
     have hou:=kK.heap HJ.out.ou id
     have hbt:=HJ.out.bt.keep kK
     have hkp:=HJ.out.kp.trans (keeps_any kK)
     clear o0 o1 o2
     obtain ⟨o0,o1,o2⟩:=bc3 0 1 2 hou ⟨rfl,rfl,rfl⟩
     obtain ⟨g0,g1,g2⟩:=bf3 hrs 0 1 2
     obtain ⟨z0,z1,z2⟩:=bc3 0 1 2 hrs ⟨rfl,rfl,rfl⟩
     have hB2:=blk_three hrs (.slice none 0 0) (.slice A ms.length c) (.bool m1)
     have k3:=keeps_three wK w.heap.size (.slice none 0 0) (.slice A ms.length c) (.bool m1)
     have hbf:=(hbt.keeps k3 (fun j hj e=>by
      rcases hj with hj|hj
      ·exact HZ.out j hj e
      ·omega)).mono (Z':=fun j=>Z j∨w.heap.size≤j) (fun j hj=>by
      rcases hj with hj|hj
      ·exact .inl hj
      ·exact .inr (by omega))
     have hkf:=keeps_past hkp k3 (fun k hk e=>by omega)
     have Hbf:=hid hbf
     have Hkf:=hid hkf
     have HB2:=hid hB2
     clear HJ hbt hkp k3 hbf hkf hB2 hrs hou kK
     go_wp2_with fail
     have hload:=box_load _ _ _ _ HB2.out 3 rfl
     refine bodyPost_ret (v:=.tuple #[.agg #[.slice none 0 0,.slice A ms.length c,.bool m1],.int .i64 0]) (by simp[results,Tryz.results37,asAddr,loadVar,loadCells,Tryz.isAgg35,Tryz.sizeOf35,hload]) rfl ?_
     exact ⟨⟨A,ms.length,c,m1,0,rfl⟩,⟨r2,Hbf.out,Hr2.out⟩,Hkf.out⟩
  ·have hcm:¬ (((t.s 0).x.f (t.s 0).x.me).next:Int)<((s5.x.f s5.x.me).next:Int):=by omega
   obtain ⟨r2,hr2⟩:∃ r2,r2=r:=⟨_,rfl⟩
   have Hr2:=hid (show ∀ j,r2.n j≤r.n j+1 from fun j=>by rw[hr2];omega)
   have HI:=hid (show SnI w Z B { t with s:=setS t.s 0 s5 } r2 A c oo ms m1 (sendsC t.cs 1 (ms.take 0)) w4 from ⟨hr2▸H4.out.mono (fun j hj=>.inl hj),HR4.out,HO4.out,HV4.out,K4.out⟩)
   have o1:=blk_cell (k:=1) HO4.out rfl
   clear hr2 H4 HR4 HO4 HV4 K4
   go_wp2_with fail
   clear o1 hcm
   go_loopg [13,59] ms.length (fun g _ i wr=>∃ j:Nat,g=ms.length-j∧j≤ms.length∧i=.int .i64 j∧SnI w Z B { t with s:=setS t.s 0 s5 } r2 A c oo ms m1 (sendsC t.cs 1 (ms.take j)) wr)
   case atStart=>exact ⟨0,rfl,Nat.zero_le _,rfl,HI.out⟩
   case round=>
    obtain ⟨j,hg,hj,rfl,hJ⟩:=hrel
    clear HI
    have hln:=Hln.out
    by_cases hlt:j<ms.length
    ·obtain ⟨bb,oq,rfl,hc⟩:=hJ.vals.at' (by omega)
     have y0:wr.cell? ⟨bb,oq+j,none⟩=some (.string (textM ms[j])):=hc j _ (by simp[strsM,textM,hlt])
     have c6:=hJ.bt.c6
     have hlo:=sendsC_lost 1 (ms.take j) t.cs
     have hle:(ms.take j).length≤100:=by rw[List.length_take];omega
     have hSd:=hid (cable_Send hJ.bt.cable (show 0≤(sendsC t.cs 1 (ms.take j)).lost∧(sendsC t.cs 1 (ms.take j)).lost≤1000000 by have:=Hlo.out;omega) 1 (textM ms[j]) (by have:=Hsz.out ms[j] (List.getElem_mem hlt);unfold textM maxLen;simp[ByteArray.size];omega))
     have hlb:=World.block_lt_of_cell? _ _ y0
     have hlB:=blk_lt hJ.bt.blk
     have e9:sendC (sendsC t.cs 1 (ms.take j)) 64 1 (textM ms[j])=sendsC t.cs 1 (ms.take (j+1)):=by rw[List.take_succ_eq_append_getElem hlt,sendsC_snoc]
     rw[e9] at hSd
     have HJ:=hid hJ
     clear hJ hc hlo hle e9
     go_wp2_with fail
     refine hSd.out.mono ?_
     rintro e w9 ⟨rfl,hc9,k9⟩
     have hJ9:=HJ.out.turn HP.out hc9 k9
     clear HJ hSd hc9 k9
     go_wp2_with fail
     go_roundg (ms.length-(j+1))
     case rel=>exact ⟨j+1,rfl,by omega,by go_num,hJ9⟩
     case measure=>omega
    ·obtain rfl:j=ms.length:=by omega
     rw[List.take_length] at hJ
     obtain ⟨o0,o1,o2⟩:=bc3 0 1 2 hJ.ou ⟨rfl,rfl,rfl⟩
     have HJ:=hid hJ
     clear hJ
     go_wp2_with fail
     refine (bo_keep0 _ _ _ _).mono ?_
     rintro e wK ⟨rfl,kK⟩
     have hrs:=kK.heap HJ.out.rs id
     have hou:=kK.heap HJ.out.ou id
     have hbt:=HJ.out.bt.keep kK
     have hkp:=HJ.out.kp.trans (keeps_any kK)
     clear o0 o1 o2
     obtain ⟨o0,o1,o2⟩:=bc3 0 1 2 hou ⟨rfl,rfl,rfl⟩
     obtain ⟨g0,g1,g2⟩:=bf3 hrs 0 1 2
     obtain ⟨z0,z1,z2⟩:=bc3 0 1 2 hrs ⟨rfl,rfl,rfl⟩
     have hB2:=blk_three hrs (.slice none 0 0) (.slice A ms.length c) (.bool m1)
     have k3:=keeps_three wK w.heap.size (.slice none 0 0) (.slice A ms.length c) (.bool m1)
     have hbf:=(hbt.keeps k3 (fun j hj e=>by
      rcases hj with hj|hj
      ·exact HZ.out j hj e
      ·omega)).mono (Z':=fun j=>Z j∨w.heap.size≤j) (fun j hj=>by
      rcases hj with hj|hj
      ·exact .inl hj
      ·exact .inr (by omega))
     have hkf:=keeps_past hkp k3 (fun k hk e=>by omega)
     have Hbf:=hid hbf
     have Hkf:=hid hkf
     have HB2:=hid hB2
     clear HJ hbt hkp k3 hbf hkf hB2 hrs hou kK
     go_wp2_with fail
     have hload:=box_load _ _ _ _ HB2.out 3 rfl
     refine bodyPost_ret (v:=.tuple #[.agg #[.slice none 0 0,.slice A ms.length c,.bool m1],.int .i64 0]) (by simp[results,Tryz.results37,asAddr,loadVar,loadCells,Tryz.isAgg35,Tryz.sizeOf35,hload]) rfl ?_
     exact ⟨⟨A,ms.length,c,m1,0,rfl⟩,⟨r2,Hbf.out,Hr2.out⟩,Hkf.out⟩
 ·have cp:(w.alloc (.cells #[.slice none 0 0,.slice none 0 0,.bool false] 35)).cell? ⟨B.b,3,none⟩=some (.pointer (some ⟨(B.p 1).p,0,none⟩)):=hcp
  clear hcp
  go_enter Tryz.func37,Tryz.ntmps37
  go_wp2_with fail
  generalize w.alloc (.cells #[.slice none 0 0,.slice none 0 0,.bool false] 35)=w0 at *
  refine hCo.out.mono ?_
  rintro e _ ⟨rfl,rfl⟩
  go_wp2_with fail
  refine hOu.out.mono ?_
  rintro e _ ⟨rfl,q,rfl⟩
  have h1:=H0.out.keep ((Keeps.refl _ w0).drewN q)
  have hrs1:(w0.drewN q).heap[w.heap.size]?=some (.cells #[.slice none 0 0,.slice none 0 0,.bool false] 35 (0,0)):=HR0.out
  have k1:=K0.out.drewN q
  have c0:(w0.drewN q).cell? ⟨B.b,3,none⟩=some (.pointer (some ⟨(B.p 1).p,0,none⟩)):=h1.cp (k:=1) (by omega)
  have hTk:=hid (HT.out (w0.drewN q) (h1.peer (k:=1) (by omega)))
  have H1:=hid h1
  have HR1:=hid hrs1
  have K1:=hid k1
  clear H0 HR0 K0 hCo hOu h1 hrs1 k1 cp
  generalize w0.drewN q=w1 at *
  go_wp2_with fail
  refine hTk.out.mono ?_
  rintro e w2 ⟨⟨A,c,rfl,hV,hA⟩,hp2,k2⟩
  have hsl:∀ j,(B.p 1).S s5 j→j<w.heap.size:=fun j hj=>Hpl.out j (by rw[peS_same (B.p 1) _ s5];exact hj)
  have hsz:∀ j,(B.p 1).S s5 j→Z j:=fun j hj=>Hpz.out j (by rw[peS_same (B.p 1) _ s5];exact hj)
  have h2:=H1.out.setPeer (k:=1) (by omega) hp2 k2 (fun _ e=>e)
  have hrs2:=k2.heap HR1.out (fun e=>by have:=hsl _ e;omega)
  have kk2:=K1.out.trans (k2.mono fun j _ e=>hsz j e)
  have kq:=(Keeps.refl (fun _=>False) w2).alloc (.cells #[.slice none 0 0,.slice A ms.length c,.bool m1] 35)
  have h3:=h2.keep kq
  have hrs3:=kq.heap hrs2 id
  have hV3:=hV.keeps kq (fun _ _ _=>id)
  have hou:=blk_new w2 (.cells #[.slice none 0 0,.slice A ms.length c,.bool m1] 35)
  have hs12:=K1.out.size
  have hs2:=k2.size
  have hrl:=blk_lt HR1.out
  have hPA:SnP w Z B A w2.heap.size:=⟨Hcz.out,Hcl.out,by omega,fun x e=>by have:=hA x e;omega⟩
  have kk3:=kk2.trans (keeps_any kq)
  have c0:(w2.alloc (.cells #[.slice none 0 0,.slice A ms.length c,.bool m1] 35)).cell? ⟨B.b,3,none⟩=some (.pointer (some ⟨(B.p 1).p,0,none⟩)):=h3.cp (k:=1) (by omega)
  have hpe3:IsPeer (w2.alloc (.cells #[.slice none 0 0,.slice A ms.length c,.bool m1] 35)) (B.p 1) s5:=by
   have:=h3.peer (k:=1) (by omega)
   rw[show ({ t with s:=setS t.s 1 s5 }:BS).s 1=s5 from by show setS t.s 1 s5 1=s5;exact setS_same _ _ _] at this
   exact this
  have hCo2:=hid (pe_Core hpe3)
  have hOu2:=hid (co_Ours hpe3.core)
  obtain ⟨oo,hoo⟩:∃ oo,oo=w2.heap.size:=⟨_,rfl⟩
  rw[←hoo] at hPA hou
  have HP:=hid hPA
  have H3:=hid h3
  have HR3:=hid hrs3
  have HV3:=hid hV3
  have HO:=hid hou
  have K3:=hid kk3
  have HAo:=hid (show ∀ x,A=some x→x.block<oo∨True from fun _ _=>.inr trivial)
  have HA2:=hid (show ∀ x,0<ms.length→A=some x→x.block<oo from fun x h0 e=>by rw[hoo];exact hV.lt (by omega) h0 e)
  clear hTk H1 HR1 K1 hp2 k2 hsl hsz h2 hrs2 kk2 kq h3 hrs3 hV3 hou hs12 hs2 hrl hPA kk3 hpe3 hV hA c0
  go_upto_region 6 with fail
  rw[←hoo]
  clear hoo
  generalize w2.alloc (.cells #[.slice none 0 0,.slice A ms.length c,.bool m1] 35)=w3 at *
  have c0:w3.cell? ⟨B.b,3,none⟩=some (.pointer (some ⟨(B.p 1).p,0,none⟩)):=H3.out.cp (k:=1) (by omega)
  go_wp2_with fail
  refine hCo2.out.mono ?_
  rintro e _ ⟨rfl,rfl⟩
  go_wp2_with fail
  refine hOu2.out.mono ?_
  rintro e _ ⟨rfl,q3,rfl⟩
  have h4:=H3.out.keep ((Keeps.refl _ w3).drewN q3)
  have HR4:=hid (show (w3.drewN q3).heap[w.heap.size]?=some (.cells #[.slice none 0 0,.slice none 0 0,.bool false] 35 (0,0)) from HR3.out)
  have HV4:=hid (HV3.out.keeps ((Keeps.refl (fun _=>False) w3).drewN q3) (fun _ _ _=>id))
  have HO4:=hid (show (w3.drewN q3).heap[oo]?=some (.cells #[.slice none 0 0,.slice A ms.length c,.bool m1] 35 (0,0)) from HO.out)
  have K4:=hid (K3.out.drewN q3)
  have H4:=hid h4
  clear H3 HR3 HV3 HO K3 h4 hCo2 hOu2 c0
  generalize w3.drewN q3=w4 at *
  by_cases hours:((t.s 1).x.f (t.s 1).x.me).next<(s5.x.f s5.x.me).next
  ·have hcm:(((t.s 1).x.f (t.s 1).x.me).next:Int)<((s5.x.f s5.x.me).next:Int):=by omega
   obtain ⟨i0,hi,hz0,hz1,hz2⟩:=info_u8x
   have ci:w4.cell? ⟨B.b,4,none⟩=some (r.V 1):=H4.out.ci (k:=1) (by omega)
   have hown:=H4.out.row (k:=1) (by omega)
   have Hown:=hid hown
   have Hi:=hid hi
   clear hown hi
   have hbl:=blk_lt H4.out.blk
   go_wp2_with (first|(at_builtin;refine wpList_append_vals _ rfl (.tmp 50) (.tmp 52) _ rfl 0 5 i0 _ 1 1 Tryz.underlying51 Hi.out hz0 hz1 hz2 rfl (by omega) _ (r.n 1) (r.xs 1) rfl (own_keeps Hown.out ((Keeps.refl (fun _=>False) _).alloc _) (fun _ _=>id)) (some ⟨_,0,none⟩) 1 1 [.int .u8 v] rfl (vals_one _ _ _) (by simp[Value.oneCell']) (by have:=Hf.out;simp only[maxLen];omega) (by have:=Hf.out;omega) (Nat.zero_le _) ?_)|fail)
   intro v' w5 hrow hgr hob
   obtain ⟨A2,c2,rfl,_,_⟩:=vals_of_own hrow
   have hz5:(w4.alloc (.cells #[.int .u8 v] 5)).heap.size=w4.heap.size+1:=by simp
   rw[←hz5] at hob
   have h4a:=H4.out.keep ((Keeps.refl (fun _=>False) w4).alloc (.cells #[.int .u8 v] 5))
   have h5:=h4a.setRow (k:=1) (by omega) hrow hgr hob (by have:=Hf.out;omega)
   have hkr:Keeps (fun j=>(r.V 1).ownBlock=some j) (w4.alloc (.cells #[.int .u8 v] 5)) w5:=(Keeps.refl _ _).grown hgr (fun j e=>.inl e)
   have hrz:∀ j,(r.V 1).ownBlock=some j→Z j∧j≠B.b:=fun j e=>H4.out.rowZ (k:=1) (by omega) e
   have hbb:w5.heap[B.b]?=some (.cells (btC B r.V r.mv) 82 (0,0)):=hkr.heap h4a.blk (fun e=>(hrz _ e).2 rfl)
   have ci5:w5.cell? ⟨B.b,4,none⟩=some (r.V 1):=blk_cell hbb rfl
   have fi5:=blk_free hbb 4
   have kz:=(((Keeps.refl (fun _=>False) w4).alloc (.cells #[.int .u8 v] 5)).mono (T:=Z) (fun _ _ e=>e.elim)).trans ((hkr.mono (T:=Z) fun j _ e=>(hrz j e).1).setCell (p:=⟨B.b,4,none⟩) (H4.out.inZ 0 rfl rfl) (.slice A2 (r.n 1+1) c2))
   obtain ⟨r2,hr2⟩:∃ r2:Rw,r2=⟨updA r.V 1 (.slice A2 (r.n 1+1) c2),updA r.n 1 (r.n 1+1),updA r.xs 1 (r.xs 1++[.int .u8 v]),r.mv⟩:=⟨_,rfl⟩
   have Hr2:=hid (show ∀ j,r2.n j≤r.n j+1 from fun j=>by rw[hr2];show updA r.n 1 (r.n 1+1) j≤_;unfold updA;split<;>(try subst_vars)<;>omega)
   have ho4:=blk_lt HO4.out
   have HI:=hid (show SnI w Z B { t with s:=setS t.s 1 s5 } r2 A c oo ms m1 (sendsC t.cs 0 (ms.take 0)) (w5.setCell ⟨B.b,4,none⟩ (.slice A2 (r.n 1+1) c2)) from ⟨by
    rw[hr2]
    exact h5.mono (fun j hj=>by
     rcases hj with hj|hj
     ·exact .inl hj
     ·have h7:=HP.out.o
      exact .inr ⟨by omega,by omega⟩),kz.heap HR4.out (fun e=>by have:=HZl.out _ e;omega),kz.heap HO4.out (fun e=>by have:=HZl.out _ e;have:=HP.out.o;omega),HV4.out.keeps kz (fun _ x e1 e2=>by have:=HZl.out _ e2;have:=HP.out.a x e1;omega),K4.out.trans kz⟩)
   have o1:=blk_cell (k:=1) HI.out.ou rfl
   clear hr2 H4 HR4 HO4 HV4 K4 h4a h5 hkr hrz hrow hgr hob hbb kz hz5 ci ho4 hbl Hown Hi
   go_wp2_with fail
   clear hcm ci5 fi5
   generalize w5.setCell ⟨B.b,4,none⟩ (.slice A2 (r.n 1+1) c2)=w6 at *
   go_loopg [13,59] ms.length (fun g _ i wr=>∃ j:Nat,g=ms.length-j∧j≤ms.length∧i=.int .i64 j∧SnI w Z B { t with s:=setS t.s 1 s5 } r2 A c oo ms m1 (sendsC t.cs 0 (ms.take j)) wr)
   case atStart=>exact ⟨0,rfl,Nat.zero_le _,rfl,HI.out⟩
   case round=>
    obtain ⟨j,hg,hj,rfl,hJ⟩:=hrel
    clear HI
    have hln:=Hln.out
    by_cases hlt:j<ms.length
    ·obtain ⟨bb,oq,rfl,hc⟩:=hJ.vals.at' (by omega)
     have y0:wr.cell? ⟨bb,oq+j,none⟩=some (.string (textM ms[j])):=hc j _ (by simp[strsM,textM,hlt])
     have c6:=hJ.bt.c6
     have hlo:=sendsC_lost 0 (ms.take j) t.cs
     have hle:(ms.take j).length≤100:=by rw[List.length_take];omega
     have hSd:=hid (cable_Send hJ.bt.cable (show 0≤(sendsC t.cs 0 (ms.take j)).lost∧(sendsC t.cs 0 (ms.take j)).lost≤1000000 by have:=Hlo.out;omega) 0 (textM ms[j]) (by have:=Hsz.out ms[j] (List.getElem_mem hlt);unfold textM maxLen;simp[ByteArray.size];omega))
     have hlb:=World.block_lt_of_cell? _ _ y0
     have hlB:=blk_lt hJ.bt.blk
     have e9:sendC (sendsC t.cs 0 (ms.take j)) 64 0 (textM ms[j])=sendsC t.cs 0 (ms.take (j+1)):=by rw[List.take_succ_eq_append_getElem hlt,sendsC_snoc]
     rw[e9] at hSd
     have HJ:=hid hJ
     clear hJ hc hlo hle e9
     go_wp2_with fail
     refine hSd.out.mono ?_
     rintro e w9 ⟨rfl,hc9,k9⟩
     have hJ9:=HJ.out.turn HP.out hc9 k9
     clear HJ hSd hc9 k9
     go_wp2_with fail
     go_roundg (ms.length-(j+1))
     case rel=>exact ⟨j+1,rfl,by omega,by go_num,hJ9⟩
     case measure=>omega
    ·obtain rfl:j=ms.length:=by omega
     rw[List.take_length] at hJ
     obtain ⟨o0,o1,o2⟩:=bc3 0 1 2 hJ.ou ⟨rfl,rfl,rfl⟩
     have HJ:=hid hJ
     clear hJ
     go_wp2_with fail
     refine (bo_keep0 _ _ _ _).mono ?_
     rintro e wK ⟨rfl,kK⟩
     have hrs:=kK.heap HJ.out.rs id
     have hou:=kK.heap HJ.out.ou id
     have hbt:=HJ.out.bt.keep kK
     have hkp:=HJ.out.kp.trans (keeps_any kK)
     clear o0 o1 o2
     obtain ⟨o0,o1,o2⟩:=bc3 0 1 2 hou ⟨rfl,rfl,rfl⟩
     obtain ⟨g0,g1,g2⟩:=bf3 hrs 0 1 2
     obtain ⟨z0,z1,z2⟩:=bc3 0 1 2 hrs ⟨rfl,rfl,rfl⟩
     have hB2:=blk_three hrs (.slice none 0 0) (.slice A ms.length c) (.bool m1)
     have k3:=keeps_three wK w.heap.size (.slice none 0 0) (.slice A ms.length c) (.bool m1)
     have hbf:=(hbt.keeps k3 (fun j hj e=>by
      rcases hj with hj|hj
      ·exact HZ.out j hj e
      ·omega)).mono (Z':=fun j=>Z j∨w.heap.size≤j) (fun j hj=>by
      rcases hj with hj|hj
      ·exact .inl hj
      ·exact .inr (by omega))
     have hkf:=keeps_past hkp k3 (fun k hk e=>by omega)
     have Hbf:=hid hbf
     have Hkf:=hid hkf
     have HB2:=hid hB2
     clear HJ hbt hkp k3 hbf hkf hB2 hrs hou kK
     go_wp2_with fail
     have hload:=box_load _ _ _ _ HB2.out 3 rfl
     refine bodyPost_ret (v:=.tuple #[.agg #[.slice none 0 0,.slice A ms.length c,.bool m1],.int .i64 0]) (by simp[results,Tryz.results37,asAddr,loadVar,loadCells,Tryz.isAgg35,Tryz.sizeOf35,hload]) rfl ?_
     exact ⟨⟨A,ms.length,c,m1,0,rfl⟩,⟨r2,Hbf.out,Hr2.out⟩,Hkf.out⟩
  ·have hcm:¬ (((t.s 1).x.f (t.s 1).x.me).next:Int)<((s5.x.f s5.x.me).next:Int):=by omega
   obtain ⟨r2,hr2⟩:∃ r2,r2=r:=⟨_,rfl⟩
   have Hr2:=hid (show ∀ j,r2.n j≤r.n j+1 from fun j=>by rw[hr2];omega)
   have HI:=hid (show SnI w Z B { t with s:=setS t.s 1 s5 } r2 A c oo ms m1 (sendsC t.cs 0 (ms.take 0)) w4 from ⟨hr2▸H4.out.mono (fun j hj=>.inl hj),HR4.out,HO4.out,HV4.out,K4.out⟩)
   have o1:=blk_cell (k:=1) HO4.out rfl
   clear hr2 H4 HR4 HO4 HV4 K4
   go_wp2_with fail
   clear o1 hcm
   go_loopg [13,59] ms.length (fun g _ i wr=>∃ j:Nat,g=ms.length-j∧j≤ms.length∧i=.int .i64 j∧SnI w Z B { t with s:=setS t.s 1 s5 } r2 A c oo ms m1 (sendsC t.cs 0 (ms.take j)) wr)
   case atStart=>exact ⟨0,rfl,Nat.zero_le _,rfl,HI.out⟩
   case round=>
    obtain ⟨j,hg,hj,rfl,hJ⟩:=hrel
    clear HI
    have hln:=Hln.out
    by_cases hlt:j<ms.length
    ·obtain ⟨bb,oq,rfl,hc⟩:=hJ.vals.at' (by omega)
     have y0:wr.cell? ⟨bb,oq+j,none⟩=some (.string (textM ms[j])):=hc j _ (by simp[strsM,textM,hlt])
     have c6:=hJ.bt.c6
     have hlo:=sendsC_lost 0 (ms.take j) t.cs
     have hle:(ms.take j).length≤100:=by rw[List.length_take];omega
     have hSd:=hid (cable_Send hJ.bt.cable (show 0≤(sendsC t.cs 0 (ms.take j)).lost∧(sendsC t.cs 0 (ms.take j)).lost≤1000000 by have:=Hlo.out;omega) 0 (textM ms[j]) (by have:=Hsz.out ms[j] (List.getElem_mem hlt);unfold textM maxLen;simp[ByteArray.size];omega))
     have hlb:=World.block_lt_of_cell? _ _ y0
     have hlB:=blk_lt hJ.bt.blk
     have e9:sendC (sendsC t.cs 0 (ms.take j)) 64 0 (textM ms[j])=sendsC t.cs 0 (ms.take (j+1)):=by rw[List.take_succ_eq_append_getElem hlt,sendsC_snoc]
     rw[e9] at hSd
     have HJ:=hid hJ
     clear hJ hc hlo hle e9
     go_wp2_with fail
     refine hSd.out.mono ?_
     rintro e w9 ⟨rfl,hc9,k9⟩
     have hJ9:=HJ.out.turn HP.out hc9 k9
     clear HJ hSd hc9 k9
     go_wp2_with fail
     go_roundg (ms.length-(j+1))
     case rel=>exact ⟨j+1,rfl,by omega,by go_num,hJ9⟩
     case measure=>omega
    ·obtain rfl:j=ms.length:=by omega
     rw[List.take_length] at hJ
     obtain ⟨o0,o1,o2⟩:=bc3 0 1 2 hJ.ou ⟨rfl,rfl,rfl⟩
     have HJ:=hid hJ
     clear hJ
     go_wp2_with fail
     refine (bo_keep0 _ _ _ _).mono ?_
     rintro e wK ⟨rfl,kK⟩
     have hrs:=kK.heap HJ.out.rs id
     have hou:=kK.heap HJ.out.ou id
     have hbt:=HJ.out.bt.keep kK
     have hkp:=HJ.out.kp.trans (keeps_any kK)
     clear o0 o1 o2
     obtain ⟨o0,o1,o2⟩:=bc3 0 1 2 hou ⟨rfl,rfl,rfl⟩
     obtain ⟨g0,g1,g2⟩:=bf3 hrs 0 1 2
     obtain ⟨z0,z1,z2⟩:=bc3 0 1 2 hrs ⟨rfl,rfl,rfl⟩
     have hB2:=blk_three hrs (.slice none 0 0) (.slice A ms.length c) (.bool m1)
     have k3:=keeps_three wK w.heap.size (.slice none 0 0) (.slice A ms.length c) (.bool m1)
     have hbf:=(hbt.keeps k3 (fun j hj e=>by
      rcases hj with hj|hj
      ·exact HZ.out j hj e
      ·omega)).mono (Z':=fun j=>Z j∨w.heap.size≤j) (fun j hj=>by
      rcases hj with hj|hj
      ·exact .inl hj
      ·exact .inr (by omega))
     have hkf:=keeps_past hkp k3 (fun k hk e=>by omega)
     have Hbf:=hid hbf
     have Hkf:=hid hkf
     have HB2:=hid hB2
     clear HJ hbt hkp k3 hbf hkf hB2 hrs hou kK
     go_wp2_with fail
     have hload:=box_load _ _ _ _ HB2.out 3 rfl
     refine bodyPost_ret (v:=.tuple #[.agg #[.slice none 0 0,.slice A ms.length c,.bool m1],.int .i64 0]) (by simp[results,Tryz.results37,asAddr,loadVar,loadCells,Tryz.isAgg35,Tryz.sizeOf35,hload]) rfl ?_
     exact ⟨⟨A,ms.length,c,m1,0,rfl⟩,⟨r2,Hbf.out,Hr2.out⟩,Hkf.out⟩
end
section
open Go.RowKit
open Go.Maps
set_option maxRecDepth 100000
variable {w w':World}
theorem pe_Tick_arg (b:PeB) (v:Int) (hv:63<v):Calls Tryz.prog 60 #[.pointer (some ⟨b.p,0,none⟩),.int .u8 v] w fun e w'=>e=.returned (.tuple #[.agg #[.slice none 0 0,.slice none 0 0,.bool false],.int .i64 1])∧Keeps (fun _=>False) w w':=by
 have k0:=(Keeps.refl (fun _=>False) w).alloc (.cells #[.slice none 0 0,.slice none 0 0,.bool false] 35)
 have hB1:=blk_new w (.cells #[.slice none 0 0,.slice none 0 0,.bool false] 35)
 have HB:=hid hB1
 clear hB1
 go_enter Tryz.func60,Tryz.ntmps60
 go_wp2_with fail
 have hload:=box_load _ _ _ _ HB.out 3 rfl
 refine bodyPost_ret (v:=.tuple #[.agg #[.slice none 0 0,.slice none 0 0,.bool false],.int .i64 1]) (by simp[results,Tryz.results60,asAddr,loadVar,loadCells,Tryz.isAgg35,Tryz.sizeOf35,hload]) rfl ?_
 exact ⟨rfl,k0⟩
set_option maxHeartbeats 1000000 in
theorem bo_tick_arg {Z:Nat→Prop} {B:BB} {t:BS} {r:Rw} (h:BtR w Z B t r) (hZl:∀ j,Z j→j<w.heap.size) (k:Nat) (hk2:k<2) (v:Int) (hv:63<v) :
  Calls Tryz.prog 37 #[.pointer (some ⟨B.b,0,none⟩),.int .i64 k,.int .u8 v] w (BoPost w Z B t r):=by
 have k0:=(Keeps.refl (fun _=>False) w).alloc (.cells #[.slice none 0 0,.slice none 0 0,.bool false] 35)
 have h0:=h.keep k0
 have K0:=hid (keeps_any (S:=Z) k0)
 have HR0:=hid (blk_new w (.cells #[.slice none 0 0,.slice none 0 0,.bool false] 35))
 have hcp:=h0.cp hk2
 have hCo:=hid (pe_Core (h0.peer hk2))
 have hOu:=hid (co_Ours (h0.peer hk2).core)
 have HZ:=hid (show ∀ j,Z j→j≠w.heap.size from fun j hj=>by have:=hZl j hj;omega)
 have H0:=hid h0
 have Hv:=hid hv
 clear h h0 k0 hZl hv
 have hk3:k=0∨k=1:=by omega
 rcases hk3 with rfl|rfl
 ·have cp:(w.alloc (.cells #[.slice none 0 0,.slice none 0 0,.bool false] 35)).cell? ⟨B.b,0,none⟩=some (.pointer (some ⟨(B.p 0).p,0,none⟩)):=hcp
  clear hcp
  go_enter Tryz.func37,Tryz.ntmps37
  go_wp2_with fail
  generalize w.alloc (.cells #[.slice none 0 0,.slice none 0 0,.bool false] 35)=w0 at *
  refine hCo.out.mono ?_
  rintro e _ ⟨rfl,rfl⟩
  go_wp2_with fail
  refine hOu.out.mono ?_
  rintro e _ ⟨rfl,q,rfl⟩
  have h1:=H0.out.keep ((Keeps.refl _ w0).drewN q)
  have hrs1:(w0.drewN q).heap[w.heap.size]?=some (.cells #[.slice none 0 0,.slice none 0 0,.bool false] 35 (0,0)):=HR0.out
  have k1:=K0.out.drewN q
  have c0:(w0.drewN q).cell? ⟨B.b,0,none⟩=some (.pointer (some ⟨(B.p 0).p,0,none⟩)):=h1.cp (k:=0) (by omega)
  have hTk:=hid (pe_Tick_arg (w:=w0.drewN q) (B.p 0) v Hv.out)
  have H1:=hid h1
  have HR1:=hid hrs1
  have K1:=hid k1
  clear H0 HR0 K0 hCo hOu h1 hrs1 k1 cp
  generalize w0.drewN q=w1 at *
  go_wp2_with fail
  refine hTk.out.mono ?_
  rintro e w2 ⟨rfl,k2⟩
  have kq:=(Keeps.refl (fun _=>False) w2).alloc (.cells #[.slice none 0 0,.slice none 0 0,.bool false] 35)
  have h3:=(H1.out.keep k2).keep kq
  have hrs:=kq.heap (k2.heap HR1.out id) id
  have kk:=K1.out.trans (keeps_any (k2.trans kq))
  clear hTk H1 HR1 K1 k2 kq c0
  go_upto_region 5 with fail
  generalize w2.alloc (.cells #[.slice none 0 0,.slice none 0 0,.bool false] 35)=w3 at *
  obtain ⟨g0,g1,g2⟩:=bf3 hrs 0 1 2
  obtain ⟨z0,z1,z2⟩:=bc3 0 1 2 hrs ⟨rfl,rfl,rfl⟩
  have hB2:=blk_three hrs (.slice none 0 0) (.slice none 0 0) (.bool false)
  have k3:=keeps_three w3 w.heap.size (.slice none 0 0) (.slice none 0 0) (.bool false)
  have hbf:=(h3.keeps k3 (fun j hj e=>HZ.out j hj e)).mono (Z':=fun j=>Z j∨w.heap.size≤j) (fun j hj=>.inl hj)
  have hkf:=keeps_past kk k3 (fun k hk e=>by omega)
  have Hbf:=hid hbf
  have Hkf:=hid hkf
  have HB2:=hid hB2
  clear h3 hrs kk k3 hbf hkf hB2
  go_wp2_with fail
  have hload:=box_load _ _ _ _ HB2.out 3 rfl
  refine bodyPost_ret (v:=.tuple #[.agg #[.slice none 0 0,.slice none 0 0,.bool false],.int .i64 1]) (by simp[results,Tryz.results37,asAddr,loadVar,loadCells,Tryz.isAgg35,Tryz.sizeOf35,hload]) rfl ?_
  exact ⟨⟨none,0,0,false,1,rfl⟩,⟨r,Hbf.out,fun _=>Nat.le_succ _⟩,Hkf.out⟩
 ·have cp:(w.alloc (.cells #[.slice none 0 0,.slice none 0 0,.bool false] 35)).cell? ⟨B.b,3,none⟩=some (.pointer (some ⟨(B.p 1).p,0,none⟩)):=hcp
  clear hcp
  go_enter Tryz.func37,Tryz.ntmps37
  go_wp2_with fail
  generalize w.alloc (.cells #[.slice none 0 0,.slice none 0 0,.bool false] 35)=w0 at *
  refine hCo.out.mono ?_
  rintro e _ ⟨rfl,rfl⟩
  go_wp2_with fail
  refine hOu.out.mono ?_
  rintro e _ ⟨rfl,q,rfl⟩
  have h1:=H0.out.keep ((Keeps.refl _ w0).drewN q)
  have hrs1:(w0.drewN q).heap[w.heap.size]?=some (.cells #[.slice none 0 0,.slice none 0 0,.bool false] 35 (0,0)):=HR0.out
  have k1:=K0.out.drewN q
  have c0:(w0.drewN q).cell? ⟨B.b,3,none⟩=some (.pointer (some ⟨(B.p 1).p,0,none⟩)):=h1.cp (k:=1) (by omega)
  have hTk:=hid (pe_Tick_arg (w:=w0.drewN q) (B.p 1) v Hv.out)
  have H1:=hid h1
  have HR1:=hid hrs1
  have K1:=hid k1
  clear H0 HR0 K0 hCo hOu h1 hrs1 k1 cp
  generalize w0.drewN q=w1 at *
  go_wp2_with fail
  refine hTk.out.mono ?_
  rintro e w2 ⟨rfl,k2⟩
  have kq:=(Keeps.refl (fun _=>False) w2).alloc (.cells #[.slice none 0 0,.slice none 0 0,.bool false] 35)
  have h3:=(H1.out.keep k2).keep kq
  have hrs:=kq.heap (k2.heap HR1.out id) id
  have kk:=K1.out.trans (keeps_any (k2.trans kq))
  clear hTk H1 HR1 K1 k2 kq c0
  go_upto_region 5 with fail
  generalize w2.alloc (.cells #[.slice none 0 0,.slice none 0 0,.bool false] 35)=w3 at *
  obtain ⟨g0,g1,g2⟩:=bf3 hrs 0 1 2
  obtain ⟨z0,z1,z2⟩:=bc3 0 1 2 hrs ⟨rfl,rfl,rfl⟩
  have hB2:=blk_three hrs (.slice none 0 0) (.slice none 0 0) (.bool false)
  have k3:=keeps_three w3 w.heap.size (.slice none 0 0) (.slice none 0 0) (.bool false)
  have hbf:=(h3.keeps k3 (fun j hj e=>HZ.out j hj e)).mono (Z':=fun j=>Z j∨w.heap.size≤j) (fun j hj=>.inl hj)
  have hkf:=keeps_past kk k3 (fun k hk e=>by omega)
  have Hbf:=hid hbf
  have Hkf:=hid hkf
  have HB2:=hid hB2
  clear h3 hrs kk k3 hbf hkf hB2
  go_wp2_with fail
  have hload:=box_load _ _ _ _ HB2.out 3 rfl
  refine bodyPost_ret (v:=.tuple #[.agg #[.slice none 0 0,.slice none 0 0,.bool false],.int .i64 1]) (by simp[results,Tryz.results37,asAddr,loadVar,loadCells,Tryz.isAgg35,Tryz.sizeOf35,hload]) rfl ?_
  exact ⟨⟨none,0,0,false,1,rfl⟩,⟨r,Hbf.out,fun _=>Nat.le_succ _⟩,Hkf.out⟩
def OutPost (w:World) (Z:Nat→Prop) (B:BB) (t:BS) (r:Rw) (x:ByteArray) (ok:Bool) (cs:CS) (e:Ending) (w':World):Prop:=
 e=.returned (.tuple #[.string x,.bool ok])∧BtR w' Z B { t with cs:=cs } r∧Keeps Z w w'
set_option maxHeartbeats 1000000 in
theorem bo_out_take {Z:Nat→Prop} {B:BB} {t:BS} {r:Rw} (h:BtR w Z B t r) (who i at' by' in':Int) :
  Calls Tryz.prog 64 #[.pointer (some ⟨B.b,0,none⟩),.agg #[.int .i64 2,.int .i64 who,.int .i64 i,.int .i64 at',.int .u8 by',.int .u8 in']] w (OutPost w Z B t r ((copyC t.cs who i).getD ByteArray.empty) (copyC t.cs who i).isSome (takeC t.cs who i)):=by
 have HT:=hid (fun (W:World) (hW:IsCable W B.c 64 t.cs)=>cable_Take hW who i)
 have k0:=(Keeps.refl (fun _=>False) w).alloc (.cells #[.int .i64 2,.int .i64 who,.int .i64 i,.int .i64 at',.int .u8 by',.int .u8 in'] 40)
 have h0:=h.keep k0
 have hX:=blk_new w (.cells #[.int .i64 2,.int .i64 who,.int .i64 i,.int .i64 at',.int .u8 by',.int .u8 in'] 40)
 have Hcz:=hid (fun j (hj:ofCable B.c j)=>h.inZ 3 rfl hj)
 have Hcl:=hid (fun j (hj:ofCable B.c j)=>h.lt 3 (x:=Res.cable B.c t.cs) rfl hj)
 have Hcb:=hid (fun j (hj:ofCable B.c j)=>h.sep.apart' (i:=3) (j:=0) (r:=Res.cable B.c t.cs) (s:=Res.blk B.b (btC B r.V r.mv,82)) rfl rfl (by omega) j hj)
 clear h
 go_enter Tryz.func64,Tryz.ntmps64
 go_wp2_with fail
 generalize World.alloc w _=w0 at *
 obtain ⟨G,hG⟩:∃ G:World→Prop,∀ W,G W↔(W.heap[w.heap.size]?=some (.cells #[.int .i64 2,.int .i64 who,.int .i64 i,.int .i64 at',.int .u8 by',.int .u8 in'] 40 (0,0))∧W.heap[B.b]?=some (.cells (btC B r.V r.mv) 82 (0,0))):=⟨_,fun _=>Iff.rfl⟩
 have q0:∀ x:HeldC G,x.to.cell? ⟨B.b,6,none⟩=some (.pointer (some ⟨B.c,0,none⟩)):=fun x=>blk_cell (k:=6) ((hG _).1 x.held).2 rfl
 have q1:∀ x:HeldC G,x.to.cell? ⟨w.heap.size,1,none⟩=some (.int .i64 who):=fun x=>blk_cell (k:=1) ((hG _).1 x.held).1 rfl
 have q2:∀ x:HeldC G,x.to.cell? ⟨w.heap.size,2,none⟩=some (.int .i64 i):=fun x=>blk_cell (k:=2) ((hG _).1 x.held).1 rfl
 have q3:∀ x:HeldC G,x.to.cell? ⟨w.heap.size,3,none⟩=some (.int .i64 at'):=fun x=>blk_cell (k:=3) ((hG _).1 x.held).1 rfl
 have q4:∀ x:HeldC G,x.to.cell? ⟨w.heap.size,4,none⟩=some (.int .u8 by'):=fun x=>blk_cell (k:=4) ((hG _).1 x.held).1 rfl
 have hw0:G w0.drew:=(hG _).2 ⟨hX,h0.blk⟩
 have hGk:=hid (fun (W W':World) (hW:G W) (hk:Keeps (ofCable B.c) W W')=>(hG W').2 ⟨hk.heap ((hG W).1 hW).1 (fun e=>by have:=Hcl.out _ e;omega),hk.heap ((hG W).1 hW).2 (fun e=>Hcb.out _ e rfl)⟩)
 have kd:=k0.drew
 have hd:=h0.keep (Keeps.refl (fun _=>False) w0).drew
 have Hd:=hid hd
 clear hG hX h0 k0 hd
 refine stages_start (by kernel_rfl) 13 rfl ?_
 refine ht_start (G) [0,1,2,3,4,5,6,7,8,9,10,11,12] 0 13 rfl #[true,true,true,true,true,true,true,true,true,true,true,true,true] ?_
 have hne:Nonempty (HeldC (G)):=⟨⟨_,hw0⟩⟩
 refine ht_heads (m:=5) (hw0) [0,1,2,3,4,5,6,7] 8 rfl #[true,true,true,true,true,true,true,true,false,false,false,false,false] (by kernel_rfl) (by kernel_rfl) (fun _ _ _ d _ h=>by first|(cases d<;>exact h)|cases h.1) ?_
 simp only[opsAt,List.map_cons,List.map_nil,List.getElem?_toArray,List.getElem?_cons_zero,List.getElem?_cons_succ,Option.getD_some]
 repeat (go_big_quiet_step (fail))
 refine wpQuiet_nil ?_
 clear hne
 generalize w0.drew=w1 at *
 refine ht_one (m:=4) 8 #[true,true,true,true,true,true,true,true,true,false,false,false,false] (by kernel_rfl) (by kernel_rfl) (by kernel_rfl) (by kernel_rfl) (by simp only[opAt,List.getElem?_toArray,List.getElem?_cons_zero,List.getElem?_cons_succ,Option.getD_some];first|rfl|simp[go_sem]) (fun K hK=>?_)
 simp only[opAt,List.getElem?_toArray,List.getElem?_cons_zero,List.getElem?_cons_succ,Option.getD_some]
 go_simp
 refine (HT.out _ Hd.out.cable).mono ?_
 rintro e w2 ⟨rfl,hc,k1⟩
 have hw2:=hGk.out _ _ hw0 k1
 refine hK _ _ (hw2) ?_
 clear hK K
 have hne:Nonempty (HeldC (G)):=⟨⟨_,hw2⟩⟩
 refine ht_heads (m:=0) (hw2) [9,10,11,12] 4 rfl #[true,true,true,true,true,true,true,true,true,true,true,true,true] (by kernel_rfl) (by kernel_rfl) (fun _ _ _ d _ h=>by first|(cases d<;>exact h)|cases h.1) ?_
 simp only[opsAt,List.map_cons,List.map_nil,List.getElem?_toArray,List.getElem?_cons_zero,List.getElem?_cons_succ,Option.getD_some]
 repeat (go_big_quiet_step (fail))
 refine wpQuiet_nil ?_
 clear hne
 refine ht_nil (by kernel_rfl) ?_
 refine stages_end (by kernel_rfl) ?_
 clear hw0 hw2 HT
 have hfin:=Hd.out.setCable hc k1 (fun _ e=>e)
 have hkk:=(keeps_any (S:=Z) kd).trans (k1.mono fun j _ e=>Hcz.out j e)
 have Hf:=hid hfin
 have Hk:=hid hkk
 clear hfin hkk hc k1 kd Hd q0 q1 q2 q3 q4 hGk
 go_wp2
 go_ret2
 exact ⟨rfl,Hf.out,Hk.out⟩
set_option maxHeartbeats 1000000 in
theorem bo_out_drop {Z:Nat→Prop} {B:BB} {t:BS} {r:Rw} (h:BtR w Z B t r) (who i at' by' in':Int) (hl:0≤t.cs.lost∧t.cs.lost≤1000000) :
  Calls Tryz.prog 64 #[.pointer (some ⟨B.b,0,none⟩),.agg #[.int .i64 4,.int .i64 who,.int .i64 i,.int .i64 at',.int .u8 by',.int .u8 in']] w (OutPost w Z B t r ByteArray.empty (copyC t.cs who i).isSome (dropC t.cs who i)):=by
 have HT:=hid (fun (W:World) (hW:IsCable W B.c 64 t.cs)=>cable_Drop hW hl who i)
 have k0:=(Keeps.refl (fun _=>False) w).alloc (.cells #[.int .i64 4,.int .i64 who,.int .i64 i,.int .i64 at',.int .u8 by',.int .u8 in'] 40)
 have h0:=h.keep k0
 have hX:=blk_new w (.cells #[.int .i64 4,.int .i64 who,.int .i64 i,.int .i64 at',.int .u8 by',.int .u8 in'] 40)
 have Hcz:=hid (fun j (hj:ofCable B.c j)=>h.inZ 3 rfl hj)
 have Hcl:=hid (fun j (hj:ofCable B.c j)=>h.lt 3 (x:=Res.cable B.c t.cs) rfl hj)
 have Hcb:=hid (fun j (hj:ofCable B.c j)=>h.sep.apart' (i:=3) (j:=0) (r:=Res.cable B.c t.cs) (s:=Res.blk B.b (btC B r.V r.mv,82)) rfl rfl (by omega) j hj)
 clear h
 go_enter Tryz.func64,Tryz.ntmps64
 go_wp2_with fail
 generalize World.alloc w _=w0 at *
 obtain ⟨G,hG⟩:∃ G:World→Prop,∀ W,G W↔(W.heap[w.heap.size]?=some (.cells #[.int .i64 4,.int .i64 who,.int .i64 i,.int .i64 at',.int .u8 by',.int .u8 in'] 40 (0,0))∧W.heap[B.b]?=some (.cells (btC B r.V r.mv) 82 (0,0))):=⟨_,fun _=>Iff.rfl⟩
 have q0:∀ x:HeldC G,x.to.cell? ⟨B.b,6,none⟩=some (.pointer (some ⟨B.c,0,none⟩)):=fun x=>blk_cell (k:=6) ((hG _).1 x.held).2 rfl
 have q1:∀ x:HeldC G,x.to.cell? ⟨w.heap.size,1,none⟩=some (.int .i64 who):=fun x=>blk_cell (k:=1) ((hG _).1 x.held).1 rfl
 have q2:∀ x:HeldC G,x.to.cell? ⟨w.heap.size,2,none⟩=some (.int .i64 i):=fun x=>blk_cell (k:=2) ((hG _).1 x.held).1 rfl
 have q3:∀ x:HeldC G,x.to.cell? ⟨w.heap.size,3,none⟩=some (.int .i64 at'):=fun x=>blk_cell (k:=3) ((hG _).1 x.held).1 rfl
 have q4:∀ x:HeldC G,x.to.cell? ⟨w.heap.size,4,none⟩=some (.int .u8 by'):=fun x=>blk_cell (k:=4) ((hG _).1 x.held).1 rfl
 have hw0:G w0.drew:=(hG _).2 ⟨hX,h0.blk⟩
 have hGk:=hid (fun (W W':World) (hW:G W) (hk:Keeps (ofCable B.c) W W')=>(hG W').2 ⟨hk.heap ((hG W).1 hW).1 (fun e=>by have:=Hcl.out _ e;omega),hk.heap ((hG W).1 hW).2 (fun e=>Hcb.out _ e rfl)⟩)
 have kd:=k0.drew
 have hd:=h0.keep (Keeps.refl (fun _=>False) w0).drew
 have Hd:=hid hd
 clear hG hX h0 k0 hd
 refine stages_start (by kernel_rfl) 11 rfl ?_
 refine ht_start (G) [0,1,2,3,4,5,6,7,8,9,10] 0 11 rfl #[true,true,true,true,true,true,true,true,true,true,true] ?_
 have hne:Nonempty (HeldC (G)):=⟨⟨_,hw0⟩⟩
 refine ht_heads (m:=3) (hw0) [0,1,2,3,4,5,6,7] 8 rfl #[true,true,true,true,true,true,true,true,false,false,false] (by kernel_rfl) (by kernel_rfl) (fun _ _ _ d _ h=>by first|(cases d<;>exact h)|cases h.1) ?_
 simp only[opsAt,List.map_cons,List.map_nil,List.getElem?_toArray,List.getElem?_cons_zero,List.getElem?_cons_succ,Option.getD_some]
 repeat (go_big_quiet_step (fail))
 refine wpQuiet_nil ?_
 clear hne
 generalize w0.drew=w1 at *
 refine ht_one (m:=2) 8 #[true,true,true,true,true,true,true,true,true,false,false] (by kernel_rfl) (by kernel_rfl) (by kernel_rfl) (by kernel_rfl) (by simp only[opAt,List.getElem?_toArray,List.getElem?_cons_zero,List.getElem?_cons_succ,Option.getD_some];first|rfl|simp[go_sem]) (fun K hK=>?_)
 simp only[opAt,List.getElem?_toArray,List.getElem?_cons_zero,List.getElem?_cons_succ,Option.getD_some]
 go_simp
 refine (HT.out _ Hd.out.cable).mono ?_
 rintro e w2 ⟨rfl,hc,k1⟩
 have hw2:=hGk.out _ _ hw0 k1
 refine hK _ _ (hw2) ?_
 clear hK K
 have hne:Nonempty (HeldC (G)):=⟨⟨_,hw2⟩⟩
 refine ht_heads (m:=0) (hw2) [9,10] 2 rfl #[true,true,true,true,true,true,true,true,true,true,true] (by kernel_rfl) (by kernel_rfl) (fun _ _ _ d _ h=>by first|(cases d<;>exact h)|cases h.1) ?_
 simp only[opsAt,List.map_cons,List.map_nil,List.getElem?_toArray,List.getElem?_cons_zero,List.getElem?_cons_succ,Option.getD_some]
 repeat (go_big_quiet_step (fail))
 refine wpQuiet_nil ?_
 clear hne
 refine ht_nil (by kernel_rfl) ?_
 refine stages_end (by kernel_rfl) ?_
 clear hw0 hw2 HT
 have hfin:=Hd.out.setCable hc k1 (fun _ e=>e)
 have hkk:=(keeps_any (S:=Z) kd).trans (k1.mono fun j _ e=>Hcz.out j e)
 have Hf:=hid hfin
 have Hk:=hid hkk
 clear hfin hkk hc k1 kd Hd q0 q1 q2 q3 q4 hGk
 go_wp2
 go_ret2
 exact ⟨rfl,Hf.out,Hk.out⟩
set_option maxHeartbeats 1000000 in
theorem bo_out_spoil {Z:Nat→Prop} {B:BB} {t:BS} {r:Rw} (h:BtR w Z B t r) (who i at' by' in':Int) (x:ByteArray) (ok:Bool) (cs:CS) (hS:∀ W,IsCable W B.c 64 t.cs→Calls Tryz.prog 100 #[.pointer (some ⟨B.c,0,none⟩),.int .i64 who,.int .i64 i,.int .i64 at',.int .u8 by'] W fun e w'=>e=.returned (.tuple #[.string x,.bool ok])∧IsCable w' B.c 64 cs∧Keeps (ofCable B.c) W w') :
  Calls Tryz.prog 64 #[.pointer (some ⟨B.b,0,none⟩),.agg #[.int .i64 5,.int .i64 who,.int .i64 i,.int .i64 at',.int .u8 by',.int .u8 in']] w (OutPost w Z B t r x ok cs):=by
 have HT:=hid hS
 clear hS
 have k0:=(Keeps.refl (fun _=>False) w).alloc (.cells #[.int .i64 5,.int .i64 who,.int .i64 i,.int .i64 at',.int .u8 by',.int .u8 in'] 40)
 have h0:=h.keep k0
 have hX:=blk_new w (.cells #[.int .i64 5,.int .i64 who,.int .i64 i,.int .i64 at',.int .u8 by',.int .u8 in'] 40)
 have Hcz:=hid (fun j (hj:ofCable B.c j)=>h.inZ 3 rfl hj)
 have Hcl:=hid (fun j (hj:ofCable B.c j)=>h.lt 3 (x:=Res.cable B.c t.cs) rfl hj)
 have Hcb:=hid (fun j (hj:ofCable B.c j)=>h.sep.apart' (i:=3) (j:=0) (r:=Res.cable B.c t.cs) (s:=Res.blk B.b (btC B r.V r.mv,82)) rfl rfl (by omega) j hj)
 clear h
 go_enter Tryz.func64,Tryz.ntmps64
 go_wp2_with fail
 generalize World.alloc w _=w0 at *
 obtain ⟨G,hG⟩:∃ G:World→Prop,∀ W,G W↔(W.heap[w.heap.size]?=some (.cells #[.int .i64 5,.int .i64 who,.int .i64 i,.int .i64 at',.int .u8 by',.int .u8 in'] 40 (0,0))∧W.heap[B.b]?=some (.cells (btC B r.V r.mv) 82 (0,0))):=⟨_,fun _=>Iff.rfl⟩
 have q0:∀ x:HeldC G,x.to.cell? ⟨B.b,6,none⟩=some (.pointer (some ⟨B.c,0,none⟩)):=fun x=>blk_cell (k:=6) ((hG _).1 x.held).2 rfl
 have q1:∀ x:HeldC G,x.to.cell? ⟨w.heap.size,1,none⟩=some (.int .i64 who):=fun x=>blk_cell (k:=1) ((hG _).1 x.held).1 rfl
 have q2:∀ x:HeldC G,x.to.cell? ⟨w.heap.size,2,none⟩=some (.int .i64 i):=fun x=>blk_cell (k:=2) ((hG _).1 x.held).1 rfl
 have q3:∀ x:HeldC G,x.to.cell? ⟨w.heap.size,3,none⟩=some (.int .i64 at'):=fun x=>blk_cell (k:=3) ((hG _).1 x.held).1 rfl
 have q4:∀ x:HeldC G,x.to.cell? ⟨w.heap.size,4,none⟩=some (.int .u8 by'):=fun x=>blk_cell (k:=4) ((hG _).1 x.held).1 rfl
 have hw0:G w0.drew:=(hG _).2 ⟨hX,h0.blk⟩
 have hGk:=hid (fun (W W':World) (hW:G W) (hk:Keeps (ofCable B.c) W W')=>(hG W').2 ⟨hk.heap ((hG W).1 hW).1 (fun e=>by have:=Hcl.out _ e;omega),hk.heap ((hG W).1 hW).2 (fun e=>Hcb.out _ e rfl)⟩)
 have kd:=k0.drew
 have hd:=h0.keep (Keeps.refl (fun _=>False) w0).drew
 have Hd:=hid hd
 clear hG hX h0 k0 hd
 refine stages_start (by kernel_rfl) 17 rfl ?_
 refine ht_start (G) [0,1,2,3,4,5,6,7,8,9,10,11,12,13,14,15,16] 0 17 rfl #[true,true,true,true,true,true,true,true,true,true,true,true,true,true,true,true,true] ?_
 have hne:Nonempty (HeldC (G)):=⟨⟨_,hw0⟩⟩
 refine ht_heads (m:=5) (hw0) [0,1,2,3,4,5,6,7,8,9,10,11] 12 rfl #[true,true,true,true,true,true,true,true,true,true,true,true,false,false,false,false,false] (by kernel_rfl) (by kernel_rfl) (fun _ _ _ d _ h=>by first|(cases d<;>exact h)|cases h.1) ?_
 simp only[opsAt,List.map_cons,List.map_nil,List.getElem?_toArray,List.getElem?_cons_zero,List.getElem?_cons_succ,Option.getD_some]
 repeat (go_big_quiet_step (fail))
 refine wpQuiet_nil ?_
 clear hne
 generalize w0.drew=w1 at *
 refine ht_one (m:=4) 12 #[true,true,true,true,true,true,true,true,true,true,true,true,true,false,false,false,false] (by kernel_rfl) (by kernel_rfl) (by kernel_rfl) (by kernel_rfl) (by simp only[opAt,List.getElem?_toArray,List.getElem?_cons_zero,List.getElem?_cons_succ,Option.getD_some];first|rfl|simp[go_sem]) (fun K hK=>?_)
 simp only[opAt,List.getElem?_toArray,List.getElem?_cons_zero,List.getElem?_cons_succ,Option.getD_some]
 go_simp
 refine (HT.out _ Hd.out.cable).mono ?_
 rintro e w2 ⟨rfl,hc,k1⟩
 have hw2:=hGk.out _ _ hw0 k1
 refine hK _ _ (hw2) ?_
 clear hK K
 have hne:Nonempty (HeldC (G)):=⟨⟨_,hw2⟩⟩
 refine ht_heads (m:=0) (hw2) [13,14,15,16] 4 rfl #[true,true,true,true,true,true,true,true,true,true,true,true,true,true,true,true,true] (by kernel_rfl) (by kernel_rfl) (fun _ _ _ d _ h=>by first|(cases d<;>exact h)|cases h.1) ?_
 simp only[opsAt,List.map_cons,List.map_nil,List.getElem?_toArray,List.getElem?_cons_zero,List.getElem?_cons_succ,Option.getD_some]
 repeat (go_big_quiet_step (fail))
 refine wpQuiet_nil ?_
 clear hne
 refine ht_nil (by kernel_rfl) ?_
 refine stages_end (by kernel_rfl) ?_
 clear hw0 hw2 HT
 have hfin:=Hd.out.setCable hc k1 (fun _ e=>e)
 have hkk:=(keeps_any (S:=Z) kd).trans (k1.mono fun j _ e=>Hcz.out j e)
 have Hf:=hid hfin
 have Hk:=hid hkk
 clear hfin hkk hc k1 kd Hd q0 q1 q2 q3 q4 hGk
 go_wp2
 go_ret2
 exact ⟨rfl,Hf.out,Hk.out⟩
end
section
open Go.RowKit
open Go.Maps
set_option maxRecDepth 100000
variable {w w':World}
theorem bo_hear_no {Z:Nat→Prop} {B:BB} {t:BS} {r:Rw} (h:BtR w Z B t r) (hZl:∀ j,Z j→j<w.heap.size) (kd who i at' by' in':Int) (x:ByteArray) (cs:CS) (hO:∀ W,BtR W Z B t r→Calls Tryz.prog 64 #[.pointer (some ⟨B.b,0,none⟩),.agg #[.int .i64 kd,.int .i64 who,.int .i64 i,.int .i64 at',.int .u8 by',.int .u8 in']] W (OutPost W Z B t r x false cs)) :
  Calls Tryz.prog 40 #[.pointer (some ⟨B.b,0,none⟩),.agg #[.int .i64 kd,.int .i64 who,.int .i64 i,.int .i64 at',.int .u8 by',.int .u8 in']] w (BoPost w Z B { t with cs:=cs } r):=by
 have k0:=((Keeps.refl (fun _=>False) w).alloc (.cells #[.int .i64 kd,.int .i64 who,.int .i64 i,.int .i64 at',.int .u8 by',.int .u8 in'] 40)).alloc (.cells #[.slice none 0 0,.slice none 0 0,.bool false] 35)
 have hz:(w.alloc (.cells #[.int .i64 kd,.int .i64 who,.int .i64 i,.int .i64 at',.int .u8 by',.int .u8 in'] 40)).heap.size=w.heap.size+1:=by simp
 have h0:=h.keep k0
 have hX:=blk_alloc (blk_new w (.cells #[.int .i64 kd,.int .i64 who,.int .i64 i,.int .i64 at',.int .u8 by',.int .u8 in'] 40)) (.cells #[.slice none 0 0,.slice none 0 0,.bool false] 35)
 have hR:=blk_new (w.alloc (.cells #[.int .i64 kd,.int .i64 who,.int .i64 i,.int .i64 at',.int .u8 by',.int .u8 in'] 40)) (.cells #[.slice none 0 0,.slice none 0 0,.bool false] 35)
 rw[hz] at hR
 obtain ⟨x0,x1,x2,x3,x4,x5⟩:=bc6 0 1 2 3 4 5 hX ⟨rfl,rfl,rfl,rfl,rfl,rfl⟩
 have HZ:=hid (show ∀ j,Z j→j≠w.heap.size∧j≠w.heap.size+1 from fun j hj=>by have:=hZl j hj;omega)
 have hO2:=hid (hO _ h0)
 have K0:=hid (keeps_any (S:=Z) k0)
 have HX:=hid hX
 have HR:=hid hR
 clear h hZl hO h0 k0 hz hX hR
 go_enter Tryz.func40,Tryz.ntmps40
 go_wp2_with fail
 generalize World.alloc (World.alloc w _) _=w0 at *
 refine hO2.out.mono ?_
 rintro e w1 ⟨rfl,h1,k1⟩
 have hX1:=k1.heap HX.out (fun e=>(HZ.out _ e).1 rfl)
 have hR1:=k1.heap HR.out (fun e=>(HZ.out _ e).2 rfl)
 have kk1:=K0.out.trans k1
 clear HX HR K0 k1 hO2 x0 x1 x2 x3 x4 x5
 obtain ⟨x0,x1⟩:=bc2 0 1 hX1 ⟨rfl,rfl⟩
 obtain ⟨g0,g1,g2⟩:=bf3 (hR1) 0 1 2
 obtain ⟨z0,z1,z2⟩:=bc3 0 1 2 (hR1) ⟨rfl,rfl,rfl⟩
 have H1:=hid h1
 have KK1:=hid kk1
 have HR1:=hid hR1
 clear h1 kk1 hR1 hX1
 have hB2:=blk_three HR1.out (.slice none 0 0) (.slice none 0 0) (.bool false)
 have k3:=keeps_three w1 (w.heap.size+1) (.slice none 0 0) (.slice none 0 0) (.bool false)
 have hbf:=((H1.out).keeps k3 (fun j hj e=>(HZ.out j hj).2 e)).mono (Z':=fun j=>Z j∨w.heap.size≤j) (fun j hj=>.inl hj)
 have hkf:=keeps_past KK1.out k3 (fun k hk e=>by omega)
 have Hbf:=hid hbf
 have Hkf:=hid hkf
 have HB2:=hid hB2
 clear hB2 k3 hbf hkf
 go_wp2_with fail
 have hload:=box_load _ _ _ _ HB2.out 3 rfl
 refine bodyPost_ret (v:=.tuple #[.agg #[.slice none 0 0,.slice none 0 0,.bool false],.int .i64 6]) (by simp[results,Tryz.results40,asAddr,loadVar,loadCells,Tryz.isAgg35,Tryz.sizeOf35,hload]) rfl ?_
 exact ⟨⟨none,0,0,false,6,rfl⟩,⟨r,Hbf.out,fun _=>Nat.le_succ _⟩,Hkf.out⟩
theorem bo_hear_drop {Z:Nat→Prop} {B:BB} {t:BS} {r:Rw} (h:BtR w Z B t r) (hZl:∀ j,Z j→j<w.heap.size) (kd who i at' by' in':Int) (x:ByteArray) (cs:CS) (hkd:kd=4) (hO:∀ W,BtR W Z B t r→Calls Tryz.prog 64 #[.pointer (some ⟨B.b,0,none⟩),.agg #[.int .i64 kd,.int .i64 who,.int .i64 i,.int .i64 at',.int .u8 by',.int .u8 in']] W (OutPost W Z B t r x true cs)) :
  Calls Tryz.prog 40 #[.pointer (some ⟨B.b,0,none⟩),.agg #[.int .i64 kd,.int .i64 who,.int .i64 i,.int .i64 at',.int .u8 by',.int .u8 in']] w (BoPost w Z B { t with cs:=cs } r):=by
 have hk4:(kd == 4)=true:=by rw[hkd];rfl
 clear hkd
 have k0:=((Keeps.refl (fun _=>False) w).alloc (.cells #[.int .i64 kd,.int .i64 who,.int .i64 i,.int .i64 at',.int .u8 by',.int .u8 in'] 40)).alloc (.cells #[.slice none 0 0,.slice none 0 0,.bool false] 35)
 have hz:(w.alloc (.cells #[.int .i64 kd,.int .i64 who,.int .i64 i,.int .i64 at',.int .u8 by',.int .u8 in'] 40)).heap.size=w.heap.size+1:=by simp
 have h0:=h.keep k0
 have hX:=blk_alloc (blk_new w (.cells #[.int .i64 kd,.int .i64 who,.int .i64 i,.int .i64 at',.int .u8 by',.int .u8 in'] 40)) (.cells #[.slice none 0 0,.slice none 0 0,.bool false] 35)
 have hR:=blk_new (w.alloc (.cells #[.int .i64 kd,.int .i64 who,.int .i64 i,.int .i64 at',.int .u8 by',.int .u8 in'] 40)) (.cells #[.slice none 0 0,.slice none 0 0,.bool false] 35)
 rw[hz] at hR
 obtain ⟨x0,x1,x2,x3,x4,x5⟩:=bc6 0 1 2 3 4 5 hX ⟨rfl,rfl,rfl,rfl,rfl,rfl⟩
 have HZ:=hid (show ∀ j,Z j→j≠w.heap.size∧j≠w.heap.size+1 from fun j hj=>by have:=hZl j hj;omega)
 have hO2:=hid (hO _ h0)
 have K0:=hid (keeps_any (S:=Z) k0)
 have HX:=hid hX
 have HR:=hid hR
 clear h hZl hO h0 k0 hz hX hR
 go_enter Tryz.func40,Tryz.ntmps40
 go_wp2_with fail
 generalize World.alloc (World.alloc w _) _=w0 at *
 refine hO2.out.mono ?_
 rintro e w1 ⟨rfl,h1,k1⟩
 have hX1:=k1.heap HX.out (fun e=>(HZ.out _ e).1 rfl)
 have hR1:=k1.heap HR.out (fun e=>(HZ.out _ e).2 rfl)
 have kk1:=K0.out.trans k1
 clear HX HR K0 k1 hO2 x0 x1 x2 x3 x4 x5
 obtain ⟨x0,x1⟩:=bc2 0 1 hX1 ⟨rfl,rfl⟩
 obtain ⟨g0,g1,g2⟩:=bf3 (hR1) 0 1 2
 obtain ⟨z0,z1,z2⟩:=bc3 0 1 2 (hR1) ⟨rfl,rfl,rfl⟩
 have H1:=hid h1
 have KK1:=hid kk1
 have HR1:=hid hR1
 clear h1 kk1 hR1 hX1
 have hB2:=blk_three HR1.out (.slice none 0 0) (.slice none 0 0) (.bool false)
 have k3:=keeps_three w1 (w.heap.size+1) (.slice none 0 0) (.slice none 0 0) (.bool false)
 have hbf:=((H1.out).keeps k3 (fun j hj e=>(HZ.out j hj).2 e)).mono (Z':=fun j=>Z j∨w.heap.size≤j) (fun j hj=>.inl hj)
 have hkf:=keeps_past KK1.out k3 (fun k hk e=>by omega)
 have Hbf:=hid hbf
 have Hkf:=hid hkf
 have HB2:=hid hB2
 clear hB2 k3 hbf hkf
 go_wp2_with fail
 have hload:=box_load _ _ _ _ HB2.out 3 rfl
 refine bodyPost_ret (v:=.tuple #[.agg #[.slice none 0 0,.slice none 0 0,.bool false],.int .i64 0]) (by simp[results,Tryz.results40,asAddr,loadVar,loadCells,Tryz.isAgg35,Tryz.sizeOf35,hload]) rfl ?_
 exact ⟨⟨none,0,0,false,0,rfl⟩,⟨r,Hbf.out,fun _=>Nat.le_succ _⟩,Hkf.out⟩
set_option maxHeartbeats 1000000 in
theorem bo_hear_txt {Z:Nat→Prop} {B:BB} {t:BS} {r:Rw} (h:BtR w Z B t r) (hZl:∀ j,Z j→j<w.heap.size) (kd:Int) (k:Nat) (hk2:k<2) (i at' by' in':Int) (x:ByteArray) (cs:CS) (hkd:kd≠4) (s5:Pe) (er:Int)
  (hO:∀ W,BtR W Z B t r→Calls Tryz.prog 64 #[.pointer (some ⟨B.b,0,none⟩),.agg #[.int .i64 kd,.int .i64 k,.int .i64 i,.int .i64 at',.int .u8 by',.int .u8 in']] W (OutPost W Z B t r x true cs))
  (hH:∀ W,IsPeer W (B.p k) (t.s k)→Calls Tryz.prog 65 #[.pointer (some ⟨(B.p k).p,0,none⟩),.string x] W (PHear W (B.p k) s5 er)) :
  Calls Tryz.prog 40 #[.pointer (some ⟨B.b,0,none⟩),.agg #[.int .i64 kd,.int .i64 k,.int .i64 i,.int .i64 at',.int .u8 by',.int .u8 in']] w (BoPost w Z B ⟨setS t.s k s5,cs⟩ r):=by
 have hk4:(kd == 4)=false:=by simpa using hkd
 have HH:=hid hH
 have Hpl:=hid (show ∀ j,(B.p k).S (t.s k) j→j<w.heap.size from fun j hj=>(h.peer hk2).lt hj)
 have Hpz:=hid (show ∀ j,(B.p k).S (t.s k) j→Z j from fun j hj=>by
  have:k=0∨k=1:=by omega
  rcases this with rfl|rfl
  ·exact h.inZ 1 (x:=Res.peer (B.p 0) (t.s 0)) rfl hj
  ·exact h.inZ 2 (x:=Res.peer (B.p 1) (t.s 1)) rfl hj)
 clear hkd hH
 have hk3:k=0∨k=1:=by omega
 rcases hk3 with rfl|rfl
 ·have k0:=((Keeps.refl (fun _=>False) w).alloc (.cells #[.int .i64 kd,.int .i64 0,.int .i64 i,.int .i64 at',.int .u8 by',.int .u8 in'] 40)).alloc (.cells #[.slice none 0 0,.slice none 0 0,.bool false] 35)
  have hz:(w.alloc (.cells #[.int .i64 kd,.int .i64 0,.int .i64 i,.int .i64 at',.int .u8 by',.int .u8 in'] 40)).heap.size=w.heap.size+1:=by simp
  have h0:=h.keep k0
  have hX:=blk_alloc (blk_new w (.cells #[.int .i64 kd,.int .i64 0,.int .i64 i,.int .i64 at',.int .u8 by',.int .u8 in'] 40)) (.cells #[.slice none 0 0,.slice none 0 0,.bool false] 35)
  have hR:=blk_new (w.alloc (.cells #[.int .i64 kd,.int .i64 0,.int .i64 i,.int .i64 at',.int .u8 by',.int .u8 in'] 40)) (.cells #[.slice none 0 0,.slice none 0 0,.bool false] 35)
  rw[hz] at hR
  obtain ⟨x0,x1,x2,x3,x4,x5⟩:=bc6 0 1 2 3 4 5 hX ⟨rfl,rfl,rfl,rfl,rfl,rfl⟩
  have HZ:=hid (show ∀ j,Z j→j≠w.heap.size∧j≠w.heap.size+1 from fun j hj=>by have:=hZl j hj;omega)
  have hO2:=hid (hO _ h0)
  have K0:=hid (keeps_any (S:=Z) k0)
  have HX:=hid hX
  have HR:=hid hR
  clear h hZl hO h0 k0 hz hX hR
  go_enter Tryz.func40,Tryz.ntmps40
  go_wp2_with fail
  generalize World.alloc (World.alloc w _) _=w0 at *
  refine hO2.out.mono ?_
  rintro e w1 ⟨rfl,h1,k1⟩
  have hX1:=k1.heap HX.out (fun e=>(HZ.out _ e).1 rfl)
  have hR1:=k1.heap HR.out (fun e=>(HZ.out _ e).2 rfl)
  have kk1:=K0.out.trans k1
  clear HX HR K0 k1 hO2 x0 x1 x2 x3 x4 x5
  obtain ⟨x0,x1⟩:=bc2 0 1 hX1 ⟨rfl,rfl⟩
  have cp:w1.cell? ⟨B.b,0,none⟩=some (.pointer (some ⟨(B.p 0).p,0,none⟩)):=h1.cp (k:=0) (by omega)
  have hlb:=blk_lt h1.blk
  have hlx:=blk_lt hX1
  have H1:=hid h1
  have HR1:=hid hR1
  have KK1:=hid kk1
  clear h1 hX1 hR1 kk1
  go_wp2_with fail
  go_quiet (fail)
  have h2:=H1.out.keep ((Keeps.refl _ w1).drewN nq)
  have HR2:=hid (show (w1.drewN nq).heap[w.heap.size+1]?=some (.cells #[.slice none 0 0,.slice none 0 0,.bool false] 35 (0,0)) from HR1.out)
  have KK2:=hid (KK1.out.drewN nq)
  have hHe:=hid (HH.out _ (h2.peer (k:=0) (by omega)))
  have H2:=hid h2
  have cp2:(w1.drewN nq).cell? ⟨B.b,0,none⟩=some (.pointer (some ⟨(B.p 0).p,0,none⟩)):=h2.cp (k:=0) (by omega)
  clear h2 H1 HR1 KK1 cp hlb hlx x0 x1
  generalize w1.drewN nq=w2 at *
  go_wp2_with fail
  refine hHe.out.mono ?_
  rintro e w3 ⟨rfl,hp3,k3⟩
  have hsl:∀ j,(B.p 0).S s5 j→j<w.heap.size:=fun j hj=>Hpl.out j (by rw[peS_same (B.p 0) _ s5];exact hj)
  have hsz:∀ j,(B.p 0).S s5 j→Z j:=fun j hj=>Hpz.out j (by rw[peS_same (B.p 0) _ s5];exact hj)
  have h3:=H2.out.setPeer (k:=0) (by omega) hp3 k3 (fun _ e=>e)
  have hR3:=k3.heap HR2.out (fun e=>by have:=hsl _ e;omega)
  have kk3:=KK2.out.trans (k3.mono fun j _ e=>hsz j e)
  have kq:=(Keeps.refl (fun _=>False) w3).alloc (.cells #[.slice none 0 0,.slice none 0 0,.bool false] 35)
  have h4:=h3.keep kq
  have hR4:=kq.heap hR3 id
  have hou:=blk_new w3 (.cells #[.slice none 0 0,.slice none 0 0,.bool false] 35)
  have kk4:=kk3.trans (keeps_any kq)
  clear hHe H2 HR2 KK2 hp3 k3 hsl hsz h3 hR3 kk3 kq cp2
  go_upto_region 8 with fail
  generalize hw4:w3.alloc (.cells #[.slice none 0 0,.slice none 0 0,.bool false] 35)=w4 at *
  generalize w3.heap.size=oo at *
  clear hw4
  by_cases her:er=0
  ·subst her
   obtain ⟨o0,o1,o2⟩:=bc3 0 1 2 hou ⟨rfl,rfl,rfl⟩
   have H4:=hid h4
   have HR4:=hid hR4
   have KK4:=hid kk4
   have HO:=hid hou
   clear h4 hR4 kk4 hou
   go_wp2_with fail
   refine (bo_keep0 _ _ _ _).mono ?_
   rintro e w5 ⟨rfl,k5⟩
   have H5:=hid (H4.out.keep k5)
   have HR5:=hid (k5.heap HR4.out id)
   have KK5:=hid (KK4.out.trans (keeps_any k5))
   have HO5:=hid (k5.heap HO.out id)
   clear H4 HR4 KK4 HO k5 o0 o1 o2
   obtain ⟨o0,o1,o2⟩:=bc3 0 1 2 HO5.out ⟨rfl,rfl,rfl⟩
   obtain ⟨g0,g1,g2⟩:=bf3 (HR5.out) 0 1 2
   obtain ⟨z0,z1,z2⟩:=bc3 0 1 2 (HR5.out) ⟨rfl,rfl,rfl⟩
   have hB2:=blk_three HR5.out (.slice none 0 0) (.slice none 0 0) (.bool false)
   have k3:=keeps_three w5 (w.heap.size+1) (.slice none 0 0) (.slice none 0 0) (.bool false)
   have hbf:=((H5.out).keeps k3 (fun j hj e=>(HZ.out j hj).2 e)).mono (Z':=fun j=>Z j∨w.heap.size≤j) (fun j hj=>.inl hj)
   have hkf:=keeps_past KK5.out k3 (fun k hk e=>by omega)
   have Hbf:=hid hbf
   have Hkf:=hid hkf
   have HB2:=hid hB2
   clear hB2 k3 hbf hkf
   go_wp2_with fail
   have hload:=box_load _ _ _ _ HB2.out 3 rfl
   refine bodyPost_ret (v:=.tuple #[.agg #[.slice none 0 0,.slice none 0 0,.bool false],.int .i64 0]) (by simp[results,Tryz.results40,asAddr,loadVar,loadCells,Tryz.isAgg35,Tryz.sizeOf35,hload]) rfl ?_
   exact ⟨⟨none,0,0,false,0,rfl⟩,⟨r,Hbf.out,fun _=>Nat.le_succ _⟩,Hkf.out⟩
  ·have hne:(er != 0)=true:=by simpa using her
   obtain ⟨g0,g1,g2⟩:=bf3 (hR4) 0 1 2
   obtain ⟨z0,z1,z2⟩:=bc3 0 1 2 (hR4) ⟨rfl,rfl,rfl⟩
   have H4:=hid h4
   have HR4:=hid hR4
   have KK4:=hid kk4
   clear h4 hR4 kk4 hou her
   have hB2:=blk_three HR4.out (.slice none 0 0) (.slice none 0 0) (.bool false)
   have k3:=keeps_three w4 (w.heap.size+1) (.slice none 0 0) (.slice none 0 0) (.bool false)
   have hbf:=((H4.out).keeps k3 (fun j hj e=>(HZ.out j hj).2 e)).mono (Z':=fun j=>Z j∨w.heap.size≤j) (fun j hj=>.inl hj)
   have hkf:=keeps_past KK4.out k3 (fun k hk e=>by omega)
   have Hbf:=hid hbf
   have Hkf:=hid hkf
   have HB2:=hid hB2
   clear hB2 k3 hbf hkf
   go_wp2_with fail
   have hload:=box_load _ _ _ _ HB2.out 3 rfl
   refine bodyPost_ret (v:=.tuple #[.agg #[.slice none 0 0,.slice none 0 0,.bool false],.int .i64 er]) (by simp[results,Tryz.results40,asAddr,loadVar,loadCells,Tryz.isAgg35,Tryz.sizeOf35,hload]) rfl ?_
   exact ⟨⟨none,0,0,false,er,rfl⟩,⟨r,Hbf.out,fun _=>Nat.le_succ _⟩,Hkf.out⟩
 ·have k0:=((Keeps.refl (fun _=>False) w).alloc (.cells #[.int .i64 kd,.int .i64 1,.int .i64 i,.int .i64 at',.int .u8 by',.int .u8 in'] 40)).alloc (.cells #[.slice none 0 0,.slice none 0 0,.bool false] 35)
  have hz:(w.alloc (.cells #[.int .i64 kd,.int .i64 1,.int .i64 i,.int .i64 at',.int .u8 by',.int .u8 in'] 40)).heap.size=w.heap.size+1:=by simp
  have h0:=h.keep k0
  have hX:=blk_alloc (blk_new w (.cells #[.int .i64 kd,.int .i64 1,.int .i64 i,.int .i64 at',.int .u8 by',.int .u8 in'] 40)) (.cells #[.slice none 0 0,.slice none 0 0,.bool false] 35)
  have hR:=blk_new (w.alloc (.cells #[.int .i64 kd,.int .i64 1,.int .i64 i,.int .i64 at',.int .u8 by',.int .u8 in'] 40)) (.cells #[.slice none 0 0,.slice none 0 0,.bool false] 35)
  rw[hz] at hR
  obtain ⟨x0,x1,x2,x3,x4,x5⟩:=bc6 0 1 2 3 4 5 hX ⟨rfl,rfl,rfl,rfl,rfl,rfl⟩
  have HZ:=hid (show ∀ j,Z j→j≠w.heap.size∧j≠w.heap.size+1 from fun j hj=>by have:=hZl j hj;omega)
  have hO2:=hid (hO _ h0)
  have K0:=hid (keeps_any (S:=Z) k0)
  have HX:=hid hX
  have HR:=hid hR
  clear h hZl hO h0 k0 hz hX hR
  go_enter Tryz.func40,Tryz.ntmps40
  go_wp2_with fail
  generalize World.alloc (World.alloc w _) _=w0 at *
  refine hO2.out.mono ?_
  rintro e w1 ⟨rfl,h1,k1⟩
  have hX1:=k1.heap HX.out (fun e=>(HZ.out _ e).1 rfl)
  have hR1:=k1.heap HR.out (fun e=>(HZ.out _ e).2 rfl)
  have kk1:=K0.out.trans k1
  clear HX HR K0 k1 hO2 x0 x1 x2 x3 x4 x5
  obtain ⟨x0,x1⟩:=bc2 0 1 hX1 ⟨rfl,rfl⟩
  have cp:w1.cell? ⟨B.b,3,none⟩=some (.pointer (some ⟨(B.p 1).p,0,none⟩)):=h1.cp (k:=1) (by omega)
  have hlb:=blk_lt h1.blk
  have hlx:=blk_lt hX1
  have H1:=hid h1
  have HR1:=hid hR1
  have KK1:=hid kk1
  clear h1 hX1 hR1 kk1
  go_wp2_with fail
  go_quiet (fail)
  have h2:=H1.out.keep ((Keeps.refl _ w1).drewN nq)
  have HR2:=hid (show (w1.drewN nq).heap[w.heap.size+1]?=some (.cells #[.slice none 0 0,.slice none 0 0,.bool false] 35 (0,0)) from HR1.out)
  have KK2:=hid (KK1.out.drewN nq)
  have hHe:=hid (HH.out _ (h2.peer (k:=1) (by omega)))
  have H2:=hid h2
  have cp2:(w1.drewN nq).cell? ⟨B.b,3,none⟩=some (.pointer (some ⟨(B.p 1).p,0,none⟩)):=h2.cp (k:=1) (by omega)
  clear h2 H1 HR1 KK1 cp hlb hlx x0 x1
  generalize w1.drewN nq=w2 at *
  go_wp2_with fail
  refine hHe.out.mono ?_
  rintro e w3 ⟨rfl,hp3,k3⟩
  have hsl:∀ j,(B.p 1).S s5 j→j<w.heap.size:=fun j hj=>Hpl.out j (by rw[peS_same (B.p 1) _ s5];exact hj)
  have hsz:∀ j,(B.p 1).S s5 j→Z j:=fun j hj=>Hpz.out j (by rw[peS_same (B.p 1) _ s5];exact hj)
  have h3:=H2.out.setPeer (k:=1) (by omega) hp3 k3 (fun _ e=>e)
  have hR3:=k3.heap HR2.out (fun e=>by have:=hsl _ e;omega)
  have kk3:=KK2.out.trans (k3.mono fun j _ e=>hsz j e)
  have kq:=(Keeps.refl (fun _=>False) w3).alloc (.cells #[.slice none 0 0,.slice none 0 0,.bool false] 35)
  have h4:=h3.keep kq
  have hR4:=kq.heap hR3 id
  have hou:=blk_new w3 (.cells #[.slice none 0 0,.slice none 0 0,.bool false] 35)
  have kk4:=kk3.trans (keeps_any kq)
  clear hHe H2 HR2 KK2 hp3 k3 hsl hsz h3 hR3 kk3 kq cp2
  go_upto_region 8 with fail
  generalize hw4:w3.alloc (.cells #[.slice none 0 0,.slice none 0 0,.bool false] 35)=w4 at *
  generalize w3.heap.size=oo at *
  clear hw4
  by_cases her:er=0
  ·subst her
   obtain ⟨o0,o1,o2⟩:=bc3 0 1 2 hou ⟨rfl,rfl,rfl⟩
   have H4:=hid h4
   have HR4:=hid hR4
   have KK4:=hid kk4
   have HO:=hid hou
   clear h4 hR4 kk4 hou
   go_wp2_with fail
   refine (bo_keep0 _ _ _ _).mono ?_
   rintro e w5 ⟨rfl,k5⟩
   have H5:=hid (H4.out.keep k5)
   have HR5:=hid (k5.heap HR4.out id)
   have KK5:=hid (KK4.out.trans (keeps_any k5))
   have HO5:=hid (k5.heap HO.out id)
   clear H4 HR4 KK4 HO k5 o0 o1 o2
   obtain ⟨o0,o1,o2⟩:=bc3 0 1 2 HO5.out ⟨rfl,rfl,rfl⟩
   obtain ⟨g0,g1,g2⟩:=bf3 (HR5.out) 0 1 2
   obtain ⟨z0,z1,z2⟩:=bc3 0 1 2 (HR5.out) ⟨rfl,rfl,rfl⟩
   have hB2:=blk_three HR5.out (.slice none 0 0) (.slice none 0 0) (.bool false)
   have k3:=keeps_three w5 (w.heap.size+1) (.slice none 0 0) (.slice none 0 0) (.bool false)
   have hbf:=((H5.out).keeps k3 (fun j hj e=>(HZ.out j hj).2 e)).mono (Z':=fun j=>Z j∨w.heap.size≤j) (fun j hj=>.inl hj)
   have hkf:=keeps_past KK5.out k3 (fun k hk e=>by omega)
   have Hbf:=hid hbf
   have Hkf:=hid hkf
   have HB2:=hid hB2
   clear hB2 k3 hbf hkf
   go_wp2_with fail
   have hload:=box_load _ _ _ _ HB2.out 3 rfl
   refine bodyPost_ret (v:=.tuple #[.agg #[.slice none 0 0,.slice none 0 0,.bool false],.int .i64 0]) (by simp[results,Tryz.results40,asAddr,loadVar,loadCells,Tryz.isAgg35,Tryz.sizeOf35,hload]) rfl ?_
   exact ⟨⟨none,0,0,false,0,rfl⟩,⟨r,Hbf.out,fun _=>Nat.le_succ _⟩,Hkf.out⟩
  ·have hne:(er != 0)=true:=by simpa using her
   obtain ⟨g0,g1,g2⟩:=bf3 (hR4) 0 1 2
   obtain ⟨z0,z1,z2⟩:=bc3 0 1 2 (hR4) ⟨rfl,rfl,rfl⟩
   have H4:=hid h4
   have HR4:=hid hR4
   have KK4:=hid kk4
   clear h4 hR4 kk4 hou her
   have hB2:=blk_three HR4.out (.slice none 0 0) (.slice none 0 0) (.bool false)
   have k3:=keeps_three w4 (w.heap.size+1) (.slice none 0 0) (.slice none 0 0) (.bool false)
   have hbf:=((H4.out).keeps k3 (fun j hj e=>(HZ.out j hj).2 e)).mono (Z':=fun j=>Z j∨w.heap.size≤j) (fun j hj=>.inl hj)
   have hkf:=keeps_past KK4.out k3 (fun k hk e=>by omega)
   have Hbf:=hid hbf
   have Hkf:=hid hkf
   have HB2:=hid hB2
   clear hB2 k3 hbf hkf
   go_wp2_with fail
   have hload:=box_load _ _ _ _ HB2.out 3 rfl
   refine bodyPost_ret (v:=.tuple #[.agg #[.slice none 0 0,.slice none 0 0,.bool false],.int .i64 er]) (by simp[results,Tryz.results40,asAddr,loadVar,loadCells,Tryz.isAgg35,Tryz.sizeOf35,hload]) rfl ?_
   exact ⟨⟨none,0,0,false,er,rfl⟩,⟨r,Hbf.out,fun _=>Nat.le_succ _⟩,Hkf.out⟩
end
section
open Go.RowKit
open Go.Maps
set_option maxRecDepth 100000
variable {w w':World}
set_option maxHeartbeats 1000000 in
theorem bo_Do_arg {Z:Nat→Prop} {B:BB} {t:BS} {r:Rw} (h:BtR w Z B t r) (hZl:∀ j,Z j→j<w.heap.size) (kd who i at' by' in':Int) (hno:¬ (0≤who∧who<2)∨kd<1∨6<kd) :
  Calls Tryz.prog 10 #[.pointer (some ⟨B.b,0,none⟩),.agg #[.int .i64 kd,.int .i64 who,.int .i64 i,.int .i64 at',.int .u8 by',.int .u8 in']] w (BoPost w Z B t r):=by
 have Hno:=hid hno
 clear hno
 have k0:=((Keeps.refl (fun _=>False) w).alloc (.cells #[.int .i64 kd,.int .i64 who,.int .i64 i,.int .i64 at',.int .u8 by',.int .u8 in'] 40)).alloc (.cells #[.slice none 0 0,.slice none 0 0,.bool false] 35)
 have hz:(w.alloc (.cells #[.int .i64 kd,.int .i64 who,.int .i64 i,.int .i64 at',.int .u8 by',.int .u8 in'] 40)).heap.size=w.heap.size+1:=by simp
 have hz2:((w.alloc (.cells #[.int .i64 kd,.int .i64 who,.int .i64 i,.int .i64 at',.int .u8 by',.int .u8 in'] 40)).alloc (.cells #[.slice none 0 0,.slice none 0 0,.bool false] 35)).heap.size=w.heap.size+2:=by simp
 have h0:=h.keep k0
 have hX:=blk_alloc (blk_new w (.cells #[.int .i64 kd,.int .i64 who,.int .i64 i,.int .i64 at',.int .u8 by',.int .u8 in'] 40)) (.cells #[.slice none 0 0,.slice none 0 0,.bool false] 35)
 have hR:=blk_new (w.alloc (.cells #[.int .i64 kd,.int .i64 who,.int .i64 i,.int .i64 at',.int .u8 by',.int .u8 in'] 40)) (.cells #[.slice none 0 0,.slice none 0 0,.bool false] 35)
 rw[hz] at hR
 have HZ:=hid (show ∀ j,Z j→j<w.heap.size from hZl)
 have c7:=h0.c7
 have f7:=h0.free 7
 have kz:=(Keeps.refl (fun j=>j=B.b) ((w.alloc (.cells #[.int .i64 kd,.int .i64 who,.int .i64 i,.int .i64 at',.int .u8 by',.int .u8 in'] 40)).alloc (.cells #[.slice none 0 0,.slice none 0 0,.bool false] 35))).setCell (p:=⟨B.b,7,none⟩) rfl (.int .i64 (wrap64 (r.mv+1)))
 have h1:=h0.setMv (wrap64 (r.mv+1))
 have hBz:Z B.b:=h.inZ 0 rfl rfl
 have hX1:=kz.heap hX (fun e=>by have:=HZ.out _ hBz;omega)
 have hR1:=kz.heap hR (fun e=>by have:=HZ.out _ hBz;omega)
 have kk1:=(keeps_any (S:=Z) k0).trans (kz.mono fun j _ e=>e▸hBz)
 have hs1:=kz.size
 rw[hz2] at hs1
 have hlb:=blk_lt h0.blk
 have H1:=hid h1
 have HX1:=hid hX1
 have HR1:=hid hR1
 have KK1:=hid kk1
 have Hs1:=hid hs1
 clear h hZl k0 hz hz2 h0 hX hR kz h1 hBz hX1 hR1 kk1 hs1
 go_enter Tryz.func10,Tryz.ntmps10
 go_upto_region 4 with fail
 clear c7 f7 hlb
 generalize World.setCell (World.alloc (World.alloc w _) _) _ _=w1 at *
 obtain ⟨x0,x1,x2,x3,x4,x5⟩:=bc6 0 1 2 3 4 5 HX1.out ⟨rfl,rfl,rfl,rfl,rfl,rfl⟩
 by_cases hw:0≤who∧who<2
 ·obtain ⟨k,hk⟩:=Int.eq_ofNat_of_zero_le hw.1
  have hk2:k<2:=by omega
  subst hk
  have HS:=hid (bo_side B.b k hk2 w1)
  have hR3:=HR1.out
  have h3:=H1.out.mono (Z':=fun j=>Z j∨w.heap.size+2≤j) (fun j hj=>.inl hj)
  have kk3:=KK1.out
  have Hn3:=hid (show ∀ j,({ r with mv:=wrap64 (r.mv+1) }:Rw).n j≤r.n j+1 from fun j=>Nat.le_succ _)
  clear hw
  by_cases h6:kd<1
  ·have g0:=blk_free (hR3) 0
   obtain ⟨g1,g2⟩:=bf2 (hR3) 1 2
   obtain ⟨z0,z1,z2⟩:=bc3 0 1 2 (hR3) ⟨rfl,rfl,rfl⟩
   go_wp2_with fail
   refine HS.out.mono ?_
   rintro e _ ⟨rfl,rfl⟩
   have hB2:=blk_three hR3 (.slice none 0 0) (.slice none 0 0) (.bool false)
   have k3:=keeps_three w1 (w.heap.size+1) (.slice none 0 0) (.slice none 0 0) (.bool false)
   have hbf:=(h3.keeps k3 (fun j hj e=>by
    rcases hj with hj|hj
    ·have:=HZ.out j hj
     omega
    ·have:=Hs1.out
     omega)).mono (Z':=fun j=>Z j∨w.heap.size≤j) (fun j hj=>by
    rcases hj with hj|hj
    ·exact .inl hj
    ·have:=Hs1.out
     exact .inr (by omega))
   have hkf:=keeps_past kk3 k3 (fun k hk e=>by omega)
   have Hbf:=hid hbf
   have Hkf:=hid hkf
   have HB2:=hid hB2
   clear hB2 k3 hbf hkf hR3 h3 kk3
   go_wp2_with fail
   have hload:=box_load _ _ _ _ HB2.out 3 rfl
   refine bodyPost_ret (v:=.tuple #[.agg #[.slice none 0 0,.slice none 0 0,.bool false],.int .i64 1]) (by simp[results,Tryz.results10,asAddr,loadVar,loadCells,Tryz.isAgg35,Tryz.sizeOf35,hload]) rfl ?_
   exact ⟨⟨none,0,0,false,1,rfl⟩,⟨{ r with mv:=wrap64 (r.mv+1) },Hbf.out,Hn3.out⟩,Hkf.out⟩
  ·have h7:6<kd:=by have:=Hno.out;omega
   obtain ⟨g0,g1,g2⟩:=bf3 (hR3) 0 1 2
   obtain ⟨z0,z1,z2⟩:=bc3 0 1 2 (hR3) ⟨rfl,rfl,rfl⟩
   go_wp2_with fail
   refine HS.out.mono ?_
   rintro e _ ⟨rfl,rfl⟩
   have hB2:=blk_three hR3 (.slice none 0 0) (.slice none 0 0) (.bool false)
   have k3:=keeps_three w1 (w.heap.size+1) (.slice none 0 0) (.slice none 0 0) (.bool false)
   have hbf:=(h3.keeps k3 (fun j hj e=>by
    rcases hj with hj|hj
    ·have:=HZ.out j hj
     omega
    ·have:=Hs1.out
     omega)).mono (Z':=fun j=>Z j∨w.heap.size≤j) (fun j hj=>by
    rcases hj with hj|hj
    ·exact .inl hj
    ·have:=Hs1.out
     exact .inr (by omega))
   have hkf:=keeps_past kk3 k3 (fun k hk e=>by omega)
   have Hbf:=hid hbf
   have Hkf:=hid hkf
   have HB2:=hid hB2
   clear hB2 k3 hbf hkf hR3 h3 kk3
   go_wp2_with fail
   have hload:=box_load _ _ _ _ HB2.out 3 rfl
   refine bodyPost_ret (v:=.tuple #[.agg #[.slice none 0 0,.slice none 0 0,.bool false],.int .i64 1]) (by simp[results,Tryz.results10,asAddr,loadVar,loadCells,Tryz.isAgg35,Tryz.sizeOf35,hload]) rfl ?_
   exact ⟨⟨none,0,0,false,1,rfl⟩,⟨{ r with mv:=wrap64 (r.mv+1) },Hbf.out,Hn3.out⟩,Hkf.out⟩
 ·have HS:=hid (bo_side_no B.b who hw w1)
  clear hw Hno
  have hR3:=HR1.out
  have h3:=H1.out.mono (Z':=fun j=>Z j∨w.heap.size+2≤j) (fun j hj=>.inl hj)
  have kk3:=KK1.out
  have Hn3:=hid (show ∀ j,({ r with mv:=wrap64 (r.mv+1) }:Rw).n j≤r.n j+1 from fun j=>Nat.le_succ _)
  obtain ⟨g0,g1,g2⟩:=bf3 (hR3) 0 1 2
  obtain ⟨z0,z1,z2⟩:=bc3 0 1 2 (hR3) ⟨rfl,rfl,rfl⟩
  go_wp2_with fail
  refine HS.out.mono ?_
  rintro e _ ⟨rfl,rfl⟩
  have hB2:=blk_three hR3 (.slice none 0 0) (.slice none 0 0) (.bool false)
  have k3:=keeps_three w1 (w.heap.size+1) (.slice none 0 0) (.slice none 0 0) (.bool false)
  have hbf:=(h3.keeps k3 (fun j hj e=>by
   rcases hj with hj|hj
   ·have:=HZ.out j hj
    omega
   ·have:=Hs1.out
    omega)).mono (Z':=fun j=>Z j∨w.heap.size≤j) (fun j hj=>by
   rcases hj with hj|hj
   ·exact .inl hj
   ·have:=Hs1.out
    exact .inr (by omega))
  have hkf:=keeps_past kk3 k3 (fun k hk e=>by omega)
  have Hbf:=hid hbf
  have Hkf:=hid hkf
  have HB2:=hid hB2
  clear hB2 k3 hbf hkf hR3 h3 kk3
  go_wp2_with fail
  have hload:=box_load _ _ _ _ HB2.out 3 rfl
  refine bodyPost_ret (v:=.tuple #[.agg #[.slice none 0 0,.slice none 0 0,.bool false],.int .i64 1]) (by simp[results,Tryz.results10,asAddr,loadVar,loadCells,Tryz.isAgg35,Tryz.sizeOf35,hload]) rfl ?_
  exact ⟨⟨none,0,0,false,1,rfl⟩,⟨{ r with mv:=wrap64 (r.mv+1) },Hbf.out,Hn3.out⟩,Hkf.out⟩
set_option maxHeartbeats 1000000 in
theorem bo_Do_tick {Z:Nat→Prop} {B:BB} {t:BS} {r:Rw} (h:BtR w Z B t r) (hZl:∀ j,Z j→j<w.heap.size) (k:Nat) (hk2:k<2) (i at' by' v:Int) (t':BS)
  (hC:∀ W r',BtR W Z B t r'→(∀ j,r'.n j=r.n j)→w.heap.size≤W.heap.size→Calls Tryz.prog 37 #[.pointer (some ⟨B.b,0,none⟩),.int .i64 k,.int .u8 v] W (BoPost W Z B t' r')) :
  Calls Tryz.prog 10 #[.pointer (some ⟨B.b,0,none⟩),.agg #[.int .i64 1,.int .i64 k,.int .i64 i,.int .i64 at',.int .u8 by',.int .u8 v]] w (BoPost w Z B t' r):=by
 have HC:=hid hC
 clear hC
 have k0:=((Keeps.refl (fun _=>False) w).alloc (.cells #[.int .i64 1,.int .i64 k,.int .i64 i,.int .i64 at',.int .u8 by',.int .u8 v] 40)).alloc (.cells #[.slice none 0 0,.slice none 0 0,.bool false] 35)
 have hz:(w.alloc (.cells #[.int .i64 1,.int .i64 k,.int .i64 i,.int .i64 at',.int .u8 by',.int .u8 v] 40)).heap.size=w.heap.size+1:=by simp
 have hz2:((w.alloc (.cells #[.int .i64 1,.int .i64 k,.int .i64 i,.int .i64 at',.int .u8 by',.int .u8 v] 40)).alloc (.cells #[.slice none 0 0,.slice none 0 0,.bool false] 35)).heap.size=w.heap.size+2:=by simp
 have h0:=h.keep k0
 have hX:=blk_alloc (blk_new w (.cells #[.int .i64 1,.int .i64 k,.int .i64 i,.int .i64 at',.int .u8 by',.int .u8 v] 40)) (.cells #[.slice none 0 0,.slice none 0 0,.bool false] 35)
 have hR:=blk_new (w.alloc (.cells #[.int .i64 1,.int .i64 k,.int .i64 i,.int .i64 at',.int .u8 by',.int .u8 v] 40)) (.cells #[.slice none 0 0,.slice none 0 0,.bool false] 35)
 rw[hz] at hR
 have HZ:=hid (show ∀ j,Z j→j<w.heap.size from hZl)
 have c7:=h0.c7
 have f7:=h0.free 7
 have kz:=(Keeps.refl (fun j=>j=B.b) ((w.alloc (.cells #[.int .i64 1,.int .i64 k,.int .i64 i,.int .i64 at',.int .u8 by',.int .u8 v] 40)).alloc (.cells #[.slice none 0 0,.slice none 0 0,.bool false] 35))).setCell (p:=⟨B.b,7,none⟩) rfl (.int .i64 (wrap64 (r.mv+1)))
 have h1:=h0.setMv (wrap64 (r.mv+1))
 have hBz:Z B.b:=h.inZ 0 rfl rfl
 have hX1:=kz.heap hX (fun e=>by have:=HZ.out _ hBz;omega)
 have hR1:=kz.heap hR (fun e=>by have:=HZ.out _ hBz;omega)
 have kk1:=(keeps_any (S:=Z) k0).trans (kz.mono fun j _ e=>e▸hBz)
 have hs1:=kz.size
 rw[hz2] at hs1
 have hlb:=blk_lt h0.blk
 have H1:=hid h1
 have HX1:=hid hX1
 have HR1:=hid hR1
 have KK1:=hid kk1
 have Hs1:=hid hs1
 clear h hZl k0 hz hz2 h0 hX hR kz h1 hBz hX1 hR1 kk1 hs1
 go_enter Tryz.func10,Tryz.ntmps10
 go_upto_region 4 with fail
 clear c7 f7 hlb
 generalize World.setCell (World.alloc (World.alloc w _) _) _ _=w1 at *
 obtain ⟨x0,x1,x2,x3,x4,x5⟩:=bc6 0 1 2 3 4 5 HX1.out ⟨rfl,rfl,rfl,rfl,rfl,rfl⟩
 have HS:=hid (bo_side B.b k hk2 w1)
 have HC1:=hid (HC.out w1 _ H1.out (fun _=>rfl) (by have:=Hs1.out;omega))
 clear HC
 go_wp2_with fail
 refine HS.out.mono ?_
 rintro e _ ⟨rfl,rfl⟩
 go_wp2_with fail
 refine HC1.out.mono ?_
 rintro e w3 ⟨⟨A,n,c,m,er,rfl⟩,⟨r3,h3',hn3⟩,k3'⟩
 have hR3:=k3'.heap HR1.out (fun e=>by have:=HZ.out _ e;omega)
 have h3:=h3'.mono (Z':=fun j=>Z j∨w.heap.size+2≤j) (fun j hj=>by
  rcases hj with hj|hj
  ·exact .inl hj
  ·have:=Hs1.out
   exact .inr (by omega))
 have kk3:=KK1.out.trans k3'
 have Hn3:=hid (show ∀ j,r3.n j≤r.n j+1 from hn3)
 clear h3' hn3 k3' HX1 HR1 H1 KK1 HS x0 x1 x2 x3 x4 x5
 obtain ⟨g0,g1,g2⟩:=bf3 (hR3) 0 1 2
 obtain ⟨z0,z1,z2⟩:=bc3 0 1 2 (hR3) ⟨rfl,rfl,rfl⟩
 have hB2:=blk_three hR3 (.slice none 0 0) (.slice A n c) (.bool m)
 have k3:=keeps_three w3 (w.heap.size+1) (.slice none 0 0) (.slice A n c) (.bool m)
 have hbf:=(h3.keeps k3 (fun j hj e=>by
  rcases hj with hj|hj
  ·have:=HZ.out j hj
   omega
  ·have:=Hs1.out
   omega)).mono (Z':=fun j=>Z j∨w.heap.size≤j) (fun j hj=>by
  rcases hj with hj|hj
  ·exact .inl hj
  ·have:=Hs1.out
   exact .inr (by omega))
 have hkf:=keeps_past kk3 k3 (fun k hk e=>by omega)
 have Hbf:=hid hbf
 have Hkf:=hid hkf
 have HB2:=hid hB2
 clear hB2 k3 hbf hkf hR3 h3 kk3
 go_wp2_with fail
 have hload:=box_load _ _ _ _ HB2.out 3 rfl
 refine bodyPost_ret (v:=.tuple #[.agg #[.slice none 0 0,.slice A n c,.bool m],.int .i64 er]) (by simp[results,Tryz.results10,asAddr,loadVar,loadCells,Tryz.isAgg35,Tryz.sizeOf35,hload]) rfl ?_
 exact ⟨⟨A,n,c,m,er,rfl⟩,⟨r3,Hbf.out,Hn3.out⟩,Hkf.out⟩
set_option maxHeartbeats 1000000 in
theorem bo_Do_hear {Z:Nat→Prop} {B:BB} {t:BS} {r:Rw} (h:BtR w Z B t r) (hZl:∀ j,Z j→j<w.heap.size) (kd:Int) (hkd:2≤kd∧kd≤5) (k:Nat) (hk2:k<2) (i at' by' v:Int) (t':BS)
  (hC:∀ W r',BtR W Z B t r'→(∀ j,r'.n j=r.n j)→w.heap.size≤W.heap.size→Calls Tryz.prog 40 #[.pointer (some ⟨B.b,0,none⟩),.agg #[.int .i64 kd,.int .i64 k,.int .i64 i,.int .i64 at',.int .u8 by',.int .u8 v]] W (BoPost W Z B t' r')) :
  Calls Tryz.prog 10 #[.pointer (some ⟨B.b,0,none⟩),.agg #[.int .i64 kd,.int .i64 k,.int .i64 i,.int .i64 at',.int .u8 by',.int .u8 v]] w (BoPost w Z B t' r):=by
 have HC:=hid hC
 have e1:(kd == 1)=false:=by simp;omega
 have e6:(kd == 6)=false:=by simp;omega
 have l1:¬ kd<1:=by omega
 have l6:¬ 6<kd:=by omega
 clear hC hkd
 have k0:=((Keeps.refl (fun _=>False) w).alloc (.cells #[.int .i64 kd,.int .i64 k,.int .i64 i,.int .i64 at',.int .u8 by',.int .u8 v] 40)).alloc (.cells #[.slice none 0 0,.slice none 0 0,.bool false] 35)
 have hz:(w.alloc (.cells #[.int .i64 kd,.int .i64 k,.int .i64 i,.int .i64 at',.int .u8 by',.int .u8 v] 40)).heap.size=w.heap.size+1:=by simp
 have hz2:((w.alloc (.cells #[.int .i64 kd,.int .i64 k,.int .i64 i,.int .i64 at',.int .u8 by',.int .u8 v] 40)).alloc (.cells #[.slice none 0 0,.slice none 0 0,.bool false] 35)).heap.size=w.heap.size+2:=by simp
 have h0:=h.keep k0
 have hX:=blk_alloc (blk_new w (.cells #[.int .i64 kd,.int .i64 k,.int .i64 i,.int .i64 at',.int .u8 by',.int .u8 v] 40)) (.cells #[.slice none 0 0,.slice none 0 0,.bool false] 35)
 have hR:=blk_new (w.alloc (.cells #[.int .i64 kd,.int .i64 k,.int .i64 i,.int .i64 at',.int .u8 by',.int .u8 v] 40)) (.cells #[.slice none 0 0,.slice none 0 0,.bool false] 35)
 rw[hz] at hR
 have HZ:=hid (show ∀ j,Z j→j<w.heap.size from hZl)
 have c7:=h0.c7
 have f7:=h0.free 7
 have kz:=(Keeps.refl (fun j=>j=B.b) ((w.alloc (.cells #[.int .i64 kd,.int .i64 k,.int .i64 i,.int .i64 at',.int .u8 by',.int .u8 v] 40)).alloc (.cells #[.slice none 0 0,.slice none 0 0,.bool false] 35))).setCell (p:=⟨B.b,7,none⟩) rfl (.int .i64 (wrap64 (r.mv+1)))
 have h1:=h0.setMv (wrap64 (r.mv+1))
 have hBz:Z B.b:=h.inZ 0 rfl rfl
 have hX1:=kz.heap hX (fun e=>by have:=HZ.out _ hBz;omega)
 have hR1:=kz.heap hR (fun e=>by have:=HZ.out _ hBz;omega)
 have kk1:=(keeps_any (S:=Z) k0).trans (kz.mono fun j _ e=>e▸hBz)
 have hs1:=kz.size
 rw[hz2] at hs1
 have hlb:=blk_lt h0.blk
 have H1:=hid h1
 have HX1:=hid hX1
 have HR1:=hid hR1
 have KK1:=hid kk1
 have Hs1:=hid hs1
 clear h hZl k0 hz hz2 h0 hX hR kz h1 hBz hX1 hR1 kk1 hs1
 go_enter Tryz.func10,Tryz.ntmps10
 go_upto_region 4 with fail
 clear c7 f7 hlb
 generalize World.setCell (World.alloc (World.alloc w _) _) _ _=w1 at *
 obtain ⟨x0,x1,x2,x3,x4,x5⟩:=bc6 0 1 2 3 4 5 HX1.out ⟨rfl,rfl,rfl,rfl,rfl,rfl⟩
 have HS:=hid (bo_side B.b k hk2 w1)
 have HC1:=hid (HC.out w1 _ H1.out (fun _=>rfl) (by have:=Hs1.out;omega))
 clear HC
 go_wp2_with fail
 refine HS.out.mono ?_
 rintro e _ ⟨rfl,rfl⟩
 go_wp2_with fail
 refine HC1.out.mono ?_
 rintro e w3 ⟨⟨A,n,c,m,er,rfl⟩,⟨r3,h3',hn3⟩,k3'⟩
 have hR3:=k3'.heap HR1.out (fun e=>by have:=HZ.out _ e;omega)
 have h3:=h3'.mono (Z':=fun j=>Z j∨w.heap.size+2≤j) (fun j hj=>by
  rcases hj with hj|hj
  ·exact .inl hj
  ·have:=Hs1.out
   exact .inr (by omega))
 have kk3:=KK1.out.trans k3'
 have Hn3:=hid (show ∀ j,r3.n j≤r.n j+1 from hn3)
 clear h3' hn3 k3' HX1 HR1 H1 KK1 HS x0 x1 x2 x3 x4 x5
 obtain ⟨g0,g1,g2⟩:=bf3 (hR3) 0 1 2
 obtain ⟨z0,z1,z2⟩:=bc3 0 1 2 (hR3) ⟨rfl,rfl,rfl⟩
 have hB2:=blk_three hR3 (.slice none 0 0) (.slice A n c) (.bool m)
 have k3:=keeps_three w3 (w.heap.size+1) (.slice none 0 0) (.slice A n c) (.bool m)
 have hbf:=(h3.keeps k3 (fun j hj e=>by
  rcases hj with hj|hj
  ·have:=HZ.out j hj
   omega
  ·have:=Hs1.out
   omega)).mono (Z':=fun j=>Z j∨w.heap.size≤j) (fun j hj=>by
  rcases hj with hj|hj
  ·exact .inl hj
  ·have:=Hs1.out
   exact .inr (by omega))
 have hkf:=keeps_past kk3 k3 (fun k hk e=>by omega)
 have Hbf:=hid hbf
 have Hkf:=hid hkf
 have HB2:=hid hB2
 clear hB2 k3 hbf hkf hR3 h3 kk3
 go_wp2_with fail
 have hload:=box_load _ _ _ _ HB2.out 3 rfl
 refine bodyPost_ret (v:=.tuple #[.agg #[.slice none 0 0,.slice A n c,.bool m],.int .i64 er]) (by simp[results,Tryz.results10,asAddr,loadVar,loadCells,Tryz.isAgg35,Tryz.sizeOf35,hload]) rfl ?_
 exact ⟨⟨A,n,c,m,er,rfl⟩,⟨r3,Hbf.out,Hn3.out⟩,Hkf.out⟩
end
section
open Go.RowKit
open Go.Maps
set_option maxRecDepth 100000
set_option linter.unusedVariables false
variable {w w':World}
theorem opened_turned (l:List UInt8) (k:Nat) (c:UInt8) (hk:k<(sealed l).length) (hc:c≠(sealed l)[k]):opened ((sealed l).set k c)=([],15):=by
 have hlen:((sealed l).set k c).length=l.length+4:=by simp[sealed,tail4_length]
 unfold opened
 rw[if_neg (by omega),if_neg]
 intro h
 have hn:((sealed l).set k c).length-4=l.length:=by omega
 rw[hn] at h
 refine turned l k c hk hc (((sealed l).set k c).take l.length) (((sealed l).set k c).drop l.length) (List.take_append_drop _ _) (by simp[sealed,tail4_length]) ?_
 have:=congrArg (List.drop l.length) h
 rw[←this,sealed]
 exact (List.drop_left' (by simp)).symm
theorem xorB_ne (x:UInt8) (b:Nat) (hb:b<256) (h0:b≠0):xorB x b≠x:=by
 intro h
 have hlt:x.toNat ^^^ b<256:=Nat.xor_lt_two_pow (n:=8) x.toNat_lt hb
 have h1:=congrArg UInt8.toNat h
 unfold xorB at h1
 rw[UInt8.toNat_ofNat',Nat.mod_eq_of_lt hlt] at h1
 have h2:x.toNat ^^^ (x.toNat ^^^ b)=x.toNat ^^^ x.toNat:=congrArg (fun z=>x.toNat ^^^ z) h1
 rw[←Nat.xor_assoc,Nat.xor_self,Nat.zero_xor] at h2
 exact h0 h2
theorem textM_size {m:Msg} (h:RightP m):0<(textM m).size∧(textM m).size≤256:=by
 have h1:=raw_len m h
 have h2:=sealed_size (rawM m)
 unfold textM packM
 omega
theorem spoilt_unp (m:Msg) (x:Int) (b:Nat) (hb:b<256) (h0:b≠0) (hm:RightP m):(unpM (turnT (textM m) x b).data.toList).2=15∧(turnT (textM m) x b).size≤256:=by
 have hs:=textM_size hm
 have hl:(packM m).length=(textM m).size:=by simp[textM,ByteArray.size]
 obtain ⟨r,_,hp⟩:=turn_pick x (packM m).length (by omega) (by omega)
 have hi:turnIx x (packM m).length<(packM m).length:=by
  rcases hp with h|h<;>exact h.2.2
 have e:(turnT (textM m) x b).data.toList=(packM m).set (turnIx x (packM m).length) (xorB ((packM m).getD (turnIx x (packM m).length) 0) b):=rfl
 have hg:(packM m).getD (turnIx x (packM m).length) 0=(packM m)[turnIx x (packM m).length]:=by simp[List.getD,List.getElem?_eq_getElem hi]
 constructor
 ·rw[e,hg]
  have ho:=opened_turned (rawM m) (turnIx x (packM m).length) (xorB ((packM m)[turnIx x (packM m).length]) b) hi (xorB_ne _ b hb h0)
  unfold unpM
  rw[show opened ((packM m).set (turnIx x (packM m).length) (xorB ((packM m)[turnIx x (packM m).length]) b))=([],15) from ho]
  rfl
 ·have h9:(turnT (textM m) x b).size=(packM m).length:=by
   show ((turnL (packM m) x b).toArray).size=_
   simp[turnL]
  omega
structure SuP where
 seed:Int
 d:Nat
 n:Nat
 pat:Int
 ent:Int
 voi:Int
structure SuP.ok (u:SuP):Prop where
 d:u.d≤8
 n:1≤u.n∧u.n≤16
 pat:1≤u.pat∧u.pat≤10000
 ent:1≤u.ent∧u.ent≤256
 voi:1≤u.voi∧u.voi≤16
def spC (u:SuP) (k:Nat):Co:=⟨u.seed,u.d,u.n,k,fun _=>fdZ u.d,0,[(0,standV u.seed 0)],0⟩
def spL (u:SuP) (k:Nat) (T bad:Int) (g:Bool):Lk:=⟨(k:Int)+1,u.pat,if g then 2 else 0,false,T,0,[],u.d,u.d,[],0,bad,0⟩
def spP (u:SuP) (k:Nat) (T bad:Int) (g:Bool):Pe:=⟨spC u k,spL u k T bad g,u.ent,-1,g,0,u.voi,0,.map [],0,.map [],0,g,if g then 12 else 0⟩
def spG (u:SuP) (T:Int) (g:Bool):Bool:=g || decide (u.pat<T+1)
def spM (u:SuP) (k:Nat) (T:Int) (g:Bool):List Msg:=if spG u T g then [] else [⟨1,(k:Int)+1,0,0,[],0,0⟩]
theorem sp_tick (u:SuP) (k:Nat) (T bad:Int) (g:Bool) (lead:Int):tickF (spL u k T bad g) lead=(spM u k T g,spL u k (T+1) bad (spG u T g)):=by
 unfold tickF endL spM spG
 cases g
 ·by_cases h:u.pat<T+1
  ·rw[if_pos (show (upL (spL u k T bad false)).patience<(upL (spL u k T bad false)).ticks-(upL (spL u k T bad false)).heard by show u.pat<T+1-0;omega)]
   simp[h,saysF,spL,upL]
  ·rw[if_neg (show ¬ (upL (spL u k T bad false)).patience<(upL (spL u k T bad false)).ticks-(upL (spL u k T bad false)).heard by show ¬ u.pat<T+1-0;omega)]
   simp[h,saysF,spL,upL,helloM]
 ·split<;>simp[saysF,spL,upL]
theorem hello_ok {k:Nat} (hk:k<2):Msg.wf ⟨1,(k:Int)+1,0,0,[],0,0⟩∧RightP ⟨1,(k:Int)+1,0,0,[],0,0⟩:=by
 have:k=0∨k=1:=by omega
 rcases this with rfl|rfl
 ·exact ⟨⟨by decide,by decide,by decide,by decide,by decide,by decide⟩,by decide⟩
 ·exact ⟨⟨by decide,by decide,by decide,by decide,by decide,by decide⟩,by decide⟩
theorem spM_ok (u:SuP) {k:Nat} (hk:k<2) (T:Int) (g:Bool):(∀ m∈spM u k T g,m.wf∧RightP m)∧(spM u k T g).length≤1:=by
 unfold spM
 split
 ·exact ⟨(fun m hm=>by cases hm),by simp⟩
 ·exact ⟨fun m hm=>by rw[List.mem_singleton] at hm;rw[hm];exact hello_ok hk,by simp⟩
theorem sp_wrong (u:SuP) (k:Nat):wrongF (spC u k)=none:=wrong_no 0 u.d 0 0
theorem sp_setl (u:SuP) (k:Nat):setlF (spC u k)=-1:=by
 unfold setlF
 rw[sp_wrong]
 show ((min (comF (spC u k)) 0:Nat):Int)-1=-1
 omega
set_option maxHeartbeats 1000000 in
theorem sp_Tick {u:SuP} {k:Nat} (hk:k<2) {T bad:Int} {g:Bool} (hT:0≤T∧T≤1000000) (hu:u.ok) (v:Int) (hv:v≤63) {b:PeB} (h:IsPeer w b (spP u k T bad g)) :
  Calls Tryz.prog 60 #[.pointer (some ⟨b.p,0,none⟩),.int .u8 v] w (PTick w b (spP u k (T+1) bad (spG u T g)) (spM u k T g) false):=by
 have hm:=spM_ok u hk T g
 have e0:∀ lead,tickF (spP u k T bad g).lk lead=(spM u k T g,spL u k (T+1) bad (spG u T g)):=sp_tick u k T bad g
 cases g
 ·have hTk:Tk b (spP u k T bad false) (spP u k T bad false) (spP u k T bad false) (spC u k) false v:=by
   refine ⟨hv,sp_wrong u k,⟨standV u.seed 0,?_⟩,rfl,fun W o S hP=>?_,fun W o S hP=>?_,sp_wrong u k,fun W hC=>?_,rfl,rfl,hT,by show 0≤(0:Int)∧(0:Int)≤1000000;omega,(fun m hm=>by cases hm),?_,?_⟩
   ·exact (seqL_lookI (standV u.seed) 0 1 0).trans (if_pos (by omega))
   ·exact (pe_step_shut hP (by show ¬ (0:Int)=1;omega) v).mono fun _ _ hx=>⟨hx.1,hx.2▸hP,hx.2▸Keeps.refl _ _⟩
   ·have hset:setlF (spP u k T bad false).x=-1:=sp_setl u k
    have hst:stlS (standV 5 0) (spP u k T bad false)=spP u k T bad false:=if_neg (by rw[hset];show ¬ (-1:Int) < -1;omega)
    have:=pe_settle hP rfl rfl (sp_wrong u k) (by show -1≤(-1:Int)∧(-1:Int)≤1000;omega) (.inl hset.symm) (standV 5 0) (fun he=>absurd he (by rw[hset];show ¬ (-1:Int)+1=-1;omega))
    rw[hst] at this
    exact this
   ·exact co_Free_no hC (sp_wrong u k) _ (sp_setl u k) (sp_setl u k) fun j _=>Nat.zero_le _
   ·rw[e0]
    exact hm.1
   ·rw[e0]
    exact Nat.le_trans hm.2 (by omega)
  have hfin:=pe_Tick h hTk
  have eg:gonS (lkS (spP u k T bad false) (spC u k))=spP u k (T+1) bad (spG u T false):=by
   unfold gonS lkS
   rw[e0]
   unfold spG
   by_cases hg:u.pat<T+1
   ·simp[hg,spP,spL]
   ·simp[hg,spP,spL]
  rw[eg,e0] at hfin
  exact hfin
 ·have hfin:=pe_Tick_halted h rfl v hv hT (by show 0≤(0:Int)∧(0:Int)≤1000000;omega) (fun m hm=>by cases hm) (by rw[e0];exact hm.1) (by rw[e0];exact Nat.le_trans hm.2 (by omega))
  rw[e0] at hfin
  exact hfin
theorem sp_Hear {u:SuP} {k:Nat} {T bad:Int} {g:Bool} (hb:0≤bad∧bad≤100000) (hu:u.ok) (t:ByteArray) (ht:(unpM t.data.toList).2=15) (hs:t.size≤256) :
  ∃ bad' er,bad≤bad'∧bad'≤bad+1∧∀ W (b:PeB),IsPeer W b (spP u k T bad g)→Calls Tryz.prog 65 #[.pointer (some ⟨b.p,0,none⟩),.string t] W (PHear W b (spP u k T bad' g) er):=by
 have hd:=hu.d
 cases g
 ·have e:hearF (spL u k T bad false) t.data.toList=(Hrd.zero,15,spL u k T (bad+1) false):=by
   unfold hearF
   rw[if_neg (by show ¬ (0:Int)=2;omega),if_pos (by rw[ht];omega),ht]
   rfl
  refine ⟨bad+1,15,by omega,by omega,fun W b hp=>?_⟩
  have hfin:=pe_Hear_err hp rfl t ⟨by omega,by show 0≤(u.d:Int)∧(u.d:Int)≤_;omega,by show 0≤(u.d:Int)∧(u.d:Int)≤_;omega,by show 0≤(0:Int)∧(0:Int)≤_;omega,by show 0≤bad∧bad≤_;omega,by show 0≤(0:Int)∧(0:Int)≤_;omega⟩ 15 (congrArg (fun z=>z.2.1) e) (by omega)
  rw[show (hearF (spP u k T bad false).lk t.data.toList).2.2=spL u k T (bad+1) false from congrArg (fun z=>z.2.2) e] at hfin
  exact hfin
 ·exact ⟨bad,12,by omega,by omega,fun W b hp=>pe_Hear_halted hp rfl t⟩
end
section
open Go.RowKit
open Go.Maps
set_option maxRecDepth 100000
variable {w w':World}
def fdN (f nx now:Nat):Fd:=⟨f,nx,0,noL f nx,noL f now⟩
def coN (k:Nat) (a:Nm):Co:=⟨5,1,4,k,fun j=>if j<2 then fdN a.fst (if j=k then a.n0 else a.n1) a.now else fdZ 1,a.fst,seqL (standV 5) a.fst (a.now+1),a.now⟩
def peN (k:Nat) (a:Nm):Pe:=⟨coN k a,a.lk,100,a.com,false,a.tn,8,a.on,a.D,0,.map [],a.far,false,0⟩
theorem new_N (k:Nat):newPe ⟨5,1,4,k,fun _=>fdZ 1,0,[(0,standV 5 0)],0⟩ (Lk.new ((k:Int)+1) 100 1) 100 8=peN k (Nm.new k):=by
 have h:(fun j:Nat=>if j<2 then fdN 0 (if j=k then 1 else 1) 0 else fdZ 1)=fun _=>fdZ 1:=by
  funext j
  split
  ·rw[ite_self];rfl
  ·rfl
 show newPe _ _ _ _=(⟨⟨5,1,4,k,fun j:Nat=>if j<2 then fdN 0 (if j=k then 1 else 1) 0 else fdZ 1,0,seqL (standV 5) 0 (0+1),0⟩,Lk.new ((k:Int)+1) 100 1,100,-1,false,0,8,0,.map [],0,.map [],0,false,0⟩:Pe)
 rw[h]
 rfl
theorem co_ext {x y:Co} (hf:x.f=y.f) (hL:x.L=y.L) (h1:x.seed=y.seed) (h2:x.delay=y.delay) (h3:x.wnd=y.wnd) (h4:x.me=y.me) (h5:x.sf=y.sf) (h6:x.now=y.now):x=y:=by
 obtain ⟨a1,a2,a3,a4,a5,a6,a7,a8⟩:=x
 obtain ⟨b1,b2,b3,b4,b5,b6,b7,b8⟩:=y
 simp only at hf hL h1 h2 h3 h4 h5 h6
 subst hf hL h1 h2 h3 h4 h5 h6
 rfl
theorem coN_f {k j:Nat} (a:Nm) (hj:j<2):(coN k a).f j=fdN a.fst (if j=k then a.n0 else a.n1) a.now:=if_pos hj
theorem coN_me {k:Nat} (hk:k<2) (a:Nm):(coN k a).f k=fdN a.fst a.n0 a.now:=by rw[coN_f a hk,if_pos rfl]
theorem coN_th {k:Nat} (hk:k<2) (a:Nm):(coN k a).f (1-k)=fdN a.fst a.n1 a.now:=by rw[coN_f a (by omega),if_neg (by omega)]
theorem comF_N {k:Nat} (hk:k<2) (a:Nm):comF (coN k a)=min a.n0 a.n1:=by
 unfold comF
 rw[coN_f a (by omega),coN_f a (by omega)]
 have:k=0∨k=1:=by omega
 rcases this with rfl|rfl
 ·rw[if_pos rfl,if_neg (by omega)]
  rfl
 ·rw[if_neg (by omega),if_pos rfl]
  exact Nat.min_comm _ _
theorem wrong_N {k:Nat} (hk:k<2) (a:Nm):wrongF (coN k a)=none:=by
 unfold wrongF thF
 rw[show (coN k a).me=k from rfl,coN_th hk a]
 exact wrong_no _ _ _ _
theorem setl_N {k:Nat} (hk:k<2) (a:Nm):setlF (coN k a)=((min (min a.n0 a.n1) a.now:Nat):Int)-1:=by
 unfold setlF
 rw[wrong_N hk a,comF_N hk a]
 rfl
theorem full_N {k:Nat} (hk:k<2) (a:Nm) (h:(a.now:Int)-(min a.n0 a.n1:Nat)<4):fullF (coN k a)=false:=by
 unfold fullF
 rw[comF_N hk a]
 exact decide_eq_false (by show ¬ ((4:Nat):Int)≤(a.now:Int)-_;omega)
theorem noL_put {f n:Nat} (h:f≤n):putL (noL f n) n 0=noL f (n+1):=seqL_put (fun _=>(0:Int)) h
theorem noL_take (f n j:Nat):takeV (noL f n) j 0=0:=by
 unfold takeV noL
 rw[seqL_look]
 split<;>rfl
theorem noL_cut {f m n:Nat} (h:f≤m) (hn:m≤n):cutL m (noL f n)=noL m n:=seqL_cut _ h hn
theorem off_N {k:Nat} (hk:k<2) (a:Nm) (h:a.fst≤a.n0):putC (coN k a) k 0=coN k { a with n0:=a.n0+1 }:=by
 refine co_ext ?_ rfl rfl rfl rfl rfl rfl rfl
 funext j
 show setF (coN k a).f k _ j=_
 unfold setF
 by_cases e:j=k
 ·subst e
  rw[if_pos rfl,coN_me hk a,coN_me hk]
  show (⟨a.fst,a.n0+1,0,putL (noL a.fst a.n0) a.n0 0,noL a.fst a.now⟩:Fd)=_
  rw[noL_put h]
  rfl
 ·rw[if_neg e]
  show (if j<2 then fdN a.fst (if j=k then a.n0 else a.n1) a.now else fdZ 1)=(if j<2 then fdN a.fst (if j=k then a.n0+1 else a.n1) a.now else fdZ 1)
  rw[if_neg e,if_neg e]
theorem in_N {k:Nat} (hk:k<2) (a:Nm) (h:a.fst≤a.n1):putC (coN k a) (1-k) 0=coN k { a with n1:=a.n1+1 }:=by
 refine co_ext ?_ rfl rfl rfl rfl rfl rfl rfl
 funext j
 show setF (coN k a).f (1-k) _ j=_
 unfold setF
 by_cases e:j=1-k
 ·subst e
  rw[if_pos rfl,coN_th hk a,coN_th hk]
  show (⟨a.fst,a.n1+1,0,putL (noL a.fst a.n1) a.n1 0,noL a.fst a.now⟩:Fd)=_
  rw[noL_put h]
  rfl
 ·rw[if_neg e]
  show (if j<2 then fdN a.fst (if j=k then a.n0 else a.n1) a.now else fdZ 1)=(if j<2 then fdN a.fst (if j=k then a.n0 else a.n1+1) a.now else fdZ 1)
  by_cases e2:j<2
  ·rw[if_pos e2,if_pos e2,if_pos (by omega),if_pos (by omega)]
  ·rw[if_neg e2,if_neg e2]
theorem ins_N {k:Nat} (hk:k<2) (a:Nm) (h:a.fst≤a.n1):∀ j,hrdC (coN k a) j=coN k { a with n1:=a.n1+j }
 | 0=>rfl
 | j+1=>by
  show putC (hrdC (coN k a) j) (1-k) 0=_
  rw[ins_N hk a h j,in_N hk _ (show a.fst≤a.n1+j by omega)]
  rfl
theorem step_N (k:Nat) (a:Nm) (h:a.fst≤a.now) (hw:a.now<a.fst+64):stepC (coN k a) 5=coN k { a with now:=a.now+1 }:=by
 refine co_ext ?_ ?_ rfl rfl rfl rfl rfl rfl
 ·funext j
  show (if j<2 then takeFd ((coN k a).f j) a.now else (coN k a).f j)=(if j<2 then fdN a.fst (if j=k then a.n0 else a.n1) (a.now+1) else fdZ 1)
  by_cases e2:j<2
  ·rw[if_pos e2,if_pos e2,coN_f a e2]
   generalize (if j=k then a.n0 else a.n1)=n
   show (⟨a.fst,n,0,noL a.fst n,takeU a.fst (noL a.fst a.now) a.now (takeV (noL a.fst n) a.now 0)⟩:Fd)=⟨a.fst,n,0,noL a.fst n,noL a.fst (a.now+1)⟩
   rw[noL_take]
   unfold takeU
   rw[if_pos hw,noL_put h]
  ·rw[if_neg e2,if_neg e2]
   exact if_neg e2
 ·show putL (seqL (standV 5) a.fst (a.now+1)) (a.now+1) (standV 5 (a.now+1))=seqL (standV 5) a.fst (a.now+1+1)
  exact seqL_put _ (by omega)
theorem cut_N (k:Nat) (a:Nm) (m:Nat) (h:a.fst≤m) (h0:m≤a.n0) (h1:m≤a.n1) (hn:m≤a.now):cutC (coN k a) m=coN k { a with fst:=m }:=by
 refine co_ext ?_ ?_ rfl rfl rfl rfl rfl rfl
 ·funext j
  show (if j<2 then cutFd ((coN k a).f j) m else (coN k a).f j)=(if j<2 then fdN m (if j=k then a.n0 else a.n1) a.now else fdZ 1)
  by_cases e2:j<2
  ·rw[if_pos e2,if_pos e2,coN_f a e2]
   have hj:m≤(if j=k then a.n0 else a.n1):=by split<;>assumption
   generalize (if j=k then a.n0 else a.n1)=n at *
   show (⟨m,n,0,cutL m (noL a.fst n),cutL m (noL a.fst a.now)⟩:Fd)=⟨m,n,0,noL m n,noL m a.now⟩
   rw[noL_cut h hj,noL_cut h hn]
  ·rw[if_neg e2,if_neg e2]
   exact if_neg e2
 ·exact seqL_cut _ h (by omega)
structure NmOk (a:Nm):Prop where
 lo:a.fst≤a.n1
 hi:a.n1≤a.fst+60
def stS (j:Nat):Int:=sumV (standV 5 j)
theorem step_ok {k:Nat} (hk:k<2) (a:Nm) (hc:TickC a) (hl:OkL a.lk) (hs:a.lk.state=1) (hi:NmOk a):StepOk (peN k a) 5:=by
 obtain ⟨c1,c2,c3,c4,c5,c6,c7,c8,c9,c10,c11,c12,_⟩:=hc
 have h1:=hi.lo
 have h2:=hi.hi
 have hoff:offC (peN k a)=coN k { a with n0:=a.n0+1 }:=off_N hk a (by omega)
 refine ⟨hs,?_,c10,hl.ticks,hl.acked,full_N hk a c3,?_,by show 1≤1000;omega,?_,?_,?_,?_,?_,?_,by show a.now≤400;omega,?_,?_,?_,rfl,?_,?_⟩
 ·show ¬ (4<(a.now:Int)-((coN k a).f (1-k)).next-a.far∧a.lk.ticks%2=1)
  rw[coN_th hk a]
  exact c1
 ·show ((coN k a).f k).next≤a.now+1
  rw[coN_me hk a]
  show a.n0≤_
  omega
 ·show ((coN k a).f k).next<1000000
  rw[coN_me hk a]
  show a.n0<_
  omega
 ·show ((coN k a).f k).first≤((coN k a).f k).next∧((coN k a).f k).next<((coN k a).f k).first+64
  rw[coN_me hk a]
  show a.fst≤a.n0∧a.n0<a.fst+64
  omega
 ·rw[hoff]
  exact wrong_N hk _
 ·rw[hoff]
  exact full_N hk _ (by show (a.now:Int)-(min (a.n0+1) a.n1:Nat)<4;omega)
 ·rw[hoff]
  show a.now<((coN k _).f k).next
  rw[coN_me hk]
  show a.now<a.n0+1
  omega
 ·show lookI (seqL (standV 5) a.fst (a.now+1)) (a.now:Int)=some (standV 5 a.now)
  rw[seqL_lookI,if_pos (by omega)]
 ·intro j hj
  rw[hoff,coN_f _ hj]
  exact noL_take _ _ _
 ·intro j hj
  rw[hoff,coN_f _ hj]
  show a.fst≤a.now
  omega
 ·show inW a.fst 81 ((a.now+1:Nat):Int)
  unfold inW
  omega
 ·show a.com<(a.now:Int)
  omega
 ·show a.tn≤1000000
  omega
theorem lead_N {k:Nat} (hk:k<2) (a:Nm):leadC (coN k a)=(a.now:Int)-a.n1:=by
 unfold leadC
 show (a.now:Int)-(((coN k a).f (1-k)).next:Int)=_
 rw[coN_th hk]
 rfl
def stpN (a:Nm):Nm:={ a with now:=a.now+1,n0:=a.n0+1,tn:=a.tn+1,lk:=ownL a.lk a.n0 0 }
def stlN (a:Nm):Nm:={ stpN a with com:=a.com+1,lk:=lkT stS a,on:=if reps (a.com+1) then a.on+1 else a.on,D:=if reps (a.com+1) then repD a.D (a.com+2) (stS (a.com+2).toNat) else a.D }
theorem stp_N {k:Nat} (hk:k<2) (a:Nm) (h0:a.fst≤a.n0) (h:a.fst≤a.now) (hw:a.now<a.fst+64):stepS (peN k a) 5=peN k (stpN a):=by
 have hoff:offC (peN k a)=coN k { a with n0:=a.n0+1 }:=off_N hk a h0
 have hn:((coN k a).f k).next=a.n0:=by rw[coN_me hk];rfl
 show ({ peN k a with x:=stepC (offC (peN k a)) 5,lk:=ownL a.lk ((coN k a).f k).next 0,tn:=a.tn+1 }:Pe)=_
 rw[hoff,step_N k { a with n0:=a.n0+1 } h hw,hn]
 rfl
theorem stl_N {k:Nat} (hk:k<2) (a:Nm) (hc:a.com+1=(min a.n1 (a.now+1):Nat)-1) (hm:a.n0=a.now+1):stlS (standV 5 (a.com+2).toNat) (peN k (stpN a))=peN k (stlN a):=by
 have hset:setlF (coN k (stpN a))=a.com+1:=by
  rw[setl_N hk]
  show ((min (min (a.n0+1) a.n1) (a.now+1):Nat):Int)-1=_
  omega
 unfold stlS
 rw[if_pos (by show a.com<setlF (coN k (stpN a));omega)]
 unfold comS
 by_cases r:(a.com+2)%16=0
 ·have hr:reps (a.com+1)=true:=decide_eq_true (by omega)
  rw[if_pos (show ((peN k (stpN a)).com+2)%16=0 from r)]
  unfold stlN lkT
  simp only[hr,if_true]
  rfl
 ·have hr:reps (a.com+1)=false:=decide_eq_false (by omega)
  rw[if_neg (show ¬ ((peN k (stpN a)).com+2)%16=0 from r)]
  unfold stlN lkT
  simp only[hr,Bool.false_eq_true,if_false]
  rfl
def fitB (k:IntKind) (n:Int):Bool:=match k with
 | .i32=>decide (-2147483648≤n∧n≤2147483647)
 | .u32=>decide (0≤n∧n≤4294967295)
 | _=>decide (-9223372036854775808≤n∧n≤9223372036854775807)
theorem fits_of {k:IntKind} {n:Int} (h:fitB k n=true):fitsI k n:=by
 cases k<;>simp only[fitB,decide_eq_true_eq] at h<;>exact h
theorem wf16:WfS (standV 5 16):=by
 have h:((List.range 60).all fun j=>fitB (kindAt j) (standV 5 16 j))=true:=by kernel_rfl
 intro j hj
 exact fits_of (List.all_eq_true.1 h j (List.mem_range.2 hj))
theorem len16:(packSt (standV 5 16)).length≤100000:=by
 have h:(packSt (standV 5 16)).length=34:=by kernel_rfl
 omega
set_option maxHeartbeats 1000000 in
theorem tick_open {k:Nat} (hk:k<2) (a:Nm) (hc:TickC a) (hl:OkL a.lk) (hl2:OkL (lkT stS a)) (hs:a.lk.state=1) (hi:NmOk a) (hs2:(tickF (lkT stS a) ((a.now:Int)+1-a.n1)).2.state=1)
  (hm:∀ m∈(tickF (lkT stS a) ((a.now:Int)+1-a.n1)).1,m.wf∧RightP m) (hn:(tickF (lkT stS a) ((a.now:Int)+1-a.n1)).1.length≤100) {b:PeB} (h:IsPeer w b (peN k a)) :
  Calls Tryz.prog 60 #[.pointer (some ⟨b.p,0,none⟩),.int .u8 0] w (PTick w b (peN k (tickA stS a)) (tickF (lkT stS a) ((a.now:Int)+1-a.n1)).1 true):=by
 have hst:=step_ok hk a hc hl hs hi
 obtain ⟨c1,c2,c3,c4,c5,c6,c7,c8,c9,c10,c11,c12,c13⟩:=hc
 have h1:=hi.lo
 have h2:=hi.hi
 have e1:=stp_N hk a (by omega) (by omega) (by omega)
 have e2:=stl_N hk a c5 c2
 have hset:setlF (coN k (stpN a))=a.com+1:=by
  rw[setl_N hk]
  show ((min (min (a.n0+1) a.n1) (a.now+1):Nat):Int)-1=_
  omega
 have hset2:setlF (coN k (stlN a))=a.com+1:=by
  rw[setl_N hk]
  show ((min (min (a.n0+1) a.n1) (a.now+1):Nat):Int)-1=_
  omega
 have e3:=cut_N k (stlN a) (a.com+1).toNat (by show a.fst≤_;omega) (by show _≤a.n0+1;omega) (by show _≤a.n1;omega) (by show _≤a.now+1;omega)
 have e4:leadC (coN k { stlN a with fst:=(a.com+1).toNat })=(a.now:Int)+1-a.n1:=by
  rw[lead_N hk]
  show ((a.now+1:Nat):Int)-(a.n1:Int)=_
  omega
 have hT:Tk b (peN k a) (peN k (stpN a)) (peN k (stlN a)) (coN k { stlN a with fst:=(a.com+1).toNat }) true 0:=by
  refine ⟨by omega,wrong_N hk a,⟨standV 5 a.now,hst.L1⟩,rfl,fun W o S hP=>?_,fun W o S hP=>?_,wrong_N hk _,fun W hC=>?_,rfl,rfl,?_,?_,hl2.out,?_,?_⟩
  ·rw[←e1]
   exact pe_step_open hP 5 hst
  ·rw[←e2]
   refine pe_settle hP rfl rfl (wrong_N hk _) (by show -1≤a.com∧a.com≤1000;omega) (.inr (by show a.com+1=setlF (coN k (stpN a));omega)) _ fun _ hr=>?_
   have hc14:a.com=14:=c13 (decide_eq_true (by have:(a.com+2)%16=0:=hr;omega))
   have e16:(a.com+2).toNat=16:=by omega
   rw[e16]
   refine ⟨?_,wf16,stand_right 5 16 (by omega),len16,more_in _ _,by show a.on≤1000000;omega,rfl⟩
   show lookI (seqL (standV 5) a.fst (a.now+1+1)) (a.com+2)=_
   rw[hc14,show (14:Int)+2=((16:Nat):Int) from rfl,seqL_lookI,if_pos (by omega)]
  ·rw[←e3]
   have hC':IsCore W b.c (coN k (stlN a)):=hC
   have hs3:setlF (peN k (stlN a)).x=a.com+1:=hset2
   rw[hs3]
   refine co_Free hC' (wrong_N hk _) (a.com+1).toNat _ (by omega) (by rw[hset2];omega) (by rw[hset2];omega) (fun j hj=>?_) (by show a.fst≤_;omega) (by omega)
   rw[coN_f _ hj]
   show a.fst≤(a.com+1).toNat∧(a.com+1).toNat≤(if j=k then a.n0+1 else a.n1)
   refine ⟨by omega,?_⟩
   split<;>omega
  ·have:=hl2.ticks
   exact ⟨this.1,by show (lkT stS a).ticks≤_;omega⟩
  ·have:=hl2.heard
   exact ⟨this.1,by show (lkT stS a).heard≤_;omega⟩
  ·rw[e4]
   exact hm
  ·rw[e4]
   exact hn
 have hfin:=pe_Tick h hT
 have eg:gonS (lkS (peN k (stlN a)) (coN k { stlN a with fst:=(a.com+1).toNat }))=peN k (tickA stS a):=by
  unfold gonS lkS
  rw[e4]
  rw[if_neg (by show ¬ (tickF (lkT stS a) ((a.now:Int)+1-a.n1)).2.state=2;omega)]
  rfl
 rw[eg,e4] at hfin
 exact hfin
theorem tick_shut {k:Nat} (hk:k<2) (a:Nm) (hl:OkL a.lk) (hs:a.lk.state=0) (h1:a.now=0) (h2:a.n0=1) (h3:a.n1=1) (h4:a.fst=0) (h5:a.com=-1) (hs2:(tickF a.lk (-1)).2.state=0)
  (hm:∀ m∈(tickF a.lk (-1)).1,m.wf∧RightP m) (hn:(tickF a.lk (-1)).1.length≤100) {b:PeB} (h:IsPeer w b (peN k a)) :
  Calls Tryz.prog 60 #[.pointer (some ⟨b.p,0,none⟩),.int .u8 0] w (PTick w b (peN k { a with lk:=(tickF a.lk (-1)).2 }) (tickF a.lk (-1)).1 false):=by
 have hset:setlF (coN k a)=-1:=by
  rw[setl_N hk,h1,h2,h3]
  rfl
 have e4:leadC (coN k a)=-1:=by
  rw[lead_N hk,h1,h3]
  rfl
 have hT:Tk b (peN k a) (peN k a) (peN k a) (coN k a) false 0:=by
  refine ⟨by omega,wrong_N hk a,⟨standV 5 a.now,?_⟩,rfl,fun W o S hP=>?_,fun W o S hP=>?_,wrong_N hk _,fun W hC=>?_,rfl,rfl,?_,?_,hl.out,?_,?_⟩
  ·show lookI (seqL (standV 5) a.fst (a.now+1)) (a.now:Int)=some (standV 5 a.now)
   rw[seqL_lookI,if_pos (by omega)]
  ·exact (pe_step_shut hP (by show ¬ a.lk.state=1;omega) 0).mono fun _ _ hx=>⟨hx.1,hx.2▸hP,hx.2▸Keeps.refl _ _⟩
  ·have hst:stlS (standV 5 0) (peN k a)=peN k a:=if_neg (by show ¬ a.com<setlF (coN k a);omega)
   have:=pe_settle hP rfl rfl (wrong_N hk _) (by show -1≤a.com∧a.com≤1000;omega) (.inl (by show a.com=setlF (coN k a);omega)) (standV 5 0) (fun he=>absurd he (by show ¬ a.com+1=setlF (coN k a);omega))
   rw[hst] at this
   exact this
  ·have hC':IsCore W b.c (coN k a):=hC
   refine co_Free_no hC' (wrong_N hk _) _ hset hset fun j hj=>?_
   rw[coN_f _ hj]
   show a.fst≤_
   omega
  ·have:=hl.ticks
   exact ⟨this.1,by show a.lk.ticks≤_;omega⟩
  ·have:=hl.heard
   exact ⟨this.1,by show a.lk.heard≤_;omega⟩
  ·rw[e4]
   exact hm
  ·rw[e4]
   exact hn
 have hfin:=pe_Tick h hT
 have eg:gonS (lkS (peN k a) (coN k a))=peN k { a with lk:=(tickF a.lk (-1)).2 }:=by
  unfold gonS lkS
  rw[e4]
  rw[if_neg (by show ¬ (tickF a.lk (-1)).2.state=2;omega)]
  rfl
 rw[eg,e4] at hfin
 exact hfin
theorem tick_N {k:Nat} (hk:k<2) (a a':Nm) (ms:List Msg) (hi:NmOk a) (h:tickN stS a=some (ms,a')) (hn:ms.length≤100) :
  NmOk a'∧(∀ m∈ms,m.wf∧RightP m)∧∃ m1,∀ W (b:PeB),IsPeer W b (peN k a)→Calls Tryz.prog 60 #[.pointer (some ⟨b.p,0,none⟩),.int .u8 0] W (PTick W b (peN k a') ms m1):=by
 unfold tickN at h
 split at h
 ·rename_i hc
  obtain ⟨h1,h2,h3,h4,h5,h6⟩:=hc
  simp only[Option.some.injEq,Prod.mk.injEq] at h
  obtain ⟨rfl,rfl⟩:=h
  have hm:∀ m∈(tickF (lkT stS a) ((a.now:Int)+1-a.n1)).1,m.wf∧RightP m:=fun m hm=>okM_of (List.all_eq_true.1 h6 m hm)
  refine ⟨?_,hm,true,fun W b hp=>tick_open hk a h4 (okL_of h1) (okL_of h2) h3 hi h5 hm hn hp⟩
  have i1:=hi.lo
  have i2:=hi.hi
  have c5:=h4.com
  have c9:=h4.fst
  exact ⟨by show (a.com+1).toNat≤a.n1;omega,by show a.n1≤(a.com+1).toNat+60;omega⟩
 ·split at h
  ·rename_i _ hc
   obtain ⟨h1,h2,h3,h4,h5,h6,h7,h8,h9⟩:=hc
   simp only[Option.some.injEq,Prod.mk.injEq] at h
   obtain ⟨rfl,rfl⟩:=h
   have hm:∀ m∈(tickF a.lk (-1)).1,m.wf∧RightP m:=fun m hm=>okM_of (List.all_eq_true.1 h9 m hm)
   exact ⟨⟨hi.lo,hi.hi⟩,hm,false,fun W b hp=>tick_shut hk a (okL_of h1) h2 h3 h4 h5 h6 h7 h8 hm hn hp⟩
  ·cases h
theorem hear_N {k:Nat} (hk:k<2) (a a':Nm) (m:Msg) (hi:NmOk a) (h:hearN a m=some a') :
  NmOk a'∧∀ W (b:PeB),IsPeer W b (peN k a)→Calls Tryz.prog 65 #[.pointer (some ⟨b.p,0,none⟩),.string (textM m)] W (PHear W b (peN k a') 0):=by
 unfold hearN at h
 simp only at h
 split at h
 ·rename_i hc
  obtain ⟨h1,h2,h3,h4,h5,h6,h7,h8,h9⟩:=hc
  simp only[Option.some.injEq] at h
  have hl:=okL_of h1
  have hm:=okM_of h2
  have hs:=textM_size hm.2
  have hr:hearF a.lk (textM m).data.toList=hearM a.lk m:=hear_of a.lk m h3 hm
  have her:(hearM a.lk m).2.1=0:=by unfold hearM;split<;>rfl
  have i1:=hi.lo
  have i2:=hi.hi
  have hlen:a.n1+(hearM a.lk m).1.ins.length≤a.fst+60:=by
   by_cases e:(hearM a.lk m).1.ins=[]
   ·rw[e]
    exact i2
   ·exact (h7 e).2
  have hok:HrOk (peN k a) (textM m):=by
   refine ⟨rfl,⟨by omega,⟨hl.next.1,?_⟩,⟨hl.acked.1,?_⟩,⟨hl.good.1,?_⟩,⟨hl.bad.1,?_⟩,⟨hl.stale.1,?_⟩⟩,?_,?_,?_,?_,?_,?_,?_⟩
   ·have:=hl.next.2
    show a.lk.next≤_
    omega
   ·have:=hl.acked.2
    show a.lk.acked≤_
    omega
   ·have:=hl.good.2
    show a.lk.good≤_
    omega
   ·have:=hl.bad.2
    show a.lk.bad≤_
    omega
   ·have:=hl.stale.2
    show a.lk.stale≤_
    omega
   ·show (hearF a.lk (textM m).data.toList).2.1=0
    rw[hr]
    exact her
   ·show (hearF a.lk (textM m).data.toList).2.2.state≠2
    rw[hr]
    exact h4
   ·show ∀ v∈(hearF a.lk (textM m).data.toList).1.ins,v=0
    rw[hr]
    intro v hv
    have:=List.all_eq_true.1 h5 v hv
    simpa using this
   ·show (hearF a.lk (textM m).data.toList).1.ins≠[]→(hearF a.lk (textM m).data.toList).1.frm=((coN k a).f (1-k)).next
    rw[hr,coN_th hk]
    exact fun e=>(h7 e).1
   ·show ((coN k a).f (1-k)).next+(hearF a.lk (textM m).data.toList).1.ins.length≤1000000
    rw[hr,coN_th hk]
    show a.n1+_≤_
    omega
   ·show ((coN k a).f (1-k)).first≤((coN k a).f (1-k)).next∧((coN k a).f (1-k)).next+(hearF a.lk (textM m).data.toList).1.ins.length≤((coN k a).f (1-k)).first+64
    rw[hr,coN_th hk]
    show a.fst≤a.n1∧a.n1+_≤a.fst+64
    omega
   ·show (hearF a.lk (textM m).data.toList).1.kind=4→(0≤(hearF a.lk (textM m).data.toList).1.frame∧(hearF a.lk (textM m).data.toList).1.frame≤1000000)∧Maps.has a.D (.int .i64 (hearF a.lk (textM m).data.toList).1.frame)=true∧a.D.atKey (.int .i64 (hearF a.lk (textM m).data.toList).1.frame) (.lit (.int .u32 0))=.lit (.int .u32 (hearF a.lk (textM m).data.toList).1.sum)
    rw[hr]
    intro e
    obtain ⟨g1,g2,g3,g4⟩:=h8 e
    exact ⟨⟨g3,by omega⟩,g1,isNum_eq g2⟩
  refine ⟨?_,fun W b hp=>?_⟩
  ·rw[←h]
   exact ⟨by show a.fst≤a.n1+_;omega,hlen⟩
  ·have hfin:=pe_Hear_ok hp (textM m) hok
   have e:hrdS (peN k a) (hearF (peN k a).lk (textM m).data.toList)=peN k a':=by
    rw[show (peN k a).lk=a.lk from rfl,hr,←h]
    unfold hrdS
    rw[show (peN k a).x=coN k a from rfl,ins_N hk a i1]
    rfl
   rw[e] at hfin
   exact hfin
 ·cases h
end
end Go.Proofs.YtalagblioepadaaGreatDoor
