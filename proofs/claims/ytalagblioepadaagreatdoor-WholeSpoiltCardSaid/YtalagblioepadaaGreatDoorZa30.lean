/- The proof, part 30. -/
import Derived.Test.YtalagblioepadaaGreatDoorZa01
import Derived.Test.YtalagblioepadaaGreatDoorZa26
import Derived.Test.YtalagblioepadaaGreatDoorZa28
namespace Go.Proofs.YtalagblioepadaaGreatDoor
section
open Go.RowKit
theorem below_drewM {B:Nat} {a w:World} (h:Below B a w) (n:Nat):Below B a (w.drewN n):=h.trans ⟨rfl,rfl,rfl,Nat.le_refl _,fun _ _=>rfl⟩
theorem wire_names (k:Int) (w:World):Calls Tryz.prog 200 #[.int .i64 k] w fun e w'=>e=.returned (.int .i64 (namesK k))∧w=w':=by
 unfold namesK
 by_cases h1:k=1
 ·subst h1
  go_enter Tryz.func200,Tryz.ntmps200
  go_wp2
  go_ret
  exact ⟨rfl,rfl⟩
 by_cases h2:k=2
 ·subst h2
  go_enter Tryz.func200,Tryz.ntmps200
  go_wp2
  go_ret
  exact ⟨rfl,rfl⟩
 by_cases h3:k=3
 ·subst h3
  go_enter Tryz.func200,Tryz.ntmps200
  go_wp2
  go_ret
  exact ⟨rfl,rfl⟩
 by_cases h4:k=4
 ·subst h4
  go_enter Tryz.func200,Tryz.ntmps200
  go_wp2
  go_ret
  exact ⟨rfl,rfl⟩
 by_cases h5:k=5
 ·subst h5
  go_enter Tryz.func200,Tryz.ntmps200
  go_wp2
  go_ret
  exact ⟨rfl,rfl⟩
 by_cases h6:k=6
 ·subst h6
  go_enter Tryz.func200,Tryz.ntmps200
  go_wp2
  go_ret
  exact ⟨rfl,rfl⟩
 have q1:(k == 1)=false:=by rw[beq_eq_false_iff_ne];exact h1
 have q2:(k == 2)=false:=by rw[beq_eq_false_iff_ne];exact h2
 have q3:(k == 3)=false:=by rw[beq_eq_false_iff_ne];exact h3
 have q4:(k == 4)=false:=by rw[beq_eq_false_iff_ne];exact h4
 have q5:(k == 5)=false:=by rw[beq_eq_false_iff_ne];exact h5
 have q6:(k == 6)=false:=by rw[beq_eq_false_iff_ne];exact h6
 rw[if_neg (by omega),if_neg h3,if_neg h4,if_neg h5,if_neg h6]
 clear h1 h2 h3 h4 h5 h6
 go_enter Tryz.func200,Tryz.ntmps200
 go_wp2
 go_ret
 exact ⟨rfl,rfl⟩
variable {w:World} {a b:Msg} {aa ab:Option Addr} {ca cb:Nat}
set_option maxHeartbeats 1000000 in
theorem wire_Same (hA:IsBytes w aa ca a.ins) (hB:IsBytes w ab cb b.ins) :
  Calls Tryz.prog 264 #[(.agg #[.int .i64 a.kind,.int .u32 a.nonce,.int .u16 a.serial,.int .u16 a.ack,.slice aa a.ins.length ca,.int .u32 a.sum,.int .i64 a.lead]),(.agg #[.int .i64 b.kind,.int .u32 b.nonce,.int .u16 b.serial,.int .u16 b.ack,.slice ab b.ins.length cb,.int .u32 b.sum,.int .i64 b.lead])] w fun e w'=>e=.returned (.bool (sameM a b))∧Below w.heap.size w w':=by
 have hs:sameM a b=(decide (a.kind=b.kind)&&decide (a.nonce=b.nonce)&&decide (a.serial=b.serial)&&decide (a.ack=b.ack)&&decide (a.ins=b.ins)&&decide (a.sum=b.sum)&&decide (a.lead=b.lead)):=rfl
 have hA':=hid (hA.keeps (((Keeps.refl (fun _=>False) w).alloc (.cells #[.int .i64 a.kind,.int .u32 a.nonce,.int .u16 a.serial,.int .u16 a.ack,.slice aa a.ins.length ca,.int .u32 a.sum,.int .i64 a.lead] 254)).alloc (.cells #[.int .i64 b.kind,.int .u32 b.nonce,.int .u16 b.serial,.int .u16 b.ack,.slice ab b.ins.length cb,.int .u32 b.sum,.int .i64 b.lead] 254)) (fun _ _ _=>id))
 have hB':=hid (hB.keeps (((Keeps.refl (fun _=>False) w).alloc (.cells #[.int .i64 a.kind,.int .u32 a.nonce,.int .u16 a.serial,.int .u16 a.ack,.slice aa a.ins.length ca,.int .u32 a.sum,.int .i64 a.lead] 254)).alloc (.cells #[.int .i64 b.kind,.int .u32 b.nonce,.int .u16 b.serial,.int .u16 b.ack,.slice ab b.ins.length cb,.int .u32 b.sum,.int .i64 b.lead] 254)) (fun _ _ _=>id))
 by_cases h1:a.kind=b.kind
 rotate_left
 ·have hq:(a.kind == b.kind)=false:=by rw[beq_eq_false_iff_ne];exact h1
  have Hfin:=hid (show sameM a b=false by simp[hs,h1])
  clear h1 hs
  go_enter Tryz.func264,Tryz.ntmps264
  go_wp2_with fail
  go_ret
  exact ⟨ret_bool (by rw[Hfin.out]),((Below.refl _ w).alloc (Nat.le_refl _) _).alloc (by simp) _⟩
 have q1:(a.kind == b.kind)=true:=by rw[beq_iff_eq];exact h1
 by_cases h2:a.nonce=b.nonce
 rotate_left
 ·have hq:(a.nonce == b.nonce)=false:=by rw[beq_eq_false_iff_ne];exact h2
  have Hfin:=hid (show sameM a b=false by simp[hs,h2])
  clear h1 h2 hs
  go_enter Tryz.func264,Tryz.ntmps264
  go_wp2_with fail
  go_ret
  exact ⟨ret_bool (by rw[Hfin.out]),((Below.refl _ w).alloc (Nat.le_refl _) _).alloc (by simp) _⟩
 have q2:(a.nonce == b.nonce)=true:=by rw[beq_iff_eq];exact h2
 by_cases h3:a.serial=b.serial
 rotate_left
 ·have hq:(a.serial == b.serial)=false:=by rw[beq_eq_false_iff_ne];exact h3
  have Hfin:=hid (show sameM a b=false by simp[hs,h3])
  clear h1 h2 h3 hs
  go_enter Tryz.func264,Tryz.ntmps264
  go_wp2_with fail
  go_ret
  exact ⟨ret_bool (by rw[Hfin.out]),((Below.refl _ w).alloc (Nat.le_refl _) _).alloc (by simp) _⟩
 have q3:(a.serial == b.serial)=true:=by rw[beq_iff_eq];exact h3
 by_cases h4:a.ack=b.ack
 rotate_left
 ·have hq:(a.ack == b.ack)=false:=by rw[beq_eq_false_iff_ne];exact h4
  have Hfin:=hid (show sameM a b=false by simp[hs,h4])
  clear h1 h2 h3 h4 hs
  go_enter Tryz.func264,Tryz.ntmps264
  go_wp2_with fail
  go_ret
  exact ⟨ret_bool (by rw[Hfin.out]),((Below.refl _ w).alloc (Nat.le_refl _) _).alloc (by simp) _⟩
 have q4:(a.ack == b.ack)=true:=by rw[beq_iff_eq];exact h4
 have hfin:sameM a b=(decide (a.ins=b.ins)&&(a.sum == b.sum)&&(a.lead == b.lead)):=by
  rw[hs]
  simp[h1,h2,h3,h4]
  rfl
 have Hfin:=hid hfin
 clear h1 h2 h3 h4 hs hfin
 by_cases h5:decide (a.ins=b.ins)=true
 ·rw[h5] at Hfin
  by_cases h6:(a.sum == b.sum)=true
  ·rw[h6] at Hfin
   go_enter Tryz.func264,Tryz.ntmps264
   go_wp2_with fail
   refine (eq_bytes _ _ _ _ _ a.ins b.ins hA'.out hB'.out).mono ?_
   rintro e w' ⟨rfl,q,rfl⟩
   go_wp2_with fail
   go_ret
   exact ⟨ret_bool (by rw[Hfin.out];simp),below_drewM (((Below.refl _ w).alloc (Nat.le_refl _) _).alloc (by simp) _) _⟩
  ·have h6':(a.sum == b.sum)=false:=by simpa using h6
   rw[h6'] at Hfin
   clear h6
   go_enter Tryz.func264,Tryz.ntmps264
   go_wp2_with fail
   refine (eq_bytes _ _ _ _ _ a.ins b.ins hA'.out hB'.out).mono ?_
   rintro e w' ⟨rfl,q,rfl⟩
   go_wp2_with fail
   go_ret
   exact ⟨ret_bool (by rw[Hfin.out];simp),below_drewM (((Below.refl _ w).alloc (Nat.le_refl _) _).alloc (by simp) _) _⟩
 ·have h5':decide (a.ins=b.ins)=false:=by simpa using h5
  rw[h5'] at Hfin
  clear h5
  go_enter Tryz.func264,Tryz.ntmps264
  go_wp2_with fail
  refine (eq_bytes _ _ _ _ _ a.ins b.ins hA'.out hB'.out).mono ?_
  rintro e w' ⟨rfl,q,rfl⟩
  go_wp2_with fail
  go_ret
  exact ⟨ret_bool (by rw[Hfin.out];simp),below_drewM (((Below.refl _ w).alloc (Nat.le_refl _) _).alloc (by simp) _) _⟩
end
section
open Go.RowKit
variable {w:World} {m:Msg} {a:Option Addr} {c:Nat}
def bareA (m:Msg) (a:Option Addr):Option Addr:=if m.kind=3 then a else none
def bareC (m:Msg) (c:Nat):Nat:=if m.kind=3 then c else 0
set_option maxHeartbeats 2000000 in
theorem wire_bare (m:Msg) (a:Option Addr) (c:Nat) (w:World) :
  Calls Tryz.prog 265 #[(.agg #[.int .i64 m.kind,.int .u32 m.nonce,.int .u16 m.serial,.int .u16 m.ack,.slice a m.ins.length c,.int .u32 m.sum,.int .i64 m.lead])] w fun e w'=>e=.returned (.agg #[.int .i64 (bareM m).kind,.int .u32 (bareM m).nonce,.int .u16 (bareM m).serial,.int .u16 (bareM m).ack,.slice (bareA m a) (bareM m).ins.length (bareC m c),.int .u32 (bareM m).sum,.int .i64 (bareM m).lead])∧Below w.heap.size w w':=by
 by_cases h0:m.kind=3
 ·have hn:namesK m.kind=14:=by simp[namesK,h0]
  have hb:bareM m=⟨m.kind,0,m.serial,m.ack,m.ins,0,0⟩:=by simp[bareM,h0]
  have ha:bareA m a=a:=by simp[bareA,h0]
  have hc:bareC m c=c:=by simp[bareC,h0]
  rw[hb,ha,hc]
  have Hn:=hid hn
  clear hn hb ha hc h0
  go_enter Tryz.func265,Tryz.ntmps265
  go_wp2_with fail
  refine (wire_names _ _).mono ?_
  rintro e w' ⟨rfl,rfl⟩
  rw[Hn.out]
  go_wp2_with fail
  exact bodyPost_ret (v:=.agg #[.int .i64 m.kind,.int .u32 0,.int .u16 m.serial,.int .u16 m.ack,.slice a m.ins.length c,.int .u32 0,.int .i64 0]) (by simp[results,Tryz.results265,go_sem]) rfl ⟨rfl,(((Below.refl _ w).alloc (Nat.le_refl _) _).alloc (by simp) _).alloc (by simp;omega) _⟩
 by_cases h1:m.kind=1∨m.kind=2
 ·have hn:namesK m.kind=1:=by rcases h1 with h|h<;>simp[namesK,h]
  have hb:bareM m=⟨m.kind,m.nonce,0,0,[],0,0⟩:=by rcases h1 with h|h<;>simp[bareM,h]
  have ha:bareA m a=none:=by simp[bareA,h0]
  have hc:bareC m c=0:=by simp[bareC,h0]
  rw[hb,ha,hc]
  have Hn:=hid hn
  clear hn hb ha hc h0 h1
  go_enter Tryz.func265,Tryz.ntmps265
  go_wp2_with fail
  refine (wire_names _ _).mono ?_
  rintro e w' ⟨rfl,rfl⟩
  rw[Hn.out]
  go_wp2_with fail
  exact bodyPost_ret (v:=.agg #[.int .i64 m.kind,.int .u32 m.nonce,.int .u16 0,.int .u16 0,.slice none 0 0,.int .u32 0,.int .i64 0]) (by simp[results,Tryz.results265,go_sem]) rfl ⟨rfl,(((Below.refl _ w).alloc (Nat.le_refl _) _).alloc (by simp) _).alloc (by simp;omega) _⟩
 by_cases h2:m.kind=4
 ·have hn:namesK m.kind=18:=by simp[namesK,h2]
  have hb:bareM m=⟨m.kind,0,m.serial,0,[],m.sum,0⟩:=by simp[bareM,h2]
  have ha:bareA m a=none:=by simp[bareA,h0]
  have hc:bareC m c=0:=by simp[bareC,h0]
  rw[hb,ha,hc]
  have Hn:=hid hn
  clear hn hb ha hc h0 h1 h2
  go_enter Tryz.func265,Tryz.ntmps265
  go_wp2_with fail
  refine (wire_names _ _).mono ?_
  rintro e w' ⟨rfl,rfl⟩
  rw[Hn.out]
  go_wp2_with fail
  exact bodyPost_ret (v:=.agg #[.int .i64 m.kind,.int .u32 0,.int .u16 m.serial,.int .u16 0,.slice none 0 0,.int .u32 m.sum,.int .i64 0]) (by simp[results,Tryz.results265,go_sem]) rfl ⟨rfl,(((Below.refl _ w).alloc (Nat.le_refl _) _).alloc (by simp) _).alloc (by simp;omega) _⟩
 by_cases h3:m.kind=5
 ·have hn:namesK m.kind=4:=by simp[namesK,h3]
  have hb:bareM m=⟨m.kind,0,0,m.ack,[],0,0⟩:=by simp[bareM,h3]
  have ha:bareA m a=none:=by simp[bareA,h0]
  have hc:bareC m c=0:=by simp[bareC,h0]
  rw[hb,ha,hc]
  have Hn:=hid hn
  clear hn hb ha hc h0 h1 h2 h3
  go_enter Tryz.func265,Tryz.ntmps265
  go_wp2_with fail
  refine (wire_names _ _).mono ?_
  rintro e w' ⟨rfl,rfl⟩
  rw[Hn.out]
  go_wp2_with fail
  exact bodyPost_ret (v:=.agg #[.int .i64 m.kind,.int .u32 0,.int .u16 0,.int .u16 m.ack,.slice none 0 0,.int .u32 0,.int .i64 0]) (by simp[results,Tryz.results265,go_sem]) rfl ⟨rfl,(((Below.refl _ w).alloc (Nat.le_refl _) _).alloc (by simp) _).alloc (by simp;omega) _⟩
 by_cases h4:m.kind=6
 ·have hn:namesK m.kind=34:=by simp[namesK,h4]
  have hb:bareM m=⟨m.kind,0,m.serial,0,[],0,m.lead⟩:=by simp[bareM,h4]
  have ha:bareA m a=none:=by simp[bareA,h0]
  have hc:bareC m c=0:=by simp[bareC,h0]
  rw[hb,ha,hc]
  have Hn:=hid hn
  clear hn hb ha hc h0 h1 h2 h3 h4
  go_enter Tryz.func265,Tryz.ntmps265
  go_wp2_with fail
  refine (wire_names _ _).mono ?_
  rintro e w' ⟨rfl,rfl⟩
  rw[Hn.out]
  go_wp2_with fail
  exact bodyPost_ret (v:=.agg #[.int .i64 m.kind,.int .u32 0,.int .u16 m.serial,.int .u16 0,.slice none 0 0,.int .u32 0,.int .i64 m.lead]) (by simp[results,Tryz.results265,go_sem]) rfl ⟨rfl,(((Below.refl _ w).alloc (Nat.le_refl _) _).alloc (by simp) _).alloc (by simp;omega) _⟩
 have hn:namesK m.kind=0:=by simp[namesK,h0,h1,h2,h3,h4]
 have hb:bareM m=⟨m.kind,0,0,0,[],0,0⟩:=by simp[bareM,h0,h1,h2,h3,h4]
 have ha:bareA m a=none:=by simp[bareA,h0]
 have hc:bareC m c=0:=by simp[bareC,h0]
 rw[hb,ha,hc]
 have Hn:=hid hn
 clear hn hb ha hc h0 h1 h2 h3 h4
 go_enter Tryz.func265,Tryz.ntmps265
 go_wp2_with fail
 refine (wire_names _ _).mono ?_
 rintro e w' ⟨rfl,rfl⟩
 rw[Hn.out]
 go_wp2_with fail
 exact bodyPost_ret (v:=.agg #[.int .i64 m.kind,.int .u32 0,.int .u16 0,.int .u16 0,.slice none 0 0,.int .u32 0,.int .i64 0]) (by simp[results,Tryz.results265,go_sem]) rfl ⟨rfl,(((Below.refl _ w).alloc (Nat.le_refl _) _).alloc (by simp) _).alloc (by simp;omega) _⟩
end
section
open Go.RowKit
variable {w:World} {a:Option Addr} {c:Nat}
theorem IsBytes.none (w:World):IsBytes w none 0 []:=⟨Nat.le_refl _,Nat.zero_le _,.inl rfl⟩
theorem IsBytes.after {L:List UInt8} (h:IsBytes w a c L) (x:After w):IsBytes x.to a c L:=
 h.keeps (S:=fun _=>False) (Keeps.of_below x.below (fun k h1 h2=>by omega)) (fun _ _ _=>id)
theorem bare_bytes (m:Msg) (h:IsBytes w a c m.ins):IsBytes w (bareA m a) (bareC m c) (bareM m).ins:=by
 unfold bareA bareC bareM
 by_cases h3:m.kind=3
 ·simp only[h3];exact h
 ·simp only[if_neg h3];exact IsBytes.none w
theorem blk_cell' (w:World) (vs:Array Value) (t:TypeId) {k:Nat} {v:Value} (hv:vs[k]?=some v):(w.alloc (.cells vs t)).cell? ⟨w.heap.size,k,none⟩=some v:=by
 unfold World.cell?
 rw[World.alloc_heap_new]
 exact hv
theorem right_yes4 {m:Msg} (h:RightP m):Ending.returned (.bool true)=.returned (.bool (decide (RightP m))):=by rw[decide_eq_true h]
theorem right_no4 {m:Msg} (h:¬ RightP m):Ending.returned (.bool false)=.returned (.bool (decide (RightP m))):=by rw[decide_eq_false h]
set_option maxHeartbeats 4000000 in
theorem wire_RightM (m:Msg) (h:IsBytes w a c m.ins) :
  Calls Tryz.prog 199 #[(.agg #[.int .i64 m.kind,.int .u32 m.nonce,.int .u16 m.serial,.int .u16 m.ack,.slice a m.ins.length c,.int .u32 m.sum,.int .i64 m.lead])] w fun e w'=>e=.returned (.bool (decide (RightP m)))∧Below w.heap.size w w':=by
 have hk:Keeps (fun _=>False) w (w.alloc (.cells #[.int .i64 m.kind,.int .u32 m.nonce,.int .u16 m.serial,.int .u16 m.ack,.slice a m.ins.length c,.int .u32 m.sum,.int .i64 m.lead] 254)):=(Keeps.refl _ w).alloc _
 have h1:=h.keeps hk (fun _ _ _=>id)
 have Hsame:=hid (fun x:After (w.alloc (.cells #[.int .i64 m.kind,.int .u32 m.nonce,.int .u16 m.serial,.int .u16 m.ack,.slice a m.ins.length c,.int .u32 m.sum,.int .i64 m.lead] 254))=>wire_Same (a:=m) (b:=bareM m) (h1.after x) (bare_bytes m (h1.after x)))
 have Hfit:=hid (fun x:After (w.alloc (.cells #[.int .i64 m.kind,.int .u32 m.nonce,.int .u16 m.serial,.int .u16 m.ack,.slice a m.ins.length c,.int .u32 m.sum,.int .i64 m.lead] 254))=>pack_Fits x.to a c m.ins (h1.after x))
 have hc:∀ (k:Nat) (v:Value),(#[.int .i64 m.kind,.int .u32 m.nonce,.int .u16 m.serial,.int .u16 m.ack,.slice a m.ins.length c,.int .u32 m.sum,.int .i64 m.lead]:Array Value)[k]?=some v→∀ x:After (w.alloc (.cells #[.int .i64 m.kind,.int .u32 m.nonce,.int .u16 m.serial,.int .u16 m.ack,.slice a m.ins.length c,.int .u32 m.sum,.int .i64 m.lead] 254)),x.to.cell? ⟨w.heap.size,k,none⟩=some v:=fun k v hv x=>
  (Keeps.of_below (S:=fun _=>False) x.below (fun k h1 h2=>by omega)).cell (p:=⟨w.heap.size,k,none⟩) (blk_cell' w _ _ hv) id
 have c0:=hc 0 _ rfl
 have c1:=hc 1 _ rfl
 have c2:=hc 2 _ rfl
 have c3:=hc 3 _ rfl
 have c4:=hc 4 _ rfl
 have c5:=hc 5 _ rfl
 have c6:=hc 6 _ rfl
 have hR:=hid (right_wire m)
 clear hc h h1 hk
 by_cases h1:m.kind<1
 ·have Hno:=hid (show ¬ RightP m from fun h=>by have:=h.1.1;omega)
  have hd1:decide (m.kind<1)=true:=by simpa using h1
  go_enter Tryz.func199,Tryz.ntmps199
  go_wp2_with fail
  refine wp_region_after (by kernel_rfl) (by kernel_rfl) ?_
  repeat (go_big_quiet_step (first|(go_at_call 265;exact Calls.after_of (wire_bare m a c _))|(go_at_call 264;exact Calls.after_of (Hsame.out _))|(go_at_call 266;exact Calls.after_same (Hfit.out _))))
  refine wpQuiet_nil ?_
  intro _ hw2
  obtain ⟨x,hw3⟩:=hw2
  subst hw3
  go_wp2_with fail
  all_goals
   go_ret
   exact ⟨right_no4 Hno.out,((Below.refl _ w).alloc (Nat.le_refl _) _).trans (x.below.mono (by simp))⟩
 have hd1:decide (m.kind<1)=false:=by simpa using h1
 by_cases h2:7<m.kind
 ·have Hno:=hid (show ¬ RightP m from fun h=>by have:=h.1.2;omega)
  have hd2:decide (7<m.kind)=true:=by simpa using h2
  go_enter Tryz.func199,Tryz.ntmps199
  go_wp2_with fail
  refine wp_region_after (by kernel_rfl) (by kernel_rfl) ?_
  repeat (go_big_quiet_step (first|(go_at_call 265;exact Calls.after_of (wire_bare m a c _))|(go_at_call 264;exact Calls.after_of (Hsame.out _))|(go_at_call 266;exact Calls.after_same (Hfit.out _))))
  refine wpQuiet_nil ?_
  intro _ hw2
  obtain ⟨x,hw3⟩:=hw2
  subst hw3
  go_wp2_with fail
  all_goals
   go_ret
   exact ⟨right_no4 Hno.out,((Below.refl _ w).alloc (Nat.le_refl _) _).trans (x.below.mono (by simp))⟩
 have hd2:decide (7<m.kind)=false:=by simpa using h2
 by_cases hs:sameM m (bareM m)=true
 rotate_left
 ·have hs':sameM m (bareM m)=false:=by simpa using hs
  have Hno:=hid (show ¬ RightP m from fun h=>hs ((hR.out.1 h).2.1))
  rw[hs'] at Hsame
  clear hs hs'
  go_enter Tryz.func199,Tryz.ntmps199
  go_wp2_with fail
  refine wp_region_after (by kernel_rfl) (by kernel_rfl) ?_
  repeat (go_big_quiet_step (first|(go_at_call 265;exact Calls.after_of (wire_bare m a c _))|(go_at_call 264;exact Calls.after_of (Hsame.out _))|(go_at_call 266;exact Calls.after_same (Hfit.out _))))
  refine wpQuiet_nil ?_
  intro _ hw2
  obtain ⟨x,hw3⟩:=hw2
  subst hw3
  go_wp2_with fail
  all_goals
   go_ret
   exact ⟨right_no4 Hno.out,((Below.refl _ w).alloc (Nat.le_refl _) _).trans (x.below.mono (by simp))⟩
 rw[hs] at Hsame
 by_cases hf:fits m.ins=true
 rotate_left
 ·have hf':fits m.ins=false:=by simpa using hf
  have Hno:=hid (show ¬ RightP m from fun h=>hf h.2.1)
  rw[hf'] at Hfit
  clear hf hf' hs
  go_enter Tryz.func199,Tryz.ntmps199
  go_wp2_with fail
  refine wp_region_after (by kernel_rfl) (by kernel_rfl) ?_
  repeat (go_big_quiet_step (first|(go_at_call 265;exact Calls.after_of (wire_bare m a c _))|(go_at_call 264;exact Calls.after_of (Hsame.out _))|(go_at_call 266;exact Calls.after_same (Hfit.out _))))
  refine wpQuiet_nil ?_
  intro _ hw2
  obtain ⟨x,hw3⟩:=hw2
  subst hw3
  go_wp2_with fail
  all_goals
   go_ret
   exact ⟨right_no4 Hno.out,((Below.refl _ w).alloc (Nat.le_refl _) _).trans (x.below.mono (by simp))⟩
 rw[hf] at Hfit
 by_cases h3:m.lead < -1000
 ·have Hno:=hid (show ¬ RightP m from fun h=>by have:=h.2.2.1.1;omega)
  clear hf hs
  go_enter Tryz.func199,Tryz.ntmps199
  go_wp2_with fail
  refine wp_region_after (by kernel_rfl) (by kernel_rfl) ?_
  repeat (go_big_quiet_step (first|(go_at_call 265;exact Calls.after_of (wire_bare m a c _))|(go_at_call 264;exact Calls.after_of (Hsame.out _))|(go_at_call 266;exact Calls.after_same (Hfit.out _))))
  refine wpQuiet_nil ?_
  intro _ hw2
  obtain ⟨x,hw3⟩:=hw2
  subst hw3
  go_wp2_with fail
  all_goals
   go_ret
   exact ⟨right_no4 Hno.out,((Below.refl _ w).alloc (Nat.le_refl _) _).trans (x.below.mono (by simp))⟩
 by_cases h4:1000<m.lead
 ·have Hno:=hid (show ¬ RightP m from fun h=>by have:=h.2.2.1.2;omega)
  clear hf hs
  go_enter Tryz.func199,Tryz.ntmps199
  go_wp2_with fail
  refine wp_region_after (by kernel_rfl) (by kernel_rfl) ?_
  repeat (go_big_quiet_step (first|(go_at_call 265;exact Calls.after_of (wire_bare m a c _))|(go_at_call 264;exact Calls.after_of (Hsame.out _))|(go_at_call 266;exact Calls.after_same (Hfit.out _))))
  refine wpQuiet_nil ?_
  intro _ hw2
  obtain ⟨x,hw3⟩:=hw2
  subst hw3
  go_wp2_with fail
  all_goals
   go_ret
   exact ⟨right_no4 Hno.out,((Below.refl _ w).alloc (Nat.le_refl _) _).trans (x.below.mono (by simp))⟩
 by_cases h5:m.kind=3∧m.ins.length=0
 ·have Hno:=hid (show ¬ RightP m from fun h=>by have:=(h.2.2.2.2.2.2.1).2 h5.1;omega)
  have q3:(m.kind != 3)=false:=by simp[h5.1]
  have q4:decide (0<m.ins.length)=false:=by simp[List.length_eq_zero_iff.1 h5.2]
  clear hf hs h5
  go_enter Tryz.func199,Tryz.ntmps199
  go_wp2_with fail
  refine wp_region_after (by kernel_rfl) (by kernel_rfl) ?_
  repeat (go_big_quiet_step (first|(go_at_call 265;exact Calls.after_of (wire_bare m a c _))|(go_at_call 264;exact Calls.after_of (Hsame.out _))|(go_at_call 266;exact Calls.after_same (Hfit.out _))))
  refine wpQuiet_nil ?_
  intro _ hw2
  obtain ⟨x,hw3⟩:=hw2
  subst hw3
  go_wp2_with fail
  all_goals
   go_ret
   exact ⟨right_no4 Hno.out,((Below.refl _ w).alloc (Nat.le_refl _) _).trans (x.below.mono (by simp))⟩
 have Hy:=hid (show RightP m from hR.out.2 ⟨⟨by omega,by omega⟩,hs,hf,⟨by omega,by omega⟩,by omega⟩)
 clear hf hs
 by_cases h6:m.kind=3
 ·have q3:(m.kind != 3)=false:=by simp[h6]
  have q4:0<m.ins.length:=by omega
  clear h5 h6
  go_enter Tryz.func199,Tryz.ntmps199
  go_wp2_with fail
  refine wp_region_after (by kernel_rfl) (by kernel_rfl) ?_
  repeat (go_big_quiet_step (first|(go_at_call 265;exact Calls.after_of (wire_bare m a c _))|(go_at_call 264;exact Calls.after_of (Hsame.out _))|(go_at_call 266;exact Calls.after_same (Hfit.out _))))
  refine wpQuiet_nil ?_
  intro _ hw2
  obtain ⟨x,hw3⟩:=hw2
  subst hw3
  go_wp2_with fail
  all_goals
   go_ret
   exact ⟨right_yes4 Hy.out,((Below.refl _ w).alloc (Nat.le_refl _) _).trans (x.below.mono (by simp))⟩
 ·have q3:(m.kind != 3)=true:=by simp[h6]
  clear h5 h6
  go_enter Tryz.func199,Tryz.ntmps199
  go_wp2_with fail
  refine wp_region_after (by kernel_rfl) (by kernel_rfl) ?_
  repeat (go_big_quiet_step (first|(go_at_call 265;exact Calls.after_of (wire_bare m a c _))|(go_at_call 264;exact Calls.after_of (Hsame.out _))|(go_at_call 266;exact Calls.after_same (Hfit.out _))))
  refine wpQuiet_nil ?_
  intro _ hw2
  obtain ⟨x,hw3⟩:=hw2
  subst hw3
  go_wp2_with fail
  all_goals
   go_ret
   exact ⟨right_yes4 Hy.out,((Below.refl _ w).alloc (Nat.le_refl _) _).trans (x.below.mono (by simp))⟩
end
end Go.Proofs.YtalagblioepadaaGreatDoor
