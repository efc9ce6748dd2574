/- The proof, part 33. -/
import Derived.Test.YtalagblioepadaaGreatDoorZa23
import Derived.Test.YtalagblioepadaaGreatDoorZa27
import Derived.Test.YtalagblioepadaaGreatDoorZa03
namespace Go.Proofs.YtalagblioepadaaGreatDoor
section
open Go.RowKit
set_option maxRecDepth 10000
structure Lk where
 nonce:Int
 patience:Int
 state:Int
 bye:Bool
 ticks:Int
 heard:Int
 own:List UInt8
 acked:Int
 next:Int
 out:List Msg
 good:Int
 bad:Int
 stale:Int
structure LB where
 p:Nat
 h1:Nat
 d1:Nat
 h2:Nat
 d2:Nat
def LB.S (B:LB) (b:Nat):Prop:=b=B.p∨b=B.h1∨b=B.d1∨b=B.h2∨b=B.d2
structure LB.ok (B:LB):Prop where
 a:B.p≠B.h1∧B.p≠B.d1∧B.p≠B.h2∧B.p≠B.d2
 b:B.h1≠B.d1∧B.h1≠B.h2∧B.h1≠B.d2
 c:B.d1≠B.h2∧B.d1≠B.d2∧B.h2≠B.d2
def lkC (B:LB) (l:Lk):Array Value:=#[.int .u32 l.nonce,.int .i64 l.patience,.int .i64 l.state,.bool l.bye,.int .i64 l.ticks,.int .i64 l.heard,.pointer (some ⟨B.h1,0,none⟩),.int .i64 l.acked,.int .i64 l.next,.pointer (some ⟨B.h2,0,none⟩),.int .i64 l.good,.int .i64 l.bad,.int .i64 l.stale]
def u8I (l:List UInt8):List Int:=l.map fun c=>(c.toNat:Int)
structure IsLink (w:World) (B:LB) (l:Lk):Prop where
 blk:w.heap[B.p]?=some (.cells (lkC B l) 124 (0,0))
 own:IsRing w B.h1 B.d1 64 (u8I l.own)
 out:IsMR w B.h2 B.d2 8 l.out
 ok:B.ok
namespace IsLink
variable {w w':World} {B:LB} {l:Lk}
theorem lt (h:IsLink w B l):B.p<w.heap.size∧B.h1<w.heap.size∧B.d1<w.heap.size∧B.h2<w.heap.size∧B.d2<w.heap.size:=
 ⟨blk_lt h.blk,h.own.le.2.2.2.1,h.own.le.2.2.2.2.1,h.out.le.2.2.2.1,h.out.le.2.2.2.2.1⟩
theorem keeps {S:Nat→Prop} (h:IsLink w B l) (hk:Keeps S w w') (hs:∀ b,B.S b→¬ S b):IsLink w' B l:=
 ⟨hk.heap h.blk (hs _ (.inl rfl)),h.own.keeps hk (hs _ (.inr (.inl rfl))) (hs _ (.inr (.inr (.inl rfl)))),h.out.keeps hk (hs _ (.inr (.inr (.inr (.inl rfl))))) (hs _ (.inr (.inr (.inr (.inr rfl))))),h.ok⟩
theorem drew (h:IsLink w B l) (n:Nat):IsLink (w.drewN n) B l:=h.keeps (S:=fun _=>False) ((Keeps.refl _ w).drewN n) (fun _ _=>id)
theorem below (h:IsLink w B l) (hb:Below w.heap.size w w'):IsLink w' B l:=h.keeps (S:=fun _=>False) (Keeps.of_below hb (fun k h1 h2=>by omega)) (fun _ _=>id)
theorem set (h:IsLink w B l) (k:Nat) (v:Value) (l':Lk) (hc:(lkC B l).setIfInBounds k v=lkC B l') (ho:l'.own=l.own) (hu:l'.out=l.out):IsLink (w.setCell ⟨B.p,k,none⟩ v) B l':=by
 have hk:Keeps (fun b=>b=B.p) w (w.setCell ⟨B.p,k,none⟩ v):=Keeps.setCell (S:=fun b=>b=B.p) (Keeps.refl _ w) (p:=⟨B.p,k,none⟩) rfl _
 refine ⟨by rw[blk_set h.blk k v,hc],?_,?_,h.ok⟩
 ·rw[ho];exact h.own.keeps hk (Ne.symm h.ok.a.1) (Ne.symm h.ok.a.2.1)
 ·rw[hu];exact h.out.keeps hk (Ne.symm h.ok.a.2.2.1) (Ne.symm h.ok.a.2.2.2)
theorem ownd (h:IsLink w B l) {L:List UInt8} {l':Lk} (hR:IsRing w' B.h1 B.d1 64 (u8I L)) (hk:Keeps (fun b=>b=B.h1∨b=B.d1) w w') (hc:lkC B l'=lkC B l) (ho:l'.own=L) (hu:l'.out=l.out):IsLink w' B l':=by
 have a:=h.ok.a
 have b:=h.ok.b
 have c:=h.ok.c
 refine ⟨?_,by rw[ho];exact hR,?_,h.ok⟩
 ·rw[hc];exact hk.heap h.blk (by omega)
 ·rw[hu];exact h.out.keeps hk (by omega) (by omega)
theorem outd (h:IsLink w B l) {L:List Msg} {l':Lk} (hR:IsMR w' B.h2 B.d2 8 L) (hk:Keeps (fun b=>b=B.h2∨b=B.d2) w w') (hc:lkC B l'=lkC B l) (ho:l'.own=l.own) (hu:l'.out=L):IsLink w' B l':=by
 have a:=h.ok.a
 have b:=h.ok.b
 have c:=h.ok.c
 refine ⟨?_,?_,by rw[hu];exact hR,h.ok⟩
 ·rw[hc];exact hk.heap h.blk (by omega)
 ·rw[ho];exact h.own.keeps hk (by omega) (by omega)
theorem c0 (h:IsLink w B l):w.cell? ⟨B.p,0,none⟩=some (.int .u32 l.nonce):=blk_cell h.blk rfl
theorem c1 (h:IsLink w B l):w.cell? ⟨B.p,1,none⟩=some (.int .i64 l.patience):=blk_cell h.blk rfl
theorem c2 (h:IsLink w B l):w.cell? ⟨B.p,2,none⟩=some (.int .i64 l.state):=blk_cell h.blk rfl
theorem c3 (h:IsLink w B l):w.cell? ⟨B.p,3,none⟩=some (.bool l.bye):=blk_cell h.blk rfl
theorem c4 (h:IsLink w B l):w.cell? ⟨B.p,4,none⟩=some (.int .i64 l.ticks):=blk_cell h.blk rfl
theorem c5 (h:IsLink w B l):w.cell? ⟨B.p,5,none⟩=some (.int .i64 l.heard):=blk_cell h.blk rfl
theorem c6 (h:IsLink w B l):w.cell? ⟨B.p,6,none⟩=some (.pointer (some ⟨B.h1,0,none⟩)):=blk_cell h.blk rfl
theorem c7 (h:IsLink w B l):w.cell? ⟨B.p,7,none⟩=some (.int .i64 l.acked):=blk_cell h.blk rfl
theorem c8 (h:IsLink w B l):w.cell? ⟨B.p,8,none⟩=some (.int .i64 l.next):=blk_cell h.blk rfl
theorem c9 (h:IsLink w B l):w.cell? ⟨B.p,9,none⟩=some (.pointer (some ⟨B.h2,0,none⟩)):=blk_cell h.blk rfl
theorem c10 (h:IsLink w B l):w.cell? ⟨B.p,10,none⟩=some (.int .i64 l.good):=blk_cell h.blk rfl
theorem c11 (h:IsLink w B l):w.cell? ⟨B.p,11,none⟩=some (.int .i64 l.bad):=blk_cell h.blk rfl
theorem c12 (h:IsLink w B l):w.cell? ⟨B.p,12,none⟩=some (.int .i64 l.stale):=blk_cell h.blk rfl
theorem free (h:IsLink w B l) (k:Nat):w.frozen? ⟨B.p,k,none⟩=false:=blk_free h.blk k
end IsLink
variable {w:World} {B:LB} {l:Lk}
theorem lk_State (h:IsLink w B l):Calls Tryz.prog 20 #[.pointer (some ⟨B.p,0,none⟩)] w fun e w'=>e=.returned (.int .i64 l.state)∧w=w':=by
 have c2:=h.c2
 go_enter Tryz.func20,Tryz.ntmps20
 go_wp2
 go_ret
 exact ⟨rfl,rfl⟩
theorem lk_Waits (h:IsLink w B l):Calls Tryz.prog 31 #[.pointer (some ⟨B.p,0,none⟩)] w fun e w'=>e=.returned (.int .i64 l.own.length)∧w=w':=by
 have c6:=h.c6
 have hL:=is_Len h.own
 rw[show (u8I l.own).length=l.own.length by simp[u8I]] at hL
 go_enter Tryz.func31,Tryz.ntmps31
 go_wp2_with fail
 refine hL.mono ?_
 rintro e w' ⟨rfl,rfl⟩
 go_wp2
 go_ret
 exact ⟨rfl,rfl⟩
theorem lk_frame (f:Int) (w:World):Calls Tryz.prog 194 #[.int .i64 f] w fun e w'=>e=.returned (.bool (decide (0≤f∧f≤1073741824)))∧w=w':=by
 by_cases h1:0≤f
 ·by_cases h2:f≤1073741824
  ·go_enter Tryz.func194,Tryz.ntmps194
   go_wp2
   go_ret
   exact ⟨ret_bool (by simp;omega),rfl⟩
  ·go_enter Tryz.func194,Tryz.ntmps194
   go_wp2
   go_ret
   exact ⟨ret_bool (by simp;omega),rfl⟩
 ·go_enter Tryz.func194,Tryz.ntmps194
  go_wp2
  go_ret
  exact ⟨ret_bool (by simp;omega),rfl⟩
def Lk.new (nonce patience first:Int):Lk:=⟨nonce,patience,0,false,0,0,[],first,first,[],0,0,0⟩
theorem lk_New (nonce patience first:Int) (hp:1≤patience∧patience≤10000) (hf:0≤first∧first≤1073741824) (w:World) :
  Calls Tryz.prog 129 #[.int .u32 nonce,.int .i64 patience,.int .i64 first] w fun e w'=>
   e=.returned (.tuple #[.pointer (some ⟨w.heap.size+4,0,none⟩),.int .i64 0])∧IsLink w' ⟨w.heap.size+4,w.heap.size+1,w.heap.size,w.heap.size+3,w.heap.size+2⟩ (Lk.new nonce patience first)∧Below w.heap.size w w':=by
 have hF:=fun W=>lk_frame first W
 rw[decide_eq_true hf] at hF
 go_enter Tryz.func129,Tryz.ntmps129
 go_wp2_with fail
 refine (hF _).mono ?_
 rintro e _ ⟨rfl,rfl⟩
 go_wp2_with fail
 refine (is_New2 64 (by omega) (by omega) _).mono ?_
 rintro e w1 ⟨rfl,hR1,hb1,hs1⟩
 go_wp2_with fail
 refine (ms_New8 _).mono ?_
 rintro e w2 ⟨rfl,hM2,hb2,hs2⟩
 have hR2:=hR1.keeps (Keeps.of_below (S:=fun _=>False) hb2 (fun k h1 h2=>by omega)) id id
 rw[show w1.heap.size+1=w.heap.size+3 by omega] at hM2 ⊢
 rw[hs1] at hM2
 have hs3:w2.heap.size=w.heap.size+4:=by omega
 have hbe:=hb1.trans (hb2.mono (by omega))
 clear hb1 hb2 hR1 hs2 hF
 have HR:=hid hR2
 have HM:=hid hM2
 clear hR2 hM2
 go_wp2
 go_ret2
 have hk:=(Keeps.refl (fun _=>False) w2).alloc (.cells (lkC ⟨w.heap.size+4,w.heap.size+1,w.heap.size,w.heap.size+3,w.heap.size+2⟩ (Lk.new nonce patience first)) 124)
 have hB:=blk_new w2 (.cells (lkC ⟨w.heap.size+4,w.heap.size+1,w.heap.size,w.heap.size+3,w.heap.size+2⟩ (Lk.new nonce patience first)) 124)
 rw[hs3] at hB
 refine ⟨rfl,⟨hB,HR.out.keeps hk id id,HM.out.keeps hk id id,⟨?_,?_,?_⟩⟩,hbe.alloc (by omega) _⟩<;>simp<;>omega
def ownE (l:Lk) (f:Int) (x:UInt8):Int:=if l.state=2 then 12 else if 63<(x.toNat:Int) then 1 else if f≠l.acked+l.own.length then 11 else if l.own.length=64 then 8 else 0
def ownL (l:Lk) (f:Int) (x:UInt8):Lk:=if ownE l f x=0 then { l with own:=l.own++[x] } else l
theorem lk_Own (h:IsLink w B l) (f:Int) (x:UInt8) (ha:0≤l.acked∧l.acked≤1099511627776) :
  Calls Tryz.prog 145 #[.pointer (some ⟨B.p,0,none⟩),.int .i64 f,.int .u8 (x.toNat:Int)] w fun e w'=>e=.returned (.int .i64 (ownE l f x))∧IsLink w' B (ownL l f x)∧Keeps B.S w w':=by
 have c2:=h.c2
 have c6:=h.c6
 have c7:=h.c7
 unfold ownL ownE
 by_cases h0:l.state=2
 ·rw[if_pos h0,if_neg (by decide)]
  rw[h0] at c2
  have H:=hid h
  clear h h0
  go_enter Tryz.func145,Tryz.ntmps145
  go_wp2
  go_ret
  exact ⟨rfl,H.out,Keeps.refl _ _⟩
 rw[if_neg h0]
 have q0:(l.state == 2)=false:=by rw[beq_eq_false_iff_ne];exact h0
 by_cases h1:63<(x.toNat:Int)
 ·rw[if_pos h1,if_neg (by decide)]
  have H:=hid h
  clear h h0
  go_enter Tryz.func145,Tryz.ntmps145
  go_wp2
  go_ret
  exact ⟨rfl,H.out,Keeps.refl _ _⟩
 rw[if_neg h1]
 have hle:=h.own.le.1
 have hul:(u8I l.own).length=l.own.length:=by simp[u8I]
 rw[hul] at hle
 have hLen:=fun n=>is_Len (h.drew n).own
 rw[hul] at hLen
 have HL:=hid hLen
 clear hLen
 by_cases h2:f≠l.acked+l.own.length
 ·rw[if_pos h2,if_neg (by decide)]
  have q2:(f != l.acked+(l.own.length:Int))=true:=by simpa using h2
  have H:=hid h
  clear h h0 h2 hul
  generalize l.acked=ac at *
  go_enter Tryz.func145,Tryz.ntmps145
  go_wp2_with fail
  go_quiet ((go_at_call 55;exact (HL.out _).mono fun _ _ h=>⟨h.1,_,h.2.symm⟩))
  go_wp2_with fail
  go_ret
  exact ⟨rfl,H.out.drew _,(Keeps.refl _ _).drewN _⟩
 rw[if_neg h2]
 have h2:f=l.acked+l.own.length:=by simpa using h2
 have q2:(f != l.acked+(l.own.length:Int))=false:=by simp[h2]
 have hle2:(u8I l.own).length=l.own.length:=hul
 by_cases h3:l.own.length=64
 ·rw[if_pos h3,if_neg (by decide)]
  have hP:=fun n=>is_Push_full (h.drew n).own (by rw[hul,h3]) (x.toNat:Int)
  have H:=hid h
  have HP:=hid hP
  clear h h0 hul hP h3 hle2
  generalize l.acked=ac at *
  generalize l.own.length=ol at *
  clear h2
  go_enter Tryz.func145,Tryz.ntmps145
  go_wp2_with fail
  go_quiet ((go_at_call 55;exact (HL.out _).mono fun _ _ h=>⟨h.1,_,h.2.symm⟩))
  go_wp2_with fail
  refine (HP.out _).mono ?_
  rintro e w' ⟨rfl,hR,hk⟩
  go_wp2
  go_ret
  exact ⟨rfl,(H.out.drew _).ownd hR hk rfl rfl rfl,((Keeps.refl _ w).drewN _).trans (hk.mono fun b _ h=>h.elim (fun e=>.inr (.inl e)) (fun e=>.inr (.inr (.inl e))))⟩
 ·rw[if_neg h3,if_pos rfl]
  have hP:=fun n=>is_Push (h.drew n).own (by rw[hul];omega) (x.toNat:Int)
  have H:=hid h
  have HP:=hid hP
  clear h h0 hul hP h3 hle2
  generalize l.own.length=ol at *
  clear h2
  go_enter Tryz.func145,Tryz.ntmps145
  go_wp2_with fail
  go_quiet ((go_at_call 55;exact (HL.out _).mono fun _ _ h=>⟨h.1,_,h.2.symm⟩))
  go_wp2_with fail
  refine (HP.out _).mono ?_
  rintro e w' ⟨rfl,hR,hk⟩
  go_wp2
  go_ret
  exact ⟨rfl,(H.out.drew _).ownd (L:=l.own++[x]) (by simpa[u8I] using hR) hk rfl rfl rfl,((Keeps.refl _ w).drewN _).trans (hk.mono fun b _ h=>h.elim (fun e=>.inr (.inl e)) (fun e=>.inr (.inr (.inl e))))⟩
def repM (f sum:Int):Msg:=⟨4,0,f%65536,0,[],sum,0⟩
def repE (l:Lk) (f:Int):Int:=if l.state=2 then 12 else if ¬ (0≤f∧f≤1073741824) then 1 else if l.out.length=8 then 8 else 0
def repL (l:Lk) (f sum:Int):Lk:=if repE l f=0 then { l with out:=l.out++[repM f sum] } else l
theorem lk_Report (h:IsLink w B l) (f sum:Int) :
  Calls Tryz.prog 220 #[.pointer (some ⟨B.p,0,none⟩),.int .i64 f,.int .u32 sum] w fun e w'=>e=.returned (.int .i64 (repE l f))∧IsLink w' B (repL l f sum)∧Keeps B.S w w':=by
 have c2:=h.c2
 have c9:=h.c9
 have hF:=fun W=>lk_frame f W
 unfold repL repE
 by_cases h0:l.state=2
 ·rw[if_pos h0,if_neg (by decide)]
  rw[h0] at c2
  have H:=hid h
  clear h h0
  go_enter Tryz.func220,Tryz.ntmps220
  go_wp2
  go_ret
  exact ⟨rfl,H.out,Keeps.refl _ _⟩
 rw[if_neg h0]
 have q0:(l.state == 2)=false:=by rw[beq_eq_false_iff_ne];exact h0
 by_cases h1:0≤f∧f≤1073741824
 ·rw[if_neg (not_not_intro h1)]
  rw[decide_eq_true h1] at hF
  by_cases h3:l.out.length=8
  ·rw[if_pos h3,if_neg (by decide)]
   have hP:=fun n=>ms_Push_full (h.drew n).out h3 (repM f sum)
   have H:=hid h
   have HP:=hid hP
   have hO:=fun n=>serial_Of f (w.drewN n)
   have HO:=hid hO
   clear h h0 hP h3 hO
   go_enter Tryz.func220,Tryz.ntmps220
   go_wp2_with fail
   refine (hF _).mono ?_
   rintro e _ ⟨rfl,rfl⟩
   go_wp2_with fail
   refine wp_region_taild 8 (by kernel_rfl) (by kernel_rfl) ?_
   simp only[List.take_succ_cons,List.take_zero,List.drop_succ_cons,List.drop_zero]
   repeat (go_big_quiet_step ((go_at_call 262;exact (HO.out _).mono fun _ _ h=>⟨h.1,_,h.2.symm⟩)))
   refine wpQuiet_nil ?_
   intro _ hw'
   obtain ⟨nq,hw''⟩:=hw'
   subst hw''
   go_wp2_with fail
   refine (HP.out _).mono ?_
   rintro e w' ⟨rfl,hR,hk⟩
   go_wp2_with fail
   go_ret
   exact ⟨rfl,(H.out.drew _).outd hR hk rfl rfl rfl,((Keeps.refl _ w).drewN _).trans (hk.mono fun b _ h=>h.elim (fun e=>.inr (.inr (.inr (.inl e)))) (fun e=>.inr (.inr (.inr (.inr e)))))⟩
  ·rw[if_neg h3,if_pos rfl]
   have hP:=fun n=>ms_Push (h.drew n).out (by have:=h.out.le.1;omega) (repM f sum)
   have H:=hid h
   have HP:=hid hP
   have hO:=fun n=>serial_Of f (w.drewN n)
   have HO:=hid hO
   clear h h0 hP h3 hO
   go_enter Tryz.func220,Tryz.ntmps220
   go_wp2_with fail
   refine (hF _).mono ?_
   rintro e _ ⟨rfl,rfl⟩
   go_wp2_with fail
   refine wp_region_taild 8 (by kernel_rfl) (by kernel_rfl) ?_
   simp only[List.take_succ_cons,List.take_zero,List.drop_succ_cons,List.drop_zero]
   repeat (go_big_quiet_step ((go_at_call 262;exact (HO.out _).mono fun _ _ h=>⟨h.1,_,h.2.symm⟩)))
   refine wpQuiet_nil ?_
   intro _ hw'
   obtain ⟨nq,hw''⟩:=hw'
   subst hw''
   go_wp2_with fail
   refine (HP.out _).mono ?_
   rintro e w' ⟨rfl,hR,hk⟩
   go_wp2_with fail
   go_ret
   exact ⟨rfl,(H.out.drew _).outd hR hk rfl rfl rfl,((Keeps.refl _ w).drewN _).trans (hk.mono fun b _ h=>h.elim (fun e=>.inr (.inr (.inr (.inl e)))) (fun e=>.inr (.inr (.inr (.inr e)))))⟩
 ·rw[if_pos h1,if_neg (by decide)]
  rw[decide_eq_false h1] at hF
  have H:=hid h
  clear h h0
  go_enter Tryz.func220,Tryz.ntmps220
  go_wp2_with fail
  refine (hF _).mono ?_
  rintro e _ ⟨rfl,rfl⟩
  go_wp2
  go_ret
  exact ⟨rfl,H.out,Keeps.refl _ _⟩
theorem lk_Ticks (h:IsLink w B l):Calls Tryz.prog 215 #[.pointer (some ⟨B.p,0,none⟩)] w fun e w'=>e=.returned (.int .i64 l.ticks)∧w=w':=by
 have c4:=h.c4
 go_enter Tryz.func215,Tryz.ntmps215
 go_wp2
 go_ret
 exact ⟨rfl,rfl⟩
end
end Go.Proofs.YtalagblioepadaaGreatDoor
