/- The proof, part 29. -/
import Derived.Test.YtalagblioepadaaGreatDoorZa27
import Derived.Test.YtalagblioepadaaGreatDoorZa02
import Derived.IntWalk
namespace Go.Proofs.YtalagblioepadaaGreatDoor
section
open Go.RowKit
def slots (S:List (Int×Bool)):List Value:=S.flatMap fun p=>[(Value.int .u8 p.1),.bool p.2]
theorem slots_len (S:List (Int×Bool)):(slots S).length=S.length*2:=by
 induction S with
 | nil=>rfl
 | cons c S ih=>simp only[slots,List.flatMap_cons,List.length_append,List.length_cons,List.length_nil] at ih ⊢;omega
theorem slots_at (S:List (Int×Bool)) (i:Nat) (h:i<S.length):(slots S)[i*2]?=some (Value.int .u8 (S[i].1))∧(slots S)[i*2+1]?=some (.bool S[i].2):=by
 induction S generalizing i with
 | nil=>exact absurd h (Nat.not_lt_zero _)
 | cons c S ih=>
  simp only[slots,List.flatMap_cons] at ih ⊢
  cases i with
  | zero=>simp
  | succ i=>
   have:=ih i (by simpa using h)
   simp only[Nat.succ_mul,List.getElem_cons_succ,List.cons_append,List.nil_append]
   exact this
theorem slots_set (S:List (Int×Bool)) (i:Nat) (x:Int) (b:Bool):((slots S).set (i*2) (Value.int .u8 x)).set (i*2+1) (.bool b)=slots (S.set i (x,b)):=by
 induction S generalizing i with
 | nil=>rfl
 | cons c S ih=>
  cases i with
  | zero=>rfl
  | succ i=>
   have h:=ih i
   simp only[slots,List.flatMap_cons,Nat.succ_mul,List.cons_append,List.nil_append,List.set_cons_succ] at h ⊢
   rw[h]
structure WinAt (w:World) (r B size first:Nat) (S:List (Int×Bool)):Prop where
 head:w.heap[r]?=some (.cells #[.int .i64 first,.slice (some ⟨B,0,none⟩) size size] 417 (0,0))
 body:w.heap[B]?=some (.cells (slots S).toArray 422 (0,0))
 slen:S.length=size
 pos:0<size
 most:size≤4096
 fst:first≤1073741824
 ne:r≠B
namespace WinAt
variable {w w':World} {r B size first:Nat} {S:List (Int×Bool)}
theorem keeps {T:Nat→Prop} (h:WinAt w r B size first S) (hk:Keeps T w w') (h1:¬ T r) (h2:¬ T B):WinAt w' r B size first S:=
 ⟨hk.heap h.head h1,hk.heap h.body h2,h.slen,h.pos,h.most,h.fst,h.ne⟩
theorem drew (h:WinAt w r B size first S) (n:Nat):WinAt (w.drewN n) r B size first S:=⟨h.head,h.body,h.slen,h.pos,h.most,h.fst,h.ne⟩
theorem c0 (h:WinAt w r B size first S):w.cell? ⟨r,0,none⟩=some (.int .i64 first):=blk_cell h.head rfl
theorem c1 (h:WinAt w r B size first S):w.cell? ⟨r,1,none⟩=some (.slice (some ⟨B,0,none⟩) size size):=blk_cell h.head rfl
end WinAt
def inW (first size:Nat) (f:Int):Prop:=(first:Int)≤f∧f<first+size∧f≤1073741824
section
variable {w w':World} {r B size first:Nat} {S:List (Int×Bool)}
theorem win_inside_no (h:WinAt w r B size first S) (f:Int) (hf:¬ inW first size f) (hr:-9223372036854775808≤f∧f≤9223372036854775807) :
  Calls Tryz.prog 291 #[.pointer (some ⟨r,0,none⟩),.int .i64 f] w fun e w'=>e=.returned (.pointer none)∧∃ q,w'=w.drewN q:=by
 have c0:=h.c0
 have c1:=h.c1
 have b1:=h.fst
 have b2:=h.most
 unfold inW at hf
 by_cases h1:f<first
 ·clear hf
  go_enter Tryz.func291,Tryz.ntmps291
  go_wp2
  go_quiet (fail)
  go_wp2
  go_ret
  exact ⟨rfl,_,rfl⟩
 ·by_cases h2:f<first+size
  ·have h3:1073741824<f:=by omega
   have h4:f-first<size:=by omega
   have h5:(first:Int)≤f:=by omega
   have hw:IntKind.i64.wrap (f-first)=f-first:=IntWalk.i64_in _ (by omega)
   clear hf
   go_enter Tryz.func291,Tryz.ntmps291
   go_wp2
   go_quiet (fail)
   go_wp2
   go_ret
   exact ⟨rfl,_,rfl⟩
  ·have h4:(size:Int)≤f-first:=by omega
   have h5:(first:Int)≤f:=by omega
   have hw:IntKind.i64.wrap (f-first)=f-first:=IntWalk.i64_in _ (by omega)
   clear hf
   go_enter Tryz.func291,Tryz.ntmps291
   go_wp2
   go_quiet (fail)
   go_wp2
   go_ret
   exact ⟨rfl,_,rfl⟩
theorem win_inside (h:WinAt w r B size first S) (n k:Nat) (f:Int) (hfn:f=n) (hf:inW first size f) (hk:n%size=k) :
  Calls Tryz.prog 291 #[.pointer (some ⟨r,0,none⟩),.int .i64 f] w fun e w'=>e=.returned (.pointer (some ⟨B,k*2,none⟩))∧∃ q,w'=w.drewN q:=by
 have c0:=h.c0
 have c1:=h.c1
 have b1:=h.fst
 have b2:=h.most
 obtain ⟨h1,h2,h3⟩:=hf
 have h4:f-first<size:=by omega
 have hw:IntKind.i64.wrap (f-first)=f-first:=IntWalk.i64_in _ (by omega)
 have hkl:k<size:=hk▸Nat.mod_lt _ h.pos
 have ht:f.tmod (size:Int)=(k:Int):=by
  rw[hfn,Int.tmod_eq_emod_of_nonneg (by omega),←hk]
  simp
 have hz:((size:Int) == 0)=false:=by have:=h.pos;rw[beq_eq_false_iff_ne];omega
 have h0:0≤f:=by omega
 clear hk hfn
 go_enter Tryz.func291,Tryz.ntmps291
 go_wp2
 go_quiet (fail)
 go_wp2
 go_quiet (fail)
 go_wp2
 go_ret
 exact ⟨rfl,_,by rw[World.drewN_drewN]⟩
theorem win_First (h:WinAt w r B size first S):Calls Tryz.prog 342 #[.pointer (some ⟨r,0,none⟩)] w fun e w'=>e=.returned (.int .i64 first)∧w=w':=by
 have c0:=h.c0
 go_enter Tryz.func342,Tryz.ntmps342
 go_wp2
 go_ret
 exact ⟨rfl,rfl⟩
end
end
section
open Go.RowKit
section
variable {w w':World} {r B size first:Nat} {S:List (Int×Bool)}
theorem WinAt.slot (h:WinAt w r B size first S) {k:Nat} {x:Int} {b:Bool} (hk:S[k]?=some (x,b)):w.cell? ⟨B,k*2,none⟩=some (Value.int .u8 x)∧w.cell? ⟨B,k*2+1,none⟩=some (.bool b):=by
 obtain ⟨hl,hx⟩:=List.getElem?_eq_some_iff.1 hk
 obtain ⟨h1,h2⟩:=slots_at S k hl
 rw[hx] at h1 h2
 exact ⟨blk_cell h.body (by simpa using h1),blk_cell h.body (by simpa using h2)⟩
theorem WinAt.setSlot (h:WinAt w r B size first S) (k:Nat) (x:Int) (b:Bool):WinAt ((w.setCell ⟨B,k*2,none⟩ (Value.int .u8 x)).setCell ⟨B,k*2+1,none⟩ (.bool b)) r B size first (S.set k (x,b)):=
 ⟨blk_other (blk_other h.head h.ne _) h.ne _,by have:=blk_set (blk_set h.body (k*2) (Value.int .u8 x)) (k*2+1) (.bool b);rw[←slots_set];simpa using this,by simpa using h.slen,h.pos,h.most,h.fst,h.ne⟩
theorem win_Get_no (h:WinAt w r B size first S) (f:Int) (hf:¬ inW first size f) (hr:-9223372036854775808≤f∧f≤9223372036854775807) :
  Calls Tryz.prog 226 #[.pointer (some ⟨r,0,none⟩),.int .i64 f] w fun e w'=>e=.returned (.tuple #[(Value.int .u8 0),.bool false])∧∃ q,w'=w.drewN q:=by
 have hI:=hid (win_inside_no h f hf hr)
 clear hf hr
 go_enter Tryz.func226,Tryz.ntmps226
 go_wp2_with fail
 refine hI.out.mono ?_
 rintro e w' ⟨rfl,q,rfl⟩
 go_wp2
 go_ret2
 exact ⟨rfl,_,rfl⟩
theorem win_Get (h:WinAt w r B size first S) (n k:Nat) (f:Int) (hfn:f=n) (hf:inW first size f) (hk:n%size=k) (x:Int) (b:Bool) (hS:S[k]?=some (x,b)) :
  Calls Tryz.prog 226 #[.pointer (some ⟨r,0,none⟩),.int .i64 f] w fun e w'=>e=.returned (.tuple #[if b then (Value.int .u8 x) else (Value.int .u8 0),.bool b])∧∃ q,w'=w.drewN q:=by
 have hI:=hid (win_inside h n k f hfn hf hk)
 obtain ⟨s0,s1⟩:=h.slot hS
 clear hfn hf hk hS
 cases b with
 | true=>
  go_enter Tryz.func226,Tryz.ntmps226
  go_wp2_with fail
  refine hI.out.mono ?_
  rintro e w' ⟨rfl,q,rfl⟩
  go_wp2
  go_ret2
  exact ⟨rfl,_,rfl⟩
 | false=>
  go_enter Tryz.func226,Tryz.ntmps226
  go_wp2_with fail
  refine hI.out.mono ?_
  rintro e w' ⟨rfl,q,rfl⟩
  go_wp2
  go_ret2
  exact ⟨rfl,_,rfl⟩
theorem win_Put_no (h:WinAt w r B size first S) (f:Int) (hf:¬ inW first size f) (hr:-9223372036854775808≤f∧f≤9223372036854775807) (x:Int) :
  Calls Tryz.prog 248 #[.pointer (some ⟨r,0,none⟩),.int .i64 f,(Value.int .u8 x)] w fun e w'=>e=.returned (.int .i64 (if f<first then 10 else 8))∧∃ q,w'=w.drewN q:=by
 have hI:=hid (win_inside_no h f hf hr)
 have c0:=h.c0
 clear hf hr
 by_cases h1:f<first
 ·rw[if_pos h1]
  go_enter Tryz.func248,Tryz.ntmps248
  go_wp2_with fail
  refine hI.out.mono ?_
  rintro e w' ⟨rfl,q,rfl⟩
  go_wp2
  go_ret
  exact ⟨rfl,_,rfl⟩
 ·rw[if_neg h1]
  go_enter Tryz.func248,Tryz.ntmps248
  go_wp2_with fail
  refine hI.out.mono ?_
  rintro e w' ⟨rfl,q,rfl⟩
  go_wp2
  go_ret
  exact ⟨rfl,_,rfl⟩
theorem win_Put (h:WinAt w r B size first S) (n k:Nat) (f:Int) (hfn:f=n) (hf:inW first size f) (hk:n%size=k) (y:Int) :
  Calls Tryz.prog 248 #[.pointer (some ⟨r,0,none⟩),.int .i64 f,(Value.int .u8 y)] w fun e w'=>e=.returned (.int .i64 0)∧WinAt w' r B size first (S.set k (y,true))∧Keeps (fun b=>b=B) w w':=by
 have hI:=hid (win_inside h n k f hfn hf hk)
 have c0:=h.c0
 have hkl:k<S.length:=by rw[h.slen,←hk];exact Nat.mod_lt _ h.pos
 obtain ⟨s0,s1⟩:=h.slot (k:=k) (x:=S[k].1) (b:=S[k].2) (List.getElem?_eq_getElem hkl)
 have g0:=blk_free h.body (k*2)
 have g1:=blk_free h.body (k*2+1)
 have h1:=hf.1
 clear hfn hf hk
 go_enter Tryz.func248,Tryz.ntmps248
 go_wp2_with fail
 refine hI.out.mono ?_
 rintro e w' ⟨rfl,q,rfl⟩
 go_wp2
 go_ret
 exact ⟨rfl,(h.drew q).setSlot k y true,(((Keeps.refl (fun b=>b=B) w).drewN q).setCell (p:=⟨B,k*2,none⟩) rfl _).setCell (p:=⟨B,k*2+1,none⟩) rfl _⟩
end
end
section
open Go.RowKit
set_option maxRecDepth 10000
theorem info_slot:(Tryz.prog.info? 422).map (fun i=>(i.zero,i.size,i.bytes))=some (some (.agg #[(Value.int .u8 0),.bool false]),2,2):=by kernel_rfl
theorem slots_zero (n:Nat):madeCells (Value.agg #[(Value.int .u8 0),.bool false]).cells (n*2)=(slots (List.replicate n ((0:Int),false))).toArray:=by
 apply Array.toList_inj.1
 apply List.ext_getElem?
 intro j
 by_cases hj:j<n*2
 ·have hl:j / 2<(List.replicate n ((0:Int),false)).length:=by simp;omega
  obtain ⟨h1,h2⟩:=slots_at (List.replicate n ((0:Int),false)) (j / 2) hl
  simp only[List.getElem_replicate] at h1 h2
  rcases Nat.mod_two_eq_zero_or_one j with h|h
  ·have e:j / 2*2=j:=by omega
   rw[e] at h1
   show _=(slots (List.replicate n ((0:Int),false)))[j]?
   rw[h1]
   simp[madeCells,hj,Value.cells,h]
  ·have e:j / 2*2+1=j:=by omega
   rw[e] at h2
   show _=(slots (List.replicate n ((0:Int),false)))[j]?
   rw[h2]
   simp[madeCells,hj,Value.cells,h]
 ·rw[List.getElem?_eq_none (by simp[madeCells];omega),List.getElem?_eq_none (by show (slots _).length≤j;rw[slots_len,List.length_replicate];omega)]
theorem win_Open (size first:Nat) (h1:1≤size) (h2:size≤4096) (h3:first≤1073741824) (w:World) :
  Calls Tryz.prog 258 #[.int .i64 size,.int .i64 first] w fun e w'=>e=.returned (.tuple #[.pointer (some ⟨w.heap.size+1,0,none⟩),.int .i64 0])∧WinAt w' (w.heap.size+1) w.heap.size size first (List.replicate size (0,false))∧Below w.heap.size w w'∧w'.heap.size=w.heap.size+2:=by
 obtain ⟨i0,hi,hz0,hz1,hz2⟩:=info_parts info_slot
 have hd:decide (1≤(size:Int)∧(size:Int)≤4096)=true:=by simp;omega
 have hmk:=run_make (P:=Tryz.prog) w 415 422 i0 (.agg #[(Value.int .u8 0),.bool false]) Tryz.underlying415 hi hz0 .i64 .i64 size size (by omega) (Int.le_refl _) (by rw[hz2];omega) (by omega)
 rw[hz1,Int.toNat_natCast,slots_zero] at hmk
 have Hhi:=hid hi
 have hsl:=hid (slots_len (List.replicate size ((0:Int),false)))
 clear hi hz0 hz1 hz2
 obtain ⟨Z,hZ⟩:∃ Z,Z=List.replicate size ((0:Int),false):=⟨_,rfl⟩
 have HZ:=hid hZ
 rw[←hZ] at hmk
 rw[←hZ]
 clear hZ
 go_enter Tryz.func258,Tryz.ntmps258
 go_wp2_with fail
 refine (ring_may size w).mono ?_
 rintro e w' ⟨rfl,rfl⟩
 rw[hd]
 clear hd
 go_wp2
 go_ret2
 refine ⟨rfl,⟨?_,?_,by rw[HZ.out];simp,h1,h2,h3,by omega⟩,((Below.refl _ w).alloc (Nat.le_refl _) _).alloc (by simp) _,by simp⟩
 ·have:=blk_new (w.alloc (.cells (slots Z).toArray 422)) (.cells #[.int .i64 first,.slice (some ⟨w.heap.size,0,none⟩) size size] 417)
  simpa using this
 ·have:=blk_alloc (blk_new w (.cells (slots Z).toArray 422)) (.cells #[.int .i64 first,.slice (some ⟨w.heap.size,0,none⟩) size size] 417)
  simpa using this
end
section
open Go.RowKit
attribute [local go_sem] Oper.semAt_some
def hasW (S:List (Int×Bool)) (size f:Nat):Bool:=decide (f≤1073741824)&&((S[f%size]?).map (·.2)).getD false
def framesW (S:List (Int×Bool)) (size first:Nat) (fr:Int) (k:Nat):List Nat:=((List.range k).map (first+·)).filter fun f=>decide (fr≤(f:Int))&&hasW S size f
theorem framesW_succ (S:List (Int×Bool)) (size first:Nat) (fr:Int) (k:Nat):framesW S size first fr (k+1)=framesW S size first fr k++if (decide (fr≤((first+k:Nat):Int))&&hasW S size (first+k))=true then [first+k] else []:=by
 unfold framesW
 rw[List.range_succ,List.map_append,List.filter_append,List.map_singleton,List.filter_cons,List.filter_nil]
theorem framesW_split (S:List (Int×Bool)) (size first:Nat) (fr:Int) (k:Nat) (hk:k<size) (h:(decide (fr≤((first+k:Nat):Int))&&hasW S size (first+k))=true) :
  ∃ rest,framesW S size first fr size=framesW S size first fr k++(first+k) :: rest:=by
 have:∀ d,∃ rest,framesW S size first fr (k+1+d)=framesW S size first fr k++(first+k) :: rest:=by
  intro d
  induction d with
  | zero=>exact ⟨[],by rw[Nat.add_zero,framesW_succ,if_pos h]⟩
  | succ d ih=>
   obtain ⟨r,hr⟩:=ih
   exact ⟨r++_,by rw[←Nat.add_assoc,framesW_succ,hr,List.append_assoc,List.cons_append]⟩
 obtain ⟨r,hr⟩:=this (size-(k+1))
 exact ⟨r,by rw[←hr];congr 1;omega⟩
section
variable {w w':World} {r B size first:Nat} {S:List (Int×Bool)}
theorem win_frames (r:Nat) (f:Int) (w:World):Calls Tryz.prog 290 #[.pointer (some ⟨r,0,none⟩),.int .i64 f] w fun e w'=>e=.returned (.func (.func 330) #[] #[.pointer (some ⟨w.heap.size,0,none⟩),.pointer (some ⟨w.heap.size+1,0,none⟩)])∧(w.alloc (.cells #[.pointer (some ⟨r,0,none⟩)] 165)).alloc (.cells #[.int .i64 f] 3)=w':=by
 go_enter Tryz.func290,Tryz.ntmps290
 go_wp2
 go_ret
 exact ⟨rfl,rfl⟩
theorem hasW_of (h:WinAt w r B size first S) (n:Nat):hasW S size n=(decide (n≤1073741824)&&(S[n%size]'(by rw[h.slen];exact Nat.mod_lt _ h.pos)).2):=by
 unfold hasW
 rw[List.getElem?_eq_getElem (by rw[h.slen];exact Nat.mod_lt _ h.pos)]
 rfl
set_option maxHeartbeats 1600000 in
theorem frames1 (h:WinAt w r B size first S) (Bn Bf:Nat) (fr:Int) (hc:w.cell? ⟨Bn,0,none⟩=some (.pointer (some ⟨r,0,none⟩))) (hf:w.cell? ⟨Bf,0,none⟩=some (.int .i64 fr))
  (Wr:Nat→Prop) (hW:¬ Wr Bn∧¬ Wr Bf∧¬ Wr r∧¬ Wr B) (hBn:Bn<w.heap.size∧Bf<w.heap.size) :
  YieldsAll Tryz.prog 330 #[.pointer (some ⟨Bn,0,none⟩),.pointer (some ⟨Bf,0,none⟩)] (fun f:Nat=>#[.int .i64 f]) (framesW S size first fr size) Wr (fun _=>False) w:=by
 intro l J W hl hk hsz hJ hY h0
 subst hl
 have lr:=blk_lt h.head
 have lB:=blk_lt h.body
 have b1:=h.fst
 have b2:=h.most
 refine callsIn_wide.2 ?_
 have hcW:=hk.cell hc id
 have hRW:=h.keeps hk id id
 have c1W:=hRW.c1
 go_enter Tryz.func330,Tryz.ntmps330
 go_wp2_with fail
 go_loopw [14] (fun v wr=>∃ k:Nat,k≤size∧v=.int .i64 k∧wr.cell? ⟨Bn,0,none⟩=some (.pointer (some ⟨r,0,none⟩))∧wr.cell? ⟨Bf,0,none⟩=some (.int .i64 fr)∧WinAt wr r B size first S∧J (framesW S size first fr k) wr∧w.heap.size+2≤wr.heap.size)
  (fun v _=>size-(intOf v).toNat)
 case atStart=>exact ⟨0,Nat.zero_le _,rfl,hcW,hk.cell hf id,hRW,by simpa[framesW] using h0,by omega⟩
 case round=>
  obtain ⟨k,hkl,rfl,hcell,hfell,hRw,hJk,hsz2⟩:=hrel
  by_cases hlt:k<size
  ·have c0:=hRw.c0
   have hsucc:=framesW_succ S size first fr k
   have hhas:=hasW_of hRw (first+k)
   have hfn:(first:Int)+(k:Int)=((first+k:Nat):Int):=by omega
   by_cases hbig:1073741824<first+k
   ·have hno:=hid (win_inside_no hRw ((first:Int)+k) (by unfold inW;omega) (by omega))
    have hh:hasW S size (first+k)=false:=by rw[hhas];simp;omega
    rw[hh,Bool.and_false,if_neg (by simp),List.append_nil] at hsucc
    have Hs:=hid hsucc
    clear hh hhas hsucc hfn hbig
    by_cases hfr:fr≤(first:Int)+k
    ·go_wp2_with fail
     refine hno.out.mono ?_
     rintro e w2 ⟨rfl,q,rfl⟩
     go_wp2_with fail
     go_roundw
     case rel=>exact ⟨k+1,by omega,by go_num,hcell,hfell,hRw.drew q,by rw[Hs.out];exact hJ _ _ _ hJk ((Keeps.refl _ wr).drewN q),hsz2⟩
     case measure=>simp[intOf];omega
    ·go_wp2_with fail
     refine hno.out.mono ?_
     rintro e w2 ⟨rfl,q,rfl⟩
     go_wp2_with fail
     go_roundw
     case rel=>exact ⟨k+1,by omega,by go_num,hcell,hfell,hRw.drew q,by rw[Hs.out];exact hJ _ _ _ hJk ((Keeps.refl _ wr).drewN q),hsz2⟩
     case measure=>simp[intOf];omega
   ·obtain ⟨k',hk'⟩:∃ k',(first+k)%size=k':=⟨_,rfl⟩
    have hk'l:k'<S.length:=by rw[hRw.slen,←hk'];exact Nat.mod_lt _ hRw.pos
    have hin:=hid (win_inside hRw (first+k) k' ((first:Int)+k) hfn (by unfold inW;omega) hk')
    have hS:S[k']?=some ((S[k'].1:Int),S[k'].2):=List.getElem?_eq_getElem hk'l
    obtain ⟨_,s1⟩:=hRw.slot hS
    have hh:hasW S size (first+k)=S[k'].2:=by rw[hhas];simp only[hk'];rw[show decide (first+k≤1073741824)=true from decide_eq_true (by omega),Bool.true_and]
    have hspl:=framesW_split S size first fr k hlt
    rw[hh] at hsucc hspl
    generalize S[k'].2=bv at *
    have Hspl:=hid hspl
    have Hs:=hid hsucc
    have Hfn:=hid hfn
    clear hspl hsucc hhas hh hS hk' hfn
    by_cases hfr:fr≤(first:Int)+k
    ·cases bv with
     | false=>
      go_wp2_with fail
      refine hin.out.mono ?_
      rintro e w2 ⟨rfl,q,rfl⟩
      go_wp2_with fail
      go_roundw
      case rel=>exact ⟨k+1,by omega,by go_num,hcell,hfell,hRw.drew q,by rw[Hs.out,Bool.and_false,if_neg (by simp),List.append_nil];exact hJ _ _ _ hJk ((Keeps.refl _ wr).drewN q),hsz2⟩
      case measure=>simp[intOf];omega
     | true=>
      go_wp2_with fail
      refine hin.out.mono ?_
      rintro e w2 ⟨rfl,q,rfl⟩
      have hJk2:=hJ _ _ _ hJk ((Keeps.refl _ wr).drewN q)
      obtain ⟨rest,hrest⟩:=Hspl.out (by simp;have:=Hfn.out;omega)
      obtain ⟨fn,tmps,assign,body,hy,hRd⟩:=hY (framesW S size first fr k) (first+k) rest (wr.drewN q) hrest hJk2
      have Hrest:=hid hrest
      clear hrest
      rw[←Hfn.out] at hy
      go_upto_region 6 with fail
      refine (wpIn_wide (n:=0)).1 ?_
      gi_wp2
      refine ⟨rfl,hRd.mono ?_⟩
      rintro e W2 ⟨rfl,hJ2,hK2⟩
      clear hy hRd
      have hz2:=hK2.cell (p:=⟨Bn,0,none⟩) hcell (fun h=>h.elim hW.1 (fun h=>by simp at h;omega))
      have hz3:=hK2.cell (p:=⟨Bf,0,none⟩) hfell (fun h=>h.elim hW.2.1 (fun h=>by simp at h;omega))
      have hR2:=(hRw.drew q).keeps hK2 (fun h=>h.elim hW.2.2.1 (fun h=>by omega)) (fun h=>h.elim hW.2.2.2 (fun h=>by omega))
      have hs2:=hK2.size
      gi_wp2
      go_wp2
      go_roundw
      case rel=>exact ⟨k+1,by omega,by go_num,hz2,hz3,hR2,by rw[Hs.out,if_pos (by have:=Hfn.out;simp;omega)];exact hJ2,Nat.le_trans hsz2 hs2⟩
      case measure=>simp[intOf];omega
    ·go_wp2_with fail
     refine hin.out.mono ?_
     rintro e w2 ⟨rfl,q,rfl⟩
     go_wp2_with fail
     go_roundw
     case rel=>exact ⟨k+1,by omega,by go_num,hcell,hfell,hRw.drew q,by rw[Hs.out,if_neg (by have:=Hfn.out;simp;omega),List.append_nil];exact hJ _ _ _ hJk ((Keeps.refl _ wr).drewN q),hsz2⟩
     case measure=>simp[intOf];omega
  ·have he:k=size:=by omega
   subst he
   go_wp2_with fail
   go_end0
   exact ⟨⟨_,rfl⟩,hJk⟩
end
end
section
open Go.RowKit
def natsL (L:List Nat):List Int:=L.map fun f:Nat=>(f:Int)
theorem framesW_len (S:List (Int×Bool)) (size first:Nat) (fr:Int) (k:Nat):(framesW S size first fr k).length≤k:=by
 unfold framesW
 exact Nat.le_trans (List.length_filter_le _ _) (by simp)
section
variable {w w':World} {r B size first:Nat} {S:List (Int×Bool)}
theorem win_collect (h:WinAt w r B size first S) (fr:Int) :
  Calls Tryz.prog 78 #[.func (.func 330) #[] #[.pointer (some ⟨w.heap.size,0,none⟩),.pointer (some ⟨w.heap.size+1,0,none⟩)]] ((w.alloc (.cells #[.pointer (some ⟨r,0,none⟩)] 165)).alloc (.cells #[.int .i64 fr] 3)) fun e w'=>
   ∃ v,e=.returned v∧w'.ownsRow (w.heap.size+5) 3 1 v (framesW S size first fr size).length (intsL (natsL (framesW S size first fr size)))∧Below w.heap.size w w':=by
 obtain ⟨w2,hw2⟩:∃ w2,(w.alloc (.cells #[.pointer (some ⟨r,0,none⟩)] 165)).alloc (.cells #[.int .i64 fr] 3)=w2:=⟨_,rfl⟩
 have hk:Keeps (fun _=>False) w w2:=by rw[←hw2];exact ((Keeps.refl _ w).alloc _).alloc _
 have hs:w2.heap.size=w.heap.size+2:=by rw[←hw2];simp
 have hc:w2.cell? ⟨w.heap.size,0,none⟩=some (.pointer (some ⟨r,0,none⟩)):=by rw[←hw2];exact cell_past (cell_one_new' _ _ _) _
 have hf:w2.cell? ⟨w.heap.size+1,0,none⟩=some (.int .i64 fr):=by rw[←hw2];have:=cell_one_new' (w.alloc (.cells #[.pointer (some ⟨r,0,none⟩)] 165)) (.int .i64 fr) 3;rw[World.size_alloc] at this;exact this
 have lr:=blk_lt h.head
 have lB:=blk_lt h.body
 have hm:=h.most
 rw[hw2]
 have h2:=h.keeps hk id id
 have hb2:Below w.heap.size w w2:=hk.below (Nat.le_refl _) (fun _ _=>id)
 have hb:=seq_Collect (w:=w2) (fun f:Nat=>(f:Int)) 330 #[.pointer (some ⟨w.heap.size,0,none⟩),.pointer (some ⟨w.heap.size+1,0,none⟩)] (enters_of Tryz.func330 (by kernel_rfl) rfl) (framesW S size first fr size) (Nat.le_trans (framesW_len _ _ _ _ _) hm)
  (frames1 (h2.keeps ((Keeps.refl (fun _=>False) w2).alloc _) id id) w.heap.size (w.heap.size+1) fr (cell_past hc _) (cell_past hf _) _ ⟨by omega,by omega,by omega,by omega⟩ ⟨by simp;omega,by simp;omega⟩)
 rw[hs] at hb
 exact hb.mono fun e w' ⟨v,h1,h3,h4⟩=>⟨v,h1,h3,hb2.trans (h4.mono (by omega))⟩
theorem win_Frames (h:WinAt w r B size first S) :
  Calls Tryz.prog 225 #[.pointer (some ⟨r,0,none⟩)] w fun e w'=>
   ∃ v,e=.returned v∧w'.ownsRow (w.heap.size+5) 3 1 v (framesW S size first 0 size).length (intsL (natsL (framesW S size first 0 size)))∧Below w.heap.size w w':=by
 have hC:=hid (win_collect h 0)
 go_enter Tryz.func225,Tryz.ntmps225
 go_wp2_with fail
 refine (win_frames r 0 w).mono ?_
 rintro e w2 ⟨rfl,rfl⟩
 go_wp2_with fail
 refine hC.out.mono ?_
 rintro e w3 ⟨v,rfl,h1,h2⟩
 go_wp2
 go_ret
 exact ⟨_,rfl,h1,h2⟩
end
end
section
open Go.RowKit
structure Slots (S:List (Int×Bool)) (size first:Nat) (L:List (Nat×Int)):Prop where
 slen:S.length=size
 pos:0<size
 asc:Asc L
 isin:∀ p∈L,first≤p.1∧p.1<first+size∧p.1≤1073741824
 some':∀ f x,lookL L f=some x→S[f%size]?=some (x,true)
 none':∀ f,first≤f→f<first+size→f≤1073741824→lookL L f=none→∃ y,S[f%size]?=some (y,false)
def dropS (S:List (Int×Bool)) (size:Nat) (fs:List Nat):List (Int×Bool):=fs.foldl (fun S f=>S.set (f%size) (0,false)) S
theorem dropS_len (S:List (Int×Bool)) (size:Nat) (fs:List Nat):(dropS S size fs).length=S.length:=by
 unfold dropS
 induction fs generalizing S with
 | nil=>rfl
 | cons f fs ih=>rw[List.foldl_cons,ih];simp
theorem dropS_snoc (S:List (Int×Bool)) (size:Nat) (fs:List Nat) (f:Nat):dropS S size (fs++[f])=(dropS S size fs).set (f%size) (0,false):=by
 unfold dropS
 rw[List.foldl_append]
 rfl
theorem mod_apart {size first a b:Nat} (ha:first≤a∧a<first+size) (hb:first≤b∧b<first+size) (h:a%size=b%size):a=b:=by
 have h1:=Nat.div_add_mod a size
 have h2:=Nat.div_add_mod b size
 rw[h] at h1
 rcases Nat.lt_trichotomy (a / size) (b / size) with c|c|c
 ·have:=Nat.mul_le_mul_left size c
  rw[Nat.mul_succ] at this
  omega
 ·rw[c] at h1;omega
 ·have:=Nat.mul_le_mul_left size c
  rw[Nat.mul_succ] at this
  omega
theorem dropS_at (S:List (Int×Bool)) (size first:Nat) (fs:List Nat) (hs:S.length=size) (hf:∀ f∈fs,first≤f∧f<first+size) (g:Nat) (hg:first≤g∧g<first+size) :
  (dropS S size fs)[g%size]?=if g∈fs then some (0,false) else S[g%size]?:=by
 have hp:0<size:=by omega
 induction fs generalizing S with
 | nil=>rfl
 | cons f fs ih=>
  have e:dropS S size (f :: fs)=dropS (S.set (f%size) (0,false)) size fs:=rfl
  rw[e,ih _ (by simpa using hs) (fun x hx=>hf x (by simp[hx]))]
  have hf0:=hf f (by simp)
  by_cases h1:g∈fs
  ·rw[if_pos h1,if_pos (by simp[h1])]
  ·rw[if_neg h1]
   by_cases h2:g=f
   ·subst h2
    rw[if_pos (by simp),List.getElem?_set_self (by rw[hs];exact Nat.mod_lt _ hp)]
   ·rw[if_neg (by simp[h1,h2]),List.getElem?_set_ne (fun h=>h2 (mod_apart hg hf0 h.symm))]
theorem lookL_none {α:Type} {L:List (Nat×α)} {f:Nat} (h:∀ p∈L,p.1≠f):lookL L f=none:=by
 rcases hl:lookL L f with _|x
 ·rfl
 ·exact absurd rfl (h _ (lookL_mem hl))
namespace Slots
variable {S:List (Int×Bool)} {size first:Nat} {L:List (Nat×Int)}
theorem put (h:Slots S size first L) (f:Nat) (x:Int) (hf:first≤f∧f<first+size∧f≤1073741824):Slots (S.set (f%size) (x,true)) size first (putL L f x) where
 slen:=by simpa using h.slen
 pos:=h.pos
 asc:=asc_put h.asc f x
 isin p hp:=by
  rcases mem_put hp with rfl|hp
  ·exact hf
  ·exact h.isin p hp
 some' g y hg:=by
  rw[lookL_put] at hg
  split at hg
  ·rename_i e;subst e;cases hg
   rw[List.getElem?_set_self (by rw[h.slen];exact Nat.mod_lt _ h.pos)]
  ·rename_i e
   have hi:=h.isin _ (lookL_mem hg)
   rw[List.getElem?_set_ne (fun c=>e (mod_apart (first:=first) ⟨hi.1,hi.2.1⟩ ⟨hf.1,hf.2.1⟩ c.symm))]
   exact h.some' g y hg
 none' g h1 h2 h3 hg:=by
  rw[lookL_put] at hg
  split at hg
  ·cases hg
  ·rename_i e
   rw[List.getElem?_set_ne (fun c=>e (mod_apart (first:=first) ⟨h1,h2⟩ ⟨hf.1,hf.2.1⟩ c.symm))]
   exact h.none' g h1 h2 h3 hg
theorem has (h:Slots S size first L) (f:Nat) (h1:first≤f) (h2:f<first+size):hasW S size f=(lookL L f).isSome:=by
 unfold hasW
 by_cases h3:f≤1073741824
 ·rcases hl:lookL L f with _|x
  ·obtain ⟨y,hy⟩:=h.none' f h1 h2 h3 hl
   rw[hy];simp
  ·rw[h.some' f x hl];simp[h3]
 ·rw[lookL_none (L:=L) (f:=f) (fun p hp e=>h3 (by have:=(h.isin p hp).2.2;omega))];simp[h3]
theorem frames (h:Slots S size first L) (fr:Int):framesW S size first fr size=(L.map (·.1)).filter fun f:Nat=>decide (fr≤(f:Int)):=by
 rw[←frames_of h.asc first size (fun p hp=>⟨(h.isin p hp).1,(h.isin p hp).2.1⟩)]
 unfold framesW
 rw[List.filter_filter]
 refine List.filter_congr fun f hf=>?_
 obtain ⟨i,hi,rfl⟩:=List.mem_map.1 hf
 have hi:=List.mem_range.1 hi
 rw[h.has (first+i) (by omega) (by omega)]
theorem drop (h:Slots S size first L) (p:Nat→Bool):Slots (dropS S size ((L.map (·.1)).filter p)) size first (L.filter fun q=>!p q.1):=by
 have hin:∀ f∈(L.map (·.1)).filter p,first≤f∧f<first+size:=fun f hf=>by
  obtain ⟨q,hq,rfl⟩:=List.mem_map.1 (List.mem_filter.1 hf).1
  exact ⟨(h.isin q hq).1,(h.isin q hq).2.1⟩
 have hmem:∀ f,f∈(L.map (·.1)).filter p↔(lookL L f).isSome=true∧p f=true:=fun f=>by
  rw[List.mem_filter,List.mem_map]
  constructor
  ·rintro ⟨⟨q,hq,rfl⟩,hp⟩
   exact ⟨by rw[mem_lookL h.asc (x:=q.2) hq];rfl,hp⟩
  ·rintro ⟨hs,hp⟩
   obtain ⟨x,hx⟩:=Option.isSome_iff_exists.1 hs
   exact ⟨⟨_,lookL_mem hx,rfl⟩,hp⟩
 refine ⟨by rw[dropS_len,h.slen],h.pos,asc_filter h.asc _,fun q hq=>h.isin q (List.mem_filter.1 hq).1,fun f x hf=>?_,fun f h1 h2 h3 hf=>?_⟩
 ·rw[lookL_filter (p:=fun n=>!p n)] at hf
  split at hf
  ·rename_i hp
   have hi:=h.isin _ (lookL_mem hf)
   rw[dropS_at S size first _ h.slen hin f ⟨hi.1,hi.2.1⟩,if_neg (fun c=>by have:=((hmem f).1 c).2;simp[this] at hp)]
   exact h.some' f x hf
  ·cases hf
 ·rw[dropS_at S size first _ h.slen hin f ⟨h1,h2⟩]
  split
  ·exact ⟨_,rfl⟩
  ·rename_i hn
   rw[lookL_filter (p:=fun n=>!p n)] at hf
   split at hf
   ·exact h.none' f h1 h2 h3 hf
   ·rename_i hp
    rcases hl:lookL L f with _|x
    ·exact h.none' f h1 h2 h3 hl
    ·exact absurd ((hmem f).2 ⟨by rw[hl];rfl,by simpa using hp⟩) hn
theorem move (h:Slots S size first L) (n:Nat) (hn:first≤n) (hL:∀ p∈L,n≤p.1):Slots S size n L where
 slen:=h.slen
 pos:=h.pos
 asc:=h.asc
 isin p hp:=⟨hL p hp,by have:=h.isin p hp;omega,(h.isin p hp).2.2⟩
 some':=h.some'
 none' f h1 h2 h3 hf:=by
  by_cases hlt:f<first+size
  ·exact h.none' f (by omega) hlt h3 hf
  ·have hp:=h.pos
   have e:=Nat.div_add_mod (f-first) size
   have hm:=Nat.mod_lt (f-first) hp
   generalize hr:(f-first)%size=rr at *
   generalize (f-first) / size=d at *
   have hd:0<d:=by
    rcases Nat.eq_zero_or_pos d with hd|hd
    ·subst hd;rw[Nat.mul_zero] at e;omega
    ·exact hd
   have hge:size*1≤size*d:=Nat.mul_le_mul_left size hd
   rw[Nat.mul_one] at hge
   have hf0:f=first+rr+size*d:=by omega
   have hmod:f%size=(first+rr)%size:=by rw[hf0,Nat.add_mul_mod_self_left]
   rw[hmod]
   refine h.none' (first+rr) (by omega) (by omega) (by omega) (lookL_none fun p hp' e'=>?_)
   have:=hL p hp'
   omega
end Slots
end
section
def lookI {α:Type}:List (Nat×α)→Int→Option α
 | [],_=>none
 | (g,y) :: r,f=>if (g:Int)=f then some y else lookI r f
theorem lookI_nat {α:Type} (L:List (Nat×α)) (n:Nat):lookI L (n:Int)=lookL L n:=by
 induction L with
 | nil=>rfl
 | cons c L ih=>
  obtain ⟨g,y⟩:=c
  simp only[lookI,lookL,ih]
  by_cases h:g=n
  ·rw[if_pos (by omega),if_pos h]
  ·rw[if_neg (by omega),if_neg h]
theorem lookI_none {α:Type} {L:List (Nat×α)} {f:Int} (h:∀ p∈L,((p.1:Nat):Int)≠f):lookI L f=none:=by
 induction L with
 | nil=>rfl
 | cons c L ih=>
  obtain ⟨g,y⟩:=c
  simp only[lookI]
  rw[if_neg (h (g,y) (by simp)),ih (fun p hp=>h p (by simp[hp]))]
end
end Go.Proofs.YtalagblioepadaaGreatDoor
