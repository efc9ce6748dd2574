/- The proof, part 18. -/
import Derived.Test.YtalagblioepadaaGreatDoorRows
import Derived.Test.YtalagblioepadaaGreatDoorZa05
import Derived.Test.YtalagblioepadaaGreatDoorZa13
import Derived.Test.YtalagblioepadaaGreatDoorZa02
namespace Go.Proofs.YtalagblioepadaaGreatDoor
section
open Go.RowKit
structure RingAt (w:World) (r B size:Nat) (A:List Int) (first n:Nat):Prop where
 head:w.heap[r]?=some (.cells #[.slice (some ⟨B,0,none⟩) size size,.int .i64 first,.int .i64 n] 181 (0,0))
 body:w.heap[B]?=some (.cells (A.map fun x=>(Value.int .u8 x)).toArray 5 (0,0))
 alen:A.length=size
 pos:1≤size
 most:size≤4096
 fst:first<size
 cnt:n≤size
 ne:r≠B
namespace RingAt
variable {w w':World} {r B size first n:Nat} {A:List Int}
theorem drew (h:RingAt w r B size A first n) (m:Nat):RingAt (w.drewN m) r B size A first n:=⟨h.head,h.body,h.alen,h.pos,h.most,h.fst,h.cnt,h.ne⟩
theorem keeps {S:Nat→Prop} (h:RingAt w r B size A first n) (hk:Keeps S w w') (hr:¬ S r) (hB:¬ S B):RingAt w' r B size A first n:=
 ⟨hk.heap h.head hr,hk.heap h.body hB,h.alen,h.pos,h.most,h.fst,h.cnt,h.ne⟩
theorem c0 (h:RingAt w r B size A first n):w.cell? ⟨r,0,none⟩=some (.slice (some ⟨B,0,none⟩) size size):=blk_cell h.head rfl
theorem c1 (h:RingAt w r B size A first n):w.cell? ⟨r,1,none⟩=some (.int .i64 first):=blk_cell h.head rfl
theorem c2 (h:RingAt w r B size A first n):w.cell? ⟨r,2,none⟩=some (.int .i64 n):=blk_cell h.head rfl
theorem f1 (h:RingAt w r B size A first n):w.frozen? ⟨r,1,none⟩=false:=blk_free h.head 1
theorem f2 (h:RingAt w r B size A first n):w.frozen? ⟨r,2,none⟩=false:=blk_free h.head 2
theorem cell (h:RingAt w r B size A first n) {k:Nat} {x:Int} (hx:A[k]?=some x):w.cell? ⟨B,k,none⟩=some (Value.int .u8 x):=blk_cell h.body (by simp[hx])
theorem free (h:RingAt w r B size A first n) (k:Nat):w.frozen? ⟨B,k,none⟩=false:=blk_free h.body k
theorem setBody (h:RingAt w r B size A first n) (k:Nat) (x:Int):RingAt (w.setCell ⟨B,k,none⟩ (Value.int .u8 x)) r B size (A.set k x) first n:=
 ⟨blk_other h.head h.ne _,by have:=blk_set h.body k (Value.int .u8 x);simpa[List.map_set] using this,by simpa using h.alen,h.pos,h.most,h.fst,h.cnt,h.ne⟩
theorem setFirst (h:RingAt w r B size A first n) (f:Nat) (hf:f<size):RingAt (w.setCell ⟨r,1,none⟩ (.int .i64 f)) r B size A f n:=
 ⟨by have:=blk_set h.head 1 (.int .i64 f);simpa using this,blk_other h.body (Ne.symm h.ne) _,h.alen,h.pos,h.most,hf,h.cnt,h.ne⟩
theorem setCount (h:RingAt w r B size A first n) (m:Nat) (hm:m≤size):RingAt (w.setCell ⟨r,2,none⟩ (.int .i64 m)) r B size A first m:=
 ⟨by have:=blk_set h.head 2 (.int .i64 m);simpa using this,blk_other h.body (Ne.symm h.ne) _,h.alen,h.pos,h.most,h.fst,hm,h.ne⟩
end RingAt
variable {w:World} {r B size first n:Nat} {A:List Int}
theorem ring_may (x:Int) (w:World):Calls Tryz.prog 127 #[.int .i64 x] w fun e w'=>e=.returned (.bool (decide (1≤x∧x≤4096)))∧w=w':=by
 by_cases h1:1≤x
 ·by_cases h2:x≤4096
  ·go_enter Tryz.func127,Tryz.ntmps127
   go_wp2
   go_ret
   exact ⟨ret_bool (by simp;omega),rfl⟩
  ·go_enter Tryz.func127,Tryz.ntmps127
   go_wp2
   go_ret
   exact ⟨ret_bool (by simp;omega),rfl⟩
 ·go_enter Tryz.func127,Tryz.ntmps127
  go_wp2
  go_ret
  exact ⟨ret_bool (by simp;omega),rfl⟩
theorem ring_place (h:RingAt w r B size A first n) (i k:Nat) (x:Int) (hx:x=i) (hi:i≤100000) (hk:(first+i)%size=k) :
  Calls Tryz.prog 283 #[.pointer (some ⟨r,0,none⟩),.int .i64 x] w fun e w'=>e=.returned (.int .i64 k)∧∃ m,w'=w.drewN m:=by
 subst hx
 have c0:=h.c0
 have c1:=h.c1
 have hz:((size:Int) == 0)=false:=by have:=h.pos;rw[beq_eq_false_iff_ne];omega
 have b1:=h.fst
 have b2:=h.most
 have Hk:=hid hk
 clear hk
 go_enter Tryz.func283,Tryz.ntmps283
 go_wp2
 go_quiet (fail)
 go_wp2
 go_ret
 exact ⟨ret_int (by rw[←Hk.out];simp),_,rfl⟩
theorem ring_Len (h:RingAt w r B size A first n):Calls Tryz.prog 55 #[.pointer (some ⟨r,0,none⟩)] w fun e w'=>e=.returned (.int .i64 n)∧w=w':=by
 have c2:=h.c2
 go_enter Tryz.func55,Tryz.ntmps55
 go_wp2
 go_ret
 exact ⟨rfl,rfl⟩
theorem ring_At (h:RingAt w r B size A first n) (i k:Nat) (x:Int) (hx:x=i) (hi:i<n) (hk:(first+i)%size=k) (v:Int) (hv:A[k]?=some v) :
  Calls Tryz.prog 357 #[.pointer (some ⟨r,0,none⟩),.int .i64 x] w fun e w'=>e=.returned (.tuple #[(Value.int .u8 v),.bool true])∧∃ m,w'=w.drewN m:=by
 subst hx
 have c0:=h.c0
 have c2:=h.c2
 have cv:=h.cell hv
 have b1:=h.cnt
 have b2:=h.most
 have hkl:k<size:=hk▸Nat.mod_lt _ h.pos
 have hp:=fun a=>ring_place (h.drew a) i k i rfl (by omega) hk
 have Hp:=hid hp
 clear hp hk hv
 go_enter Tryz.func357,Tryz.ntmps357
 go_wp2
 go_quiet ((go_at_call 283;exact Calls.quiet_of (Hp.out _)))
 go_wp2
 go_ret2
 exact ⟨rfl,_,rfl⟩
theorem ring_Push_full (h:RingAt w r B size A first n) (hn:n=size) (v:Int) :
  Calls Tryz.prog 217 #[.pointer (some ⟨r,0,none⟩),(Value.int .u8 v)] w fun e w'=>e=.returned (.int .i64 8)∧∃ m,w'=w.drewN m:=by
 subst hn
 have c0:=h.c0
 have c2:=h.c2
 go_enter Tryz.func217,Tryz.ntmps217
 go_wp2
 go_quiet (fail)
 go_wp2
 go_ret
 exact ⟨rfl,_,rfl⟩
theorem ring_Push (h:RingAt w r B size A first n) (hn:n<size) (k:Nat) (hk:(first+n)%size=k) (v:Int) :
  Calls Tryz.prog 217 #[.pointer (some ⟨r,0,none⟩),(Value.int .u8 v)] w fun e w'=>e=.returned (.int .i64 0)∧RingAt w' r B size (A.set k v) first (n+1)∧Keeps (fun b=>b=r∨b=B) w w':=by
 have c0:=h.c0
 have c2:=h.c2
 have f2:=h.f2
 have ne:=h.ne
 have b1:=h.cnt
 have b2:=h.most
 have hkl:k<size:=hk▸Nat.mod_lt _ h.pos
 have cv:w.cell? ⟨B,k,none⟩=some (Value.int .u8 (A[k]'(by rw[h.alen];exact hkl))):=h.cell (by simp)
 have fv:=h.free k
 have hq:((n:Int) == (size:Int))=false:=by rw[beq_eq_false_iff_ne];omega
 have Hk:=hid hk
 clear hk
 go_enter Tryz.func217,Tryz.ntmps217
 go_wp2
 go_quiet (fail)
 go_wp2
 refine wp_region_taild 12 (by kernel_rfl) (by kernel_rfl) ?_
 simp only[List.take_succ_cons,List.take_zero,List.drop_succ_cons,List.drop_zero]
 repeat (go_big_quiet_step ((go_at_call 283;first|exact Calls.quiet_of (ring_place (h.drew _) n k _ (by omega) (by omega) Hk.out)|exact quiet_d (ring_place (h.drew _) n k _ (by omega) (by omega) Hk.out))))
 refine wpQuiet_nil ?_
 intro _ hw'
 obtain ⟨nq,hw''⟩:=hw'
 subst hw''
 go_wp2
 go_ret
 refine ⟨rfl,?_,?_⟩
 ·exact (((h.setBody k v).setCount (n+1) (by omega)).drew _)
 ·exact (((Keeps.refl (fun b=>b=r∨b=B) w).setCell (p:=⟨B,k,none⟩) (.inr rfl) _).setCell (p:=⟨r,2,none⟩) (.inl rfl) _).drewN _
theorem ring_Pop (h:RingAt w r B size A first n) (hn:0<n) (f':Nat) (hf:(first+1)%size=f') (v:Int) (hv:A[first]?=some v) :
  Calls Tryz.prog 333 #[.pointer (some ⟨r,0,none⟩)] w fun e w'=>e=.returned (.tuple #[(Value.int .u8 v),.bool true])∧RingAt w' r B size (A.set first 0) f' (n-1)∧Keeps (fun b=>b=r∨b=B) w w':=by
 have c0:=h.c0
 have c1:=h.c1
 have c2:=h.c2
 have f1:=h.f1
 have f2:=h.f2
 have ne:=h.ne
 have b1:=h.cnt
 have b2:=h.most
 have b3:=h.fst
 have cv:=h.cell hv
 have fv:=h.free first
 have hfl:f'<size:=hf▸Nat.mod_lt _ h.pos
 have Hf:=hid hf
 have Hv:=hid hv
 clear hf hv
 have h0:(first+0)%size=first:=Nat.mod_eq_of_lt b3
 have H0:=hid h0
 clear h0
 have hset:RingAt (w.setCell ⟨B,first,none⟩ (Value.int .u8 0)) r B size (A.set first 0) first n:=h.setBody _ _
 go_enter Tryz.func333,Tryz.ntmps333
 go_wp2_with fail
 refine (ring_At h 0 first 0 rfl hn H0.out v Hv.out).mono ?_
 rintro e w1 ⟨rfl,m,rfl⟩
 go_wp2_with fail
 refine wp_region_taild 10 (by kernel_rfl) (by kernel_rfl) ?_
 simp only[List.take_succ_cons,List.take_zero,List.drop_succ_cons,List.drop_zero]
 repeat (go_big_quiet_step ((fail)))
 refine wpQuiet_nil ?_
 intro _ hw'
 obtain ⟨nq,hw''⟩:=hw'
 subst hw''
 go_wp2_with fail
 refine (ring_place (hset.keeps (S:=fun _=>False) (by first|exact (Keeps.refl _ _).drewN _|exact ((Keeps.refl _ _).drewN _).drewN _) id id) 1 f' 1 rfl (by omega) Hf.out).mono ?_
 rintro e w2 ⟨rfl,m2,rfl⟩
 go_wp2
 go_ret2
 rw[show ((n:Int)-1)=((n-1:Nat):Int) by omega]
 exact ⟨rfl,((((h.drew _).setBody first 0).drew _).setFirst f' hfl).setCount (n-1) (by omega),(((((Keeps.refl (fun b=>b=r∨b=B) w).drewN _).setCell (p:=⟨B,first,none⟩) (.inr rfl) _).drewN _).setCell (p:=⟨r,1,none⟩) (.inl rfl) _).setCell (p:=⟨r,2,none⟩) (.inl rfl) _⟩
end
section
open Go.RowKit
set_option maxRecDepth 10000
def satI (n:Int):Int:=max (-2147483648) (min n 2147483647)
def isFix (n:Int):Prop:=-2147483648≤n∧n≤2147483647
theorem satI_fix (n:Int):isFix (satI n):=by unfold isFix satI;omega
theorem satI_id {n:Int} (h:isFix n):satI n=n:=by unfold isFix at h;unfold satI;omega
def addI (a b:Int):Int:=satI (a+b)
def subI (a b:Int):Int:=satI (a-b)
def mulI (a b:Int):Int:=satI (a*b / 65536)
def negI (a:Int):Int:=satI (0-a)
def downI (a b:Int):Int:=if (a.tmod b != 0&&!(decide (a<0) == decide (b<0)))=true then a.tdiv b-1 else a.tdiv b
def divI (a b:Int):Int:=if b≠0 then satI (downI (a*65536) b) else if 0<a then 2147483647 else if a<0 then -2147483648 else 0
theorem i64_of_fix {n:Int} (h:isFix n):IntKind.i64.wrap n=n:=IntWalk.i64_in _ (by unfold isFix at h;omega)
theorem i32_of_fix {n:Int} (h:isFix n):IntKind.i32.wrap n=n:=by unfold isFix at h;rw[IntKind.wrap_i32];omega
theorem fs_within (n:Int) (w:World):Calls Tryz.prog 282 #[.int .i64 n,.int .i64 (-2147483648),.int .i64 2147483647] w fun e w'=>e=.returned (.int .i64 (satI n))∧w=w':=by
 by_cases h1:n≤2147483647
 ·by_cases h2:-2147483648≤n
  ·rw[satI_id ⟨h2,h1⟩]
   have e1:min n 2147483647=n:=by omega
   have e2:max (-2147483648) n=n:=by omega
   go_enter Tryz.func282,Tryz.ntmps282
   go_wp2
   all_goals go_ret
   all_goals first|exact ⟨rfl,rfl⟩|(obtain rfl:n=-2147483648:=(by omega);exact ⟨rfl,rfl⟩)
  ·rw[show satI n=-2147483648 by unfold satI;omega]
   have e1:min n 2147483647=n:=by omega
   have e2:max (-2147483648) n=-2147483648:=by omega
   go_enter Tryz.func282,Tryz.ntmps282
   go_wp2
   all_goals go_ret
   all_goals first|exact ⟨rfl,rfl⟩|(obtain rfl:n=-2147483648:=(by omega);exact ⟨rfl,rfl⟩)
 ·rw[show satI n=2147483647 by unfold satI;omega]
  have e1:min n 2147483647=2147483647:=by omega
  have e2:max (-2147483648) (2147483647:Int)=2147483647:=by omega
  go_enter Tryz.func282,Tryz.ntmps282
  go_wp2
  all_goals go_ret
  all_goals first|exact ⟨rfl,rfl⟩|(obtain rfl:n=-2147483648:=(by omega);exact ⟨rfl,rfl⟩)
theorem fs_Sat (n:Int) (w:World):Calls Tryz.prog 214 #[.int .i64 n] w fun e w'=>e=.returned (.int .i32 (satI n))∧w=w':=by
 have e1:=i32_of_fix (satI_fix n)
 go_enter Tryz.func214,Tryz.ntmps214
 go_wp2_with fail
 refine (fs_within n w).mono ?_
 rintro e w' ⟨rfl,rfl⟩
 go_wp2
 go_ret
 exact ⟨rfl,rfl⟩
theorem fs_Add (a b:Int) (ha:isFix a) (hb:isFix b) (w:World):Calls Tryz.prog 278 #[.int .i32 a,.int .i32 b] w fun e w'=>e=.returned (.int .i32 (addI a b))∧w=w':=by
 have e1:=i64_of_fix ha
 have e2:=i64_of_fix hb
 have e3:IntKind.i64.wrap (a+b)=a+b:=by unfold isFix at ha hb;exact IntWalk.i64_in _ (by omega)
 go_enter Tryz.func278,Tryz.ntmps278
 go_wp2_with fail
 refine (fs_Sat (a+b) w).mono ?_
 rintro e _ ⟨rfl,rfl⟩
 go_wp2
 go_ret
 exact ⟨rfl,rfl⟩
theorem fs_Sub (a b:Int) (ha:isFix a) (hb:isFix b) (w:World):Calls Tryz.prog 281 #[.int .i32 a,.int .i32 b] w fun e w'=>e=.returned (.int .i32 (subI a b))∧w=w':=by
 have e1:=i64_of_fix ha
 have e2:=i64_of_fix hb
 have e3:IntKind.i64.wrap (a-b)=a-b:=by unfold isFix at ha hb;exact IntWalk.i64_in _ (by omega)
 go_enter Tryz.func281,Tryz.ntmps281
 go_wp2_with fail
 refine (fs_Sat (a-b) w).mono ?_
 rintro e _ ⟨rfl,rfl⟩
 go_wp2
 go_ret
 exact ⟨rfl,rfl⟩
theorem fix_mul {a b:Int} (ha:isFix a) (hb:isFix b):-4611686018427387904≤a*b∧a*b≤4611686018427387904:=by
 unfold isFix at ha hb
 have h1:a.natAbs≤2147483648:=by omega
 have h2:b.natAbs≤2147483648:=by omega
 have h3:(a*b).natAbs≤2147483648*2147483648:=by rw[Int.natAbs_mul];exact Nat.mul_le_mul h1 h2
 omega
theorem fs_Mul (a b:Int) (ha:isFix a) (hb:isFix b) (w:World):Calls Tryz.prog 371 #[.int .i32 a,.int .i32 b] w fun e w'=>e=.returned (.int .i32 (mulI a b))∧w=w':=by
 have e1:=i64_of_fix ha
 have e2:=i64_of_fix hb
 have e3:IntKind.i64.wrap (a*b)=a*b:=by have:=fix_mul ha hb;exact IntWalk.i64_in _ (by omega)
 go_enter Tryz.func371,Tryz.ntmps371
 go_wp2_with fail
 refine (fs_Sat (a*b / 65536) w).mono ?_
 rintro e _ ⟨rfl,rfl⟩
 go_wp2
 go_ret
 exact ⟨rfl,rfl⟩
theorem fs_Neg (a:Int) (ha:isFix a) (w:World):Calls Tryz.prog 383 #[.int .i32 a] w fun e w'=>e=.returned (.int .i32 (negI a))∧w=w':=by
 go_enter Tryz.func383,Tryz.ntmps383
 go_wp2_with fail
 refine (fs_Sub 0 a (by unfold isFix;omega) ha w).mono ?_
 rintro e _ ⟨rfl,rfl⟩
 go_wp2
 go_ret
 exact ⟨rfl,rfl⟩
theorem tdiv_bound {a b:Int} (ha:-140737488355328≤a∧a≤140737488355328):-140737488355328≤a.tdiv b∧a.tdiv b≤140737488355328:=by
 have h:(a.tdiv b).natAbs≤a.natAbs:=by rw[Int.natAbs_tdiv];exact Nat.div_le_self _ _
 omega
theorem fs_down (a b:Int) (ha:-140737488355328≤a∧a≤140737488355328) (hb:b≠0) (w:World):Calls Tryz.prog 392 #[.int .i64 a,.int .i64 b] w fun e w'=>e=.returned (.int .i64 (downI a b))∧w=w':=by
 have hq:=tdiv_bound (b:=b) ha
 have e1:IntKind.i64.wrap (a.tdiv b)=a.tdiv b:=IntWalk.i64_in _ (by omega)
 have e2:IntKind.i64.wrap (a.tdiv b-1)=a.tdiv b-1:=IntWalk.i64_in _ (by omega)
 have hb0:¬ b=0:=hb
 generalize h1:(a.tmod b != 0)=t
 cases t with
 | false=>
  have h:downI a b=a.tdiv b:=by unfold downI;simp[h1]
  rw[h]
  clear h
  go_enter Tryz.func392,Tryz.ntmps392
  go_wp2
  go_ret
  exact ⟨rfl,rfl⟩
 | true=>
  have h1':¬ a.tmod b=0:=by simpa using h1
  by_cases h2:a<0
  ·by_cases h3:b<0
   ·have h:downI a b=a.tdiv b:=by unfold downI;simp[h1,h2,h3]
    rw[h]
    clear h
    go_enter Tryz.func392,Tryz.ntmps392
    go_wp2
    go_ret
    exact ⟨rfl,rfl⟩
   ·have h:downI a b=a.tdiv b-1:=by unfold downI;simp[h1,h2,h3]
    rw[h]
    clear h
    go_enter Tryz.func392,Tryz.ntmps392
    go_wp2
    go_ret
    exact ⟨rfl,rfl⟩
  ·have h5:a.tmod b=a%b:=Int.tmod_eq_emod_of_nonneg (by omega)
   have h6:¬ a%b=0:=by rw[←h5];exact h1'
   have h7:(a%b != 0)=true:=by simpa using h6
   by_cases h3:b<0
   ·have h:downI a b=a.tdiv b-1:=by unfold downI;simp[h1,h2,h3]
    rw[h]
    clear h h5
    go_enter Tryz.func392,Tryz.ntmps392
    go_wp2
    go_ret
    exact ⟨rfl,rfl⟩
   ·have h:downI a b=a.tdiv b:=by unfold downI;simp[h1,h2,h3]
    rw[h]
    clear h h5
    go_enter Tryz.func392,Tryz.ntmps392
    go_wp2
    go_ret
    exact ⟨rfl,rfl⟩
theorem fs_Div (a b:Int) (ha:isFix a) (hb:isFix b) (w:World):Calls Tryz.prog 388 #[.int .i32 a,.int .i32 b] w fun e w'=>e=.returned (.int .i32 (divI a b))∧w=w':=by
 have e1:=i64_of_fix ha
 have e2:=i64_of_fix hb
 by_cases h:b=0
 ·subst h
  by_cases h1:0<a
  ·rw[show divI a 0=2147483647 by unfold divI;rw[if_neg (by omega),if_pos h1]]
   go_enter Tryz.func388,Tryz.ntmps388
   go_wp2
   go_ret
   exact ⟨rfl,rfl⟩
  ·by_cases h2:a<0
   ·rw[show divI a 0=-2147483648 by unfold divI;rw[if_neg (by omega),if_neg h1,if_pos h2]]
    go_enter Tryz.func388,Tryz.ntmps388
    go_wp2
    go_ret
    exact ⟨rfl,rfl⟩
   ·rw[show divI a 0=0 by unfold divI;rw[if_neg (by omega),if_neg h1,if_neg h2]]
    go_enter Tryz.func388,Tryz.ntmps388
    go_wp2
    go_ret
    exact ⟨rfl,rfl⟩
 ·rw[show divI a b=satI (downI (a*65536) b) by unfold divI;rw[if_pos h]]
  have hr:-140737488355328≤a*65536∧a*65536≤140737488355328:=by unfold isFix at ha;omega
  have e3:IntKind.i64.wrap (a*65536)=a*65536:=IntWalk.i64_in _ (by omega)
  go_enter Tryz.func388,Tryz.ntmps388
  go_wp2_with fail
  refine (fs_down (a*65536) b hr h w).mono ?_
  rintro e _ ⟨rfl,rfl⟩
  go_wp2_with fail
  refine (fs_Sat (downI (a*65536) b) w).mono ?_
  rintro e _ ⟨rfl,rfl⟩
  go_wp2
  go_ret
  exact ⟨rfl,rfl⟩
end
section
open Go.RowKit
structure QRingAt (w:World) (r B size:Nat) (A:List ByteArray) (first n:Nat):Prop where
 head:w.heap[r]?=some (.cells #[.slice (some ⟨B,0,none⟩) size size,.int .i64 first,.int .i64 n] 239 (0,0))
 body:w.heap[B]?=some (.cells (A.map fun x=>(Value.string x)).toArray 9 (0,0))
 alen:A.length=size
 pos:1≤size
 most:size≤4096
 fst:first<size
 cnt:n≤size
 ne:r≠B
namespace QRingAt
variable {w w':World} {r B size first n:Nat} {A:List ByteArray}
theorem drew (h:QRingAt w r B size A first n) (m:Nat):QRingAt (w.drewN m) r B size A first n:=⟨h.head,h.body,h.alen,h.pos,h.most,h.fst,h.cnt,h.ne⟩
theorem keeps {S:Nat→Prop} (h:QRingAt w r B size A first n) (hk:Keeps S w w') (hr:¬ S r) (hB:¬ S B):QRingAt w' r B size A first n:=
 ⟨hk.heap h.head hr,hk.heap h.body hB,h.alen,h.pos,h.most,h.fst,h.cnt,h.ne⟩
theorem c0 (h:QRingAt w r B size A first n):w.cell? ⟨r,0,none⟩=some (.slice (some ⟨B,0,none⟩) size size):=blk_cell h.head rfl
theorem c1 (h:QRingAt w r B size A first n):w.cell? ⟨r,1,none⟩=some (.int .i64 first):=blk_cell h.head rfl
theorem c2 (h:QRingAt w r B size A first n):w.cell? ⟨r,2,none⟩=some (.int .i64 n):=blk_cell h.head rfl
theorem f2 (h:QRingAt w r B size A first n):w.frozen? ⟨r,2,none⟩=false:=blk_free h.head 2
theorem cell (h:QRingAt w r B size A first n) {k:Nat} {x:ByteArray} (hx:A[k]?=some x):w.cell? ⟨B,k,none⟩=some (Value.string x):=blk_cell h.body (by simp[hx])
theorem free (h:QRingAt w r B size A first n) (k:Nat):w.frozen? ⟨B,k,none⟩=false:=blk_free h.body k
theorem setBody (h:QRingAt w r B size A first n) (k:Nat) (x:ByteArray):QRingAt (w.setCell ⟨B,k,none⟩ (Value.string x)) r B size (A.set k x) first n:=
 ⟨blk_other h.head h.ne _,by have:=blk_set h.body k (Value.string x);simpa[List.map_set] using this,by simpa using h.alen,h.pos,h.most,h.fst,h.cnt,h.ne⟩
theorem setCount (h:QRingAt w r B size A first n) (m:Nat) (hm:m≤size):QRingAt (w.setCell ⟨r,2,none⟩ (.int .i64 m)) r B size A first m:=
 ⟨by have:=blk_set h.head 2 (.int .i64 m);simpa using this,blk_other h.body (Ne.symm h.ne) _,h.alen,h.pos,h.most,h.fst,hm,h.ne⟩
end QRingAt
variable {w:World} {r B size first n:Nat} {A:List ByteArray}
theorem q_ring_may (x:Int) (w:World):Calls Tryz.prog 127 #[.int .i64 x] w fun e w'=>e=.returned (.bool (decide (1≤x∧x≤4096)))∧w=w':=by
 by_cases h1:1≤x
 ·by_cases h2:x≤4096
  ·go_enter Tryz.func127,Tryz.ntmps127
   go_wp2
   go_ret
   exact ⟨ret_bool (by simp;omega),rfl⟩
  ·go_enter Tryz.func127,Tryz.ntmps127
   go_wp2
   go_ret
   exact ⟨ret_bool (by simp;omega),rfl⟩
 ·go_enter Tryz.func127,Tryz.ntmps127
  go_wp2
  go_ret
  exact ⟨ret_bool (by simp;omega),rfl⟩
theorem q_ring_place (h:QRingAt w r B size A first n) (i k:Nat) (x:Int) (hx:x=i) (hi:i≤100000) (hk:(first+i)%size=k) :
  Calls Tryz.prog 157 #[.pointer (some ⟨r,0,none⟩),.int .i64 x] w fun e w'=>e=.returned (.int .i64 k)∧∃ m,w'=w.drewN m:=by
 subst hx
 have c0:=h.c0
 have c1:=h.c1
 have hz:((size:Int) == 0)=false:=by have:=h.pos;rw[beq_eq_false_iff_ne];omega
 have b1:=h.fst
 have b2:=h.most
 have Hk:=hid hk
 clear hk
 go_enter Tryz.func157,Tryz.ntmps157
 go_wp2
 go_quiet (fail)
 go_wp2
 go_ret
 exact ⟨ret_int (by rw[←Hk.out];simp),_,rfl⟩
theorem q_ring_Len (h:QRingAt w r B size A first n):Calls Tryz.prog 82 #[.pointer (some ⟨r,0,none⟩)] w fun e w'=>e=.returned (.int .i64 n)∧w=w':=by
 have c2:=h.c2
 go_enter Tryz.func82,Tryz.ntmps82
 go_wp2
 go_ret
 exact ⟨rfl,rfl⟩
theorem q_ring_At_no (h:QRingAt w r B size A first n) (x:Int) (hx:x<0∨(n:Int)≤x) :
  Calls Tryz.prog 165 #[.pointer (some ⟨r,0,none⟩),.int .i64 x] w fun e w'=>e=.returned (.tuple #[(Value.string ByteArray.empty),.bool false])∧w=w':=by
 have c0:=h.c0
 have c2:=h.c2
 by_cases h0:x<0
 ·clear hx
  go_enter Tryz.func165,Tryz.ntmps165
  go_wp2
  go_ret2
  exact ⟨rfl,rfl⟩
 ·have h1:(n:Int)≤x:=by omega
  clear hx
  go_enter Tryz.func165,Tryz.ntmps165
  go_wp2
  go_ret2
  exact ⟨rfl,rfl⟩
theorem q_ring_At (h:QRingAt w r B size A first n) (i k:Nat) (x:Int) (hx:x=i) (hi:i<n) (hk:(first+i)%size=k) (v:ByteArray) (hv:A[k]?=some v) :
  Calls Tryz.prog 165 #[.pointer (some ⟨r,0,none⟩),.int .i64 x] w fun e w'=>e=.returned (.tuple #[(Value.string v),.bool true])∧∃ m,w'=w.drewN m:=by
 subst hx
 have c0:=h.c0
 have c2:=h.c2
 have cv:=h.cell hv
 have b1:=h.cnt
 have b2:=h.most
 have hkl:k<size:=hk▸Nat.mod_lt _ h.pos
 have hp:=fun a=>q_ring_place (h.drew a) i k i rfl (by omega) hk
 have Hp:=hid hp
 clear hp hk hv
 go_enter Tryz.func165,Tryz.ntmps165
 go_wp2
 go_quiet ((go_at_call 157;exact Calls.quiet_of (Hp.out _)))
 go_wp2
 go_ret2
 exact ⟨rfl,_,rfl⟩
theorem q_ring_Push_full (h:QRingAt w r B size A first n) (hn:n=size) (v:ByteArray) :
  Calls Tryz.prog 95 #[.pointer (some ⟨r,0,none⟩),(Value.string v)] w fun e w'=>e=.returned (.int .i64 8)∧∃ m,w'=w.drewN m:=by
 subst hn
 have c0:=h.c0
 have c2:=h.c2
 go_enter Tryz.func95,Tryz.ntmps95
 go_wp2
 go_quiet (fail)
 go_wp2
 go_ret
 exact ⟨rfl,_,rfl⟩
theorem q_ring_Push (h:QRingAt w r B size A first n) (hn:n<size) (k:Nat) (hk:(first+n)%size=k) (v:ByteArray) :
  Calls Tryz.prog 95 #[.pointer (some ⟨r,0,none⟩),(Value.string v)] w fun e w'=>e=.returned (.int .i64 0)∧QRingAt w' r B size (A.set k v) first (n+1)∧Keeps (fun b=>b=r∨b=B) w w':=by
 have c0:=h.c0
 have c2:=h.c2
 have f2:=h.f2
 have ne:=h.ne
 have b1:=h.cnt
 have b2:=h.most
 have hkl:k<size:=hk▸Nat.mod_lt _ h.pos
 have cv:w.cell? ⟨B,k,none⟩=some (Value.string (A[k]'(by rw[h.alen];exact hkl))):=h.cell (by simp)
 have fv:=h.free k
 have hq:((n:Int) == (size:Int))=false:=by rw[beq_eq_false_iff_ne];omega
 have Hk:=hid hk
 clear hk
 go_enter Tryz.func95,Tryz.ntmps95
 go_wp2
 go_quiet (fail)
 go_wp2
 refine wp_region_taild 12 (by kernel_rfl) (by kernel_rfl) ?_
 simp only[List.take_succ_cons,List.take_zero,List.drop_succ_cons,List.drop_zero]
 repeat (go_big_quiet_step ((go_at_call 157;first|exact Calls.quiet_of (q_ring_place (h.drew _) n k _ (by omega) (by omega) Hk.out)|exact quiet_d (q_ring_place (h.drew _) n k _ (by omega) (by omega) Hk.out))))
 refine wpQuiet_nil ?_
 intro _ hw'
 obtain ⟨nq,hw''⟩:=hw'
 subst hw''
 go_wp2
 go_ret
 refine ⟨rfl,?_,?_⟩
 ·exact (((h.setBody k v).setCount (n+1) (by omega)).drew _)
 ·exact (((Keeps.refl (fun b=>b=r∨b=B) w).setCell (p:=⟨B,k,none⟩) (.inr rfl) _).setCell (p:=⟨r,2,none⟩) (.inl rfl) _).drewN _
theorem q_ring_Take_no (h:QRingAt w r B size A first n) (x:Int) (hx:x<0∨(n:Int)≤x) :
  Calls Tryz.prog 164 #[.pointer (some ⟨r,0,none⟩),.int .i64 x] w fun e w'=>e=.returned (.tuple #[(Value.string ByteArray.empty),.bool false])∧w=w':=by
 go_enter Tryz.func164,Tryz.ntmps164
 go_wp2_with fail
 refine (q_ring_At_no h x hx).mono ?_
 rintro e w' ⟨rfl,rfl⟩
 go_wp2
 go_ret2
 exact ⟨rfl,rfl⟩
set_option maxHeartbeats 800000 in
theorem q_ring_Take {L:List ByteArray} (h:QRingAt w r B size A first L.length) (hL:Holds A first size L) (i:Nat) (x:Int) (hx:x=i) (hi:i<L.length) (v:ByteArray) (hv:L[i]?=some v) :
  Calls Tryz.prog 164 #[.pointer (some ⟨r,0,none⟩),.int .i64 x] w fun e w'=>e=.returned (.tuple #[(Value.string v),.bool true])∧Keeps (fun b=>b=r∨b=B) w w'∧∃ A',QRingAt w' r B size A' first (L.length-1)∧Holds A' first size (L.eraseIdx i):=by
 subst hx
 have ne:=h.ne
 have b1:=h.cnt
 have b2:=h.most
 have b3:=h.fst
 have hAv:A[(first+i)%size]?=some v:=(hL i hi).trans hv
 have HA:=hid hAv
 have HS:=hid (hL.shift i)
 clear hAv hv hL
 go_enter Tryz.func164,Tryz.ntmps164
 go_wp2_with fail
 refine (q_ring_At h i _ i rfl hi rfl v HA.out).mono ?_
 rintro e w1 ⟨rfl,m,rfl⟩
 go_wp2_with fail
 go_loopw [1] (fun u wr=>∃ (j:Nat) (A':List ByteArray),i≤j∧j≤L.length-1∧u=.int .i64 j∧QRingAt wr r B size A' first L.length∧Keeps (fun b=>b=r∨b=B) w wr∧Hid (Shifted A' first size L i j)) (fun u _=>L.length-(intOf u).toNat)
 case atStart=>exact ⟨i,A,Nat.le_refl _,by omega,rfl,h.drew _,(Keeps.refl _ w).drewN _,HS⟩
 case round=>
  obtain ⟨j,A',hij,hj,rfl,hR,hK,hS⟩:=hrel
  have c0:=hR.c0
  have c2:=hR.c2
  have f2:=hR.f2
  by_cases hlt:j<L.length-1
  ·obtain ⟨k1,hk1⟩:∃ k1,(first+j)%size=k1:=⟨_,rfl⟩
   obtain ⟨k2,hk2⟩:∃ k2,(first+(j+1))%size=k2:=⟨_,rfl⟩
   have hl1:k1<size:=hk1▸Nat.mod_lt _ h.pos
   have hl2:k2<size:=hk2▸Nat.mod_lt _ h.pos
   obtain ⟨y,hy⟩:∃ y,A'[k2]?=some y:=⟨A'[k2]'(by rw[hR.alen];exact hl2),by simp⟩
   have cy:=hR.cell hy
   have cv:wr.cell? ⟨B,k1,none⟩=some (Value.string (A'[k1]'(by rw[hR.alen];exact hl1))):=hR.cell (by simp)
   have fv:=hR.free k1
   have H1:=hid hk1
   have H2:=hid hk2
   have hn:=hS.out.next b3 hR.alen b1 hij (by omega) y (by rw[hk2];exact hy)
   rw[hk1] at hn
   have HN:=hid hn
   clear hk1 hk2 hy hn
   go_wp2
   refine wp_region_taild 18 (by kernel_rfl) (by kernel_rfl) ?_
   simp only[List.take_succ_cons,List.take_zero,List.drop_succ_cons,List.drop_zero]
   repeat (go_big_quiet_step ((first|(go_at_call 157;first|exact Calls.quiet_of (q_ring_place (hR.drew _) j k1 _ (by omega) (by omega) H1.out)|exact quiet_d (q_ring_place (hR.drew _) j k1 _ (by omega) (by omega) H1.out))|(go_at_call 157;first|exact Calls.quiet_of (q_ring_place (hR.drew _) (j+1) k2 _ (by omega) (by omega) H2.out)|exact quiet_d (q_ring_place (hR.drew _) (j+1) k2 _ (by omega) (by omega) H2.out)))))
   refine wpQuiet_nil ?_
   intro _ hw'
   obtain ⟨nq,hw''⟩:=hw'
   subst hw''
   go_wp2
   go_roundw
   case rel=>exact ⟨j+1,A'.set k1 y,by omega,by omega,by go_num,(hR.setBody k1 y).drew _,(hK.setCell (p:=⟨B,k1,none⟩) (.inr rfl) _).drewN _,HN⟩
   case measure=>simp[intOf];omega
  ·obtain rfl:j=L.length-1:=by omega
   obtain ⟨k1,hk1⟩:∃ k1,(first+(L.length-1))%size=k1:=⟨_,rfl⟩
   have hl1:k1<size:=hk1▸Nat.mod_lt _ h.pos
   have cv:wr.cell? ⟨B,k1,none⟩=some (Value.string (A'[k1]'(by rw[hR.alen];exact hl1))):=hR.cell (by simp)
   have fv:=hR.free k1
   have hd:=hS.out.done b3 b1 hi ByteArray.empty
   rw[hk1] at hd
   have H1:=hid hk1
   have HD:=hid hd
   clear hk1 hd
   go_wp2
   refine wp_region_taild 13 (by kernel_rfl) (by kernel_rfl) ?_
   simp only[List.take_succ_cons,List.take_zero,List.drop_succ_cons,List.drop_zero]
   repeat (go_big_quiet_step ((go_at_call 157;first|exact Calls.quiet_of (q_ring_place (hR.drew _) (L.length-1) k1 _ (by omega) (by omega) H1.out)|exact quiet_d (q_ring_place (hR.drew _) (L.length-1) k1 _ (by omega) (by omega) H1.out))))
   refine wpQuiet_nil ?_
   intro _ hw'
   obtain ⟨nq,hw''⟩:=hw'
   subst hw''
   go_wp2
   go_ret2
   rw[show ((L.length:Int)-1)=((L.length-1:Nat):Int) by omega]
   exact ⟨rfl,((hK.setCell (p:=⟨B,k1,none⟩) (.inr rfl) _).setCell (p:=⟨r,2,none⟩) (.inl rfl) _).drewN _,_,((hR.setBody k1 ByteArray.empty).setCount (L.length-1) (by omega)).drew _,HD.out⟩
end
end Go.Proofs.YtalagblioepadaaGreatDoor
