/- The proof, part 22. -/
import Derived.Test.YtalagblioepadaaGreatDoorZa19
import Derived.Laws.BitsLemmas
import Derived.Deep.LoopGhost
import Derived.Shelf.Bits.Mul64
import Derived.Shelf.Strconv.Itoa0
import Derived.Test.YtalagblioepadaaGreatDoorZa13
namespace Go.Proofs.YtalagblioepadaaGreatDoor
section
open Go.RowKit
open Go.Shelf
set_option maxRecDepth 10000
def len64_ren:Go.Shelf.Ren:=⟨fun|129=>188|n=>n,fun|3=>3|4=>4|5=>5|9=>9|46=>227|53=>217|n=>n,fun|n=>n⟩
theorem len64_lay:Lays.n129 Tryz.prog len64_ren:={
 mixed:=by kernel_rfl
 f129:=Tryz.func188.trans (congrArg some (by kernel_rfl))
 t3:=Tryz.underlying3
 a3:=Tryz.isAgg3
 z3:=Tryz.sizeOf3
 v3:=Tryz.zeroValue3
 t4:=Tryz.underlying4
 a4:=Tryz.isAgg4
 z4:=Tryz.sizeOf4
 v4:=Tryz.zeroValue4
 t5:=Tryz.underlying5
 a5:=Tryz.isAgg5
 z5:=Tryz.sizeOf5
 v5:=Tryz.zeroValue5
 t9:=Tryz.underlying9
 a9:=Tryz.isAgg9
 z9:=Tryz.sizeOf9
 v9:=Tryz.zeroValue9
 t46:=Tryz.underlying227
 a46:=Tryz.isAgg227
 z46:=Tryz.sizeOf227
 v46:=Tryz.zeroValue227
 t53:=Tryz.underlying217
 a53:=Tryz.isAgg217
 z53:=Tryz.sizeOf217
 v53:=Tryz.zeroValue217 }
def mul64_ren:Go.Shelf.Ren:=⟨fun|264=>320|n=>n,fun|46=>227|53=>217|n=>n,fun|n=>n⟩
theorem mul64_lay:Lays.n264 Tryz.prog mul64_ren:={
 mixed:=by kernel_rfl
 f264:=Tryz.func320.trans (congrArg some (by kernel_rfl))
 t46:=Tryz.underlying227
 a46:=Tryz.isAgg227
 z46:=Tryz.sizeOf227
 v46:=Tryz.zeroValue227
 t53:=Tryz.underlying217
 a53:=Tryz.isAgg217
 z53:=Tryz.sizeOf217
 v53:=Tryz.zeroValue217 }
theorem bt_Len64 (x:Nat) (h:x<18446744073709551616) (w:World):Calls Tryz.prog 188 #[.int .u64 x] w fun e w'=>e=.returned (.int .i64 (Lib.bitLen x))∧w=w':=
 (Any.bits_Len64 len64_lay x w (by omega) (by omega)).mono fun _ _ h=>⟨by rw[h.1];simp,h.2.symm⟩
theorem bt_Mul64 (x y:Nat) (hx:x<18446744073709551616) (hy:y<18446744073709551616) (w:World) :
  Calls Tryz.prog 320 #[.int .u64 x,.int .u64 y] w fun e w'=>e=.returned (.tuple #[.int .u64 ((x*y / 18446744073709551616:Nat):Int),.int .u64 ((x*y%18446744073709551616:Nat):Int)])∧w=w':=
 (Any.bits_Mul64 mul64_lay x y hx hy w).mono fun _ _ h=>⟨h.1,h.2.symm⟩
def rootGo:Nat→Nat→Nat→Nat
 | 0,r,_=>r
 | k+1,r,n=>if (r+2 ^ k)*(r+2 ^ k)≤n then rootGo k (r+2 ^ k) n else rootGo k r n
def rootN (n:Nat):Nat:=rootGo (Lib.bitLen n / 2+1) 0 n
theorem bitLenAux_lt:∀ (f x:Nat),x<2 ^ f→x<2 ^ Lib.bitLenAux f x
 | 0,x,h=>by simpa[Lib.bitLenAux] using h
 | f+1,x,h=>by
  unfold Lib.bitLenAux
  split
  ·rename_i h0;subst h0;simp
  ·have:=bitLenAux_lt f (x / 2) (by rw[Nat.pow_succ] at h;omega)
   rw[Nat.add_comm,Nat.pow_succ]
   omega
theorem bitLenAux_le:∀ (f x:Nat),Lib.bitLenAux f x≤f
 | 0,x=>by simp[Lib.bitLenAux]
 | f+1,x=>by
  unfold Lib.bitLenAux
  split
  ·omega
  ·have:=bitLenAux_le f (x / 2)
   omega
theorem rootGo_spec:∀ (k r n:Nat),r*r≤n→n<(r+2 ^ k)*(r+2 ^ k)→rootGo k r n*rootGo k r n≤n∧n<(rootGo k r n+1)*(rootGo k r n+1)
 | 0,r,n,h1,h2=>⟨h1,by rw[Nat.pow_zero] at h2;exact h2⟩
 | k+1,r,n,h1,h2=>by
  unfold rootGo
  split
  ·rename_i h
   refine rootGo_spec k _ n h ?_
   rw[Nat.pow_succ] at h2
   rw[show r+2 ^ k+2 ^ k=r+2 ^ k*2 by omega]
   exact h2
  ·exact rootGo_spec k r n h1 (by omega)
theorem rootN_spec (n:Nat) (hn:n<18446744073709551616):rootN n*rootN n≤n∧n<(rootN n+1)*(rootN n+1):=by
 refine rootGo_spec _ 0 n (by omega) ?_
 have h:=bitLenAux_lt 64 n (by simpa using hn)
 rw[Nat.zero_add,←Nat.pow_add]
 refine Nat.lt_of_lt_of_le h (Nat.pow_le_pow_right (by omega) ?_)
 show Lib.bitLen n≤_
 omega
theorem root_bound (n:Nat) (hn:n≤9223372036854775808):rootN n<4294967296:=by
 have h:=(rootN_spec n (by omega)).1
 by_cases e:rootN n<4294967296
 ·exact e
 ·have:4294967296*4294967296≤rootN n*rootN n:=Nat.mul_le_mul (by omega) (by omega)
  omega
def bitV (k:Nat):Nat:=if k=0 then 0 else 2 ^ (k-1)
structure RootSt (n K k r:Nat):Prop where
 go:rootGo k r n=rootGo (K+1) 0 n
 mod:r%2 ^ k=0
 le:r+2 ^ k≤2 ^ (K+1)
theorem pow33 {K:Nat} (h:K≤32):2 ^ (K+1)≤8589934592:=Nat.le_trans (Nat.pow_le_pow_right (by omega) (show K+1≤33 by omega)) (by decide)
theorem rootSt_next {n K j r:Nat} (h:RootSt n K (j+1) r):(if (r+2 ^ j)*(r+2 ^ j)≤n then RootSt n K j (r+2 ^ j) else RootSt n K j r):=by
 obtain ⟨h1,h2,h3⟩:=h
 have hp:2 ^ (j+1)=2 ^ j*2:=Nat.pow_succ 2 j
 have hm:r%2 ^ j=0:=by
  have:2 ^ j ∣ 2 ^ (j+1):=⟨2,hp⟩
  exact Nat.mod_eq_zero_of_dvd (Nat.dvd_trans this (Nat.dvd_of_mod_eq_zero h2))
 rw[show rootGo (j+1) r n=if (r+2 ^ j)*(r+2 ^ j)≤n then rootGo j (r+2 ^ j) n else rootGo j r n from rfl] at h1
 split
 ·rename_i c
  have h1':rootGo j (r+2 ^ j) n=rootGo (K+1) 0 n:=by rw[←h1,if_pos c]
  exact ⟨h1',by rw[Nat.add_mod_right];exact hm,by omega⟩
 ·rename_i c
  have h1':rootGo j r n=rootGo (K+1) 0 n:=by rw[←h1,if_neg c]
  exact ⟨h1',hm,by omega⟩
set_option maxHeartbeats 1000000 in
theorem tg_Root (n:Nat) (hn:n<18446744073709551616) (w:World):Calls Tryz.prog 279 #[.int .u64 n] w fun e w'=>e=.returned (.int .u64 (rootN n))∧w=w':=by
 have hb:Lib.bitLen n≤64:=bitLenAux_le 64 n
 have hL:=bt_Len64 n hn
 unfold rootN
 generalize Lib.bitLen n=b at *
 obtain ⟨K,hK,hK2⟩:∃ K,b / 2=K∧K≤32:=⟨b / 2,rfl,by omega⟩
 rw[hK]
 have hw:wrap64 ((b:Int) / 2)=(K:Int):=by unfold wrap64;omega
 have hp33:=pow33 hK2
 have hpK:2 ^ K*2=2 ^ (K+1):=(Nat.pow_succ 2 K).symm
 have hsh:IntKind.u64.wrap (1*2 ^ (K:Int).toNat)=((2 ^ K:Nat):Int):=by
  rw[Int.one_mul,Int.toNat_natCast,show ((2:Int) ^ K)=((2 ^ K:Nat):Int) by simp,IntKind.wrap_u64]
  omega
 have hsh2:IntKind.u64.wrap (2 ^ K)=((2 ^ K:Nat):Int):=by
  rw[show ((2:Int) ^ K)=((2 ^ K:Nat):Int) by simp,IntKind.wrap_u64]
  omega
 have h0:RootSt n K (K+1) 0:=⟨rfl,by simp,by omega⟩
 have H0:=hid h0
 have HL:=hid hL
 clear hL h0
 go_enter Tryz.func279,Tryz.ntmps279
 go_wp2_with fail
 refine (HL.out w).mono ?_
 rintro e _ ⟨rfl,rfl⟩
 simp only
 go_wp2_with fail
 have HK:=hid hK
 have Hs2:=hid hsh2
 clear hK hsh2 hsh hw
 go_loopg [3,4] (K+1) (fun g v bt wr=>∃ k r:Nat,g=k∧v=.int .u64 r∧bt=.int .u64 (bitV k)∧RootSt n K k r∧w=wr)
 case atStart=>exact ⟨K+1,0,rfl,rfl,by rw[HK.out,Hs2.out];simp[bitV],H0.out,rfl⟩
 case round=>
  obtain ⟨k,r,hg,rfl,rfl,hS,rfl⟩:=hrel
  cases k with
  | zero=>
   have hgo:r=rootGo (K+1) 0 n:=hS.go
   simp only[bitV,if_true]
   have Hgo:=hid hgo
   go_wp2_with fail
   go_ret
   exact ⟨by rw[←Hgo.out];rfl,rfl⟩
  | succ j=>
   have hN:=rootSt_next hS
   have hle:=hS.le
   have hmod:=hS.mod
   have hpj:2 ^ (j+1)=2 ^ j*2:=Nat.pow_succ 2 j
   have hpos:0<2 ^ j:=Nat.pos_of_ne_zero (by simp)
   simp only[bitV,Nat.add_eq_zero_iff,Nat.one_ne_zero,and_false,if_false,Nat.add_sub_cancel]
   have hor:bits .or .u64 (r:Int) ((2 ^ j:Nat):Int)=((r+2 ^ j:Nat):Int):=by
    have hle33:r+2 ^ (j+1)≤8589934592:=Nat.le_trans hle hp33
    refine (bits_join .u64 64 (by decide) (fun n h0 h1=>?_) (j+1) (r:Int) ((2 ^ j:Nat):Int) (by omega) ?_ ?_ (by omega) ?_ ?_).trans (by omega)
    ·rw[IntKind.wrap_u64]
     have:(2:Int) ^ 64=18446744073709551616:=by decide
     omega
    ·have:=congrArg (fun z:Nat=>(z:Int)) hmod
     simpa using this
    ·have:(2:Int) ^ 64=18446744073709551616:=by decide
     omega
    ·have:(2:Int) ^ (j+1)=((2 ^ (j+1):Nat):Int):=by simp
     rw[this]
     omega
    ·have:(2:Int) ^ 64=18446744073709551616:=by decide
     omega
   have hnx:r+2 ^ j<18446744073709551616:=by omega
   have hshr:((2 ^ j:Nat):Int) / 2=(bitV j:Int):=by
    unfold bitV
    cases j with
    | zero=>decide
    | succ i=>rw[if_neg (by omega),Nat.add_sub_cancel,Nat.pow_succ];omega
   have HM:=hid (bt_Mul64 (r+2 ^ j) (r+2 ^ j) hnx hnx)
   generalize hpw:2 ^ j=pw at *
   have hc1:(0:Int)<((pw:Nat):Int):=by omega
   by_cases hc:(r+pw)*(r+pw)≤n
   ·rw[if_pos hc] at hN
    have e1:(r+pw)*(r+pw) / 18446744073709551616=0:=Nat.div_eq_of_lt (by omega)
    have e2:(r+pw)*(r+pw)%18446744073709551616=(r+pw)*(r+pw):=Nat.mod_eq_of_lt (by omega)
    rw[e1,e2] at HM
    have hci:(((r+pw)*(r+pw):Nat):Int)≤(n:Int):=by omega
    generalize (r+pw)*(r+pw)=sq at *
    generalize r+pw=nx at *
    have HN:=hid hN
    clear hN hS e1 e2 hle hmod hpj
    go_wp2_with fail
    refine (HM.out _).mono ?_
    rintro e _ ⟨rfl,rfl⟩
    simp only
    go_wp2_with fail
    go_roundg j
    case rel=>exact ⟨j,nx,rfl,rfl,by rw[←hshr],HN.out,rfl⟩
    case measure=>omega
   ·rw[if_neg hc] at hN
    have HN:=hid hN
    by_cases h9:(r+pw)*(r+pw) / 18446744073709551616=0
    ·have e2:(r+pw)*(r+pw)%18446744073709551616=(r+pw)*(r+pw):=Nat.mod_eq_of_lt (by omega)
     rw[h9,e2] at HM
     have hci:¬ (((r+pw)*(r+pw):Nat):Int)≤(n:Int):=by omega
     generalize (r+pw)*(r+pw)=sq at *
     generalize r+pw=nx at *
     clear hN hS h9 e2 hle hmod hpj hc
     go_wp2_with fail
     refine (HM.out _).mono ?_
     rintro e _ ⟨rfl,rfl⟩
     simp only
     go_wp2_with fail
     go_roundg j
     case rel=>exact ⟨j,r,rfl,rfl,by rw[←hshr],HN.out,rfl⟩
     case measure=>omega
    ·generalize (r+pw)*(r+pw) / 18446744073709551616=hi at *
     generalize (r+pw)*(r+pw)%18446744073709551616=lo at *
     have h9i:((hi:Int) == 0)=false:=by rw[beq_eq_false_iff_ne];omega
     generalize (r+pw)*(r+pw)=sq at *
     generalize r+pw=nx at *
     clear hN hS h9 hle hmod hpj hc
     go_wp2_with fail
     refine (HM.out _).mono ?_
     rintro e _ ⟨rfl,rfl⟩
     simp only
     go_wp2_with fail
     go_roundg j
     case rel=>exact ⟨j,r,rfl,rfl,by rw[←hshr],HN.out,rfl⟩
     case measure=>omega
end
section
open Go.RowKit
set_option maxRecDepth 10000
def lenI (x y:Int):Int:=satI (rootN (x*x+y*y).toNat)
theorem tg_Length (x y:Int) (hx:isFix x) (hy:isFix y) (w:World):Calls Tryz.prog 212 #[.int .i32 x,.int .i32 y] w fun e w'=>e=.returned (.int .i32 (lenI x y))∧w=w':=by
 have h1:=fix_sq hx
 have h2:=fix_sq hy
 have e1:IntKind.u64.wrap (x*x+y*y)=x*x+y*y:=by rw[IntKind.wrap_u64];omega
 obtain ⟨n,hn⟩:=Int.eq_ofNat_of_zero_le (show 0≤x*x+y*y by omega)
 have hnb:n≤9223372036854775808:=by omega
 have hR:=tg_Root n (by omega)
 have hrb:=root_bound n hnb
 unfold lenI
 rw[hn] at e1 ⊢
 rw[Int.toNat_natCast]
 generalize rootN n=r at *
 have e2:IntKind.i64.wrap (r:Int)=(r:Int):=IntWalk.i64_in _ (by omega)
 have HR:=hid hR
 have Hn:=hid hn
 clear hR
 go_enter Tryz.func212,Tryz.ntmps212
 go_wp2_with fail
 refine (tg_square x hx w).mono ?_
 rintro e _ ⟨rfl,rfl⟩
 go_wp2_with fail
 refine (tg_square y hy w).mono ?_
 rintro e _ ⟨rfl,rfl⟩
 go_wp2_with fail
 refine (HR.out w).mono ?_
 rintro e _ ⟨rfl,rfl⟩
 go_wp2_with fail
 refine (fs_Sat r w).mono ?_
 rintro e _ ⟨rfl,rfl⟩
 go_wp2_with fail
 go_ret
 exact ⟨rfl,rfl⟩
theorem lenI_fix (x y:Int):isFix (lenI x y):=satI_fix _
def towX (x y s:Int):Int:=if lenI x y=0 then 0 else divI (mulI x s) (lenI x y)
def towY (x y s:Int):Int:=if lenI x y=0 then 0 else divI (mulI y s) (lenI x y)
theorem tg_Toward (x y s:Int) (hx:isFix x) (hy:isFix y) (hs:isFix s) (w:World):Calls Tryz.prog 384 #[.int .i32 x,.int .i32 y,.int .i32 s] w fun e w'=>e=.returned (.tuple #[.int .i32 (towX x y s),.int .i32 (towY x y s)])∧w=w':=by
 have hL:=tg_Length x y hx hy
 have hl:=lenI_fix x y
 unfold towX towY
 generalize lenI x y=l at *
 have HL:=hid hL
 clear hL
 by_cases h:l=0
 ·rw[if_pos h,if_pos h]
  subst h
  go_enter Tryz.func384,Tryz.ntmps384
  go_wp2_with fail
  refine (HL.out w).mono ?_
  rintro e _ ⟨rfl,rfl⟩
  simp only
  go_wp2_with fail
  go_ret2
  exact ⟨rfl,rfl⟩
 ·rw[if_neg h,if_neg h]
  have hz:((l:Int) == 0)=false:=by rw[beq_eq_false_iff_ne];exact h
  go_enter Tryz.func384,Tryz.ntmps384
  go_wp2_with fail
  refine (HL.out w).mono ?_
  rintro e _ ⟨rfl,rfl⟩
  simp only
  go_wp2_with fail
  refine (fs_Mul x s hx hs w).mono ?_
  rintro e _ ⟨rfl,rfl⟩
  go_wp2_with fail
  refine (fs_Div (mulI x s) l (satI_fix _) hl w).mono ?_
  rintro e _ ⟨rfl,rfl⟩
  go_wp2_with fail
  refine (fs_Mul y s hy hs w).mono ?_
  rintro e _ ⟨rfl,rfl⟩
  go_wp2_with fail
  refine (fs_Div (mulI y s) l (satI_fix _) hl w).mono ?_
  rintro e _ ⟨rfl,rfl⟩
  go_wp2_with fail
  go_ret2
  exact ⟨rfl,rfl⟩
theorem sh_eachA (a b c d x y:Int) (h1:∀ w,Calls Tryz.prog 278 #[.int .i32 a,.int .i32 c] w fun e w'=>e=.returned (.int .i32 x)∧w=w') (h2:∀ w,Calls Tryz.prog 278 #[.int .i32 b,.int .i32 d] w fun e w'=>e=.returned (.int .i32 y)∧w=w') (w:World) :
  Calls Tryz.prog 277 #[.agg #[.int .i32 a,.int .i32 b],.agg #[.int .i32 c,.int .i32 d],.func (.func 278) #[] #[]] w fun e w'=>e=.returned (.agg #[.int .i32 x,.int .i32 y])∧Below w.heap.size w w':=by
 go_enter Tryz.func277,Tryz.ntmps277
 go_wp2_with fail
 refine wp_region_taild 13 (by kernel_rfl) (by kernel_rfl) ?_
 simp only[List.take_succ_cons,List.take_zero,List.drop_succ_cons,List.drop_zero]
 repeat (go_big_quiet_step ((first|(with_reducible exact (h1 _).mono fun _ _ h=>⟨h.1,_,h.2.symm⟩)|(with_reducible exact (h2 _).mono fun _ _ h=>⟨h.1,_,h.2.symm⟩))))
 refine wpQuiet_nil ?_
 intro _ hw'
 obtain ⟨nq,hw''⟩:=hw'
 subst hw''
 go_wp2_with fail
 refine bodyPost_ret (v:=.agg #[.int .i32 x,.int .i32 y]) (by simp[results,Tryz.results277,go_sem]) rfl ?_
 have b3:=(((Below.refl w.heap.size w).alloc (Nat.le_refl _) (.cells #[.int .i32 a,.int .i32 b] 91)).alloc (by simp) (.cells #[.int .i32 c,.int .i32 d] 91)).alloc (by simp;omega) (.cells #[.int .i32 0,.int .i32 0] 91)
 refine ⟨rfl,Below.setCell (Below.setCell ?_ ?_ _) ?_ _⟩
 ·exact ⟨b3.os,b3.tape,b3.output,b3.size,b3.block⟩
 all_goals show w.heap.size≤w.heap.size+1+1
 all_goals omega
theorem sh_eachS (a b c d x y:Int) (h1:∀ w,Calls Tryz.prog 281 #[.int .i32 a,.int .i32 c] w fun e w'=>e=.returned (.int .i32 x)∧w=w') (h2:∀ w,Calls Tryz.prog 281 #[.int .i32 b,.int .i32 d] w fun e w'=>e=.returned (.int .i32 y)∧w=w') (w:World) :
  Calls Tryz.prog 277 #[.agg #[.int .i32 a,.int .i32 b],.agg #[.int .i32 c,.int .i32 d],.func (.func 281) #[] #[]] w fun e w'=>e=.returned (.agg #[.int .i32 x,.int .i32 y])∧Below w.heap.size w w':=by
 go_enter Tryz.func277,Tryz.ntmps277
 go_wp2_with fail
 refine wp_region_taild 13 (by kernel_rfl) (by kernel_rfl) ?_
 simp only[List.take_succ_cons,List.take_zero,List.drop_succ_cons,List.drop_zero]
 repeat (go_big_quiet_step ((first|(with_reducible exact (h1 _).mono fun _ _ h=>⟨h.1,_,h.2.symm⟩)|(with_reducible exact (h2 _).mono fun _ _ h=>⟨h.1,_,h.2.symm⟩))))
 refine wpQuiet_nil ?_
 intro _ hw'
 obtain ⟨nq,hw''⟩:=hw'
 subst hw''
 go_wp2_with fail
 refine bodyPost_ret (v:=.agg #[.int .i32 x,.int .i32 y]) (by simp[results,Tryz.results277,go_sem]) rfl ?_
 have b3:=(((Below.refl w.heap.size w).alloc (Nat.le_refl _) (.cells #[.int .i32 a,.int .i32 b] 91)).alloc (by simp) (.cells #[.int .i32 c,.int .i32 d] 91)).alloc (by simp;omega) (.cells #[.int .i32 0,.int .i32 0] 91)
 refine ⟨rfl,Below.setCell (Below.setCell ?_ ?_ _) ?_ _⟩
 ·exact ⟨b3.os,b3.tape,b3.output,b3.size,b3.block⟩
 all_goals show w.heap.size≤w.heap.size+1+1
 all_goals omega
theorem sh_eachM (a b c d x y:Int) (h1:∀ w,Calls Tryz.prog 371 #[.int .i32 a,.int .i32 c] w fun e w'=>e=.returned (.int .i32 x)∧w=w') (h2:∀ w,Calls Tryz.prog 371 #[.int .i32 b,.int .i32 d] w fun e w'=>e=.returned (.int .i32 y)∧w=w') (w:World) :
  Calls Tryz.prog 277 #[.agg #[.int .i32 a,.int .i32 b],.agg #[.int .i32 c,.int .i32 d],.func (.func 371) #[] #[]] w fun e w'=>e=.returned (.agg #[.int .i32 x,.int .i32 y])∧Below w.heap.size w w':=by
 go_enter Tryz.func277,Tryz.ntmps277
 go_wp2_with fail
 refine wp_region_taild 13 (by kernel_rfl) (by kernel_rfl) ?_
 simp only[List.take_succ_cons,List.take_zero,List.drop_succ_cons,List.drop_zero]
 repeat (go_big_quiet_step ((first|(with_reducible exact (h1 _).mono fun _ _ h=>⟨h.1,_,h.2.symm⟩)|(with_reducible exact (h2 _).mono fun _ _ h=>⟨h.1,_,h.2.symm⟩))))
 refine wpQuiet_nil ?_
 intro _ hw'
 obtain ⟨nq,hw''⟩:=hw'
 subst hw''
 go_wp2_with fail
 refine bodyPost_ret (v:=.agg #[.int .i32 x,.int .i32 y]) (by simp[results,Tryz.results277,go_sem]) rfl ?_
 have b3:=(((Below.refl w.heap.size w).alloc (Nat.le_refl _) (.cells #[.int .i32 a,.int .i32 b] 91)).alloc (by simp) (.cells #[.int .i32 c,.int .i32 d] 91)).alloc (by simp;omega) (.cells #[.int .i32 0,.int .i32 0] 91)
 refine ⟨rfl,Below.setCell (Below.setCell ?_ ?_ _) ?_ _⟩
 ·exact ⟨b3.os,b3.tape,b3.output,b3.size,b3.block⟩
 all_goals show w.heap.size≤w.heap.size+1+1
 all_goals omega
theorem box_load2 {w:World} {b:Nat} {t:TypeId} {x y:Value} (hB:w.heap[b]?=some (.cells #[x,y] t (0,0))):(loadCellsFrom ⟨b,0,none⟩ 0 2 #[]).run Tryz.prog w=.ok #[x,y] w:=by
 have h:=run_loadCells_list (P:=Tryz.prog) w ⟨b,0,none⟩ [x,y] (fun j v hj=>by
  rw[addr_add,Nat.zero_add]
  exact blk_cell hB (by simpa using hj))
 simpa[loadCells] using h
theorem blk_two {w:World} {b:Nat} {t:TypeId} {u v:Value} (h:w.heap[b]?=some (.cells #[u,v] t (0,0))) (x y:Value):((w.setCell ⟨b,0,none⟩ x).setCell ⟨b,1,none⟩ y).heap[b]?=some (.cells #[x,y] t (0,0)):=by
 have:=blk_set (blk_set h 0 x) 1 y
 simpa using this
theorem sh_AddV (a b c d:Int) (ha:isFix a) (hb:isFix b) (hc:isFix c) (hd:isFix d) (w:World) :
  Calls Tryz.prog 211 #[.agg #[.int .i32 a,.int .i32 b],.agg #[.int .i32 c,.int .i32 d]] w fun e w'=>e=.returned (.agg #[.int .i32 (addI a c),.int .i32 (addI b d)])∧Below w.heap.size w w':=by
 have hE:=sh_eachA a b c d (addI a c) (addI b d) (fun w=>fs_Add a c ha hc w) (fun w=>fs_Add b d hb hd w)
 generalize addI a c=x at *
 generalize addI b d=y at *
 have HE:=hid hE
 clear hE
 go_enter Tryz.func211,Tryz.ntmps211
 go_wp2_with fail
 refine (HE.out _).mono ?_
 rintro e w1 ⟨rfl,h1⟩
 have hR:w1.heap[w.heap.size+1+1]?=some (.cells #[.int .i32 0,.int .i32 0] 91 (0,0)):=(Keeps.of_below (S:=fun _=>False) h1 (fun k h1 h2=>by omega)).heap (by have:=blk_new ((w.alloc (.cells #[.int .i32 a,.int .i32 b] 91)).alloc (.cells #[.int .i32 c,.int .i32 d] 91)) (.cells #[.int .i32 0,.int .i32 0] 91);simpa using this) id
 have hbe:Below w.heap.size w w1:=((((Below.refl w.heap.size w).alloc (Nat.le_refl _) (.cells #[.int .i32 a,.int .i32 b] 91)).alloc (by simp) (.cells #[.int .i32 c,.int .i32 d] 91)).alloc (by simp;omega) (.cells #[.int .i32 0,.int .i32 0] 91)).trans (h1.mono (by simp;omega))
 obtain ⟨r0,r1⟩:=bc2 0 1 hR ⟨rfl,rfl⟩
 obtain ⟨g0,g1⟩:=bf2 hR 0 1
 clear h1
 go_wp2
 have hload:=box_load2 (blk_two hR (.int .i32 x) (.int .i32 y))
 refine bodyPost_ret (v:=.agg #[.int .i32 x,.int .i32 y]) (by simp[results,Tryz.results211,asAddr,loadVar,loadCells,Tryz.isAgg91,Tryz.sizeOf91,hload]) rfl ?_
 exact ⟨rfl,(hbe.setCell (by show w.heap.size≤w.heap.size+1+1;omega) _).setCell (by show w.heap.size≤w.heap.size+1+1;omega) _⟩
theorem sh_SubV (a b c d:Int) (ha:isFix a) (hb:isFix b) (hc:isFix c) (hd:isFix d) (w:World) :
  Calls Tryz.prog 213 #[.agg #[.int .i32 a,.int .i32 b],.agg #[.int .i32 c,.int .i32 d]] w fun e w'=>e=.returned (.agg #[.int .i32 (subI a c),.int .i32 (subI b d)])∧Below w.heap.size w w':=by
 have hE:=sh_eachS a b c d (subI a c) (subI b d) (fun w=>fs_Sub a c ha hc w) (fun w=>fs_Sub b d hb hd w)
 generalize subI a c=x at *
 generalize subI b d=y at *
 have HE:=hid hE
 clear hE
 go_enter Tryz.func213,Tryz.ntmps213
 go_wp2_with fail
 refine (HE.out _).mono ?_
 rintro e w1 ⟨rfl,h1⟩
 have hR:w1.heap[w.heap.size+1+1]?=some (.cells #[.int .i32 0,.int .i32 0] 91 (0,0)):=(Keeps.of_below (S:=fun _=>False) h1 (fun k h1 h2=>by omega)).heap (by have:=blk_new ((w.alloc (.cells #[.int .i32 a,.int .i32 b] 91)).alloc (.cells #[.int .i32 c,.int .i32 d] 91)) (.cells #[.int .i32 0,.int .i32 0] 91);simpa using this) id
 have hbe:Below w.heap.size w w1:=((((Below.refl w.heap.size w).alloc (Nat.le_refl _) (.cells #[.int .i32 a,.int .i32 b] 91)).alloc (by simp) (.cells #[.int .i32 c,.int .i32 d] 91)).alloc (by simp;omega) (.cells #[.int .i32 0,.int .i32 0] 91)).trans (h1.mono (by simp;omega))
 obtain ⟨r0,r1⟩:=bc2 0 1 hR ⟨rfl,rfl⟩
 obtain ⟨g0,g1⟩:=bf2 hR 0 1
 clear h1
 go_wp2
 have hload:=box_load2 (blk_two hR (.int .i32 x) (.int .i32 y))
 refine bodyPost_ret (v:=.agg #[.int .i32 x,.int .i32 y]) (by simp[results,Tryz.results213,asAddr,loadVar,loadCells,Tryz.isAgg91,Tryz.sizeOf91,hload]) rfl ?_
 exact ⟨rfl,(hbe.setCell (by show w.heap.size≤w.heap.size+1+1;omega) _).setCell (by show w.heap.size≤w.heap.size+1+1;omega) _⟩
theorem sh_Scale (a b s:Int) (ha:isFix a) (hb:isFix b) (hs:isFix s) (w:World) :
  Calls Tryz.prog 361 #[.agg #[.int .i32 a,.int .i32 b],.int .i32 s] w fun e w'=>e=.returned (.agg #[.int .i32 (mulI a s),.int .i32 (mulI b s)])∧Below w.heap.size w w':=by
 have hE:=sh_eachM a b s s (mulI a s) (mulI b s) (fun w=>fs_Mul a s ha hs w) (fun w=>fs_Mul b s hb hs w)
 generalize mulI a s=x at *
 generalize mulI b s=y at *
 have HE:=hid hE
 clear hE
 go_enter Tryz.func361,Tryz.ntmps361
 go_wp2_with fail
 refine (HE.out _).mono ?_
 rintro e w1 ⟨rfl,h1⟩
 have hR:w1.heap[w.heap.size+1]?=some (.cells #[.int .i32 0,.int .i32 0] 91 (0,0)):=(Keeps.of_below (S:=fun _=>False) h1 (fun k h1 h2=>by omega)).heap (by have:=blk_new (w.alloc (.cells #[.int .i32 a,.int .i32 b] 91)) (.cells #[.int .i32 0,.int .i32 0] 91);simpa using this) id
 have hbe:Below w.heap.size w w1:=(((Below.refl w.heap.size w).alloc (Nat.le_refl _) (.cells #[.int .i32 a,.int .i32 b] 91)).alloc (by simp) (.cells #[.int .i32 0,.int .i32 0] 91)).trans (h1.mono (by simp;omega))
 obtain ⟨r0,r1⟩:=bc2 0 1 hR ⟨rfl,rfl⟩
 obtain ⟨g0,g1⟩:=bf2 hR 0 1
 clear h1
 go_wp2
 have hload:=box_load2 (blk_two hR (.int .i32 x) (.int .i32 y))
 refine bodyPost_ret (v:=.agg #[.int .i32 x,.int .i32 y]) (by simp[results,Tryz.results361,asAddr,loadVar,loadCells,Tryz.isAgg91,Tryz.sizeOf91,hload]) rfl ?_
 exact ⟨rfl,(hbe.setCell (by show w.heap.size≤w.heap.size+1;omega) _).setCell (by show w.heap.size≤w.heap.size+1;omega) _⟩
def wallI (p v lo hi bl ab:Int):Int×Int×Int:=
 let q:=addI p v
 let back:=mulI (negI v) 32768
 if q<lo then (lo,back,bl) else if hi<q then (hi,back,ab) else (q,v,0)
theorem sh_wall (p v lo hi bl ab:Int) (hp:isFix p) (hv:isFix v) (w:World) :
  Calls Tryz.prog 376 #[.int .i32 p,.int .i32 v,.int .i32 lo,.int .i32 hi,.int .i64 bl,.int .i64 ab] w fun e w'=>e=.returned (.tuple #[.int .i32 (wallI p v lo hi bl ab).1,.int .i32 (wallI p v lo hi bl ab).2.1,.int .i64 (wallI p v lo hi bl ab).2.2])∧w=w':=by
 have hA:=fs_Add p v hp hv
 have hN:=fs_Neg v hv
 have hM:=fs_Mul (negI v) 32768 (satI_fix _) (by unfold isFix;omega)
 unfold wallI
 simp only
 generalize negI v=nv at *
 generalize mulI nv 32768=bk at *
 generalize addI p v=q at *
 have HA:=hid hA
 have HN:=hid hN
 have HM:=hid hM
 clear hA hN hM
 by_cases h1:q<lo
 ·simp only[if_pos h1]
  go_enter Tryz.func376,Tryz.ntmps376
  go_wp2_with fail
  refine (HA.out w).mono ?_
  rintro e _ ⟨rfl,rfl⟩
  go_wp2_with fail
  refine (HN.out w).mono ?_
  rintro e _ ⟨rfl,rfl⟩
  go_wp2_with fail
  refine (HM.out w).mono ?_
  rintro e _ ⟨rfl,rfl⟩
  go_wp2
  go_ret3
  exact ⟨rfl,rfl⟩
 ·simp only[if_neg h1]
  by_cases h2:hi<q
  ·simp only[if_pos h2]
   go_enter Tryz.func376,Tryz.ntmps376
   go_wp2_with fail
   refine (HA.out w).mono ?_
   rintro e _ ⟨rfl,rfl⟩
   go_wp2_with fail
   refine (HN.out w).mono ?_
   rintro e _ ⟨rfl,rfl⟩
   go_wp2_with fail
   refine (HM.out w).mono ?_
   rintro e _ ⟨rfl,rfl⟩
   go_wp2
   go_ret3
   exact ⟨rfl,rfl⟩
  ·simp only[if_neg h2]
   go_enter Tryz.func376,Tryz.ntmps376
   go_wp2_with fail
   refine (HA.out w).mono ?_
   rintro e _ ⟨rfl,rfl⟩
   go_wp2_with fail
   refine (HN.out w).mono ?_
   rintro e _ ⟨rfl,rfl⟩
   go_wp2_with fail
   refine (HM.out w).mono ?_
   rintro e _ ⟨rfl,rfl⟩
   go_wp2
   go_ret3
   exact ⟨rfl,rfl⟩
end
end Go.Proofs.YtalagblioepadaaGreatDoor
