/- The proof, part 19. -/
import Derived.Test.YtalagblioepadaaGreatDoorZa18
import Derived.Test.YtalagblioepadaaGreatDoorZa05
import Derived.Laws.BitsLemmas
namespace Go.Proofs.YtalagblioepadaaGreatDoor
section
open Go.RowKit
set_option maxRecDepth 10000
theorem i64_mask (k:Nat) (n:Int) (m:Int) (hk:k<63) (hm:m=((2 ^ k-1:Nat):Int)):bits .and .i64 n m=n%((2 ^ k:Nat):Int):=by
 have hp:0<2 ^ k:=Nat.pos_of_ne_zero (by simp)
 have hle:2 ^ k≤2 ^ 62:=Nat.pow_le_pow_right (by omega) (by omega)
 have h62:(2:Nat) ^ 62=4611686018427387904:=by decide
 have h1:(BitVec.ofInt 64 m).toNat=2 ^ k-1:=by
  rw[hm,BitVec.toNat_ofInt]
  have:((2 ^ 64:Nat):Int)=18446744073709551616:=by decide
  omega
 have key:(BitVec.ofInt 64 n &&& BitVec.ofInt 64 m).toNat=(n%((2 ^ 64:Nat):Int)).toNat%2 ^ k:=by
  rw[BitVec.toNat_and,h1,BitVec.toNat_ofInt,Nat.and_two_pow_sub_one_eq_mod]
 show IntKind.i64.wrap ((BitVec.ofInt 64 n &&& BitVec.ofInt 64 m).toNat:Nat)=_
 rw[key,IntKind.wrap_i64]
 have hd:((2 ^ k:Nat):Int) ∣ ((2 ^ 64:Nat):Int):=by
  refine ⟨((2 ^ (64-k):Nat):Int),?_⟩
  rw[←Int.natCast_mul,←Nat.pow_add]
  congr 2
  omega
 have e1:(((n%((2 ^ 64:Nat):Int)).toNat%2 ^ k:Nat):Int)=n%((2 ^ k:Nat):Int):=by
  rw[Int.natCast_emod,Int.toNat_of_nonneg (Int.emod_nonneg _ (by decide)),Int.emod_emod_of_dvd _ hd]
 rw[e1]
 have h3:=Int.emod_nonneg n (b:=((2 ^ k:Nat):Int)) (by omega)
 have h4:=Int.emod_lt_of_pos n (b:=((2 ^ k:Nat):Int)) (by omega)
 omega
theorem and65535 (n:Int):bits .and .i64 n 65535=n%65536:=i64_mask 16 n 65535 (by omega) (by decide)
theorem and32767 (n:Int):bits .and .i64 n 32767=n%32768:=i64_mask 15 n 32767 (by omega) (by decide)
def sinI (angle:Int):Int:=
 let a:=angle%65536
 let x:=a%32768
 let p:=x*(32768-x)
 let n:=satI ((p*1048576).tdiv (5368709120-4*p))
 if 32768≤a then negI n else n
theorem sin_p {x:Int} (h0:0≤x) (h1:x<32768):0≤x*(32768-x)∧x*(32768-x)≤268435456:=by
 obtain ⟨n,rfl⟩:=Int.eq_ofNat_of_zero_le h0
 refine ⟨Int.mul_nonneg h0 (by omega),?_⟩
 have h2:((n:Int)-16384)*((n:Int)-16384) ≥ 0:=by
  rcases Int.le_total ((n:Int)-16384) 0 with h|h
  ·exact Int.mul_nonneg_of_nonpos_of_nonpos h h
  ·exact Int.mul_nonneg h h
 have e1:((n:Int)-16384)*((n:Int)-16384)=(n:Int)*n-32768*n+268435456:=by
  rw[Int.sub_mul,Int.mul_sub,Int.mul_sub]
  omega
 have e2:(n:Int)*(32768-(n:Int))=32768*n-(n:Int)*n:=by
  rw[Int.mul_sub,Int.mul_comm]
 omega
theorem tg_Sin (angle:Int) (w:World):Calls Tryz.prog 373 #[.int .i64 angle] w fun e w'=>e=.returned (.int .i32 (sinI angle))∧w=w':=by
 have h0:=and65535 angle
 have ha1:0≤angle%65536∧angle%65536<65536:=by omega
 unfold sinI
 simp only
 generalize angle%65536=a at *
 have h1:=and32767 a
 have hx1:0≤a%32768∧a%32768<32768:=by omega
 generalize a%32768=x at *
 have hp:=sin_p hx1.1 hx1.2
 have e0:IntKind.i64.wrap x=x:=IntWalk.i64_in _ (by omega)
 have e1:IntKind.i64.wrap (32768-x)=32768-x:=IntWalk.i64_in _ (by omega)
 have e2:IntKind.i64.wrap (x*(32768-x))=x*(32768-x):=IntWalk.i64_in _ (by omega)
 have e3:IntKind.i64.wrap (x*(32768-x)*1048576)=x*(32768-x)*1048576:=IntWalk.i64_in _ (by omega)
 have e4:IntKind.i64.wrap (4*(x*(32768-x)))=4*(x*(32768-x)):=IntWalk.i64_in _ (by omega)
 have e5:IntKind.i64.wrap (5368709120-4*(x*(32768-x)))=5368709120-4*(x*(32768-x)):=IntWalk.i64_in _ (by omega)
 have hne:¬ 5368709120-4*(x*(32768-x))=0:=by omega
 have hb:((x*(32768-x)*1048576).tdiv (5368709120-4*(x*(32768-x)))).natAbs≤(x*(32768-x)*1048576).natAbs:=by rw[Int.natAbs_tdiv];exact Nat.div_le_self _ _
 have e6:IntKind.i64.wrap ((x*(32768-x)*1048576).tdiv (5368709120-4*(x*(32768-x))))=(x*(32768-x)*1048576).tdiv (5368709120-4*(x*(32768-x))):=IntWalk.i64_in _ (by omega)
 by_cases hc:32768≤a
 ·rw[if_pos hc]
  go_enter Tryz.func373,Tryz.ntmps373
  go_wp2_with fail
  refine (fs_Sat _ _).mono ?_
  rintro e _ ⟨rfl,rfl⟩
  go_wp2_with fail
  refine (fs_Neg _ (satI_fix _) _).mono ?_
  rintro e _ ⟨rfl,rfl⟩
  go_wp2
  go_ret
  exact ⟨rfl,rfl⟩
 ·rw[if_neg hc]
  go_enter Tryz.func373,Tryz.ntmps373
  go_wp2_with fail
  refine (fs_Sat _ _).mono ?_
  rintro e _ ⟨rfl,rfl⟩
  go_wp2_with fail
  go_ret
  exact ⟨rfl,rfl⟩
theorem fix_sq {a:Int} (ha:isFix a):0≤a*a∧a*a≤4611686018427387904:=by
 have h:=fix_mul ha ha
 refine ⟨?_,h.2⟩
 rcases Int.le_total a 0 with h|h
 ·exact Int.mul_nonneg_of_nonpos_of_nonpos h h
 ·exact Int.mul_nonneg h h
theorem tg_square (a:Int) (ha:isFix a) (w:World):Calls Tryz.prog 280 #[.int .i32 a] w fun e w'=>e=.returned (.int .u64 (a*a))∧w=w':=by
 have h:=fix_sq ha
 have e1:=i64_of_fix ha
 have e2:IntKind.i64.wrap (a*a)=a*a:=IntWalk.i64_in _ (by omega)
 have e3:IntKind.u64.wrap (a*a)=a*a:=by rw[IntKind.wrap_u64];omega
 go_enter Tryz.func280,Tryz.ntmps280
 go_wp2
 go_ret
 exact ⟨rfl,rfl⟩
def nearI (x y r:Int):Bool:=decide (0≤r)&&decide (x*x+y*y≤r*r)
theorem tg_Near (x y r:Int) (hx:isFix x) (hy:isFix y) (hr:isFix r) (w:World):Calls Tryz.prog 365 #[.int .i32 x,.int .i32 y,.int .i32 r] w fun e w'=>e=.returned (.bool (nearI x y r))∧w=w':=by
 have h1:=fix_sq hx
 have h2:=fix_sq hy
 have h3:=fix_sq hr
 have e1:IntKind.u64.wrap (x*x+y*y)=x*x+y*y:=by rw[IntKind.wrap_u64];omega
 by_cases h:0≤r
 ·by_cases h4:x*x+y*y≤r*r
  ·rw[show nearI x y r=true by simp[nearI,h,h4]]
   go_enter Tryz.func365,Tryz.ntmps365
   go_wp2_with fail
   refine (tg_square x hx w).mono ?_
   rintro e _ ⟨rfl,rfl⟩
   go_wp2_with fail
   refine (tg_square y hy w).mono ?_
   rintro e _ ⟨rfl,rfl⟩
   go_wp2_with fail
   refine (tg_square r hr w).mono ?_
   rintro e _ ⟨rfl,rfl⟩
   go_wp2_with fail
   go_ret
   first|exact ⟨rfl,rfl⟩|(refine ⟨?_,rfl⟩;show Ending.returned (Value.bool (decide _))=_;rw[decide_eq_false (show ¬ (x*x+y*y≤r*r) by omega)])
  ·rw[show nearI x y r=false by simp[nearI];omega]
   go_enter Tryz.func365,Tryz.ntmps365
   go_wp2_with fail
   refine (tg_square x hx w).mono ?_
   rintro e _ ⟨rfl,rfl⟩
   go_wp2_with fail
   refine (tg_square y hy w).mono ?_
   rintro e _ ⟨rfl,rfl⟩
   go_wp2_with fail
   refine (tg_square r hr w).mono ?_
   rintro e _ ⟨rfl,rfl⟩
   go_wp2_with fail
   go_ret
   first|exact ⟨rfl,rfl⟩|(refine ⟨?_,rfl⟩;show Ending.returned (Value.bool (decide _))=_;rw[decide_eq_false (show ¬ (x*x+y*y≤r*r) by omega)])
 ·rw[show nearI x y r=false by simp[nearI];omega]
  go_enter Tryz.func365,Tryz.ntmps365
  go_wp2_with fail
  go_ret
  exact ⟨rfl,rfl⟩
end
end Go.Proofs.YtalagblioepadaaGreatDoor
