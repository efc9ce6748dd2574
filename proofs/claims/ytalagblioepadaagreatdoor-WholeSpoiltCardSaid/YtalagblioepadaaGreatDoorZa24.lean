/- The proof, part 24. -/
import Derived.Test.YtalagblioepadaaGreatDoorZa01
import Derived.Test.YtalagblioepadaaGreatDoorZa20
import Derived.Test.YtalagblioepadaaGreatDoorZa06
import Derived.Test.YtalagblioepadaaGreatDoorZa14
import Derived.Deep.LoopGhost
namespace Go.Proofs.YtalagblioepadaaGreatDoor
section
open Go.RowKit
set_option maxRecDepth 10000
def be2 (n:Int):List UInt8:=[UInt8.ofNat (n / 256%256).toNat,UInt8.ofNat (n%256).toNat]
variable {w:World} {base n:Nat} {v:Value} {xs:List Value}
theorem own_byte {l:List UInt8} {c:UInt8} {k m:Nat} {y:Int} {ys:List Value} (hl:l[k]?=some c) (hys:xs++(l.take k).map byteV=ys) (h:w.ownsRow base 5 1 v m (ys++[.int .u8 y])) (hm:m=n+(k+1)) (hy:y=c.toNat) :
  w.ownsRow base 5 1 v (n+(k+1)) (xs++(l.take (k+1)).map byteV):=by
 obtain ⟨hk,rfl⟩:=List.getElem?_eq_some_iff.1 hl
 rw[List.take_succ_eq_append_getElem hk,List.map_append,←List.append_assoc,hys]
 subst hy hm
 exact h
set_option maxHeartbeats 1600000 in
theorem wire_put4 (hown:w.ownsRow base 5 1 v n xs) (hB:base≤w.heap.size) (hn:n≤4096) (x:Int) (hx:0≤x∧x<4294967296) :
  Calls Tryz.prog 201 #[v,.int .u32 x,.int .i64 4] w fun e w'=>∃ v',e=.returned v'∧w'.ownsRow base 5 1 v' (n+4) (xs++(tail4 x).map byteV)∧Below base w w':=by
 obtain ⟨i0,hi,hz0,hz1,hz2⟩:=info_parts info_u8
 have Hi:=hid hi
 have hown0:=hown
 clear hi
 go_enter Tryz.func201,Tryz.ntmps201
 go_wp2
 go_loopg [0,7] 5 (fun g v' i wr=>∃ (k:Nat) (j:Int),g=5-k∧k≤4∧j=3-(k:Int)∧i=.int .i64 j∧wr.ownsRow base 5 1 v' (n+k) (xs++((tail4 x).take k).map byteV)∧Below base w wr)
 case atStart=>exact ⟨0,3,rfl,by omega,rfl,rfl,by simpa using hown0,Below.refl _ _⟩
 case round=>
  clear hown hown0
  obtain ⟨k,j,hg,hk,hj,rfl,hown,hbw⟩:=hrel
  by_cases k0:k=0
  ·subst k0
   obtain rfl:j=3:=by omega
   clear hj
   obtain ⟨ys,hys⟩:∃ ys,xs++((tail4 x).take 0).map byteV=ys:=⟨_,rfl⟩
   rw[hys] at hown
   have Hys:=hid hys
   clear hys
   go_wp2_with (at_builtin;refine wpList_append_own _ rfl (.tmp 14) (.tmp 20) _ rfl base 5 i0 (.int .u8 0) 1 1 Tryz.underlying51 Hi.out hz0 hz1 hz2 rfl (by decide) _ (n+0) _ rfl (hown.alloc _) ⟨wr.heap.size,0,none⟩ 1 1 [.int .u8 _] rfl rfl (cell_one_new _ _ _) (by simp[Value.oneCell']) (by unfold maxLen;omega) (by omega) (by have:=hbw.size;simp;omega) ?_)
   intro v' w1 hown' hgrow _
   have hb1:Below base w w1:=(hbw.alloc (Nat.le_trans hB hbw.size) _).grown hgrow (by have:=hbw.size;simp;omega) (fun k e=>(hown.lt k e).1)
   go_wp2
   go_roundg (5-(0+1))
   case measure=>omega
   case rel=>exact ⟨0+1,_,rfl,by omega,rfl,by go_num,own_byte (l:=tail4 x) (c:=_) (k:=0) rfl Hys.out hown' (by omega) (by first|(rw[wrap_u8];simp;omega)|(simp;omega)),hb1⟩
  by_cases k1:k=1
  ·subst k1
   obtain rfl:j=2:=by omega
   clear hj
   obtain ⟨ys,hys⟩:∃ ys,xs++((tail4 x).take 1).map byteV=ys:=⟨_,rfl⟩
   rw[hys] at hown
   have Hys:=hid hys
   clear hys
   go_wp2_with (at_builtin;refine wpList_append_own _ rfl (.tmp 14) (.tmp 20) _ rfl base 5 i0 (.int .u8 0) 1 1 Tryz.underlying51 Hi.out hz0 hz1 hz2 rfl (by decide) _ (n+1) _ rfl (hown.alloc _) ⟨wr.heap.size,0,none⟩ 1 1 [.int .u8 _] rfl rfl (cell_one_new _ _ _) (by simp[Value.oneCell']) (by unfold maxLen;omega) (by omega) (by have:=hbw.size;simp;omega) ?_)
   intro v' w1 hown' hgrow _
   have hb1:Below base w w1:=(hbw.alloc (Nat.le_trans hB hbw.size) _).grown hgrow (by have:=hbw.size;simp;omega) (fun k e=>(hown.lt k e).1)
   go_wp2
   go_roundg (5-(1+1))
   case measure=>omega
   case rel=>exact ⟨1+1,_,rfl,by omega,rfl,by go_num,own_byte (l:=tail4 x) (c:=_) (k:=1) rfl Hys.out hown' (by omega) (by first|(rw[wrap_u8];simp;omega)|(simp;omega)),hb1⟩
  by_cases k2:k=2
  ·subst k2
   obtain rfl:j=1:=by omega
   clear hj
   obtain ⟨ys,hys⟩:∃ ys,xs++((tail4 x).take 2).map byteV=ys:=⟨_,rfl⟩
   rw[hys] at hown
   have Hys:=hid hys
   clear hys
   go_wp2_with (at_builtin;refine wpList_append_own _ rfl (.tmp 14) (.tmp 20) _ rfl base 5 i0 (.int .u8 0) 1 1 Tryz.underlying51 Hi.out hz0 hz1 hz2 rfl (by decide) _ (n+2) _ rfl (hown.alloc _) ⟨wr.heap.size,0,none⟩ 1 1 [.int .u8 _] rfl rfl (cell_one_new _ _ _) (by simp[Value.oneCell']) (by unfold maxLen;omega) (by omega) (by have:=hbw.size;simp;omega) ?_)
   intro v' w1 hown' hgrow _
   have hb1:Below base w w1:=(hbw.alloc (Nat.le_trans hB hbw.size) _).grown hgrow (by have:=hbw.size;simp;omega) (fun k e=>(hown.lt k e).1)
   go_wp2
   go_roundg (5-(2+1))
   case measure=>omega
   case rel=>exact ⟨2+1,_,rfl,by omega,rfl,by go_num,own_byte (l:=tail4 x) (c:=_) (k:=2) rfl Hys.out hown' (by omega) (by first|(rw[wrap_u8];simp;omega)|(simp;omega)),hb1⟩
  by_cases k3:k=3
  ·subst k3
   obtain rfl:j=0:=by omega
   clear hj
   obtain ⟨ys,hys⟩:∃ ys,xs++((tail4 x).take 3).map byteV=ys:=⟨_,rfl⟩
   rw[hys] at hown
   have Hys:=hid hys
   clear hys
   go_wp2_with (at_builtin;refine wpList_append_own _ rfl (.tmp 14) (.tmp 20) _ rfl base 5 i0 (.int .u8 0) 1 1 Tryz.underlying51 Hi.out hz0 hz1 hz2 rfl (by decide) _ (n+3) _ rfl (hown.alloc _) ⟨wr.heap.size,0,none⟩ 1 1 [.int .u8 _] rfl rfl (cell_one_new _ _ _) (by simp[Value.oneCell']) (by unfold maxLen;omega) (by omega) (by have:=hbw.size;simp;omega) ?_)
   intro v' w1 hown' hgrow _
   have hb1:Below base w w1:=(hbw.alloc (Nat.le_trans hB hbw.size) _).grown hgrow (by have:=hbw.size;simp;omega) (fun k e=>(hown.lt k e).1)
   go_wp2
   go_roundg (5-(3+1))
   case measure=>omega
   case rel=>exact ⟨3+1,_,rfl,by omega,rfl,by go_num,own_byte (l:=tail4 x) (c:=_) (k:=3) rfl Hys.out hown' (by omega) (by first|(rw[wrap_u8];simp;omega)|(simp;omega)),hb1⟩
  obtain rfl:k=4:=by omega
  obtain rfl:j=-1:=by omega
  clear hj k0
  go_wp2
  go_ret
  exact ⟨_,rfl,hown,hbw⟩
set_option maxHeartbeats 1600000 in
theorem wire_put2 (hown:w.ownsRow base 5 1 v n xs) (hB:base≤w.heap.size) (hn:n≤4096) (x:Int) (hx:0≤x∧x<65536) :
  Calls Tryz.prog 202 #[v,.int .u16 x,.int .i64 2] w fun e w'=>∃ v',e=.returned v'∧w'.ownsRow base 5 1 v' (n+2) (xs++(be2 x).map byteV)∧Below base w w':=by
 obtain ⟨i0,hi,hz0,hz1,hz2⟩:=info_parts info_u8
 have Hi:=hid hi
 have hown0:=hown
 clear hi
 go_enter Tryz.func202,Tryz.ntmps202
 go_wp2
 go_loopg [0,7] 3 (fun g v' i wr=>∃ (k:Nat) (j:Int),g=3-k∧k≤2∧j=1-(k:Int)∧i=.int .i64 j∧wr.ownsRow base 5 1 v' (n+k) (xs++((be2 x).take k).map byteV)∧Below base w wr)
 case atStart=>exact ⟨0,1,rfl,by omega,rfl,rfl,by simpa using hown0,Below.refl _ _⟩
 case round=>
  clear hown hown0
  obtain ⟨k,j,hg,hk,hj,rfl,hown,hbw⟩:=hrel
  by_cases k0:k=0
  ·subst k0
   obtain rfl:j=1:=by omega
   clear hj
   obtain ⟨ys,hys⟩:∃ ys,xs++((be2 x).take 0).map byteV=ys:=⟨_,rfl⟩
   rw[hys] at hown
   have Hys:=hid hys
   clear hys
   go_wp2_with (at_builtin;refine wpList_append_own _ rfl (.tmp 14) (.tmp 20) _ rfl base 5 i0 (.int .u8 0) 1 1 Tryz.underlying51 Hi.out hz0 hz1 hz2 rfl (by decide) _ (n+0) _ rfl (hown.alloc _) ⟨wr.heap.size,0,none⟩ 1 1 [.int .u8 _] rfl rfl (cell_one_new _ _ _) (by simp[Value.oneCell']) (by unfold maxLen;omega) (by omega) (by have:=hbw.size;simp;omega) ?_)
   intro v' w1 hown' hgrow _
   have hb1:Below base w w1:=(hbw.alloc (Nat.le_trans hB hbw.size) _).grown hgrow (by have:=hbw.size;simp;omega) (fun k e=>(hown.lt k e).1)
   go_wp2
   go_roundg (3-(0+1))
   case measure=>omega
   case rel=>exact ⟨0+1,_,rfl,by omega,rfl,by go_num,own_byte (l:=be2 x) (c:=_) (k:=0) rfl Hys.out hown' (by omega) (by first|(rw[wrap_u8];simp;omega)|(simp;omega)),hb1⟩
  by_cases k1:k=1
  ·subst k1
   obtain rfl:j=0:=by omega
   clear hj
   obtain ⟨ys,hys⟩:∃ ys,xs++((be2 x).take 1).map byteV=ys:=⟨_,rfl⟩
   rw[hys] at hown
   have Hys:=hid hys
   clear hys
   go_wp2_with (at_builtin;refine wpList_append_own _ rfl (.tmp 14) (.tmp 20) _ rfl base 5 i0 (.int .u8 0) 1 1 Tryz.underlying51 Hi.out hz0 hz1 hz2 rfl (by decide) _ (n+1) _ rfl (hown.alloc _) ⟨wr.heap.size,0,none⟩ 1 1 [.int .u8 _] rfl rfl (cell_one_new _ _ _) (by simp[Value.oneCell']) (by unfold maxLen;omega) (by omega) (by have:=hbw.size;simp;omega) ?_)
   intro v' w1 hown' hgrow _
   have hb1:Below base w w1:=(hbw.alloc (Nat.le_trans hB hbw.size) _).grown hgrow (by have:=hbw.size;simp;omega) (fun k e=>(hown.lt k e).1)
   go_wp2
   go_roundg (3-(1+1))
   case measure=>omega
   case rel=>exact ⟨1+1,_,rfl,by omega,rfl,by go_num,own_byte (l:=be2 x) (c:=_) (k:=1) rfl Hys.out hown' (by omega) (by first|(rw[wrap_u8];simp;omega)|(simp;omega)),hb1⟩
  obtain rfl:k=2:=by omega
  obtain rfl:j=-1:=by omega
  clear hj k0
  go_wp2
  go_ret
  exact ⟨_,rfl,hown,hbw⟩
end
end Go.Proofs.YtalagblioepadaaGreatDoor
