/- The proof, part 35. -/
import Derived.Test.YtalagblioepadaaGreatDoorZa27
import Derived.Test.YtalagblioepadaaGreatDoorZa16
namespace Go.Proofs.YtalagblioepadaaGreatDoor
section
open Go.RowKit
set_option maxRecDepth 10000
section
variable {w w':World} {c m most:Nat} {s:CS}
theorem cable_Spoil_no (h:IsCable w c most s) (to i x:Int) (b:Nat) (hn:copyC s to i=none) :
  Calls Tryz.prog 100 #[.pointer (some ⟨c,0,none⟩),.int .i64 to,.int .i64 i,.int .i64 x,.int .u8 b] w fun e w'=>e=.returned (.tuple #[.string ByteArray.empty,.bool false])∧IsCable w' c most s∧Keeps (ofCable c) w w':=by
 have hT:=cable_Take h to i
 rw[hn,takeC_none hn] at hT
 have HT:=hid hT
 clear hT hn
 go_enter Tryz.func100,Tryz.ntmps100
 go_wp2_with fail
 refine HT.out.mono ?_
 rintro e w2 ⟨rfl,h2,k2⟩
 go_wp2
 go_ret2
 exact ⟨rfl,h2,k2⟩
theorem cable_Spoil (h:IsCable w c most s) (to i x:Int) (b:Nat) (hb:b<256) (v:ByteArray) (hn:copyC s to i=some v) (hv0:0<v.size) (hv1:v.size≤256) :
  Calls Tryz.prog 100 #[.pointer (some ⟨c,0,none⟩),.int .i64 to,.int .i64 i,.int .i64 x,.int .u8 b] w fun e w'=>e=.returned (.tuple #[.string (turnT v x b),.bool true])∧IsCable w' c most (takeC s to i)∧Keeps (ofCable c) w w':=by
 have hT:=cable_Take h to i
 rw[hn,show strV (some v)=Value.string v from rfl] at hT
 have HT:=hid hT
 clear hT hn
 have hl:v.data.toList.length=v.size:=by simp
 obtain ⟨r,hr,hpick⟩:=turn_pick x v.data.toList.length (by omega) (by omega)
 have hkx:=hid (show turnIx x v.data.toList.length<v.data.toList.length by rcases hpick with ⟨_,_,h⟩|⟨_,_,h⟩<;>exact h)
 have hset:=hid (show turnL v.data.toList x b=v.data.toList.set (turnIx x v.data.toList.length) (xorB (v.data.toList[turnIx x v.data.toList.length]'hkx.out) b) by unfold turnL;rw[List.getD_eq_getElem?_getD,List.getElem?_eq_getElem hkx.out];rfl)
 generalize turnIx x v.data.toList.length=k at *
 have hk:=hkx.out
 have hx:=xorB_bits (v.data.toList[k]'hk) b hb
 unfold turnT
 rw[hset.out]
 clear hset
 rw[hl] at hpick hr
 generalize hz:v.data.toList[k]=z at *
 generalize hy:xorB z b=y at *
 generalize hM:v.data.toList.set k y=M at *
 have Hz:=hid hz
 have Hy:=hid hy
 have HM:=hid hM
 clear hz hy hM
 rcases hpick with ⟨h1,h2,_⟩|⟨h1,rfl,_⟩
 ·go_enter Tryz.func100,Tryz.ntmps100
  go_wp2_with fail
  refine HT.out.mono ?_
  rintro e w2 ⟨rfl,h2c,k2⟩
  obtain ⟨cap,w1,hcv,hcap,hb1,hs1,hcell,hfr⟩:=conv_bytes w2 v
  have hc:=hcell k (by omega)
  have hf:=hfr k (by omega)
  have hback:=conv_back w1 w2.heap.size cap v.data.toList k (xorB (v.data.toList[k]'hk) b) hk (fun i h=>hcell i (by omega))
  rw[Hz.out,Hy.out,HM.out] at hback
  rw[Hz.out] at hc
  have hend:IsCable (w1.setCell ⟨w2.heap.size,k,none⟩ (.int .u8 y.toNat)) c most (takeC s to i)∧Keeps (ofCable c) w (w1.setCell ⟨w2.heap.size,k,none⟩ (.int .u8 y.toNat)):=by
   have hkk:Keeps (fun _=>False) w2 (w1.setCell ⟨w2.heap.size,k,none⟩ (.int .u8 y.toNat)):=(Keeps.of_below hb1 (fun _ h1 h2=>by omega)).setNew (p:=⟨w2.heap.size,k,none⟩) (Nat.le_refl _) _
   exact ⟨h2c.keeps hkk (fun _ _=>id),k2.trans (keeps_any hkk)⟩
  rw[hl] at hback
  clear hcell hfr
  go_wp2
  go_ret2
  exact ⟨rfl,hend⟩
 ·go_enter Tryz.func100,Tryz.ntmps100
  go_wp2_with fail
  refine HT.out.mono ?_
  rintro e w2 ⟨rfl,h2c,k2⟩
  obtain ⟨cap,w1,hcv,hcap,hb1,hs1,hcell,hfr⟩:=conv_bytes w2 v
  have hc:=hcell k (by omega)
  have hf:=hfr k (by omega)
  have hback:=conv_back w1 w2.heap.size cap v.data.toList k (xorB (v.data.toList[k]'hk) b) hk (fun i h=>hcell i (by omega))
  rw[Hz.out,Hy.out,HM.out] at hback
  rw[Hz.out] at hc
  have hend:IsCable (w1.setCell ⟨w2.heap.size,k,none⟩ (.int .u8 y.toNat)) c most (takeC s to i)∧Keeps (ofCable c) w (w1.setCell ⟨w2.heap.size,k,none⟩ (.int .u8 y.toNat)):=by
   have hkk:Keeps (fun _=>False) w2 (w1.setCell ⟨w2.heap.size,k,none⟩ (.int .u8 y.toNat)):=(Keeps.of_below hb1 (fun _ h1 h2=>by omega)).setNew (p:=⟨w2.heap.size,k,none⟩) (Nat.le_refl _) _
   exact ⟨h2c.keeps hkk (fun _ _=>id),k2.trans (keeps_any hkk)⟩
  rw[hl] at hback
  clear hcell hfr
  go_wp2
  go_ret2
  exact ⟨rfl,hend⟩
end
end
end Go.Proofs.YtalagblioepadaaGreatDoor
