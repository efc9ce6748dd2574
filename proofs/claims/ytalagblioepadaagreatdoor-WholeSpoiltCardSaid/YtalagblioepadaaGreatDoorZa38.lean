/- The proof, part 38. -/
import Derived.Test.YtalagblioepadaaGreatDoorZa24
import Derived.Test.YtalagblioepadaaGreatDoorZa30
import Derived.Test.YtalagblioepadaaGreatDoorZa28
import Derived.Test.YtalagblioepadaaGreatDoorZa20
import Derived.Lib.AppendStr
import Derived.Deep.LoopGhost
import Derived.Laws.BitsAllLaws
import Derived.Test.YtalagblioepadaaGreatDoorZa01
import Derived.Test.YtalagblioepadaaGreatDoorZa11
namespace Go.Proofs.YtalagblioepadaaGreatDoor
section
open Go.RowKit
set_option maxRecDepth 10000
def bodyM (m:Msg):List UInt8:=
 if m.kind=1∨m.kind=2 then tail4 m.nonce else if m.kind=3 then be2 m.serial++be2 m.ack++runBytes m.ins else if m.kind=4 then be2 m.serial++tail4 m.sum
 else if m.kind=5 then be2 m.ack else if m.kind=6 then be2 m.serial++num (zz m.lead) else []
def rawM (m:Msg):List UInt8:=[80,UInt8.ofNat m.kind.toNat]++bodyM m
def packM (m:Msg):List UInt8:=sealed (rawM m)
theorem be2_len (n:Int):(be2 n).length=2:=rfl
theorem runBytes_le (L:List UInt8) (hf:fits L=true):(runBytes L).length≤138:=by
 have hl:L.length≤64:=by
  unfold fits at hf
  simp only[Bool.and_eq_true,decide_eq_true_eq] at hf
  exact hf.2
 have:=pre_len L hl (runs L) [] (by simp)
 exact this
theorem zz_small (n:Int) (h:-1000≤n∧n≤1000):(num (zz n)).length≤2:=num_len 1 _ (by unfold zz;split<;>omega)
theorem raw_len (m:Msg) (h:RightP m):(rawM m).length≤144:=by
 have h1:=runBytes_le m.ins h.2.1
 have h2:=zz_small m.lead h.2.2.1
 unfold rawM bodyM
 simp only[List.length_append,List.length_cons,List.length_nil]
 split
 ·simp[tail4_length]
 split
 ·simp only[List.length_append,be2_len];omega
 split
 ·simp[be2_len,tail4_length]
 split
 ·simp[be2_len]
 split
 ·simp only[List.length_append,be2_len];omega
 ·simp
variable {w:World} {a:Option Addr} {c:Nat}
theorem wire_Pack_no (m:Msg) (h:IsBytes w a c m.ins) (hr:¬ RightP m) :
  Calls Tryz.prog 135 #[(.agg #[.int .i64 m.kind,.int .u32 m.nonce,.int .u16 m.serial,.int .u16 m.ack,.slice a m.ins.length c,.int .u32 m.sum,.int .i64 m.lead])] w fun e w'=>e=.returned (.tuple #[.string ⟨#[]⟩,.int .i64 1])∧Below w.heap.size w w':=by
 have hk:Keeps (fun _=>False) w (w.alloc (.cells #[.int .i64 m.kind,.int .u32 m.nonce,.int .u16 m.serial,.int .u16 m.ack,.slice a m.ins.length c,.int .u32 m.sum,.int .i64 m.lead] 254)):=(Keeps.refl _ w).alloc _
 have hR:=wire_RightM m (h.keeps hk (fun _ _ _=>id))
 rw[decide_eq_false hr] at hR
 have HR:=hid hR
 clear hR hr h hk
 go_enter Tryz.func135,Tryz.ntmps135
 go_wp2_with fail
 refine HR.out.mono ?_
 rintro e w' ⟨rfl,hb⟩
 go_wp2_with fail
 go_ret2
 exact ⟨rfl,((Below.refl _ w).alloc (Nat.le_refl _) _).trans (hb.mono (by simp))⟩
theorem own_two {w:World} {base:Nat} (hB:base≤w.heap.size) (x y:Int):(w.alloc (.cells #[.int .u8 x,.int .u8 y] 5)).ownsRow base 5 1 (.slice (some ⟨w.heap.size,0,none⟩) 2 2) 2 [.int .u8 x,.int .u8 y]:=
 ⟨rfl,.inr ⟨w.heap.size,2,#[.int .u8 x,.int .u8 y],rfl,hB,blk_new w _,Nat.le_refl _,by simp[maxLen],by simp,by simp⟩⟩
end
section
open Go.RowKit
open Go.Lib (strCells)
set_option maxRecDepth 10000
variable {w:World} {a:Option Addr} {c:Nat}
theorem strCells_list (l:List UInt8):strCells ⟨l.toArray⟩=l.map byteV:=by simp[strCells,byteV]
theorem own_list {w:World} {base n:Nat} {v:Value} {l r:List UInt8} (h:w.ownsRow base 5 1 v n (l.map byteV++r.map byteV)):w.ownsRow base 5 1 v n ((l++r).map byteV):=by
 rwa [List.map_append]
theorem wsz (l:List UInt8):(⟨l.toArray⟩:ByteArray).size=l.length:=by simp[ByteArray.size]
set_option maxHeartbeats 2000000 in
theorem pack_k1 (n s ak u l:Int) (i:List UInt8) (h:IsBytes w a c i) (hr:RightP ⟨1,n,s,ak,i,u,l⟩) (hn:0≤n∧n<4294967296) :
  Calls Tryz.prog 135 #[.agg #[.int .i64 1,.int .u32 n,.int .u16 s,.int .u16 ak,.slice a i.length c,.int .u32 u,.int .i64 l]] w fun e w'=>e=.returned (.tuple #[.string ⟨(packM ⟨1,n,s,ak,i,u,l⟩).toArray⟩,.int .i64 0])∧Below w.heap.size w w':=by
 have hR:=wire_RightM (m:=⟨1,n,s,ak,i,u,l⟩) (h.keeps ((Keeps.refl (fun _=>False) w).alloc (.cells #[.int .i64 1,.int .u32 n,.int .u16 s,.int .u16 ak,.slice a i.length c,.int .u32 u,.int .i64 l] 254)) (fun _ _ _=>id))
 rw[decide_eq_true hr] at hR
 have HR:=hid hR
 have hlen:=raw_len _ hr
 have hraw:rawM ⟨1,n,s,ak,i,u,l⟩=[80,1]++tail4 n:=by simp[rawM,bodyM]
 unfold packM
 obtain ⟨R,hRR⟩:∃ R,rawM ⟨1,n,s,ak,i,u,l⟩=R:=⟨_,rfl⟩
 rw[hRR] at hlen hraw ⊢
 have HRR:=hid hraw
 have Hlen:=hid hlen
 clear hR hr hlen hraw hRR
 go_enter Tryz.func135,Tryz.ntmps135
 go_wp2_with fail
 refine HR.out.mono ?_
 rintro e w1 ⟨rfl,hb1⟩
 have hB:w.heap.size+1≤w1.heap.size:=by have:=hb1.size;simpa using this
 have hW:Below w.heap.size w w1:=((Below.refl _ w).alloc (Nat.le_refl _) _).trans (hb1.mono (by simp))
 have x0:=(hb1.cell (p:=⟨w.heap.size,0,none⟩) (by simp)).trans (blk_cell' w _ _ (k:=0) rfl)
 have x1:=(hb1.cell (p:=⟨w.heap.size,1,none⟩) (by simp)).trans (blk_cell' w _ _ (k:=1) rfl)
 clear hb1
 go_wp2_with fail
 refine (wire_names _ _).mono ?_
 rintro e w2 ⟨rfl,rfl⟩
 rw[show namesK 1=1 by decide]
 have ho:(w1.alloc (.cells #[.int .u8 80,.int .u8 1] 5)).ownsRow (w.heap.size+1) 5 1 (.slice (some ⟨w1.heap.size,0,none⟩) 2 2) 2 (([80,1]:List UInt8).map byteV):=own_two hB 80 1
 have hX:Below (w.heap.size+1) w1 (w1.alloc (.cells #[.int .u8 80,.int .u8 1] 5)):=(Below.refl _ w1).alloc hB _
 have y1:=(hX.cell (p:=⟨w.heap.size,1,none⟩) (by simp)).trans x1
 go_wp2_with fail
 refine (wire_put4 ho (Nat.le_trans hB hX.size) (by omega) n hn).mono ?_
 rintro e w3 ⟨v3,rfl,hq3,hb3⟩
 have ho3:=own_list (l:=[80,1]) (r:=tail4 n) hq3
 have hX3:=hX.trans hb3
 clear ho hX hq3 hb3 y1
 have y1:=(hX3.cell (p:=⟨w.heap.size,1,none⟩) (by simp)).trans x1
 have hoR:=ho3
 rw[←HRR.out] at hoR
 have hcv:=conv_own R hoR
 clear hoR
 go_wp2_with fail
 refine (sum_Seal ⟨R.toArray⟩ (by rw[wsz];have:=Hlen.out;omega) _).mono ?_
 rintro e w9 ⟨rfl,hb9⟩
 have hfin:Below w.heap.size w w9:=(hW.trans (hX3.mono (by omega))).trans (hb9.mono (Nat.le_trans hW.size (hX3.size)))
 clear hb9 ho3 hX3 hcv hW
 go_wp2_with fail
 go_ret2
 exact ⟨by simp,hfin⟩
set_option maxHeartbeats 2000000 in
theorem pack_k2 (n s ak u l:Int) (i:List UInt8) (h:IsBytes w a c i) (hr:RightP ⟨2,n,s,ak,i,u,l⟩) (hn:0≤n∧n<4294967296) :
  Calls Tryz.prog 135 #[.agg #[.int .i64 2,.int .u32 n,.int .u16 s,.int .u16 ak,.slice a i.length c,.int .u32 u,.int .i64 l]] w fun e w'=>e=.returned (.tuple #[.string ⟨(packM ⟨2,n,s,ak,i,u,l⟩).toArray⟩,.int .i64 0])∧Below w.heap.size w w':=by
 have hR:=wire_RightM (m:=⟨2,n,s,ak,i,u,l⟩) (h.keeps ((Keeps.refl (fun _=>False) w).alloc (.cells #[.int .i64 2,.int .u32 n,.int .u16 s,.int .u16 ak,.slice a i.length c,.int .u32 u,.int .i64 l] 254)) (fun _ _ _=>id))
 rw[decide_eq_true hr] at hR
 have HR:=hid hR
 have hlen:=raw_len _ hr
 have hraw:rawM ⟨2,n,s,ak,i,u,l⟩=[80,2]++tail4 n:=by simp[rawM,bodyM]
 unfold packM
 obtain ⟨R,hRR⟩:∃ R,rawM ⟨2,n,s,ak,i,u,l⟩=R:=⟨_,rfl⟩
 rw[hRR] at hlen hraw ⊢
 have HRR:=hid hraw
 have Hlen:=hid hlen
 clear hR hr hlen hraw hRR
 go_enter Tryz.func135,Tryz.ntmps135
 go_wp2_with fail
 refine HR.out.mono ?_
 rintro e w1 ⟨rfl,hb1⟩
 have hB:w.heap.size+1≤w1.heap.size:=by have:=hb1.size;simpa using this
 have hW:Below w.heap.size w w1:=((Below.refl _ w).alloc (Nat.le_refl _) _).trans (hb1.mono (by simp))
 have x0:=(hb1.cell (p:=⟨w.heap.size,0,none⟩) (by simp)).trans (blk_cell' w _ _ (k:=0) rfl)
 have x1:=(hb1.cell (p:=⟨w.heap.size,1,none⟩) (by simp)).trans (blk_cell' w _ _ (k:=1) rfl)
 clear hb1
 go_wp2_with fail
 refine (wire_names _ _).mono ?_
 rintro e w2 ⟨rfl,rfl⟩
 rw[show namesK 2=1 by decide]
 have ho:(w1.alloc (.cells #[.int .u8 80,.int .u8 2] 5)).ownsRow (w.heap.size+1) 5 1 (.slice (some ⟨w1.heap.size,0,none⟩) 2 2) 2 (([80,2]:List UInt8).map byteV):=own_two hB 80 2
 have hX:Below (w.heap.size+1) w1 (w1.alloc (.cells #[.int .u8 80,.int .u8 2] 5)):=(Below.refl _ w1).alloc hB _
 have y1:=(hX.cell (p:=⟨w.heap.size,1,none⟩) (by simp)).trans x1
 go_wp2_with fail
 refine (wire_put4 ho (Nat.le_trans hB hX.size) (by omega) n hn).mono ?_
 rintro e w3 ⟨v3,rfl,hq3,hb3⟩
 have ho3:=own_list (l:=[80,2]) (r:=tail4 n) hq3
 have hX3:=hX.trans hb3
 clear ho hX hq3 hb3 y1
 have y1:=(hX3.cell (p:=⟨w.heap.size,1,none⟩) (by simp)).trans x1
 have hoR:=ho3
 rw[←HRR.out] at hoR
 have hcv:=conv_own R hoR
 clear hoR
 go_wp2_with fail
 refine (sum_Seal ⟨R.toArray⟩ (by rw[wsz];have:=Hlen.out;omega) _).mono ?_
 rintro e w9 ⟨rfl,hb9⟩
 have hfin:Below w.heap.size w w9:=(hW.trans (hX3.mono (by omega))).trans (hb9.mono (Nat.le_trans hW.size (hX3.size)))
 clear hb9 ho3 hX3 hcv hW
 go_wp2_with fail
 go_ret2
 exact ⟨by simp,hfin⟩
set_option maxHeartbeats 2000000 in
theorem pack_k3 (n s ak u l:Int) (i:List UInt8) (h:IsBytes w a c i) (hr:RightP ⟨3,n,s,ak,i,u,l⟩) (hs:0≤s∧s<65536) (hak:0≤ak∧ak<65536) :
  Calls Tryz.prog 135 #[.agg #[.int .i64 3,.int .u32 n,.int .u16 s,.int .u16 ak,.slice a i.length c,.int .u32 u,.int .i64 l]] w fun e w'=>e=.returned (.tuple #[.string ⟨(packM ⟨3,n,s,ak,i,u,l⟩).toArray⟩,.int .i64 0])∧Below w.heap.size w w':=by
 have hR:=wire_RightM (m:=⟨3,n,s,ak,i,u,l⟩) (h.keeps ((Keeps.refl (fun _=>False) w).alloc (.cells #[.int .i64 3,.int .u32 n,.int .u16 s,.int .u16 ak,.slice a i.length c,.int .u32 u,.int .i64 l] 254)) (fun _ _ _=>id))
 rw[decide_eq_true hr] at hR
 have HR:=hid hR
 have hlen:=raw_len _ hr
 have Hfit:=hid hr.2.1
 have hraw:rawM ⟨3,n,s,ak,i,u,l⟩=[80,3]++be2 s++be2 ak++runBytes i:=by simp[rawM,bodyM]
 unfold packM
 obtain ⟨R,hRR⟩:∃ R,rawM ⟨3,n,s,ak,i,u,l⟩=R:=⟨_,rfl⟩
 rw[hRR] at hlen hraw ⊢
 have HRR:=hid hraw
 have Hlen:=hid hlen
 clear hR hr hlen hraw hRR
 go_enter Tryz.func135,Tryz.ntmps135
 go_wp2_with fail
 refine HR.out.mono ?_
 rintro e w1 ⟨rfl,hb1⟩
 have hB:w.heap.size+1≤w1.heap.size:=by have:=hb1.size;simpa using this
 have hW:Below w.heap.size w w1:=((Below.refl _ w).alloc (Nat.le_refl _) _).trans (hb1.mono (by simp))
 have x0:=(hb1.cell (p:=⟨w.heap.size,0,none⟩) (by simp)).trans (blk_cell' w _ _ (k:=0) rfl)
 have x2:=(hb1.cell (p:=⟨w.heap.size,2,none⟩) (by simp)).trans (blk_cell' w _ _ (k:=2) rfl)
 have x3:=(hb1.cell (p:=⟨w.heap.size,3,none⟩) (by simp)).trans (blk_cell' w _ _ (k:=3) rfl)
 have x4:=(hb1.cell (p:=⟨w.heap.size,4,none⟩) (by simp)).trans (blk_cell' w _ _ (k:=4) rfl)
 clear hb1
 go_wp2_with fail
 refine (wire_names _ _).mono ?_
 rintro e w2 ⟨rfl,rfl⟩
 rw[show namesK 3=14 by decide]
 have ho:(w1.alloc (.cells #[.int .u8 80,.int .u8 3] 5)).ownsRow (w.heap.size+1) 5 1 (.slice (some ⟨w1.heap.size,0,none⟩) 2 2) 2 (([80,3]:List UInt8).map byteV):=own_two hB 80 3
 have hX:Below (w.heap.size+1) w1 (w1.alloc (.cells #[.int .u8 80,.int .u8 3] 5)):=(Below.refl _ w1).alloc hB _
 have y2:=(hX.cell (p:=⟨w.heap.size,2,none⟩) (by simp)).trans x2
 have y3:=(hX.cell (p:=⟨w.heap.size,3,none⟩) (by simp)).trans x3
 have y4:=(hX.cell (p:=⟨w.heap.size,4,none⟩) (by simp)).trans x4
 go_wp2_with fail
 refine (wire_put2 ho (Nat.le_trans hB hX.size) (by omega) s hs).mono ?_
 rintro e w3 ⟨v3,rfl,hq3,hb3⟩
 have ho3:=own_list (l:=[80,3]) (r:=be2 s) hq3
 have hX3:=hX.trans hb3
 clear ho hX hq3 hb3 y2 y3 y4
 have y2:=(hX3.cell (p:=⟨w.heap.size,2,none⟩) (by simp)).trans x2
 have y3:=(hX3.cell (p:=⟨w.heap.size,3,none⟩) (by simp)).trans x3
 have y4:=(hX3.cell (p:=⟨w.heap.size,4,none⟩) (by simp)).trans x4
 go_wp2_with fail
 refine (wire_put2 ho3 (Nat.le_trans hB hX3.size) (by omega) ak hak).mono ?_
 rintro e w4 ⟨v4,rfl,hq4,hb4⟩
 have ho4:=own_list (l:=[80,3]++be2 s) (r:=be2 ak) hq4
 have hX4:=hX3.trans hb4
 clear ho3 hX3 hq4 hb4 y2 y3 y4
 have y2:=(hX4.cell (p:=⟨w.heap.size,2,none⟩) (by simp)).trans x2
 have y3:=(hX4.cell (p:=⟨w.heap.size,3,none⟩) (by simp)).trans x3
 have y4:=(hX4.cell (p:=⟨w.heap.size,4,none⟩) (by simp)).trans x4
 go_wp2_with fail
 refine (pack_Run _ a c i (h.keeps (Keeps.of_below (S:=fun _=>False) (hW.trans (hX4.mono (by omega))) (fun k h1 h2=>by omega)) (fun _ _ _=>id)) Hfit.out).mono ?_
 rintro e w5 ⟨rfl,hb5⟩
 have hX5:=hX4.trans (hb5.mono (Nat.le_trans hB hX4.size))
 have hp5:=own_keeps ho4 (Keeps.of_below (S:=fun _=>False) hb5 (fun k h1 h2=>by omega)) (fun _ _=>id)
 clear ho4 hX4 y2 y3 y4 hb5
 have hq:(⟨(runBytes i).toArray⟩:ByteArray).size≤138:=by rw[wsz];exact runBytes_le i Hfit.out
 obtain ⟨i0,hi,hz0,hz1,hz2⟩:=info_parts info_u8
 have Hi:=hid hi
 clear hi
 go_wp2_with (at_builtin;refine Lib.wpList_append_own_string _ rfl (.tmp 51) (.tmp 52) 51 9 rfl (w.heap.size+1) 5 i0 Tryz.underlying51 Tryz.underlying9 Hi.out hz0 hz1 hz2 _ (2+2+2) _ rfl hp5 ⟨(runBytes i).toArray⟩ rfl (by unfold maxLen;omega) (by omega) (Nat.le_trans hB hX5.size) ?_)
 intro v8 w8 ho8 hg8 _
 rw[strCells_list] at ho8
 have ho9:=own_list (l:=[80,3]++be2 s++be2 ak) (r:=runBytes i) ho8
 have hX9:Below (w.heap.size+1) w1 w8:=hX5.grown hg8 (Nat.le_trans hB hX5.size) (fun k e=>(hp5.lt k e).1)
 clear ho8 hg8 hp5 hX5 hq
 have hoR:=ho9
 rw[←HRR.out] at hoR
 have hcv:=conv_own R hoR
 clear hoR
 go_wp2_with fail
 refine (sum_Seal ⟨R.toArray⟩ (by rw[wsz];have:=Hlen.out;omega) _).mono ?_
 rintro e w9 ⟨rfl,hb9⟩
 have hfin:Below w.heap.size w w9:=(hW.trans (hX9.mono (by omega))).trans (hb9.mono (Nat.le_trans hW.size (hX9.size)))
 clear hb9 ho9 hX9 hcv hW
 go_wp2_with fail
 go_ret2
 exact ⟨by simp,hfin⟩
set_option maxHeartbeats 2000000 in
theorem pack_k4 (n s ak u l:Int) (i:List UInt8) (h:IsBytes w a c i) (hr:RightP ⟨4,n,s,ak,i,u,l⟩) (hs:0≤s∧s<65536) (hu:0≤u∧u<4294967296) :
  Calls Tryz.prog 135 #[.agg #[.int .i64 4,.int .u32 n,.int .u16 s,.int .u16 ak,.slice a i.length c,.int .u32 u,.int .i64 l]] w fun e w'=>e=.returned (.tuple #[.string ⟨(packM ⟨4,n,s,ak,i,u,l⟩).toArray⟩,.int .i64 0])∧Below w.heap.size w w':=by
 have hR:=wire_RightM (m:=⟨4,n,s,ak,i,u,l⟩) (h.keeps ((Keeps.refl (fun _=>False) w).alloc (.cells #[.int .i64 4,.int .u32 n,.int .u16 s,.int .u16 ak,.slice a i.length c,.int .u32 u,.int .i64 l] 254)) (fun _ _ _=>id))
 rw[decide_eq_true hr] at hR
 have HR:=hid hR
 have hlen:=raw_len _ hr
 have hraw:rawM ⟨4,n,s,ak,i,u,l⟩=[80,4]++be2 s++tail4 u:=by simp[rawM,bodyM]
 unfold packM
 obtain ⟨R,hRR⟩:∃ R,rawM ⟨4,n,s,ak,i,u,l⟩=R:=⟨_,rfl⟩
 rw[hRR] at hlen hraw ⊢
 have HRR:=hid hraw
 have Hlen:=hid hlen
 clear hR hr hlen hraw hRR
 go_enter Tryz.func135,Tryz.ntmps135
 go_wp2_with fail
 refine HR.out.mono ?_
 rintro e w1 ⟨rfl,hb1⟩
 have hB:w.heap.size+1≤w1.heap.size:=by have:=hb1.size;simpa using this
 have hW:Below w.heap.size w w1:=((Below.refl _ w).alloc (Nat.le_refl _) _).trans (hb1.mono (by simp))
 have x0:=(hb1.cell (p:=⟨w.heap.size,0,none⟩) (by simp)).trans (blk_cell' w _ _ (k:=0) rfl)
 have x2:=(hb1.cell (p:=⟨w.heap.size,2,none⟩) (by simp)).trans (blk_cell' w _ _ (k:=2) rfl)
 have x5:=(hb1.cell (p:=⟨w.heap.size,5,none⟩) (by simp)).trans (blk_cell' w _ _ (k:=5) rfl)
 clear hb1
 go_wp2_with fail
 refine (wire_names _ _).mono ?_
 rintro e w2 ⟨rfl,rfl⟩
 rw[show namesK 4=18 by decide]
 have ho:(w1.alloc (.cells #[.int .u8 80,.int .u8 4] 5)).ownsRow (w.heap.size+1) 5 1 (.slice (some ⟨w1.heap.size,0,none⟩) 2 2) 2 (([80,4]:List UInt8).map byteV):=own_two hB 80 4
 have hX:Below (w.heap.size+1) w1 (w1.alloc (.cells #[.int .u8 80,.int .u8 4] 5)):=(Below.refl _ w1).alloc hB _
 have y2:=(hX.cell (p:=⟨w.heap.size,2,none⟩) (by simp)).trans x2
 have y5:=(hX.cell (p:=⟨w.heap.size,5,none⟩) (by simp)).trans x5
 go_wp2_with fail
 refine (wire_put2 ho (Nat.le_trans hB hX.size) (by omega) s hs).mono ?_
 rintro e w3 ⟨v3,rfl,hq3,hb3⟩
 have ho3:=own_list (l:=[80,4]) (r:=be2 s) hq3
 have hX3:=hX.trans hb3
 clear ho hX hq3 hb3 y2 y5
 have y2:=(hX3.cell (p:=⟨w.heap.size,2,none⟩) (by simp)).trans x2
 have y5:=(hX3.cell (p:=⟨w.heap.size,5,none⟩) (by simp)).trans x5
 go_wp2_with fail
 refine (wire_put4 ho3 (Nat.le_trans hB hX3.size) (by omega) u hu).mono ?_
 rintro e w4 ⟨v4,rfl,hq4,hb4⟩
 have ho4:=own_list (l:=[80,4]++be2 s) (r:=tail4 u) hq4
 have hX4:=hX3.trans hb4
 clear ho3 hX3 hq4 hb4 y2 y5
 have y2:=(hX4.cell (p:=⟨w.heap.size,2,none⟩) (by simp)).trans x2
 have y5:=(hX4.cell (p:=⟨w.heap.size,5,none⟩) (by simp)).trans x5
 have hoR:=ho4
 rw[←HRR.out] at hoR
 have hcv:=conv_own R hoR
 clear hoR
 go_wp2_with fail
 refine (sum_Seal ⟨R.toArray⟩ (by rw[wsz];have:=Hlen.out;omega) _).mono ?_
 rintro e w9 ⟨rfl,hb9⟩
 have hfin:Below w.heap.size w w9:=(hW.trans (hX4.mono (by omega))).trans (hb9.mono (Nat.le_trans hW.size (hX4.size)))
 clear hb9 ho4 hX4 hcv hW
 go_wp2_with fail
 go_ret2
 exact ⟨by simp,hfin⟩
set_option maxHeartbeats 2000000 in
theorem pack_k5 (n s ak u l:Int) (i:List UInt8) (h:IsBytes w a c i) (hr:RightP ⟨5,n,s,ak,i,u,l⟩) (hak:0≤ak∧ak<65536) :
  Calls Tryz.prog 135 #[.agg #[.int .i64 5,.int .u32 n,.int .u16 s,.int .u16 ak,.slice a i.length c,.int .u32 u,.int .i64 l]] w fun e w'=>e=.returned (.tuple #[.string ⟨(packM ⟨5,n,s,ak,i,u,l⟩).toArray⟩,.int .i64 0])∧Below w.heap.size w w':=by
 have hR:=wire_RightM (m:=⟨5,n,s,ak,i,u,l⟩) (h.keeps ((Keeps.refl (fun _=>False) w).alloc (.cells #[.int .i64 5,.int .u32 n,.int .u16 s,.int .u16 ak,.slice a i.length c,.int .u32 u,.int .i64 l] 254)) (fun _ _ _=>id))
 rw[decide_eq_true hr] at hR
 have HR:=hid hR
 have hlen:=raw_len _ hr
 have hraw:rawM ⟨5,n,s,ak,i,u,l⟩=[80,5]++be2 ak:=by simp[rawM,bodyM]
 unfold packM
 obtain ⟨R,hRR⟩:∃ R,rawM ⟨5,n,s,ak,i,u,l⟩=R:=⟨_,rfl⟩
 rw[hRR] at hlen hraw ⊢
 have HRR:=hid hraw
 have Hlen:=hid hlen
 clear hR hr hlen hraw hRR
 go_enter Tryz.func135,Tryz.ntmps135
 go_wp2_with fail
 refine HR.out.mono ?_
 rintro e w1 ⟨rfl,hb1⟩
 have hB:w.heap.size+1≤w1.heap.size:=by have:=hb1.size;simpa using this
 have hW:Below w.heap.size w w1:=((Below.refl _ w).alloc (Nat.le_refl _) _).trans (hb1.mono (by simp))
 have x0:=(hb1.cell (p:=⟨w.heap.size,0,none⟩) (by simp)).trans (blk_cell' w _ _ (k:=0) rfl)
 have x3:=(hb1.cell (p:=⟨w.heap.size,3,none⟩) (by simp)).trans (blk_cell' w _ _ (k:=3) rfl)
 clear hb1
 go_wp2_with fail
 refine (wire_names _ _).mono ?_
 rintro e w2 ⟨rfl,rfl⟩
 rw[show namesK 5=4 by decide]
 have ho:(w1.alloc (.cells #[.int .u8 80,.int .u8 5] 5)).ownsRow (w.heap.size+1) 5 1 (.slice (some ⟨w1.heap.size,0,none⟩) 2 2) 2 (([80,5]:List UInt8).map byteV):=own_two hB 80 5
 have hX:Below (w.heap.size+1) w1 (w1.alloc (.cells #[.int .u8 80,.int .u8 5] 5)):=(Below.refl _ w1).alloc hB _
 have y3:=(hX.cell (p:=⟨w.heap.size,3,none⟩) (by simp)).trans x3
 go_wp2_with fail
 refine (wire_put2 ho (Nat.le_trans hB hX.size) (by omega) ak hak).mono ?_
 rintro e w3 ⟨v3,rfl,hq3,hb3⟩
 have ho3:=own_list (l:=[80,5]) (r:=be2 ak) hq3
 have hX3:=hX.trans hb3
 clear ho hX hq3 hb3 y3
 have y3:=(hX3.cell (p:=⟨w.heap.size,3,none⟩) (by simp)).trans x3
 have hoR:=ho3
 rw[←HRR.out] at hoR
 have hcv:=conv_own R hoR
 clear hoR
 go_wp2_with fail
 refine (sum_Seal ⟨R.toArray⟩ (by rw[wsz];have:=Hlen.out;omega) _).mono ?_
 rintro e w9 ⟨rfl,hb9⟩
 have hfin:Below w.heap.size w w9:=(hW.trans (hX3.mono (by omega))).trans (hb9.mono (Nat.le_trans hW.size (hX3.size)))
 clear hb9 ho3 hX3 hcv hW
 go_wp2_with fail
 go_ret2
 exact ⟨by simp,hfin⟩
set_option maxHeartbeats 2000000 in
theorem pack_k6 (n s ak u l:Int) (i:List UInt8) (h:IsBytes w a c i) (hr:RightP ⟨6,n,s,ak,i,u,l⟩) (hs:0≤s∧s<65536) :
  Calls Tryz.prog 135 #[.agg #[.int .i64 6,.int .u32 n,.int .u16 s,.int .u16 ak,.slice a i.length c,.int .u32 u,.int .i64 l]] w fun e w'=>e=.returned (.tuple #[.string ⟨(packM ⟨6,n,s,ak,i,u,l⟩).toArray⟩,.int .i64 0])∧Below w.heap.size w w':=by
 have hR:=wire_RightM (m:=⟨6,n,s,ak,i,u,l⟩) (h.keeps ((Keeps.refl (fun _=>False) w).alloc (.cells #[.int .i64 6,.int .u32 n,.int .u16 s,.int .u16 ak,.slice a i.length c,.int .u32 u,.int .i64 l] 254)) (fun _ _ _=>id))
 rw[decide_eq_true hr] at hR
 have HR:=hid hR
 have hlen:=raw_len _ hr
 have Hlead:=hid hr.2.2.1
 have hraw:rawM ⟨6,n,s,ak,i,u,l⟩=[80,6]++be2 s++num (zz l):=by simp[rawM,bodyM]
 unfold packM
 obtain ⟨R,hRR⟩:∃ R,rawM ⟨6,n,s,ak,i,u,l⟩=R:=⟨_,rfl⟩
 rw[hRR] at hlen hraw ⊢
 have HRR:=hid hraw
 have Hlen:=hid hlen
 clear hR hr hlen hraw hRR
 go_enter Tryz.func135,Tryz.ntmps135
 go_wp2_with fail
 refine HR.out.mono ?_
 rintro e w1 ⟨rfl,hb1⟩
 have hB:w.heap.size+1≤w1.heap.size:=by have:=hb1.size;simpa using this
 have hW:Below w.heap.size w w1:=((Below.refl _ w).alloc (Nat.le_refl _) _).trans (hb1.mono (by simp))
 have x0:=(hb1.cell (p:=⟨w.heap.size,0,none⟩) (by simp)).trans (blk_cell' w _ _ (k:=0) rfl)
 have x2:=(hb1.cell (p:=⟨w.heap.size,2,none⟩) (by simp)).trans (blk_cell' w _ _ (k:=2) rfl)
 have x6:=(hb1.cell (p:=⟨w.heap.size,6,none⟩) (by simp)).trans (blk_cell' w _ _ (k:=6) rfl)
 clear hb1
 go_wp2_with fail
 refine (wire_names _ _).mono ?_
 rintro e w2 ⟨rfl,rfl⟩
 rw[show namesK 6=34 by decide]
 have ho:(w1.alloc (.cells #[.int .u8 80,.int .u8 6] 5)).ownsRow (w.heap.size+1) 5 1 (.slice (some ⟨w1.heap.size,0,none⟩) 2 2) 2 (([80,6]:List UInt8).map byteV):=own_two hB 80 6
 have hX:Below (w.heap.size+1) w1 (w1.alloc (.cells #[.int .u8 80,.int .u8 6] 5)):=(Below.refl _ w1).alloc hB _
 have y2:=(hX.cell (p:=⟨w.heap.size,2,none⟩) (by simp)).trans x2
 have y6:=(hX.cell (p:=⟨w.heap.size,6,none⟩) (by simp)).trans x6
 go_wp2_with fail
 refine (wire_put2 ho (Nat.le_trans hB hX.size) (by omega) s hs).mono ?_
 rintro e w3 ⟨v3,rfl,hq3,hb3⟩
 have ho3:=own_list (l:=[80,6]) (r:=be2 s) hq3
 have hX3:=hX.trans hb3
 clear ho hX hq3 hb3 y2 y6
 have y2:=(hX3.cell (p:=⟨w.heap.size,2,none⟩) (by simp)).trans x2
 have y6:=(hX3.cell (p:=⟨w.heap.size,6,none⟩) (by simp)).trans x6
 go_wp2_with fail
 refine (pack_Signed l (by have:=Hlead.out;omega) _).mono ?_
 rintro e w4 ⟨rfl,hb4⟩
 have hX4:=hX3.trans (hb4.mono (Nat.le_trans hB hX3.size))
 have hp4:=own_keeps ho3 (Keeps.of_below (S:=fun _=>False) hb4 (fun k h1 h2=>by omega)) (fun _ _=>id)
 clear ho3 hX3 y2 y6 hb4
 have hq:(⟨(num (zz l)).toArray⟩:ByteArray).size≤138:=by rw[wsz];have:=zz_small l Hlead.out;omega
 obtain ⟨i0,hi,hz0,hz1,hz2⟩:=info_parts info_u8
 have Hi:=hid hi
 clear hi
 go_wp2_with (at_builtin;refine Lib.wpList_append_own_string _ rfl (.tmp 64) (.tmp 67) 51 9 rfl (w.heap.size+1) 5 i0 Tryz.underlying51 Tryz.underlying9 Hi.out hz0 hz1 hz2 _ (2+2) _ rfl hp4 ⟨(num (zz l)).toArray⟩ rfl (by unfold maxLen;omega) (by omega) (Nat.le_trans hB hX4.size) ?_)
 intro v8 w8 ho8 hg8 _
 rw[strCells_list] at ho8
 have ho9:=own_list (l:=[80,6]++be2 s) (r:=num (zz l)) ho8
 have hX9:Below (w.heap.size+1) w1 w8:=hX4.grown hg8 (Nat.le_trans hB hX4.size) (fun k e=>(hp4.lt k e).1)
 clear ho8 hg8 hp4 hX4 hq
 have hoR:=ho9
 rw[←HRR.out] at hoR
 have hcv:=conv_own R hoR
 clear hoR
 go_wp2_with fail
 refine (sum_Seal ⟨R.toArray⟩ (by rw[wsz];have:=Hlen.out;omega) _).mono ?_
 rintro e w9 ⟨rfl,hb9⟩
 have hfin:Below w.heap.size w w9:=(hW.trans (hX9.mono (by omega))).trans (hb9.mono (Nat.le_trans hW.size (hX9.size)))
 clear hb9 ho9 hX9 hcv hW
 go_wp2_with fail
 go_ret2
 exact ⟨by simp,hfin⟩
set_option maxHeartbeats 2000000 in
theorem pack_k7 (n s ak u l:Int) (i:List UInt8) (h:IsBytes w a c i) (hr:RightP ⟨7,n,s,ak,i,u,l⟩) :
  Calls Tryz.prog 135 #[.agg #[.int .i64 7,.int .u32 n,.int .u16 s,.int .u16 ak,.slice a i.length c,.int .u32 u,.int .i64 l]] w fun e w'=>e=.returned (.tuple #[.string ⟨(packM ⟨7,n,s,ak,i,u,l⟩).toArray⟩,.int .i64 0])∧Below w.heap.size w w':=by
 have hR:=wire_RightM (m:=⟨7,n,s,ak,i,u,l⟩) (h.keeps ((Keeps.refl (fun _=>False) w).alloc (.cells #[.int .i64 7,.int .u32 n,.int .u16 s,.int .u16 ak,.slice a i.length c,.int .u32 u,.int .i64 l] 254)) (fun _ _ _=>id))
 rw[decide_eq_true hr] at hR
 have HR:=hid hR
 have hlen:=raw_len _ hr
 have hraw:rawM ⟨7,n,s,ak,i,u,l⟩=[80,7]:=by simp[rawM,bodyM]
 unfold packM
 obtain ⟨R,hRR⟩:∃ R,rawM ⟨7,n,s,ak,i,u,l⟩=R:=⟨_,rfl⟩
 rw[hRR] at hlen hraw ⊢
 have HRR:=hid hraw
 have Hlen:=hid hlen
 clear hR hr hlen hraw hRR
 go_enter Tryz.func135,Tryz.ntmps135
 go_wp2_with fail
 refine HR.out.mono ?_
 rintro e w1 ⟨rfl,hb1⟩
 have hB:w.heap.size+1≤w1.heap.size:=by have:=hb1.size;simpa using this
 have hW:Below w.heap.size w w1:=((Below.refl _ w).alloc (Nat.le_refl _) _).trans (hb1.mono (by simp))
 have x0:=(hb1.cell (p:=⟨w.heap.size,0,none⟩) (by simp)).trans (blk_cell' w _ _ (k:=0) rfl)
 clear hb1
 go_wp2_with fail
 refine (wire_names _ _).mono ?_
 rintro e w2 ⟨rfl,rfl⟩
 rw[show namesK 7=0 by decide]
 have ho:(w1.alloc (.cells #[.int .u8 80,.int .u8 7] 5)).ownsRow (w.heap.size+1) 5 1 (.slice (some ⟨w1.heap.size,0,none⟩) 2 2) 2 (([80,7]:List UInt8).map byteV):=own_two hB 80 7
 have hX:Below (w.heap.size+1) w1 (w1.alloc (.cells #[.int .u8 80,.int .u8 7] 5)):=(Below.refl _ w1).alloc hB _
 have hoR:=ho
 rw[←HRR.out] at hoR
 have hcv:=conv_own R hoR
 clear hoR
 go_wp2_with fail
 refine (sum_Seal ⟨R.toArray⟩ (by rw[wsz];have:=Hlen.out;omega) _).mono ?_
 rintro e w9 ⟨rfl,hb9⟩
 have hfin:Below w.heap.size w w9:=(hW.trans (hX.mono (by omega))).trans (hb9.mono (Nat.le_trans hW.size (hX.size)))
 clear hb9 ho hX hcv hW
 go_wp2_with fail
 go_ret2
 exact ⟨by simp,hfin⟩
end
section
open Go.RowKit
set_option maxRecDepth 10000
variable {w:World} {a:Option Addr} {c:Nat}
def packS (m:Msg):List UInt8:=if RightP m then packM m else []
def packE (m:Msg):Int:=if RightP m then 0 else 1
theorem wire_Pack (m:Msg) (h:IsBytes w a c m.ins) (hw:m.wf) :
  Calls Tryz.prog 135 #[(.agg #[.int .i64 m.kind,.int .u32 m.nonce,.int .u16 m.serial,.int .u16 m.ack,.slice a m.ins.length c,.int .u32 m.sum,.int .i64 m.lead])] w fun e w'=>e=.returned (.tuple #[.string ⟨(packS m).toArray⟩,.int .i64 (packE m)])∧Below w.heap.size w w':=by
 unfold packS packE
 by_cases hr:RightP m
 ·rw[if_pos hr,if_pos hr]
  obtain ⟨_,hn,hs,hak,hu,_⟩:=hw
  have hk:=hr.1
  obtain ⟨k,n,s,ak,i,u,l⟩:=m
  simp only at *
  obtain rfl|rfl|rfl|rfl|rfl|rfl|rfl:k=1∨k=2∨k=3∨k=4∨k=5∨k=6∨k=7:=by omega
  ·exact pack_k1 n s ak u l i h hr hn
  ·exact pack_k2 n s ak u l i h hr hn
  ·exact pack_k3 n s ak u l i h hr hs hak
  ·exact pack_k4 n s ak u l i h hr hs hu
  ·exact pack_k5 n s ak u l i h hr hak
  ·exact pack_k6 n s ak u l i h hr hs
  ·exact pack_k7 n s ak u l i h hr
 ·rw[if_neg hr,if_neg hr]
  exact wire_Pack_no m h hr
end
section
open Go.RowKit
set_option maxRecDepth 10000
structure Rd where
 s:ByteArray
 bad:Bool
def IsRd (w:World) (r:Nat) (x:Rd):Prop:=w.heap[r]?=some (.cells #[.string x.s,.bool x.bad] 369 (0,0))
def takeR (n:Nat) (x:Rd):ByteArray×Rd:=if x.bad=true∨x.s.size<n then (⟨#[]⟩,⟨x.s,true⟩) else (x.s.extract 0 n,⟨x.s.extract n x.s.size,false⟩)
variable {w w':World} {r:Nat} {x:Rd}
theorem IsRd.keeps {S:Nat→Prop} (h:IsRd w r x) (hk:Keeps S w w') (hs:¬ S r):IsRd w' r x:=hk.heap h hs
theorem take_size (n:Nat) (x:Rd):(takeR n x).2.s.size≤x.s.size:=by
 unfold takeR
 split
 ·exact Nat.le_refl _
 ·simp
theorem reader_take (h:IsRd w r x) (n:Nat) (hs:x.s.size≤maxLen) :
  Calls Tryz.prog 301 #[.pointer (some ⟨r,0,none⟩),.int .i64 n] w fun e w'=>e=.returned (.string (takeR n x).1)∧IsRd w' r (takeR n x).2∧Keeps (fun b=>b=r) w w':=by
 obtain ⟨s,bad⟩:=x
 unfold maxLen at hs
 have c0:w.cell? ⟨r,0,none⟩=some (.string s):=blk_cell h rfl
 have c1:w.cell? ⟨r,1,none⟩=some (.bool bad):=blk_cell h rfl
 obtain ⟨f0,f1⟩:=bf2 h 0 1
 simp only at hs
 have H:=hid h
 unfold takeR
 simp only
 cases bad with
 | true=>
  rw[if_pos (.inl rfl)]
  clear h
  go_enter Tryz.func301,Tryz.ntmps301
  go_wp2
  go_ret
  exact ⟨rfl,by have:=blk_set H.out 1 (.bool true);simpa[IsRd] using this,(Keeps.refl (fun b=>b=r) w).setCell (p:=⟨r,1,none⟩) rfl _⟩
 | false=>
  by_cases hn:s.size<n
  ·rw[if_pos (.inr hn)]
   clear h
   go_enter Tryz.func301,Tryz.ntmps301
   go_wp2
   go_ret
   exact ⟨rfl,by have:=blk_set H.out 1 (.bool true);simpa[IsRd] using this,(Keeps.refl (fun b=>b=r) w).setCell (p:=⟨r,1,none⟩) rfl _⟩
  ·rw[if_neg (by simp;omega)]
   have hn2:n≤s.size:=by omega
   clear h hn
   go_enter Tryz.func301,Tryz.ntmps301
   go_wp2
   go_ret
   exact ⟨rfl,by have:=blk_set H.out 0 (.string (s.extract n s.size));simpa[IsRd] using this,(Keeps.refl (fun b=>b=r) w).setCell (p:=⟨r,0,none⟩) rfl _⟩
end
section
open Go.RowKit
set_option maxRecDepth 10000
variable {w w':World} {r:Nat} {x:Rd}
def beN (l:List UInt8):Nat:=l.foldl (fun a c=>a*256+c.toNat) 0
theorem beN_snoc (l:List UInt8) (c:UInt8):beN (l++[c])=beN l*256+c.toNat:=by simp[beN,List.foldl_append]
theorem beN_lt:∀ (n:Nat) (l:List UInt8),l.length=n→beN l<256 ^ n:=by
 intro n
 induction n with
 | zero=>intro l h;rw[List.eq_nil_of_length_eq_zero h];decide
 | succ n ih=>
  intro l h
  have hne:l≠[]:=by intro e;rw[e] at h;simp at h
  rw[←List.dropLast_concat_getLast hne,beN_snoc]
  have h1:=ih l.dropLast (by simp;omega)
  have h2:=(l.getLast hne).toNat_lt
  rw[Nat.pow_succ]
  omega
theorem take_len (n:Nat) (x:Rd):(takeR n x).1.size≤n:=by
 unfold takeR
 split
 ·exact Nat.zero_le _
 ·rename_i h;simp;omega
theorem or16 (a c:Nat) (ha:a<256) (hc:c<256):bits .or .u16 ((a:Int)*256) (c:Int)=((a*256+c:Nat):Int):=by
 have e:(a:Int)*256=((a*256:Nat):Int):=by simp
 rw[e,u16_or_nat _ _ (by omega) (by omega),nat_join 8 (a*256) c (by omega) (by omega)]
theorem or32 (a c:Nat) (ha:a<16777216) (hc:c<256):bits .or .u32 ((a:Int)*256) (c:Int)=((a*256+c:Nat):Int):=by
 have e:(a:Int)*256=((a*256:Nat):Int):=by simp
 rw[e,u32_or_nat _ _ (by omega) (by omega),nat_join 8 (a*256) c (by omega) (by omega)]
set_option maxHeartbeats 1000000 in
theorem get_16 (h:IsRd w r x) (n:Nat) (hn:n≤2) (hs:x.s.size≤maxLen) :
  Calls Tryz.prog 240 #[.pointer (some ⟨r,0,none⟩),.int .i64 n] w fun e w'=>e=.returned (.int .u16 ((beN (takeR n x).1.data.toList:Nat):Int))∧IsRd w' r (takeR n x).2∧Keeps (fun b=>b=r) w w':=by
 have hT:=take_len n x
 have hR:=hid (reader_take h n hs)
 generalize hTT:takeR n x=P at *
 obtain ⟨T,y⟩:=P
 simp only at hT ⊢
 have HTT:=hid hTT
 clear hTT
 go_enter Tryz.func240,Tryz.ntmps240
 go_wp2_with fail
 refine hR.out.mono ?_
 rintro e w1 ⟨rfl,h1,hk1⟩
 obtain ⟨cap,w2,hcv,hcap,hb2,hs2,hcell,_⟩:=conv_bytes w1 T
 have Hcell:=hid hcell
 have hk2:Keeps (fun _=>False) w1 w2:=Keeps.of_below hb2 (fun k h1 h2=>by omega)
 have Hfin:=hid (show IsRd w2 r y∧Keeps (fun b=>b=r) w w2 from ⟨h1.keeps hk2 id,hk1.trans (keeps_any hk2)⟩)
 clear hcell hs2 hb2 hk1 hk2 h1 hR h
 go_wp2_with fail
 go_loopg [5,13] 9 (fun g xv iv wr=>∃ k:Nat,g=9-k∧k≤T.size∧iv=.int .i64 k∧xv=.int .u16 ((beN (T.data.toList.take k):Nat):Int)∧w2=wr)
 case atStart=>exact ⟨0,rfl,Nat.zero_le _,rfl,rfl,rfl⟩
 case round=>
  obtain ⟨k,hg,hk,rfl,rfl,rfl⟩:=hrel
  by_cases hlt:k<T.size
  ·have hkl:k<T.data.toList.length:=by simpa using hlt
   have kc:w2.cell? ⟨w1.heap.size,0+k,none⟩=some (.int .u8 (T.data.toList[k]).toNat):=by rw[Nat.zero_add];exact Hcell.out k hlt
   have kc2:w2.cell? ⟨w1.heap.size,k,none⟩=some (.int .u8 (T.data.toList[k]).toNat):=Hcell.out k hlt
   have hsn:beN (T.data.toList.take (k+1))=beN (T.data.toList.take k)*256+(T.data.toList[k]).toNat:=by rw[List.take_succ_eq_append_getElem hkl,beN_snoc]
   have hlt2:=beN_lt k (T.data.toList.take k) (by simp;omega)
   have hbd:beN (T.data.toList.take k)<256:=Nat.lt_of_lt_of_le hlt2 (Nat.le_trans (Nat.pow_le_pow_right (by omega) (show k≤1 by omega)) (by decide))
   have hc:=(T.data.toList[k]).toNat_lt
   generalize T.data.toList[k]=cc at *
   generalize beN (T.data.toList.take k)=av at *
   have hor:=or16 av cc.toNat hbd hc
   have Hsn:=hid hsn
   have hc1:(cc.toNat:Int)≤255:=by omega
   have hb1:(av:Int)<256:=by omega
   clear hsn hlt2
   go_wp2
   go_roundg (9-(k+1))
   case measure=>omega
   case rel=>exact ⟨k+1,rfl,by omega,by go_num,by rw[Hsn.out];exact val_int (by omega),rfl⟩
  ·obtain rfl:k=T.size:=by omega
   go_wp2
   go_ret
   exact ⟨ret_int (by rw[List.take_of_length_le (by simp)]),Hfin.out⟩
set_option maxHeartbeats 1000000 in
theorem get_32 (h:IsRd w r x) (n:Nat) (hn:n≤4) (hs:x.s.size≤maxLen) :
  Calls Tryz.prog 241 #[.pointer (some ⟨r,0,none⟩),.int .i64 n] w fun e w'=>e=.returned (.int .u32 ((beN (takeR n x).1.data.toList:Nat):Int))∧IsRd w' r (takeR n x).2∧Keeps (fun b=>b=r) w w':=by
 have hT:=take_len n x
 have hR:=hid (reader_take h n hs)
 generalize hTT:takeR n x=P at *
 obtain ⟨T,y⟩:=P
 simp only at hT ⊢
 have HTT:=hid hTT
 clear hTT
 go_enter Tryz.func241,Tryz.ntmps241
 go_wp2_with fail
 refine hR.out.mono ?_
 rintro e w1 ⟨rfl,h1,hk1⟩
 obtain ⟨cap,w2,hcv,hcap,hb2,hs2,hcell,_⟩:=conv_bytes w1 T
 have Hcell:=hid hcell
 have hk2:Keeps (fun _=>False) w1 w2:=Keeps.of_below hb2 (fun k h1 h2=>by omega)
 have Hfin:=hid (show IsRd w2 r y∧Keeps (fun b=>b=r) w w2 from ⟨h1.keeps hk2 id,hk1.trans (keeps_any hk2)⟩)
 clear hcell hs2 hb2 hk1 hk2 h1 hR h
 go_wp2_with fail
 go_loopg [5,13] 9 (fun g xv iv wr=>∃ k:Nat,g=9-k∧k≤T.size∧iv=.int .i64 k∧xv=.int .u32 ((beN (T.data.toList.take k):Nat):Int)∧w2=wr)
 case atStart=>exact ⟨0,rfl,Nat.zero_le _,rfl,rfl,rfl⟩
 case round=>
  obtain ⟨k,hg,hk,rfl,rfl,rfl⟩:=hrel
  by_cases hlt:k<T.size
  ·have hkl:k<T.data.toList.length:=by simpa using hlt
   have kc:w2.cell? ⟨w1.heap.size,0+k,none⟩=some (.int .u8 (T.data.toList[k]).toNat):=by rw[Nat.zero_add];exact Hcell.out k hlt
   have kc2:w2.cell? ⟨w1.heap.size,k,none⟩=some (.int .u8 (T.data.toList[k]).toNat):=Hcell.out k hlt
   have hsn:beN (T.data.toList.take (k+1))=beN (T.data.toList.take k)*256+(T.data.toList[k]).toNat:=by rw[List.take_succ_eq_append_getElem hkl,beN_snoc]
   have hlt2:=beN_lt k (T.data.toList.take k) (by simp;omega)
   have hbd:beN (T.data.toList.take k)<16777216:=Nat.lt_of_lt_of_le hlt2 (Nat.le_trans (Nat.pow_le_pow_right (by omega) (show k≤3 by omega)) (by decide))
   have hc:=(T.data.toList[k]).toNat_lt
   generalize T.data.toList[k]=cc at *
   generalize beN (T.data.toList.take k)=av at *
   have hor:=or32 av cc.toNat hbd hc
   have Hsn:=hid hsn
   have hc1:(cc.toNat:Int)≤255:=by omega
   have hb1:(av:Int)<16777216:=by omega
   clear hsn hlt2
   go_wp2
   go_roundg (9-(k+1))
   case measure=>omega
   case rel=>exact ⟨k+1,rfl,by omega,by go_num,by rw[Hsn.out];exact val_int (by omega),rfl⟩
  ·obtain rfl:k=T.size:=by omega
   go_wp2
   go_ret
   exact ⟨ret_int (by rw[List.take_of_length_le (by simp)]),Hfin.out⟩
def rdrR (x:Rd):List UInt8×Rd:=((rdRun x.s.data.toList).1,(takeR (rdRun x.s.data.toList).2.1 ⟨x.s,x.bad || ((rdRun x.s.data.toList).2.2 != 0)⟩).2)
def rdsR (x:Rd):Int×Rd:=(unzz (rdNum x.s.data.toList).1,(takeR (rdNum x.s.data.toList).2.1 ⟨x.s,x.bad || ((rdNum x.s.data.toList).2.2 != 0)⟩).2)
theorem IsRd.setBad (h:IsRd w r x) (b:Bool):IsRd (w.setCell ⟨r,1,none⟩ (.bool b)) r ⟨x.s,b⟩:=by
 have:=blk_set h 1 (.bool b)
 simpa[IsRd] using this
set_option maxHeartbeats 1000000 in
theorem read_int (h:IsRd w r x) (hs:x.s.size≤maxLen) :
  Calls Tryz.prog 244 #[.pointer (some ⟨r,0,none⟩),.func (.func 245) #[] #[]] w fun e w'=>e=.returned (.int .i64 (rdsR x).1)∧IsRd w' r (rdsR x).2∧Keeps (fun b=>b=r) w w':=by
 have c0:w.cell? ⟨r,0,none⟩=some (.string x.s):=blk_cell h rfl
 have c1:w.cell? ⟨r,1,none⟩=some (.bool x.bad):=blk_cell h rfl
 have f1:=blk_free h 1
 have hP:=pack_ReadSigned x.s hs w
 have hse:=h.setBad (x.bad || ((rdNum x.s.data.toList).2.2 != 0))
 have hR:=reader_take hse (rdNum x.s.data.toList).2.1 hs
 unfold rdsR
 generalize rdNum x.s.data.toList=P at *
 obtain ⟨v,k,e0⟩:=P
 simp only at hP hse hR ⊢
 have HP:=hid hP
 have HR:=hid hR
 clear hP hR h hse
 cases hb:x.bad with
 | true=>
  rw[hb] at HR c1
  simp only[Bool.true_or] at HR ⊢
  clear hb
  go_enter Tryz.func244,Tryz.ntmps244
  go_wp2_with fail
  refine HP.out.mono ?_
  rintro e w1 ⟨rfl,rfl⟩
  go_wp2_with fail
  refine HR.out.mono ?_
  rintro e w2 ⟨rfl,h2,hk⟩
  go_wp2_with fail
  go_ret
  exact ⟨rfl,h2,((Keeps.refl (fun b=>b=r) w).setCell (p:=⟨r,1,none⟩) rfl _).trans hk⟩
 | false=>
  rw[hb] at HR c1
  simp only[Bool.false_or] at HR ⊢
  clear hb
  by_cases he:e0=0
  ·have hq:(e0 != 0)=false:=by simp[he]
   rw[hq] at HR ⊢
   clear he
   go_enter Tryz.func244,Tryz.ntmps244
   go_wp2_with fail
   refine HP.out.mono ?_
   rintro e w1 ⟨rfl,rfl⟩
   go_wp2_with fail
   refine HR.out.mono ?_
   rintro e w2 ⟨rfl,h2,hk⟩
   go_wp2_with fail
   go_ret
   exact ⟨rfl,h2,((Keeps.refl (fun b=>b=r) w).setCell (p:=⟨r,1,none⟩) rfl _).trans hk⟩
  ·have hq:(e0 != 0)=true:=by simp[he]
   rw[hq] at HR ⊢
   clear he
   go_enter Tryz.func244,Tryz.ntmps244
   go_wp2_with fail
   refine HP.out.mono ?_
   rintro e w1 ⟨rfl,rfl⟩
   go_wp2_with fail
   refine HR.out.mono ?_
   rintro e w2 ⟨rfl,h2,hk⟩
   go_wp2_with fail
   go_ret
   exact ⟨rfl,h2,((Keeps.refl (fun b=>b=r) w).setCell (p:=⟨r,1,none⟩) rfl _).trans hk⟩
set_option maxHeartbeats 1000000 in
theorem read_run (h:IsRd w r x) (hs:x.s.size≤maxLen) :
  Calls Tryz.prog 242 #[.pointer (some ⟨r,0,none⟩),.func (.func 243) #[] #[]] w fun e w'=>∃ v,e=.returned v∧w'.ownsRow w.heap.size 5 1 v (rdrR x).1.length ((rdrR x).1.map byteV)∧IsRd w' r (rdrR x).2∧Keeps (fun b=>b=r) w w':=by
 have c0:w.cell? ⟨r,0,none⟩=some (.string x.s):=blk_cell h rfl
 have lr:=blk_lt h
 have hP:=pack_ReadRun x.s hs w
 have hR:∀ w1,IsRd w1 r x→_:=fun w1 (h1:IsRd w1 r x)=>reader_take (h1.setBad (x.bad || ((rdRun x.s.data.toList).2.2 != 0))) (rdRun x.s.data.toList).2.1 hs
 unfold rdrR
 unfold ReadsRun at hP
 generalize rdRun x.s.data.toList=P at *
 obtain ⟨L,k,e0⟩:=P
 simp only at hP hR ⊢
 have HP:=hid hP
 have HR:=hid hR
 have H:=hid h
 clear hP hR h
 cases hb:x.bad with
 | true=>
  rw[hb] at HR
  simp only[Bool.true_or] at HR ⊢
  have Hb:=hid hb
  clear hb
  go_enter Tryz.func242,Tryz.ntmps242
  go_wp2_with fail
  refine HP.out.mono ?_
  rintro e w1 ⟨v,rfl,ho,hb1⟩
  have hk1:Keeps (fun _=>False) w w1:=Keeps.of_below hb1 (fun k h1 h2=>by omega)
  have h1:=H.out.keeps hk1 id
  have c1:w1.cell? ⟨r,1,none⟩=some (.bool x.bad):=blk_cell h1 rfl
  rw[Hb.out] at c1
  have f1:=blk_free h1 1
  have hR1:=HR.out w1 h1
  have HR1:=hid hR1
  have H1:=hid h1
  clear hR1 hb1 h1
  go_wp2_with fail
  refine HR1.out.mono ?_
  rintro e w2 ⟨rfl,h2,hk⟩
  have hk3:Keeps (fun b=>b=r) w1 w2:=((Keeps.refl (fun b=>b=r) w1).setCell (p:=⟨r,1,none⟩) rfl _).trans hk
  have ho2:=own_keeps ho hk3 (fun b hb e=>by have:=(ho.lt b hb).1;omega)
  have hkk:=(keeps_any (S:=fun b=>b=r) hk1).trans hk3
  clear ho hk hk3 hk1
  go_wp2_with fail
  go_ret
  exact ⟨_,rfl,ho2,h2,hkk⟩
 | false=>
  rw[hb] at HR
  simp only[Bool.false_or] at HR ⊢
  have Hb:=hid hb
  clear hb
  by_cases he:e0=0
  ·have hq:(e0 != 0)=false:=by simp[he]
   rw[hq] at HR ⊢
   clear he
   go_enter Tryz.func242,Tryz.ntmps242
   go_wp2_with fail
   refine HP.out.mono ?_
   rintro e w1 ⟨v,rfl,ho,hb1⟩
   have hk1:Keeps (fun _=>False) w w1:=Keeps.of_below hb1 (fun k h1 h2=>by omega)
   have h1:=H.out.keeps hk1 id
   have c1:w1.cell? ⟨r,1,none⟩=some (.bool x.bad):=blk_cell h1 rfl
   rw[Hb.out] at c1
   have f1:=blk_free h1 1
   have hR1:=HR.out w1 h1
   have HR1:=hid hR1
   have H1:=hid h1
   clear hR1 hb1 h1
   go_wp2_with fail
   refine HR1.out.mono ?_
   rintro e w2 ⟨rfl,h2,hk⟩
   have hk3:Keeps (fun b=>b=r) w1 w2:=((Keeps.refl (fun b=>b=r) w1).setCell (p:=⟨r,1,none⟩) rfl _).trans hk
   have ho2:=own_keeps ho hk3 (fun b hb e=>by have:=(ho.lt b hb).1;omega)
   have hkk:=(keeps_any (S:=fun b=>b=r) hk1).trans hk3
   clear ho hk hk3 hk1
   go_wp2_with fail
   go_ret
   exact ⟨_,rfl,ho2,h2,hkk⟩
  ·have hq:(e0 != 0)=true:=by simp[he]
   rw[hq] at HR ⊢
   clear he
   go_enter Tryz.func242,Tryz.ntmps242
   go_wp2_with fail
   refine HP.out.mono ?_
   rintro e w1 ⟨v,rfl,ho,hb1⟩
   have hk1:Keeps (fun _=>False) w w1:=Keeps.of_below hb1 (fun k h1 h2=>by omega)
   have h1:=H.out.keeps hk1 id
   have c1:w1.cell? ⟨r,1,none⟩=some (.bool x.bad):=blk_cell h1 rfl
   rw[Hb.out] at c1
   have f1:=blk_free h1 1
   have hR1:=HR.out w1 h1
   have HR1:=hid hR1
   have H1:=hid h1
   clear hR1 hb1 h1
   go_wp2_with fail
   refine HR1.out.mono ?_
   rintro e w2 ⟨rfl,h2,hk⟩
   have hk3:Keeps (fun b=>b=r) w1 w2:=((Keeps.refl (fun b=>b=r) w1).setCell (p:=⟨r,1,none⟩) rfl _).trans hk
   have ho2:=own_keeps ho hk3 (fun b hb e=>by have:=(ho.lt b hb).1;omega)
   have hkk:=(keeps_any (S:=fun b=>b=r) hk1).trans hk3
   clear ho hk hk3 hk1
   go_wp2_with fail
   go_ret
   exact ⟨_,rfl,ho2,h2,hkk⟩
end
section
open Go.RowKit
set_option maxRecDepth 10000
def bN (b:ByteArray):Int:=((beN b.data.toList:Nat):Int)
def parseK (k:Int) (x:Rd):Msg×Rd:=
 if k=1∨k=2 then (⟨k,bN (takeR 4 x).1,0,0,[],0,0⟩,(takeR 4 x).2)
 else if k=3 then (⟨k,0,bN (takeR 2 x).1,bN (takeR 2 (takeR 2 x).2).1,(rdrR (takeR 2 (takeR 2 x).2).2).1,0,0⟩,(rdrR (takeR 2 (takeR 2 x).2).2).2)
 else if k=4 then (⟨k,0,bN (takeR 2 x).1,0,[],bN (takeR 4 (takeR 2 x).2).1,0⟩,(takeR 4 (takeR 2 x).2).2)
 else if k=5 then (⟨k,0,0,bN (takeR 2 x).1,[],0,0⟩,(takeR 2 x).2)
 else if k=6 then (⟨k,0,bN (takeR 2 x).1,0,[],0,(rdsR (takeR 2 x).2).1⟩,(rdsR (takeR 2 x).2).2)
 else (⟨k,0,0,0,[],0,0⟩,x)
def firstR (t:List UInt8):ByteArray×Rd:=takeR 1 ⟨⟨t.toArray⟩,false⟩
def kindR (t:List UInt8):ByteArray×Rd:=takeR 1 ⟨(firstR t).2.s,bN (firstR t).1 != 80⟩
def parseT (t:List UInt8):Msg×Rd:=parseK (bN (kindR t).1) (kindR t).2
def wrongR (p:Msg×Rd):Prop:=p.2.bad=true∨p.2.s.toList≠[]∨¬ RightP p.1
instance (p:Msg×Rd):Decidable (wrongR p):=by unfold wrongR;infer_instance
def unpT (t:List UInt8):Msg×Int:=if wrongR (parseT t) then (Msg.zero,4) else ((parseT t).1,0)
def unpM (l:List UInt8):Msg×Int:=if (opened l).2=0 then unpT (opened l).1 else (Msg.zero,(opened l).2)
def UnpN (w:World) (m:Msg) (err:Int) (e:Ending) (w':World):Prop:=∃ a c,e=.returned (.tuple #[(.agg #[.int .i64 m.kind,.int .u32 m.nonce,.int .u16 m.serial,.int .u16 m.ack,.slice a m.ins.length c,.int .u32 m.sum,.int .i64 m.lead]),.int .i64 err])∧IsBytes w' a c m.ins∧Below w.heap.size w w'∧∀ x,a=some x→w.heap.size≤x.block
def zeroC:Array Value:=#[.int .i64 0,.int .u32 0,.int .u16 0,.int .u16 0,.slice none 0 0,.int .u32 0,.int .i64 0]
structure UnpSt (w0:World) (r m:Nat) (x:Rd) (cs:Array Value) (w:World):Prop where
 rd:IsRd w r x
 msg:w.heap[m]?=some (.cells cs 254 (0,0))
 res:w.heap[w0.heap.size]?=some (.cells zeroC 254 (0,0))
 below:Below w0.heap.size w0 w
 lr:w0.heap.size<r
 lm:r<m
 sz:x.s.size≤100000
namespace UnpSt
variable {w0 w w':World} {r m:Nat} {x x':Rd} {cs:Array Value}
theorem get (h:UnpSt w0 r m x cs w) (hk:Keeps (fun b=>b=r) w w') (h2:IsRd w' r x') (hs:x'.s.size≤x.s.size):UnpSt w0 r m x' cs w':=
 ⟨h2,hk.heap h.msg (by have:=h.lm;omega),hk.heap h.res (by have:=h.lr;omega),h.below.trans (hk.below h.below.size (fun k hk=>by have:=h.lr;omega)),h.lr,h.lm,Nat.le_trans hs h.sz⟩
theorem set (h:UnpSt w0 r m x cs w) (j:Nat) (v:Value):UnpSt w0 r m x (cs.setIfInBounds j v) (w.setCell ⟨m,j,none⟩ v):=by
 have hk:Keeps (fun b=>b=m) w (w.setCell ⟨m,j,none⟩ v):=(Keeps.refl (fun b=>b=m) w).setCell (p:=⟨m,j,none⟩) rfl v
 exact ⟨hk.heap h.rd (by have:=h.lm;omega),by simpa using blk_set h.msg j v,hk.heap h.res (by have:=h.lm;have:=h.lr;omega),h.below.trans (hk.below h.below.size (fun k hk=>by have:=h.lm;have:=h.lr;omega)),h.lr,h.lm,h.sz⟩
theorem max (h:UnpSt w0 r m x cs w):x.s.size≤maxLen:=by have:=h.sz;unfold maxLen;omega
end UnpSt
theorem rdr_size (x:Rd):(rdrR x).2.s.size≤x.s.size:=take_size _ _
theorem rds_size (x:Rd):(rdsR x).2.s.size≤x.s.size:=take_size _ _
variable {w:World}
theorem blk_store {w:World} {b:Nat} {t:TypeId} {c0 c1 c2 c3 c4 c5 c6:Value} (h:w.heap[b]?=some (.cells #[c0,c1,c2,c3,c4,c5,c6] t (0,0))) (v0 v1 v2 v3 v4 v5 v6:Value) :
  (((((((w.setCell ⟨b,0,none⟩ v0).setCell ⟨b,1,none⟩ v1).setCell ⟨b,2,none⟩ v2).setCell ⟨b,3,none⟩ v3).setCell ⟨b,4,none⟩ v4).setCell ⟨b,5,none⟩ v5).setCell ⟨b,6,none⟩ v6).heap[b]?=some (.cells #[v0,v1,v2,v3,v4,v5,v6] t (0,0)):=by
 have:=blk_set (blk_set (blk_set (blk_set (blk_set (blk_set (blk_set h 0 v0) 1 v1) 2 v2) 3 v3) 4 v4) 5 v5) 6 v6
 simpa using this
set_option maxHeartbeats 4000000 in
theorem unp_12 (s:ByteArray) (t:List UInt8) (k:Int) (x1 x2:Rd) (b1 b2:ByteArray) (hs:s.size≤maxLen) (hop:opened s.data.toList=(t,0)) (htl:t.length≤100000) (hx1:firstR t=(b1,x1)) (hx2:kindR t=(b2,x2)) (hbk:bN b2=k) (hk:k=1∨k=2) :
  Calls Tryz.prog 166 #[.string s] w (UnpN w (unpT t).1 (unpT t).2):=by
 have hO:=sum_Open s hs (w.alloc (.cells #[.int .i64 0,.int .u32 0,.int .u16 0,.int .u16 0,.slice none 0 0,.int .u32 0,.int .i64 0] 254))
 rw[hop] at hO
 have HO:=hid hO
 have hx1b:takeR 1 ⟨⟨t.toArray⟩,false⟩=(b1,x1):=hx1
 have hx2b:takeR 1 ⟨x1.s,bN b1 != 80⟩=(b2,x2):=by have:=hx2;unfold kindR at this;rwa [hx1] at this
 have HX1:=hid hx1b
 have HX2:=hid hx2b
 have Hbk:=hid hbk
 have hN:namesK k=1:=by rcases hk with h|h<;>simp[namesK,h]
 have HN:=hid hN
 have hsz1:x1.s.size≤t.length:=by have:=take_size 1 ⟨⟨t.toArray⟩,false⟩;rw[hx1b] at this;exact Nat.le_trans this (by show t.toArray.size≤t.length;simp)
 have hsz2:x2.s.size≤x1.s.size:=by have:=take_size 1 ⟨x1.s,bN b1 != 80⟩;rw[hx2b] at this;exact this
 have hkr:0≤k∧k<65536:=by
  have h1:=take_len 1 ⟨x1.s,bN b1 != 80⟩
  rw[hx2b] at h1
  have h2:=beN_lt _ b2.data.toList rfl
  have h3:b2.data.toList.length≤1:=by simpa using h1
  have h4:=Nat.lt_of_lt_of_le h2 (Nat.pow_le_pow_right (by omega) h3)
  rw[←hbk]
  unfold bN
  omega
 have Hkr:=hid hkr
 have Htl:=hid htl
 have Hs1:=hid (Nat.le_trans hsz1 htl)
 have Hs2:=hid (Nat.le_trans hsz2 (Nat.le_trans hsz1 htl))
 have hpar:parseT t=parseK k x2:=by unfold parseT;rw[hx2];exact congrArg (fun q=>parseK q x2) hbk
 unfold parseK at hpar
 rw[if_pos hk] at hpar
 obtain ⟨⟨c0,y0⟩,hq0⟩:∃ q,takeR 4 x2=q:=⟨_,rfl⟩
 rw[hq0] at hpar
 simp only at hpar
 have Hq0:=hid hq0
 have hz0:y0.s.size≤x2.s.size:=by have:=take_size 4 x2;rw[hq0] at this;exact this
 have Hz0:=hid hz0
 have Hpar:=hid hpar
 clear hO hop hs hx1 hx2 hx1b hx2b hbk hN hsz1 hsz2 htl hpar hk hq0 hz0
 go_enter Tryz.func166,Tryz.ntmps166
 go_wp2_with fail
 refine HO.out.mono ?_
 rintro e w1 ⟨rfl,hb1⟩
 have hk1:Keeps (fun _=>False) (w.alloc (.cells #[.int .i64 0,.int .u32 0,.int .u16 0,.int .u16 0,.slice none 0 0,.int .u32 0,.int .i64 0] 254)) w1:=Keeps.of_below hb1 (fun k h1 h2=>by omega)
 have hW1:Below w.heap.size w w1:=((Below.refl _ w).alloc (Nat.le_refl _) _).trans (hb1.mono (by simp))
 have hl1:w.heap.size+1≤w1.heap.size:=by have:=hb1.size;simpa using this
 have hres:=hk1.heap (blk_new w (.cells #[.int .i64 0,.int .u32 0,.int .u16 0,.int .u16 0,.slice none 0 0,.int .u32 0,.int .i64 0] 254)) id
 clear hb1 hk1
 go_wp2_with fail
 have hr0:IsRd (w1.alloc (.cells #[.string ⟨t.toArray⟩,.bool false] 369)) w1.heap.size ⟨⟨t.toArray⟩,false⟩:=blk_new _ _
 have hg:=get_16 hr0 1 (by omega) (by show (⟨t.toArray⟩:ByteArray).size≤maxLen;have:=Htl.out;simp[ByteArray.size,maxLen];omega)
 rw[HX1.out] at hg
 refine hg.mono ?_
 rintro e w2 ⟨rfl,h2,hk2⟩
 have h2':IsRd w2 w1.heap.size x1:=h2
 have hres2:=hk2.heap (blk_alloc hres _) (by omega)
 have hW2:=(hW1.alloc hW1.size _).trans (hk2.below (B:=w.heap.size) (by simp;omega) (fun k h1 h2=>by omega))
 have f1:=blk_free h2' 1
 have cr1:w2.cell? ⟨w1.heap.size,1,none⟩=some (.bool x1.bad):=blk_cell h2' rfl
 clear hg h2 hk2 hr0 hres hW1
 have h3:=h2'.setBad (bN b1 != 80)
 have hk3:Keeps (fun b=>b=w1.heap.size) w2 (w2.setCell ⟨w1.heap.size,1,none⟩ (.bool (bN b1 != 80))):=(Keeps.refl (fun b=>b=w1.heap.size) w2).setCell (p:=⟨w1.heap.size,1,none⟩) rfl _
 have hres3:=hk3.heap hres2 (by omega)
 have hW3:=hW2.trans (hk3.below hW2.size (fun k h1 h2=>by omega))
 have hg:=get_16 h3 1 (by omega) (by have:=Hs1.out;show x1.s.size≤maxLen;unfold maxLen;omega)
 rw[HX2.out] at hg
 have Hg:=hid hg
 clear hg h2' hres2 hW2 hk3 h3
 rw[show ((beN (b1,x1).1.data.toList:Nat):Int)=bN b1 from rfl]
 go_wp2_with fail
 refine Hg.out.mono ?_
 rintro e w4 ⟨rfl,h4,hk4⟩
 have h4':IsRd w4 w1.heap.size x2:=h4
 have hres4:=hk4.heap hres3 (by omega)
 have hW4:=hW3.trans (hk4.below hW3.size (fun k h1 h2=>by omega))
 have l4:=blk_lt h4'
 clear Hg h4 hk4 hres3 hW3 f1 cr1
 rw[show ((beN (b2,x2).1.data.toList:Nat):Int)=k from Hbk.out]
 have hkr:=Hkr.out
 have U:UnpSt w w1.heap.size w4.heap.size x2 #[.int .i64 k,.int .u32 0,.int .u16 0,.int .u16 0,.slice none 0 0,.int .u32 0,.int .i64 0] (w4.alloc (.cells #[.int .i64 k,.int .u32 0,.int .u16 0,.int .u16 0,.slice none 0 0,.int .u32 0,.int .i64 0] 254)):=
  ⟨h4'.keeps ((Keeps.refl (fun _=>False) w4).alloc _) id,blk_new _ _,blk_alloc hres4 _,hW4.alloc hW4.size _,by omega,l4,Hs2.out⟩
 clear h4' hres4 hW4
 go_wp2_with fail
 refine (wire_names k _).mono ?_
 rintro e w5 ⟨rfl,rfl⟩
 rw[HN.out]
 have hg:=get_32 U.rd 4 (by omega) U.max
 rw[Hq0.out] at hg
 have Hg:=hid hg
 clear hg
 go_wp2_with fail
 refine Hg.out.mono ?_
 rintro e w6 ⟨rfl,hr6,hk6⟩
 have V:=U.get hk6 hr6 Hz0.out
 clear U Hg hr6 hk6
 rw[show ((beN (c0,y0).1.data.toList:Nat):Int)=bN c0 from rfl]
 have fj:=blk_free V.msg 1
 have cj:=blk_cell V.msg (k:=1) rfl
 have U:=V.set 1 (.int .u32 (bN c0))
 simp only[List.setIfInBounds_toArray,List.set_cons_succ,List.set_cons_zero] at U
 have hRt:=fun W (hb:IsBytes W none 0 ([]:List UInt8))=>wire_RightM (w:=W) (m:=⟨k,(bN c0),0,0,[],0,0⟩) hb
 have HRt:=hid hRt
 obtain ⟨cb,cst⟩:=bc2 1 0 U.rd ⟨rfl,rfl⟩
 obtain ⟨m0,m1,m2,m3,m4,m5,m6⟩:=bc7 0 1 2 3 4 5 6 U.msg ⟨rfl,rfl,rfl,rfl,rfl,rfl,rfl⟩
 have hres:=U.res
 unfold zeroC at hres
 have hW:=U.below
 obtain ⟨r0,r1,r2,r3,r4,r5,r6⟩:=bc7 0 1 2 3 4 5 6 hres ⟨rfl,rfl,rfl,rfl,rfl,rfl,rfl⟩
 obtain ⟨g0,g1,g2,g3,g4,g5,g6⟩:=bf7 hres 0 1 2 3 4 5 6
 clear hRt
 by_cases hb:y0.bad=true
 ·have hu:=hid (show unpT t=(Msg.zero,4) from if_pos (by rw[Hpar.out];exact .inl hb))
  rw[hb] at cb
  clear hb HRt
  go_wp2_with fail
  have hf:=blk_store hres (.int .i64 0) (.int .u32 0) (.int .u16 0) (.int .u16 0) (.slice none 0 0) (.int .u32 0) (.int .i64 0)
  obtain ⟨d0,d1,d2,d3,d4,d5,d6⟩:=bc7 0 1 2 3 4 5 6 hf ⟨rfl,rfl,rfl,rfl,rfl,rfl,rfl⟩
  have hbl:=((((((hW.setCell (p:=⟨w.heap.size,0,none⟩) (Nat.le_refl _) (.int .i64 0)).setCell (p:=⟨w.heap.size,1,none⟩) (Nat.le_refl _) (.int .u32 0)).setCell (p:=⟨w.heap.size,2,none⟩) (Nat.le_refl _) (.int .u16 0)).setCell (p:=⟨w.heap.size,3,none⟩) (Nat.le_refl _) (.int .u16 0)).setCell (p:=⟨w.heap.size,4,none⟩) (Nat.le_refl _) (.slice none 0 0)).setCell (p:=⟨w.heap.size,5,none⟩) (Nat.le_refl _) (.int .u32 0)).setCell (p:=⟨w.heap.size,6,none⟩) (Nat.le_refl _) (.int .i64 0)
  refine bodyPost_ret (v:=.tuple #[.agg #[.int .i64 0,.int .u32 0,.int .u16 0,.int .u16 0,.slice none 0 0,.int .u32 0,.int .i64 0],.int .i64 4]) (by simp[results,Tryz.results166,go_sem,d0,d1,d2,d3,d4,d5,d6]) rfl ?_
  rw[hu.out]
  exact ⟨none,0,rfl,IsBytes.none _,hbl,fun _ h=>by cases h⟩
 have hb':y0.bad=false:=by simpa using hb
 rw[hb'] at cb
 by_cases he:y0.s.toList=[]
 rotate_left
 ·have hu:=hid (show unpT t=(Msg.zero,4) from if_pos (by rw[Hpar.out];exact .inr (.inl he)))
  have q1:y0.s.toList.isEmpty=false:=by simpa using he
  clear hb hb' HRt
  go_wp2_with fail
  have hf:=blk_store hres (.int .i64 0) (.int .u32 0) (.int .u16 0) (.int .u16 0) (.slice none 0 0) (.int .u32 0) (.int .i64 0)
  obtain ⟨d0,d1,d2,d3,d4,d5,d6⟩:=bc7 0 1 2 3 4 5 6 hf ⟨rfl,rfl,rfl,rfl,rfl,rfl,rfl⟩
  have hbl:=((((((hW.setCell (p:=⟨w.heap.size,0,none⟩) (Nat.le_refl _) (.int .i64 0)).setCell (p:=⟨w.heap.size,1,none⟩) (Nat.le_refl _) (.int .u32 0)).setCell (p:=⟨w.heap.size,2,none⟩) (Nat.le_refl _) (.int .u16 0)).setCell (p:=⟨w.heap.size,3,none⟩) (Nat.le_refl _) (.int .u16 0)).setCell (p:=⟨w.heap.size,4,none⟩) (Nat.le_refl _) (.slice none 0 0)).setCell (p:=⟨w.heap.size,5,none⟩) (Nat.le_refl _) (.int .u32 0)).setCell (p:=⟨w.heap.size,6,none⟩) (Nat.le_refl _) (.int .i64 0)
  refine bodyPost_ret (v:=.tuple #[.agg #[.int .i64 0,.int .u32 0,.int .u16 0,.int .u16 0,.slice none 0 0,.int .u32 0,.int .i64 0],.int .i64 4]) (by simp[results,Tryz.results166,go_sem,d0,d1,d2,d3,d4,d5,d6]) rfl ?_
  rw[hu.out]
  exact ⟨none,0,rfl,IsBytes.none _,hbl,fun _ h=>by cases h⟩
 have q1:y0.s.toList.isEmpty=true:=by simpa using he
 by_cases hr:RightP ⟨k,(bN c0),0,0,[],0,0⟩
 rotate_left
 ·have hu:=hid (show unpT t=(Msg.zero,4) from if_pos (by rw[Hpar.out];exact .inr (.inr hr)))
  rw[decide_eq_false hr] at HRt
  clear hb hb' hr he
  go_wp2_with fail
  refine (HRt.out _ (IsBytes.none _)).mono ?_
  rintro e w9 ⟨rfl,hb9⟩
  have hk9:Keeps (fun _=>False) _ w9:=Keeps.of_below hb9 (fun k h1 h2=>by omega)
  have hres9:=hk9.heap hres id
  have hmsg9:=hk9.heap U.msg id
  have hW9:=hW.trans (hb9.mono hW.size)
  have s0:=blk_cell hres9 (k:=0) rfl
  have t0:=blk_free hres9 0
  have n0:=blk_cell hmsg9 (k:=0) rfl
  have s1:=blk_cell hres9 (k:=1) rfl
  have t1:=blk_free hres9 1
  have n1:=blk_cell hmsg9 (k:=1) rfl
  have s2:=blk_cell hres9 (k:=2) rfl
  have t2:=blk_free hres9 2
  have n2:=blk_cell hmsg9 (k:=2) rfl
  have s3:=blk_cell hres9 (k:=3) rfl
  have t3:=blk_free hres9 3
  have n3:=blk_cell hmsg9 (k:=3) rfl
  have s4:=blk_cell hres9 (k:=4) rfl
  have t4:=blk_free hres9 4
  have n4:=blk_cell hmsg9 (k:=4) rfl
  have s5:=blk_cell hres9 (k:=5) rfl
  have t5:=blk_free hres9 5
  have n5:=blk_cell hmsg9 (k:=5) rfl
  have s6:=blk_cell hres9 (k:=6) rfl
  have t6:=blk_free hres9 6
  have n6:=blk_cell hmsg9 (k:=6) rfl
  clear hb9 hk9 hmsg9
  go_wp2_with fail
  have hf:=blk_store hres9 (.int .i64 0) (.int .u32 0) (.int .u16 0) (.int .u16 0) (.slice none 0 0) (.int .u32 0) (.int .i64 0)
  obtain ⟨d0,d1,d2,d3,d4,d5,d6⟩:=bc7 0 1 2 3 4 5 6 hf ⟨rfl,rfl,rfl,rfl,rfl,rfl,rfl⟩
  have hbl:=((((((hW9.setCell (p:=⟨w.heap.size,0,none⟩) (Nat.le_refl _) (.int .i64 0)).setCell (p:=⟨w.heap.size,1,none⟩) (Nat.le_refl _) (.int .u32 0)).setCell (p:=⟨w.heap.size,2,none⟩) (Nat.le_refl _) (.int .u16 0)).setCell (p:=⟨w.heap.size,3,none⟩) (Nat.le_refl _) (.int .u16 0)).setCell (p:=⟨w.heap.size,4,none⟩) (Nat.le_refl _) (.slice none 0 0)).setCell (p:=⟨w.heap.size,5,none⟩) (Nat.le_refl _) (.int .u32 0)).setCell (p:=⟨w.heap.size,6,none⟩) (Nat.le_refl _) (.int .i64 0)
  refine bodyPost_ret (v:=.tuple #[.agg #[.int .i64 0,.int .u32 0,.int .u16 0,.int .u16 0,.slice none 0 0,.int .u32 0,.int .i64 0],.int .i64 4]) (by simp[results,Tryz.results166,go_sem,d0,d1,d2,d3,d4,d5,d6]) rfl ?_
  rw[hu.out]
  exact ⟨none,0,rfl,IsBytes.none _,hbl,fun _ h=>by cases h⟩
 ·have hu:=hid (show unpT t=(⟨k,(bN c0),0,0,[],0,0⟩,0) from by unfold unpT;rw[Hpar.out,if_neg];rintro (h|h|h);exact hb h;exact h he;exact h hr)
  rw[decide_eq_true hr] at HRt
  clear hb hb' hr he
  go_wp2_with fail
  refine (HRt.out _ (IsBytes.none _)).mono ?_
  rintro e w9 ⟨rfl,hb9⟩
  have hk9:Keeps (fun _=>False) _ w9:=Keeps.of_below hb9 (fun k h1 h2=>by omega)
  have hres9:=hk9.heap hres id
  have hmsg9:=hk9.heap U.msg id
  have hW9:=hW.trans (hb9.mono hW.size)
  have s0:=blk_cell hres9 (k:=0) rfl
  have t0:=blk_free hres9 0
  have n0:=blk_cell hmsg9 (k:=0) rfl
  have s1:=blk_cell hres9 (k:=1) rfl
  have t1:=blk_free hres9 1
  have n1:=blk_cell hmsg9 (k:=1) rfl
  have s2:=blk_cell hres9 (k:=2) rfl
  have t2:=blk_free hres9 2
  have n2:=blk_cell hmsg9 (k:=2) rfl
  have s3:=blk_cell hres9 (k:=3) rfl
  have t3:=blk_free hres9 3
  have n3:=blk_cell hmsg9 (k:=3) rfl
  have s4:=blk_cell hres9 (k:=4) rfl
  have t4:=blk_free hres9 4
  have n4:=blk_cell hmsg9 (k:=4) rfl
  have s5:=blk_cell hres9 (k:=5) rfl
  have t5:=blk_free hres9 5
  have n5:=blk_cell hmsg9 (k:=5) rfl
  have s6:=blk_cell hres9 (k:=6) rfl
  have t6:=blk_free hres9 6
  have n6:=blk_cell hmsg9 (k:=6) rfl
  clear hb9 hk9 hmsg9
  go_wp2_with fail
  have hf:=blk_store hres9 (.int .i64 k) (.int .u32 (bN c0)) (.int .u16 0) (.int .u16 0) (.slice none 0 0) (.int .u32 0) (.int .i64 0)
  obtain ⟨d0,d1,d2,d3,d4,d5,d6⟩:=bc7 0 1 2 3 4 5 6 hf ⟨rfl,rfl,rfl,rfl,rfl,rfl,rfl⟩
  have hbl:=((((((hW9.setCell (p:=⟨w.heap.size,0,none⟩) (Nat.le_refl _) (.int .i64 k)).setCell (p:=⟨w.heap.size,1,none⟩) (Nat.le_refl _) (.int .u32 (bN c0))).setCell (p:=⟨w.heap.size,2,none⟩) (Nat.le_refl _) (.int .u16 0)).setCell (p:=⟨w.heap.size,3,none⟩) (Nat.le_refl _) (.int .u16 0)).setCell (p:=⟨w.heap.size,4,none⟩) (Nat.le_refl _) (.slice none 0 0)).setCell (p:=⟨w.heap.size,5,none⟩) (Nat.le_refl _) (.int .u32 0)).setCell (p:=⟨w.heap.size,6,none⟩) (Nat.le_refl _) (.int .i64 0)
  refine bodyPost_ret (v:=.tuple #[.agg #[.int .i64 k,.int .u32 (bN c0),.int .u16 0,.int .u16 0,.slice none 0 0,.int .u32 0,.int .i64 0],.int .i64 0]) (by simp[results,Tryz.results166,go_sem,d0,d1,d2,d3,d4,d5,d6]) rfl ?_
  rw[hu.out]
  exact ⟨none,0,rfl,IsBytes.none _,hbl,fun _ h=>by cases h⟩
set_option maxHeartbeats 4000000 in
theorem unp_3 (s:ByteArray) (t:List UInt8) (k:Int) (x1 x2:Rd) (b1 b2:ByteArray) (hs:s.size≤maxLen) (hop:opened s.data.toList=(t,0)) (htl:t.length≤100000) (hx1:firstR t=(b1,x1)) (hx2:kindR t=(b2,x2)) (hbk:bN b2=k) (hk:k=3) :
  Calls Tryz.prog 166 #[.string s] w (UnpN w (unpT t).1 (unpT t).2):=by
 have hO:=sum_Open s hs (w.alloc (.cells #[.int .i64 0,.int .u32 0,.int .u16 0,.int .u16 0,.slice none 0 0,.int .u32 0,.int .i64 0] 254))
 rw[hop] at hO
 have HO:=hid hO
 have hx1b:takeR 1 ⟨⟨t.toArray⟩,false⟩=(b1,x1):=hx1
 have hx2b:takeR 1 ⟨x1.s,bN b1 != 80⟩=(b2,x2):=by have:=hx2;unfold kindR at this;rwa [hx1] at this
 have HX1:=hid hx1b
 have HX2:=hid hx2b
 have Hbk:=hid hbk
 have hN:namesK k=14:=by simp[namesK,hk]
 have HN:=hid hN
 have hsz1:x1.s.size≤t.length:=by have:=take_size 1 ⟨⟨t.toArray⟩,false⟩;rw[hx1b] at this;exact Nat.le_trans this (by show t.toArray.size≤t.length;simp)
 have hsz2:x2.s.size≤x1.s.size:=by have:=take_size 1 ⟨x1.s,bN b1 != 80⟩;rw[hx2b] at this;exact this
 have hkr:0≤k∧k<65536:=by
  have h1:=take_len 1 ⟨x1.s,bN b1 != 80⟩
  rw[hx2b] at h1
  have h2:=beN_lt _ b2.data.toList rfl
  have h3:b2.data.toList.length≤1:=by simpa using h1
  have h4:=Nat.lt_of_lt_of_le h2 (Nat.pow_le_pow_right (by omega) h3)
  rw[←hbk]
  unfold bN
  omega
 have Hkr:=hid hkr
 have Htl:=hid htl
 have Hs1:=hid (Nat.le_trans hsz1 htl)
 have Hs2:=hid (Nat.le_trans hsz2 (Nat.le_trans hsz1 htl))
 have hpar:parseT t=parseK k x2:=by unfold parseT;rw[hx2];exact congrArg (fun q=>parseK q x2) hbk
 unfold parseK at hpar
 rw[if_neg (by omega),if_pos hk] at hpar
 obtain ⟨⟨c0,y0⟩,hq0⟩:∃ q,takeR 2 x2=q:=⟨_,rfl⟩
 rw[hq0] at hpar
 simp only at hpar
 have Hq0:=hid hq0
 have hz0:y0.s.size≤x2.s.size:=by have:=take_size 2 x2;rw[hq0] at this;exact this
 have Hz0:=hid hz0
 obtain ⟨⟨c1,y1⟩,hq1⟩:∃ q,takeR 2 y0=q:=⟨_,rfl⟩
 rw[hq1] at hpar
 simp only at hpar
 have Hq1:=hid hq1
 have hz1:y1.s.size≤y0.s.size:=by have:=take_size 2 y0;rw[hq1] at this;exact this
 have Hz1:=hid hz1
 obtain ⟨⟨c2,y2⟩,hq2⟩:∃ q,rdrR y1=q:=⟨_,rfl⟩
 rw[hq2] at hpar
 simp only at hpar
 have Hq2:=hid hq2
 have hz2:y2.s.size≤y1.s.size:=by have:=rdr_size y1;rw[hq2] at this;exact this
 have Hz2:=hid hz2
 have Hpar:=hid hpar
 clear hO hop hs hx1 hx2 hx1b hx2b hbk hN hsz1 hsz2 htl hpar hk hq0 hz0 hq1 hz1 hq2 hz2
 go_enter Tryz.func166,Tryz.ntmps166
 go_wp2_with fail
 refine HO.out.mono ?_
 rintro e w1 ⟨rfl,hb1⟩
 have hk1:Keeps (fun _=>False) (w.alloc (.cells #[.int .i64 0,.int .u32 0,.int .u16 0,.int .u16 0,.slice none 0 0,.int .u32 0,.int .i64 0] 254)) w1:=Keeps.of_below hb1 (fun k h1 h2=>by omega)
 have hW1:Below w.heap.size w w1:=((Below.refl _ w).alloc (Nat.le_refl _) _).trans (hb1.mono (by simp))
 have hl1:w.heap.size+1≤w1.heap.size:=by have:=hb1.size;simpa using this
 have hres:=hk1.heap (blk_new w (.cells #[.int .i64 0,.int .u32 0,.int .u16 0,.int .u16 0,.slice none 0 0,.int .u32 0,.int .i64 0] 254)) id
 clear hb1 hk1
 go_wp2_with fail
 have hr0:IsRd (w1.alloc (.cells #[.string ⟨t.toArray⟩,.bool false] 369)) w1.heap.size ⟨⟨t.toArray⟩,false⟩:=blk_new _ _
 have hg:=get_16 hr0 1 (by omega) (by show (⟨t.toArray⟩:ByteArray).size≤maxLen;have:=Htl.out;simp[ByteArray.size,maxLen];omega)
 rw[HX1.out] at hg
 refine hg.mono ?_
 rintro e w2 ⟨rfl,h2,hk2⟩
 have h2':IsRd w2 w1.heap.size x1:=h2
 have hres2:=hk2.heap (blk_alloc hres _) (by omega)
 have hW2:=(hW1.alloc hW1.size _).trans (hk2.below (B:=w.heap.size) (by simp;omega) (fun k h1 h2=>by omega))
 have f1:=blk_free h2' 1
 have cr1:w2.cell? ⟨w1.heap.size,1,none⟩=some (.bool x1.bad):=blk_cell h2' rfl
 clear hg h2 hk2 hr0 hres hW1
 have h3:=h2'.setBad (bN b1 != 80)
 have hk3:Keeps (fun b=>b=w1.heap.size) w2 (w2.setCell ⟨w1.heap.size,1,none⟩ (.bool (bN b1 != 80))):=(Keeps.refl (fun b=>b=w1.heap.size) w2).setCell (p:=⟨w1.heap.size,1,none⟩) rfl _
 have hres3:=hk3.heap hres2 (by omega)
 have hW3:=hW2.trans (hk3.below hW2.size (fun k h1 h2=>by omega))
 have hg:=get_16 h3 1 (by omega) (by have:=Hs1.out;show x1.s.size≤maxLen;unfold maxLen;omega)
 rw[HX2.out] at hg
 have Hg:=hid hg
 clear hg h2' hres2 hW2 hk3 h3
 rw[show ((beN (b1,x1).1.data.toList:Nat):Int)=bN b1 from rfl]
 go_wp2_with fail
 refine Hg.out.mono ?_
 rintro e w4 ⟨rfl,h4,hk4⟩
 have h4':IsRd w4 w1.heap.size x2:=h4
 have hres4:=hk4.heap hres3 (by omega)
 have hW4:=hW3.trans (hk4.below hW3.size (fun k h1 h2=>by omega))
 have l4:=blk_lt h4'
 clear Hg h4 hk4 hres3 hW3 f1 cr1
 rw[show ((beN (b2,x2).1.data.toList:Nat):Int)=k from Hbk.out]
 have hkr:=Hkr.out
 have U:UnpSt w w1.heap.size w4.heap.size x2 #[.int .i64 k,.int .u32 0,.int .u16 0,.int .u16 0,.slice none 0 0,.int .u32 0,.int .i64 0] (w4.alloc (.cells #[.int .i64 k,.int .u32 0,.int .u16 0,.int .u16 0,.slice none 0 0,.int .u32 0,.int .i64 0] 254)):=
  ⟨h4'.keeps ((Keeps.refl (fun _=>False) w4).alloc _) id,blk_new _ _,blk_alloc hres4 _,hW4.alloc hW4.size _,by omega,l4,Hs2.out⟩
 clear h4' hres4 hW4
 go_wp2_with fail
 refine (wire_names k _).mono ?_
 rintro e w5 ⟨rfl,rfl⟩
 rw[HN.out]
 have hg:=get_16 U.rd 2 (by omega) U.max
 rw[Hq0.out] at hg
 have Hg:=hid hg
 clear hg
 go_wp2_with fail
 refine Hg.out.mono ?_
 rintro e w6 ⟨rfl,hr6,hk6⟩
 have V:=U.get hk6 hr6 Hz0.out
 clear U Hg hr6 hk6
 rw[show ((beN (c0,y0).1.data.toList:Nat):Int)=bN c0 from rfl]
 have fj:=blk_free V.msg 2
 have cj:=blk_cell V.msg (k:=2) rfl
 have U:=V.set 2 (.int .u16 (bN c0))
 simp only[List.setIfInBounds_toArray,List.set_cons_succ,List.set_cons_zero] at U
 have hg:=get_16 U.rd 2 (by omega) U.max
 rw[Hq1.out] at hg
 have Hg:=hid hg
 clear hg
 go_wp2_with fail
 refine Hg.out.mono ?_
 rintro e w7 ⟨rfl,hr7,hk7⟩
 have V:=U.get hk7 hr7 Hz1.out
 clear U Hg hr7 hk7
 rw[show ((beN (c1,y1).1.data.toList:Nat):Int)=bN c1 from rfl]
 have fj:=blk_free V.msg 3
 have cj:=blk_cell V.msg (k:=3) rfl
 have U:=V.set 3 (.int .u16 (bN c1))
 simp only[List.setIfInBounds_toArray,List.set_cons_succ,List.set_cons_zero] at U
 have hg:=read_run U.rd U.max
 rw[Hq2.out] at hg
 have Hg:=hid hg
 clear hg
 go_wp2_with fail
 refine Hg.out.mono ?_
 rintro e w8 ⟨v,rfl,ho,hr8,hk8⟩
 obtain ⟨aa,cap,rfl,hby⟩:=own_bytes ho
 obtain ⟨A',cap',e',_,hbx⟩:=vals_of_own ho
 cases e'
 have hml:=blk_lt U.msg
 have hlr:=U.lr
 have hlm:=U.lm
 have hba:c2≠[]→∀ x,aa=some x→¬ x.block=w4.heap.size:=fun _ x hx=>by have:=(hbx x hx).1;omega
 have hbn:∀ x,aa=some x→w.heap.size≤x.block:=fun x hx=>by have:=(hbx x hx).1;omega
 have hbr:c2≠[]→∀ x,aa=some x→¬ x.block=w.heap.size:=fun _ x hx=>by have:=(hbx x hx).1;omega
 have V:=U.get hk8 hr8 Hz2.out
 clear U Hg hr8 hk8 ho hbx hml hlr hlm
 have fj:=blk_free V.msg 4
 have cj:=blk_cell V.msg (k:=4) rfl
 have U:=V.set 4 (.slice aa c2.length cap)
 simp only[List.setIfInBounds_toArray,List.set_cons_succ,List.set_cons_zero] at U
 have hby2:IsBytes (w8.setCell ⟨w4.heap.size,4,none⟩ (.slice aa c2.length cap)) aa cap c2:=hby.keeps ((Keeps.refl (fun b=>b=w4.heap.size) w8).setCell (p:=⟨w4.heap.size,4,none⟩) rfl _) hba
 have hRt:=fun W (hb:IsBytes W aa cap (c2:List UInt8))=>wire_RightM (w:=W) (m:=⟨k,0,(bN c0),(bN c1),c2,0,0⟩) hb
 have HRt:=hid hRt
 obtain ⟨cb,cst⟩:=bc2 1 0 U.rd ⟨rfl,rfl⟩
 obtain ⟨m0,m1,m2,m3,m4,m5,m6⟩:=bc7 0 1 2 3 4 5 6 U.msg ⟨rfl,rfl,rfl,rfl,rfl,rfl,rfl⟩
 have hres:=U.res
 unfold zeroC at hres
 have hW:=U.below
 obtain ⟨r0,r1,r2,r3,r4,r5,r6⟩:=bc7 0 1 2 3 4 5 6 hres ⟨rfl,rfl,rfl,rfl,rfl,rfl,rfl⟩
 obtain ⟨g0,g1,g2,g3,g4,g5,g6⟩:=bf7 hres 0 1 2 3 4 5 6
 clear hRt
 by_cases hb:y2.bad=true
 ·have hu:=hid (show unpT t=(Msg.zero,4) from if_pos (by rw[Hpar.out];exact .inl hb))
  rw[hb] at cb
  clear hb HRt
  go_wp2_with fail
  have hf:=blk_store hres (.int .i64 0) (.int .u32 0) (.int .u16 0) (.int .u16 0) (.slice none 0 0) (.int .u32 0) (.int .i64 0)
  obtain ⟨d0,d1,d2,d3,d4,d5,d6⟩:=bc7 0 1 2 3 4 5 6 hf ⟨rfl,rfl,rfl,rfl,rfl,rfl,rfl⟩
  have hbl:=((((((hW.setCell (p:=⟨w.heap.size,0,none⟩) (Nat.le_refl _) (.int .i64 0)).setCell (p:=⟨w.heap.size,1,none⟩) (Nat.le_refl _) (.int .u32 0)).setCell (p:=⟨w.heap.size,2,none⟩) (Nat.le_refl _) (.int .u16 0)).setCell (p:=⟨w.heap.size,3,none⟩) (Nat.le_refl _) (.int .u16 0)).setCell (p:=⟨w.heap.size,4,none⟩) (Nat.le_refl _) (.slice none 0 0)).setCell (p:=⟨w.heap.size,5,none⟩) (Nat.le_refl _) (.int .u32 0)).setCell (p:=⟨w.heap.size,6,none⟩) (Nat.le_refl _) (.int .i64 0)
  refine bodyPost_ret (v:=.tuple #[.agg #[.int .i64 0,.int .u32 0,.int .u16 0,.int .u16 0,.slice none 0 0,.int .u32 0,.int .i64 0],.int .i64 4]) (by simp[results,Tryz.results166,go_sem,d0,d1,d2,d3,d4,d5,d6]) rfl ?_
  rw[hu.out]
  exact ⟨none,0,rfl,IsBytes.none _,hbl,fun _ h=>by cases h⟩
 have hb':y2.bad=false:=by simpa using hb
 rw[hb'] at cb
 by_cases he:y2.s.toList=[]
 rotate_left
 ·have hu:=hid (show unpT t=(Msg.zero,4) from if_pos (by rw[Hpar.out];exact .inr (.inl he)))
  have q1:y2.s.toList.isEmpty=false:=by simpa using he
  clear hb hb' HRt
  go_wp2_with fail
  have hf:=blk_store hres (.int .i64 0) (.int .u32 0) (.int .u16 0) (.int .u16 0) (.slice none 0 0) (.int .u32 0) (.int .i64 0)
  obtain ⟨d0,d1,d2,d3,d4,d5,d6⟩:=bc7 0 1 2 3 4 5 6 hf ⟨rfl,rfl,rfl,rfl,rfl,rfl,rfl⟩
  have hbl:=((((((hW.setCell (p:=⟨w.heap.size,0,none⟩) (Nat.le_refl _) (.int .i64 0)).setCell (p:=⟨w.heap.size,1,none⟩) (Nat.le_refl _) (.int .u32 0)).setCell (p:=⟨w.heap.size,2,none⟩) (Nat.le_refl _) (.int .u16 0)).setCell (p:=⟨w.heap.size,3,none⟩) (Nat.le_refl _) (.int .u16 0)).setCell (p:=⟨w.heap.size,4,none⟩) (Nat.le_refl _) (.slice none 0 0)).setCell (p:=⟨w.heap.size,5,none⟩) (Nat.le_refl _) (.int .u32 0)).setCell (p:=⟨w.heap.size,6,none⟩) (Nat.le_refl _) (.int .i64 0)
  refine bodyPost_ret (v:=.tuple #[.agg #[.int .i64 0,.int .u32 0,.int .u16 0,.int .u16 0,.slice none 0 0,.int .u32 0,.int .i64 0],.int .i64 4]) (by simp[results,Tryz.results166,go_sem,d0,d1,d2,d3,d4,d5,d6]) rfl ?_
  rw[hu.out]
  exact ⟨none,0,rfl,IsBytes.none _,hbl,fun _ h=>by cases h⟩
 have q1:y2.s.toList.isEmpty=true:=by simpa using he
 by_cases hr:RightP ⟨k,0,(bN c0),(bN c1),c2,0,0⟩
 rotate_left
 ·have hu:=hid (show unpT t=(Msg.zero,4) from if_pos (by rw[Hpar.out];exact .inr (.inr hr)))
  rw[decide_eq_false hr] at HRt
  clear hb hb' hr he
  go_wp2_with fail
  refine (HRt.out _ hby2).mono ?_
  rintro e w9 ⟨rfl,hb9⟩
  have hk9:Keeps (fun _=>False) _ w9:=Keeps.of_below hb9 (fun k h1 h2=>by omega)
  have hres9:=hk9.heap hres id
  have hmsg9:=hk9.heap U.msg id
  have hW9:=hW.trans (hb9.mono hW.size)
  have s0:=blk_cell hres9 (k:=0) rfl
  have t0:=blk_free hres9 0
  have n0:=blk_cell hmsg9 (k:=0) rfl
  have s1:=blk_cell hres9 (k:=1) rfl
  have t1:=blk_free hres9 1
  have n1:=blk_cell hmsg9 (k:=1) rfl
  have s2:=blk_cell hres9 (k:=2) rfl
  have t2:=blk_free hres9 2
  have n2:=blk_cell hmsg9 (k:=2) rfl
  have s3:=blk_cell hres9 (k:=3) rfl
  have t3:=blk_free hres9 3
  have n3:=blk_cell hmsg9 (k:=3) rfl
  have s4:=blk_cell hres9 (k:=4) rfl
  have t4:=blk_free hres9 4
  have n4:=blk_cell hmsg9 (k:=4) rfl
  have s5:=blk_cell hres9 (k:=5) rfl
  have t5:=blk_free hres9 5
  have n5:=blk_cell hmsg9 (k:=5) rfl
  have s6:=blk_cell hres9 (k:=6) rfl
  have t6:=blk_free hres9 6
  have n6:=blk_cell hmsg9 (k:=6) rfl
  have hby9:=hby2.keeps hk9 (fun _ _ _=>id)
  clear hb9 hk9 hmsg9
  go_wp2_with fail
  have hf:=blk_store hres9 (.int .i64 0) (.int .u32 0) (.int .u16 0) (.int .u16 0) (.slice none 0 0) (.int .u32 0) (.int .i64 0)
  obtain ⟨d0,d1,d2,d3,d4,d5,d6⟩:=bc7 0 1 2 3 4 5 6 hf ⟨rfl,rfl,rfl,rfl,rfl,rfl,rfl⟩
  have hbl:=((((((hW9.setCell (p:=⟨w.heap.size,0,none⟩) (Nat.le_refl _) (.int .i64 0)).setCell (p:=⟨w.heap.size,1,none⟩) (Nat.le_refl _) (.int .u32 0)).setCell (p:=⟨w.heap.size,2,none⟩) (Nat.le_refl _) (.int .u16 0)).setCell (p:=⟨w.heap.size,3,none⟩) (Nat.le_refl _) (.int .u16 0)).setCell (p:=⟨w.heap.size,4,none⟩) (Nat.le_refl _) (.slice none 0 0)).setCell (p:=⟨w.heap.size,5,none⟩) (Nat.le_refl _) (.int .u32 0)).setCell (p:=⟨w.heap.size,6,none⟩) (Nat.le_refl _) (.int .i64 0)
  refine bodyPost_ret (v:=.tuple #[.agg #[.int .i64 0,.int .u32 0,.int .u16 0,.int .u16 0,.slice none 0 0,.int .u32 0,.int .i64 0],.int .i64 4]) (by simp[results,Tryz.results166,go_sem,d0,d1,d2,d3,d4,d5,d6]) rfl ?_
  rw[hu.out]
  exact ⟨none,0,rfl,IsBytes.none _,hbl,fun _ h=>by cases h⟩
 ·have hu:=hid (show unpT t=(⟨k,0,(bN c0),(bN c1),c2,0,0⟩,0) from by unfold unpT;rw[Hpar.out,if_neg];rintro (h|h|h);exact hb h;exact h he;exact h hr)
  rw[decide_eq_true hr] at HRt
  clear hb hb' hr he
  go_wp2_with fail
  refine (HRt.out _ hby2).mono ?_
  rintro e w9 ⟨rfl,hb9⟩
  have hk9:Keeps (fun _=>False) _ w9:=Keeps.of_below hb9 (fun k h1 h2=>by omega)
  have hres9:=hk9.heap hres id
  have hmsg9:=hk9.heap U.msg id
  have hW9:=hW.trans (hb9.mono hW.size)
  have s0:=blk_cell hres9 (k:=0) rfl
  have t0:=blk_free hres9 0
  have n0:=blk_cell hmsg9 (k:=0) rfl
  have s1:=blk_cell hres9 (k:=1) rfl
  have t1:=blk_free hres9 1
  have n1:=blk_cell hmsg9 (k:=1) rfl
  have s2:=blk_cell hres9 (k:=2) rfl
  have t2:=blk_free hres9 2
  have n2:=blk_cell hmsg9 (k:=2) rfl
  have s3:=blk_cell hres9 (k:=3) rfl
  have t3:=blk_free hres9 3
  have n3:=blk_cell hmsg9 (k:=3) rfl
  have s4:=blk_cell hres9 (k:=4) rfl
  have t4:=blk_free hres9 4
  have n4:=blk_cell hmsg9 (k:=4) rfl
  have s5:=blk_cell hres9 (k:=5) rfl
  have t5:=blk_free hres9 5
  have n5:=blk_cell hmsg9 (k:=5) rfl
  have s6:=blk_cell hres9 (k:=6) rfl
  have t6:=blk_free hres9 6
  have n6:=blk_cell hmsg9 (k:=6) rfl
  have hby9:=hby2.keeps hk9 (fun _ _ _=>id)
  clear hb9 hk9 hmsg9
  go_wp2_with fail
  have hf:=blk_store hres9 (.int .i64 k) (.int .u32 0) (.int .u16 (bN c0)) (.int .u16 (bN c1)) (.slice aa c2.length cap) (.int .u32 0) (.int .i64 0)
  obtain ⟨d0,d1,d2,d3,d4,d5,d6⟩:=bc7 0 1 2 3 4 5 6 hf ⟨rfl,rfl,rfl,rfl,rfl,rfl,rfl⟩
  have hbl:=((((((hW9.setCell (p:=⟨w.heap.size,0,none⟩) (Nat.le_refl _) (.int .i64 k)).setCell (p:=⟨w.heap.size,1,none⟩) (Nat.le_refl _) (.int .u32 0)).setCell (p:=⟨w.heap.size,2,none⟩) (Nat.le_refl _) (.int .u16 (bN c0))).setCell (p:=⟨w.heap.size,3,none⟩) (Nat.le_refl _) (.int .u16 (bN c1))).setCell (p:=⟨w.heap.size,4,none⟩) (Nat.le_refl _) (.slice aa c2.length cap)).setCell (p:=⟨w.heap.size,5,none⟩) (Nat.le_refl _) (.int .u32 0)).setCell (p:=⟨w.heap.size,6,none⟩) (Nat.le_refl _) (.int .i64 0)
  refine bodyPost_ret (v:=.tuple #[.agg #[.int .i64 k,.int .u32 0,.int .u16 (bN c0),.int .u16 (bN c1),.slice aa c2.length cap,.int .u32 0,.int .i64 0],.int .i64 0]) (by simp[results,Tryz.results166,go_sem,d0,d1,d2,d3,d4,d5,d6]) rfl ?_
  rw[hu.out]
  exact ⟨aa,cap,rfl,hby9.keeps (S:=fun b=>b=w.heap.size) (((((((Keeps.refl (fun b=>b=w.heap.size) w9).setCell (p:=⟨w.heap.size,0,none⟩) rfl _).setCell (p:=⟨w.heap.size,1,none⟩) rfl _).setCell (p:=⟨w.heap.size,2,none⟩) rfl _).setCell (p:=⟨w.heap.size,3,none⟩) rfl _).setCell (p:=⟨w.heap.size,4,none⟩) rfl _).setCell (p:=⟨w.heap.size,5,none⟩) rfl _ |>.setCell (p:=⟨w.heap.size,6,none⟩) rfl _) hbr,hbl,hbn⟩
set_option maxHeartbeats 4000000 in
theorem unp_4 (s:ByteArray) (t:List UInt8) (k:Int) (x1 x2:Rd) (b1 b2:ByteArray) (hs:s.size≤maxLen) (hop:opened s.data.toList=(t,0)) (htl:t.length≤100000) (hx1:firstR t=(b1,x1)) (hx2:kindR t=(b2,x2)) (hbk:bN b2=k) (hk:k=4) :
  Calls Tryz.prog 166 #[.string s] w (UnpN w (unpT t).1 (unpT t).2):=by
 have hO:=sum_Open s hs (w.alloc (.cells #[.int .i64 0,.int .u32 0,.int .u16 0,.int .u16 0,.slice none 0 0,.int .u32 0,.int .i64 0] 254))
 rw[hop] at hO
 have HO:=hid hO
 have hx1b:takeR 1 ⟨⟨t.toArray⟩,false⟩=(b1,x1):=hx1
 have hx2b:takeR 1 ⟨x1.s,bN b1 != 80⟩=(b2,x2):=by have:=hx2;unfold kindR at this;rwa [hx1] at this
 have HX1:=hid hx1b
 have HX2:=hid hx2b
 have Hbk:=hid hbk
 have hN:namesK k=18:=by simp[namesK,hk]
 have HN:=hid hN
 have hsz1:x1.s.size≤t.length:=by have:=take_size 1 ⟨⟨t.toArray⟩,false⟩;rw[hx1b] at this;exact Nat.le_trans this (by show t.toArray.size≤t.length;simp)
 have hsz2:x2.s.size≤x1.s.size:=by have:=take_size 1 ⟨x1.s,bN b1 != 80⟩;rw[hx2b] at this;exact this
 have hkr:0≤k∧k<65536:=by
  have h1:=take_len 1 ⟨x1.s,bN b1 != 80⟩
  rw[hx2b] at h1
  have h2:=beN_lt _ b2.data.toList rfl
  have h3:b2.data.toList.length≤1:=by simpa using h1
  have h4:=Nat.lt_of_lt_of_le h2 (Nat.pow_le_pow_right (by omega) h3)
  rw[←hbk]
  unfold bN
  omega
 have Hkr:=hid hkr
 have Htl:=hid htl
 have Hs1:=hid (Nat.le_trans hsz1 htl)
 have Hs2:=hid (Nat.le_trans hsz2 (Nat.le_trans hsz1 htl))
 have hpar:parseT t=parseK k x2:=by unfold parseT;rw[hx2];exact congrArg (fun q=>parseK q x2) hbk
 unfold parseK at hpar
 rw[if_neg (by omega),if_neg (by omega),if_pos hk] at hpar
 obtain ⟨⟨c0,y0⟩,hq0⟩:∃ q,takeR 2 x2=q:=⟨_,rfl⟩
 rw[hq0] at hpar
 simp only at hpar
 have Hq0:=hid hq0
 have hz0:y0.s.size≤x2.s.size:=by have:=take_size 2 x2;rw[hq0] at this;exact this
 have Hz0:=hid hz0
 obtain ⟨⟨c1,y1⟩,hq1⟩:∃ q,takeR 4 y0=q:=⟨_,rfl⟩
 rw[hq1] at hpar
 simp only at hpar
 have Hq1:=hid hq1
 have hz1:y1.s.size≤y0.s.size:=by have:=take_size 4 y0;rw[hq1] at this;exact this
 have Hz1:=hid hz1
 have Hpar:=hid hpar
 clear hO hop hs hx1 hx2 hx1b hx2b hbk hN hsz1 hsz2 htl hpar hk hq0 hz0 hq1 hz1
 go_enter Tryz.func166,Tryz.ntmps166
 go_wp2_with fail
 refine HO.out.mono ?_
 rintro e w1 ⟨rfl,hb1⟩
 have hk1:Keeps (fun _=>False) (w.alloc (.cells #[.int .i64 0,.int .u32 0,.int .u16 0,.int .u16 0,.slice none 0 0,.int .u32 0,.int .i64 0] 254)) w1:=Keeps.of_below hb1 (fun k h1 h2=>by omega)
 have hW1:Below w.heap.size w w1:=((Below.refl _ w).alloc (Nat.le_refl _) _).trans (hb1.mono (by simp))
 have hl1:w.heap.size+1≤w1.heap.size:=by have:=hb1.size;simpa using this
 have hres:=hk1.heap (blk_new w (.cells #[.int .i64 0,.int .u32 0,.int .u16 0,.int .u16 0,.slice none 0 0,.int .u32 0,.int .i64 0] 254)) id
 clear hb1 hk1
 go_wp2_with fail
 have hr0:IsRd (w1.alloc (.cells #[.string ⟨t.toArray⟩,.bool false] 369)) w1.heap.size ⟨⟨t.toArray⟩,false⟩:=blk_new _ _
 have hg:=get_16 hr0 1 (by omega) (by show (⟨t.toArray⟩:ByteArray).size≤maxLen;have:=Htl.out;simp[ByteArray.size,maxLen];omega)
 rw[HX1.out] at hg
 refine hg.mono ?_
 rintro e w2 ⟨rfl,h2,hk2⟩
 have h2':IsRd w2 w1.heap.size x1:=h2
 have hres2:=hk2.heap (blk_alloc hres _) (by omega)
 have hW2:=(hW1.alloc hW1.size _).trans (hk2.below (B:=w.heap.size) (by simp;omega) (fun k h1 h2=>by omega))
 have f1:=blk_free h2' 1
 have cr1:w2.cell? ⟨w1.heap.size,1,none⟩=some (.bool x1.bad):=blk_cell h2' rfl
 clear hg h2 hk2 hr0 hres hW1
 have h3:=h2'.setBad (bN b1 != 80)
 have hk3:Keeps (fun b=>b=w1.heap.size) w2 (w2.setCell ⟨w1.heap.size,1,none⟩ (.bool (bN b1 != 80))):=(Keeps.refl (fun b=>b=w1.heap.size) w2).setCell (p:=⟨w1.heap.size,1,none⟩) rfl _
 have hres3:=hk3.heap hres2 (by omega)
 have hW3:=hW2.trans (hk3.below hW2.size (fun k h1 h2=>by omega))
 have hg:=get_16 h3 1 (by omega) (by have:=Hs1.out;show x1.s.size≤maxLen;unfold maxLen;omega)
 rw[HX2.out] at hg
 have Hg:=hid hg
 clear hg h2' hres2 hW2 hk3 h3
 rw[show ((beN (b1,x1).1.data.toList:Nat):Int)=bN b1 from rfl]
 go_wp2_with fail
 refine Hg.out.mono ?_
 rintro e w4 ⟨rfl,h4,hk4⟩
 have h4':IsRd w4 w1.heap.size x2:=h4
 have hres4:=hk4.heap hres3 (by omega)
 have hW4:=hW3.trans (hk4.below hW3.size (fun k h1 h2=>by omega))
 have l4:=blk_lt h4'
 clear Hg h4 hk4 hres3 hW3 f1 cr1
 rw[show ((beN (b2,x2).1.data.toList:Nat):Int)=k from Hbk.out]
 have hkr:=Hkr.out
 have U:UnpSt w w1.heap.size w4.heap.size x2 #[.int .i64 k,.int .u32 0,.int .u16 0,.int .u16 0,.slice none 0 0,.int .u32 0,.int .i64 0] (w4.alloc (.cells #[.int .i64 k,.int .u32 0,.int .u16 0,.int .u16 0,.slice none 0 0,.int .u32 0,.int .i64 0] 254)):=
  ⟨h4'.keeps ((Keeps.refl (fun _=>False) w4).alloc _) id,blk_new _ _,blk_alloc hres4 _,hW4.alloc hW4.size _,by omega,l4,Hs2.out⟩
 clear h4' hres4 hW4
 go_wp2_with fail
 refine (wire_names k _).mono ?_
 rintro e w5 ⟨rfl,rfl⟩
 rw[HN.out]
 have hg:=get_16 U.rd 2 (by omega) U.max
 rw[Hq0.out] at hg
 have Hg:=hid hg
 clear hg
 go_wp2_with fail
 refine Hg.out.mono ?_
 rintro e w6 ⟨rfl,hr6,hk6⟩
 have V:=U.get hk6 hr6 Hz0.out
 clear U Hg hr6 hk6
 rw[show ((beN (c0,y0).1.data.toList:Nat):Int)=bN c0 from rfl]
 have fj:=blk_free V.msg 2
 have cj:=blk_cell V.msg (k:=2) rfl
 have U:=V.set 2 (.int .u16 (bN c0))
 simp only[List.setIfInBounds_toArray,List.set_cons_succ,List.set_cons_zero] at U
 have hg:=get_32 U.rd 4 (by omega) U.max
 rw[Hq1.out] at hg
 have Hg:=hid hg
 clear hg
 go_wp2_with fail
 refine Hg.out.mono ?_
 rintro e w7 ⟨rfl,hr7,hk7⟩
 have V:=U.get hk7 hr7 Hz1.out
 clear U Hg hr7 hk7
 rw[show ((beN (c1,y1).1.data.toList:Nat):Int)=bN c1 from rfl]
 have fj:=blk_free V.msg 5
 have cj:=blk_cell V.msg (k:=5) rfl
 have U:=V.set 5 (.int .u32 (bN c1))
 simp only[List.setIfInBounds_toArray,List.set_cons_succ,List.set_cons_zero] at U
 have hRt:=fun W (hb:IsBytes W none 0 ([]:List UInt8))=>wire_RightM (w:=W) (m:=⟨k,0,(bN c0),0,[],(bN c1),0⟩) hb
 have HRt:=hid hRt
 obtain ⟨cb,cst⟩:=bc2 1 0 U.rd ⟨rfl,rfl⟩
 obtain ⟨m0,m1,m2,m3,m4,m5,m6⟩:=bc7 0 1 2 3 4 5 6 U.msg ⟨rfl,rfl,rfl,rfl,rfl,rfl,rfl⟩
 have hres:=U.res
 unfold zeroC at hres
 have hW:=U.below
 obtain ⟨r0,r1,r2,r3,r4,r5,r6⟩:=bc7 0 1 2 3 4 5 6 hres ⟨rfl,rfl,rfl,rfl,rfl,rfl,rfl⟩
 obtain ⟨g0,g1,g2,g3,g4,g5,g6⟩:=bf7 hres 0 1 2 3 4 5 6
 clear hRt
 by_cases hb:y1.bad=true
 ·have hu:=hid (show unpT t=(Msg.zero,4) from if_pos (by rw[Hpar.out];exact .inl hb))
  rw[hb] at cb
  clear hb HRt
  go_wp2_with fail
  have hf:=blk_store hres (.int .i64 0) (.int .u32 0) (.int .u16 0) (.int .u16 0) (.slice none 0 0) (.int .u32 0) (.int .i64 0)
  obtain ⟨d0,d1,d2,d3,d4,d5,d6⟩:=bc7 0 1 2 3 4 5 6 hf ⟨rfl,rfl,rfl,rfl,rfl,rfl,rfl⟩
  have hbl:=((((((hW.setCell (p:=⟨w.heap.size,0,none⟩) (Nat.le_refl _) (.int .i64 0)).setCell (p:=⟨w.heap.size,1,none⟩) (Nat.le_refl _) (.int .u32 0)).setCell (p:=⟨w.heap.size,2,none⟩) (Nat.le_refl _) (.int .u16 0)).setCell (p:=⟨w.heap.size,3,none⟩) (Nat.le_refl _) (.int .u16 0)).setCell (p:=⟨w.heap.size,4,none⟩) (Nat.le_refl _) (.slice none 0 0)).setCell (p:=⟨w.heap.size,5,none⟩) (Nat.le_refl _) (.int .u32 0)).setCell (p:=⟨w.heap.size,6,none⟩) (Nat.le_refl _) (.int .i64 0)
  refine bodyPost_ret (v:=.tuple #[.agg #[.int .i64 0,.int .u32 0,.int .u16 0,.int .u16 0,.slice none 0 0,.int .u32 0,.int .i64 0],.int .i64 4]) (by simp[results,Tryz.results166,go_sem,d0,d1,d2,d3,d4,d5,d6]) rfl ?_
  rw[hu.out]
  exact ⟨none,0,rfl,IsBytes.none _,hbl,fun _ h=>by cases h⟩
 have hb':y1.bad=false:=by simpa using hb
 rw[hb'] at cb
 by_cases he:y1.s.toList=[]
 rotate_left
 ·have hu:=hid (show unpT t=(Msg.zero,4) from if_pos (by rw[Hpar.out];exact .inr (.inl he)))
  have q1:y1.s.toList.isEmpty=false:=by simpa using he
  clear hb hb' HRt
  go_wp2_with fail
  have hf:=blk_store hres (.int .i64 0) (.int .u32 0) (.int .u16 0) (.int .u16 0) (.slice none 0 0) (.int .u32 0) (.int .i64 0)
  obtain ⟨d0,d1,d2,d3,d4,d5,d6⟩:=bc7 0 1 2 3 4 5 6 hf ⟨rfl,rfl,rfl,rfl,rfl,rfl,rfl⟩
  have hbl:=((((((hW.setCell (p:=⟨w.heap.size,0,none⟩) (Nat.le_refl _) (.int .i64 0)).setCell (p:=⟨w.heap.size,1,none⟩) (Nat.le_refl _) (.int .u32 0)).setCell (p:=⟨w.heap.size,2,none⟩) (Nat.le_refl _) (.int .u16 0)).setCell (p:=⟨w.heap.size,3,none⟩) (Nat.le_refl _) (.int .u16 0)).setCell (p:=⟨w.heap.size,4,none⟩) (Nat.le_refl _) (.slice none 0 0)).setCell (p:=⟨w.heap.size,5,none⟩) (Nat.le_refl _) (.int .u32 0)).setCell (p:=⟨w.heap.size,6,none⟩) (Nat.le_refl _) (.int .i64 0)
  refine bodyPost_ret (v:=.tuple #[.agg #[.int .i64 0,.int .u32 0,.int .u16 0,.int .u16 0,.slice none 0 0,.int .u32 0,.int .i64 0],.int .i64 4]) (by simp[results,Tryz.results166,go_sem,d0,d1,d2,d3,d4,d5,d6]) rfl ?_
  rw[hu.out]
  exact ⟨none,0,rfl,IsBytes.none _,hbl,fun _ h=>by cases h⟩
 have q1:y1.s.toList.isEmpty=true:=by simpa using he
 by_cases hr:RightP ⟨k,0,(bN c0),0,[],(bN c1),0⟩
 rotate_left
 ·have hu:=hid (show unpT t=(Msg.zero,4) from if_pos (by rw[Hpar.out];exact .inr (.inr hr)))
  rw[decide_eq_false hr] at HRt
  clear hb hb' hr he
  go_wp2_with fail
  refine (HRt.out _ (IsBytes.none _)).mono ?_
  rintro e w9 ⟨rfl,hb9⟩
  have hk9:Keeps (fun _=>False) _ w9:=Keeps.of_below hb9 (fun k h1 h2=>by omega)
  have hres9:=hk9.heap hres id
  have hmsg9:=hk9.heap U.msg id
  have hW9:=hW.trans (hb9.mono hW.size)
  have s0:=blk_cell hres9 (k:=0) rfl
  have t0:=blk_free hres9 0
  have n0:=blk_cell hmsg9 (k:=0) rfl
  have s1:=blk_cell hres9 (k:=1) rfl
  have t1:=blk_free hres9 1
  have n1:=blk_cell hmsg9 (k:=1) rfl
  have s2:=blk_cell hres9 (k:=2) rfl
  have t2:=blk_free hres9 2
  have n2:=blk_cell hmsg9 (k:=2) rfl
  have s3:=blk_cell hres9 (k:=3) rfl
  have t3:=blk_free hres9 3
  have n3:=blk_cell hmsg9 (k:=3) rfl
  have s4:=blk_cell hres9 (k:=4) rfl
  have t4:=blk_free hres9 4
  have n4:=blk_cell hmsg9 (k:=4) rfl
  have s5:=blk_cell hres9 (k:=5) rfl
  have t5:=blk_free hres9 5
  have n5:=blk_cell hmsg9 (k:=5) rfl
  have s6:=blk_cell hres9 (k:=6) rfl
  have t6:=blk_free hres9 6
  have n6:=blk_cell hmsg9 (k:=6) rfl
  clear hb9 hk9 hmsg9
  go_wp2_with fail
  have hf:=blk_store hres9 (.int .i64 0) (.int .u32 0) (.int .u16 0) (.int .u16 0) (.slice none 0 0) (.int .u32 0) (.int .i64 0)
  obtain ⟨d0,d1,d2,d3,d4,d5,d6⟩:=bc7 0 1 2 3 4 5 6 hf ⟨rfl,rfl,rfl,rfl,rfl,rfl,rfl⟩
  have hbl:=((((((hW9.setCell (p:=⟨w.heap.size,0,none⟩) (Nat.le_refl _) (.int .i64 0)).setCell (p:=⟨w.heap.size,1,none⟩) (Nat.le_refl _) (.int .u32 0)).setCell (p:=⟨w.heap.size,2,none⟩) (Nat.le_refl _) (.int .u16 0)).setCell (p:=⟨w.heap.size,3,none⟩) (Nat.le_refl _) (.int .u16 0)).setCell (p:=⟨w.heap.size,4,none⟩) (Nat.le_refl _) (.slice none 0 0)).setCell (p:=⟨w.heap.size,5,none⟩) (Nat.le_refl _) (.int .u32 0)).setCell (p:=⟨w.heap.size,6,none⟩) (Nat.le_refl _) (.int .i64 0)
  refine bodyPost_ret (v:=.tuple #[.agg #[.int .i64 0,.int .u32 0,.int .u16 0,.int .u16 0,.slice none 0 0,.int .u32 0,.int .i64 0],.int .i64 4]) (by simp[results,Tryz.results166,go_sem,d0,d1,d2,d3,d4,d5,d6]) rfl ?_
  rw[hu.out]
  exact ⟨none,0,rfl,IsBytes.none _,hbl,fun _ h=>by cases h⟩
 ·have hu:=hid (show unpT t=(⟨k,0,(bN c0),0,[],(bN c1),0⟩,0) from by unfold unpT;rw[Hpar.out,if_neg];rintro (h|h|h);exact hb h;exact h he;exact h hr)
  rw[decide_eq_true hr] at HRt
  clear hb hb' hr he
  go_wp2_with fail
  refine (HRt.out _ (IsBytes.none _)).mono ?_
  rintro e w9 ⟨rfl,hb9⟩
  have hk9:Keeps (fun _=>False) _ w9:=Keeps.of_below hb9 (fun k h1 h2=>by omega)
  have hres9:=hk9.heap hres id
  have hmsg9:=hk9.heap U.msg id
  have hW9:=hW.trans (hb9.mono hW.size)
  have s0:=blk_cell hres9 (k:=0) rfl
  have t0:=blk_free hres9 0
  have n0:=blk_cell hmsg9 (k:=0) rfl
  have s1:=blk_cell hres9 (k:=1) rfl
  have t1:=blk_free hres9 1
  have n1:=blk_cell hmsg9 (k:=1) rfl
  have s2:=blk_cell hres9 (k:=2) rfl
  have t2:=blk_free hres9 2
  have n2:=blk_cell hmsg9 (k:=2) rfl
  have s3:=blk_cell hres9 (k:=3) rfl
  have t3:=blk_free hres9 3
  have n3:=blk_cell hmsg9 (k:=3) rfl
  have s4:=blk_cell hres9 (k:=4) rfl
  have t4:=blk_free hres9 4
  have n4:=blk_cell hmsg9 (k:=4) rfl
  have s5:=blk_cell hres9 (k:=5) rfl
  have t5:=blk_free hres9 5
  have n5:=blk_cell hmsg9 (k:=5) rfl
  have s6:=blk_cell hres9 (k:=6) rfl
  have t6:=blk_free hres9 6
  have n6:=blk_cell hmsg9 (k:=6) rfl
  clear hb9 hk9 hmsg9
  go_wp2_with fail
  have hf:=blk_store hres9 (.int .i64 k) (.int .u32 0) (.int .u16 (bN c0)) (.int .u16 0) (.slice none 0 0) (.int .u32 (bN c1)) (.int .i64 0)
  obtain ⟨d0,d1,d2,d3,d4,d5,d6⟩:=bc7 0 1 2 3 4 5 6 hf ⟨rfl,rfl,rfl,rfl,rfl,rfl,rfl⟩
  have hbl:=((((((hW9.setCell (p:=⟨w.heap.size,0,none⟩) (Nat.le_refl _) (.int .i64 k)).setCell (p:=⟨w.heap.size,1,none⟩) (Nat.le_refl _) (.int .u32 0)).setCell (p:=⟨w.heap.size,2,none⟩) (Nat.le_refl _) (.int .u16 (bN c0))).setCell (p:=⟨w.heap.size,3,none⟩) (Nat.le_refl _) (.int .u16 0)).setCell (p:=⟨w.heap.size,4,none⟩) (Nat.le_refl _) (.slice none 0 0)).setCell (p:=⟨w.heap.size,5,none⟩) (Nat.le_refl _) (.int .u32 (bN c1))).setCell (p:=⟨w.heap.size,6,none⟩) (Nat.le_refl _) (.int .i64 0)
  refine bodyPost_ret (v:=.tuple #[.agg #[.int .i64 k,.int .u32 0,.int .u16 (bN c0),.int .u16 0,.slice none 0 0,.int .u32 (bN c1),.int .i64 0],.int .i64 0]) (by simp[results,Tryz.results166,go_sem,d0,d1,d2,d3,d4,d5,d6]) rfl ?_
  rw[hu.out]
  exact ⟨none,0,rfl,IsBytes.none _,hbl,fun _ h=>by cases h⟩
set_option maxHeartbeats 4000000 in
theorem unp_5 (s:ByteArray) (t:List UInt8) (k:Int) (x1 x2:Rd) (b1 b2:ByteArray) (hs:s.size≤maxLen) (hop:opened s.data.toList=(t,0)) (htl:t.length≤100000) (hx1:firstR t=(b1,x1)) (hx2:kindR t=(b2,x2)) (hbk:bN b2=k) (hk:k=5) :
  Calls Tryz.prog 166 #[.string s] w (UnpN w (unpT t).1 (unpT t).2):=by
 have hO:=sum_Open s hs (w.alloc (.cells #[.int .i64 0,.int .u32 0,.int .u16 0,.int .u16 0,.slice none 0 0,.int .u32 0,.int .i64 0] 254))
 rw[hop] at hO
 have HO:=hid hO
 have hx1b:takeR 1 ⟨⟨t.toArray⟩,false⟩=(b1,x1):=hx1
 have hx2b:takeR 1 ⟨x1.s,bN b1 != 80⟩=(b2,x2):=by have:=hx2;unfold kindR at this;rwa [hx1] at this
 have HX1:=hid hx1b
 have HX2:=hid hx2b
 have Hbk:=hid hbk
 have hN:namesK k=4:=by simp[namesK,hk]
 have HN:=hid hN
 have hsz1:x1.s.size≤t.length:=by have:=take_size 1 ⟨⟨t.toArray⟩,false⟩;rw[hx1b] at this;exact Nat.le_trans this (by show t.toArray.size≤t.length;simp)
 have hsz2:x2.s.size≤x1.s.size:=by have:=take_size 1 ⟨x1.s,bN b1 != 80⟩;rw[hx2b] at this;exact this
 have hkr:0≤k∧k<65536:=by
  have h1:=take_len 1 ⟨x1.s,bN b1 != 80⟩
  rw[hx2b] at h1
  have h2:=beN_lt _ b2.data.toList rfl
  have h3:b2.data.toList.length≤1:=by simpa using h1
  have h4:=Nat.lt_of_lt_of_le h2 (Nat.pow_le_pow_right (by omega) h3)
  rw[←hbk]
  unfold bN
  omega
 have Hkr:=hid hkr
 have Htl:=hid htl
 have Hs1:=hid (Nat.le_trans hsz1 htl)
 have Hs2:=hid (Nat.le_trans hsz2 (Nat.le_trans hsz1 htl))
 have hpar:parseT t=parseK k x2:=by unfold parseT;rw[hx2];exact congrArg (fun q=>parseK q x2) hbk
 unfold parseK at hpar
 rw[if_neg (by omega),if_neg (by omega),if_neg (by omega),if_pos hk] at hpar
 obtain ⟨⟨c0,y0⟩,hq0⟩:∃ q,takeR 2 x2=q:=⟨_,rfl⟩
 rw[hq0] at hpar
 simp only at hpar
 have Hq0:=hid hq0
 have hz0:y0.s.size≤x2.s.size:=by have:=take_size 2 x2;rw[hq0] at this;exact this
 have Hz0:=hid hz0
 have Hpar:=hid hpar
 clear hO hop hs hx1 hx2 hx1b hx2b hbk hN hsz1 hsz2 htl hpar hk hq0 hz0
 go_enter Tryz.func166,Tryz.ntmps166
 go_wp2_with fail
 refine HO.out.mono ?_
 rintro e w1 ⟨rfl,hb1⟩
 have hk1:Keeps (fun _=>False) (w.alloc (.cells #[.int .i64 0,.int .u32 0,.int .u16 0,.int .u16 0,.slice none 0 0,.int .u32 0,.int .i64 0] 254)) w1:=Keeps.of_below hb1 (fun k h1 h2=>by omega)
 have hW1:Below w.heap.size w w1:=((Below.refl _ w).alloc (Nat.le_refl _) _).trans (hb1.mono (by simp))
 have hl1:w.heap.size+1≤w1.heap.size:=by have:=hb1.size;simpa using this
 have hres:=hk1.heap (blk_new w (.cells #[.int .i64 0,.int .u32 0,.int .u16 0,.int .u16 0,.slice none 0 0,.int .u32 0,.int .i64 0] 254)) id
 clear hb1 hk1
 go_wp2_with fail
 have hr0:IsRd (w1.alloc (.cells #[.string ⟨t.toArray⟩,.bool false] 369)) w1.heap.size ⟨⟨t.toArray⟩,false⟩:=blk_new _ _
 have hg:=get_16 hr0 1 (by omega) (by show (⟨t.toArray⟩:ByteArray).size≤maxLen;have:=Htl.out;simp[ByteArray.size,maxLen];omega)
 rw[HX1.out] at hg
 refine hg.mono ?_
 rintro e w2 ⟨rfl,h2,hk2⟩
 have h2':IsRd w2 w1.heap.size x1:=h2
 have hres2:=hk2.heap (blk_alloc hres _) (by omega)
 have hW2:=(hW1.alloc hW1.size _).trans (hk2.below (B:=w.heap.size) (by simp;omega) (fun k h1 h2=>by omega))
 have f1:=blk_free h2' 1
 have cr1:w2.cell? ⟨w1.heap.size,1,none⟩=some (.bool x1.bad):=blk_cell h2' rfl
 clear hg h2 hk2 hr0 hres hW1
 have h3:=h2'.setBad (bN b1 != 80)
 have hk3:Keeps (fun b=>b=w1.heap.size) w2 (w2.setCell ⟨w1.heap.size,1,none⟩ (.bool (bN b1 != 80))):=(Keeps.refl (fun b=>b=w1.heap.size) w2).setCell (p:=⟨w1.heap.size,1,none⟩) rfl _
 have hres3:=hk3.heap hres2 (by omega)
 have hW3:=hW2.trans (hk3.below hW2.size (fun k h1 h2=>by omega))
 have hg:=get_16 h3 1 (by omega) (by have:=Hs1.out;show x1.s.size≤maxLen;unfold maxLen;omega)
 rw[HX2.out] at hg
 have Hg:=hid hg
 clear hg h2' hres2 hW2 hk3 h3
 rw[show ((beN (b1,x1).1.data.toList:Nat):Int)=bN b1 from rfl]
 go_wp2_with fail
 refine Hg.out.mono ?_
 rintro e w4 ⟨rfl,h4,hk4⟩
 have h4':IsRd w4 w1.heap.size x2:=h4
 have hres4:=hk4.heap hres3 (by omega)
 have hW4:=hW3.trans (hk4.below hW3.size (fun k h1 h2=>by omega))
 have l4:=blk_lt h4'
 clear Hg h4 hk4 hres3 hW3 f1 cr1
 rw[show ((beN (b2,x2).1.data.toList:Nat):Int)=k from Hbk.out]
 have hkr:=Hkr.out
 have U:UnpSt w w1.heap.size w4.heap.size x2 #[.int .i64 k,.int .u32 0,.int .u16 0,.int .u16 0,.slice none 0 0,.int .u32 0,.int .i64 0] (w4.alloc (.cells #[.int .i64 k,.int .u32 0,.int .u16 0,.int .u16 0,.slice none 0 0,.int .u32 0,.int .i64 0] 254)):=
  ⟨h4'.keeps ((Keeps.refl (fun _=>False) w4).alloc _) id,blk_new _ _,blk_alloc hres4 _,hW4.alloc hW4.size _,by omega,l4,Hs2.out⟩
 clear h4' hres4 hW4
 go_wp2_with fail
 refine (wire_names k _).mono ?_
 rintro e w5 ⟨rfl,rfl⟩
 rw[HN.out]
 have hg:=get_16 U.rd 2 (by omega) U.max
 rw[Hq0.out] at hg
 have Hg:=hid hg
 clear hg
 go_wp2_with fail
 refine Hg.out.mono ?_
 rintro e w6 ⟨rfl,hr6,hk6⟩
 have V:=U.get hk6 hr6 Hz0.out
 clear U Hg hr6 hk6
 rw[show ((beN (c0,y0).1.data.toList:Nat):Int)=bN c0 from rfl]
 have fj:=blk_free V.msg 3
 have cj:=blk_cell V.msg (k:=3) rfl
 have U:=V.set 3 (.int .u16 (bN c0))
 simp only[List.setIfInBounds_toArray,List.set_cons_succ,List.set_cons_zero] at U
 have hRt:=fun W (hb:IsBytes W none 0 ([]:List UInt8))=>wire_RightM (w:=W) (m:=⟨k,0,0,(bN c0),[],0,0⟩) hb
 have HRt:=hid hRt
 obtain ⟨cb,cst⟩:=bc2 1 0 U.rd ⟨rfl,rfl⟩
 obtain ⟨m0,m1,m2,m3,m4,m5,m6⟩:=bc7 0 1 2 3 4 5 6 U.msg ⟨rfl,rfl,rfl,rfl,rfl,rfl,rfl⟩
 have hres:=U.res
 unfold zeroC at hres
 have hW:=U.below
 obtain ⟨r0,r1,r2,r3,r4,r5,r6⟩:=bc7 0 1 2 3 4 5 6 hres ⟨rfl,rfl,rfl,rfl,rfl,rfl,rfl⟩
 obtain ⟨g0,g1,g2,g3,g4,g5,g6⟩:=bf7 hres 0 1 2 3 4 5 6
 clear hRt
 by_cases hb:y0.bad=true
 ·have hu:=hid (show unpT t=(Msg.zero,4) from if_pos (by rw[Hpar.out];exact .inl hb))
  rw[hb] at cb
  clear hb HRt
  go_wp2_with fail
  have hf:=blk_store hres (.int .i64 0) (.int .u32 0) (.int .u16 0) (.int .u16 0) (.slice none 0 0) (.int .u32 0) (.int .i64 0)
  obtain ⟨d0,d1,d2,d3,d4,d5,d6⟩:=bc7 0 1 2 3 4 5 6 hf ⟨rfl,rfl,rfl,rfl,rfl,rfl,rfl⟩
  have hbl:=((((((hW.setCell (p:=⟨w.heap.size,0,none⟩) (Nat.le_refl _) (.int .i64 0)).setCell (p:=⟨w.heap.size,1,none⟩) (Nat.le_refl _) (.int .u32 0)).setCell (p:=⟨w.heap.size,2,none⟩) (Nat.le_refl _) (.int .u16 0)).setCell (p:=⟨w.heap.size,3,none⟩) (Nat.le_refl _) (.int .u16 0)).setCell (p:=⟨w.heap.size,4,none⟩) (Nat.le_refl _) (.slice none 0 0)).setCell (p:=⟨w.heap.size,5,none⟩) (Nat.le_refl _) (.int .u32 0)).setCell (p:=⟨w.heap.size,6,none⟩) (Nat.le_refl _) (.int .i64 0)
  refine bodyPost_ret (v:=.tuple #[.agg #[.int .i64 0,.int .u32 0,.int .u16 0,.int .u16 0,.slice none 0 0,.int .u32 0,.int .i64 0],.int .i64 4]) (by simp[results,Tryz.results166,go_sem,d0,d1,d2,d3,d4,d5,d6]) rfl ?_
  rw[hu.out]
  exact ⟨none,0,rfl,IsBytes.none _,hbl,fun _ h=>by cases h⟩
 have hb':y0.bad=false:=by simpa using hb
 rw[hb'] at cb
 by_cases he:y0.s.toList=[]
 rotate_left
 ·have hu:=hid (show unpT t=(Msg.zero,4) from if_pos (by rw[Hpar.out];exact .inr (.inl he)))
  have q1:y0.s.toList.isEmpty=false:=by simpa using he
  clear hb hb' HRt
  go_wp2_with fail
  have hf:=blk_store hres (.int .i64 0) (.int .u32 0) (.int .u16 0) (.int .u16 0) (.slice none 0 0) (.int .u32 0) (.int .i64 0)
  obtain ⟨d0,d1,d2,d3,d4,d5,d6⟩:=bc7 0 1 2 3 4 5 6 hf ⟨rfl,rfl,rfl,rfl,rfl,rfl,rfl⟩
  have hbl:=((((((hW.setCell (p:=⟨w.heap.size,0,none⟩) (Nat.le_refl _) (.int .i64 0)).setCell (p:=⟨w.heap.size,1,none⟩) (Nat.le_refl _) (.int .u32 0)).setCell (p:=⟨w.heap.size,2,none⟩) (Nat.le_refl _) (.int .u16 0)).setCell (p:=⟨w.heap.size,3,none⟩) (Nat.le_refl _) (.int .u16 0)).setCell (p:=⟨w.heap.size,4,none⟩) (Nat.le_refl _) (.slice none 0 0)).setCell (p:=⟨w.heap.size,5,none⟩) (Nat.le_refl _) (.int .u32 0)).setCell (p:=⟨w.heap.size,6,none⟩) (Nat.le_refl _) (.int .i64 0)
  refine bodyPost_ret (v:=.tuple #[.agg #[.int .i64 0,.int .u32 0,.int .u16 0,.int .u16 0,.slice none 0 0,.int .u32 0,.int .i64 0],.int .i64 4]) (by simp[results,Tryz.results166,go_sem,d0,d1,d2,d3,d4,d5,d6]) rfl ?_
  rw[hu.out]
  exact ⟨none,0,rfl,IsBytes.none _,hbl,fun _ h=>by cases h⟩
 have q1:y0.s.toList.isEmpty=true:=by simpa using he
 by_cases hr:RightP ⟨k,0,0,(bN c0),[],0,0⟩
 rotate_left
 ·have hu:=hid (show unpT t=(Msg.zero,4) from if_pos (by rw[Hpar.out];exact .inr (.inr hr)))
  rw[decide_eq_false hr] at HRt
  clear hb hb' hr he
  go_wp2_with fail
  refine (HRt.out _ (IsBytes.none _)).mono ?_
  rintro e w9 ⟨rfl,hb9⟩
  have hk9:Keeps (fun _=>False) _ w9:=Keeps.of_below hb9 (fun k h1 h2=>by omega)
  have hres9:=hk9.heap hres id
  have hmsg9:=hk9.heap U.msg id
  have hW9:=hW.trans (hb9.mono hW.size)
  have s0:=blk_cell hres9 (k:=0) rfl
  have t0:=blk_free hres9 0
  have n0:=blk_cell hmsg9 (k:=0) rfl
  have s1:=blk_cell hres9 (k:=1) rfl
  have t1:=blk_free hres9 1
  have n1:=blk_cell hmsg9 (k:=1) rfl
  have s2:=blk_cell hres9 (k:=2) rfl
  have t2:=blk_free hres9 2
  have n2:=blk_cell hmsg9 (k:=2) rfl
  have s3:=blk_cell hres9 (k:=3) rfl
  have t3:=blk_free hres9 3
  have n3:=blk_cell hmsg9 (k:=3) rfl
  have s4:=blk_cell hres9 (k:=4) rfl
  have t4:=blk_free hres9 4
  have n4:=blk_cell hmsg9 (k:=4) rfl
  have s5:=blk_cell hres9 (k:=5) rfl
  have t5:=blk_free hres9 5
  have n5:=blk_cell hmsg9 (k:=5) rfl
  have s6:=blk_cell hres9 (k:=6) rfl
  have t6:=blk_free hres9 6
  have n6:=blk_cell hmsg9 (k:=6) rfl
  clear hb9 hk9 hmsg9
  go_wp2_with fail
  have hf:=blk_store hres9 (.int .i64 0) (.int .u32 0) (.int .u16 0) (.int .u16 0) (.slice none 0 0) (.int .u32 0) (.int .i64 0)
  obtain ⟨d0,d1,d2,d3,d4,d5,d6⟩:=bc7 0 1 2 3 4 5 6 hf ⟨rfl,rfl,rfl,rfl,rfl,rfl,rfl⟩
  have hbl:=((((((hW9.setCell (p:=⟨w.heap.size,0,none⟩) (Nat.le_refl _) (.int .i64 0)).setCell (p:=⟨w.heap.size,1,none⟩) (Nat.le_refl _) (.int .u32 0)).setCell (p:=⟨w.heap.size,2,none⟩) (Nat.le_refl _) (.int .u16 0)).setCell (p:=⟨w.heap.size,3,none⟩) (Nat.le_refl _) (.int .u16 0)).setCell (p:=⟨w.heap.size,4,none⟩) (Nat.le_refl _) (.slice none 0 0)).setCell (p:=⟨w.heap.size,5,none⟩) (Nat.le_refl _) (.int .u32 0)).setCell (p:=⟨w.heap.size,6,none⟩) (Nat.le_refl _) (.int .i64 0)
  refine bodyPost_ret (v:=.tuple #[.agg #[.int .i64 0,.int .u32 0,.int .u16 0,.int .u16 0,.slice none 0 0,.int .u32 0,.int .i64 0],.int .i64 4]) (by simp[results,Tryz.results166,go_sem,d0,d1,d2,d3,d4,d5,d6]) rfl ?_
  rw[hu.out]
  exact ⟨none,0,rfl,IsBytes.none _,hbl,fun _ h=>by cases h⟩
 ·have hu:=hid (show unpT t=(⟨k,0,0,(bN c0),[],0,0⟩,0) from by unfold unpT;rw[Hpar.out,if_neg];rintro (h|h|h);exact hb h;exact h he;exact h hr)
  rw[decide_eq_true hr] at HRt
  clear hb hb' hr he
  go_wp2_with fail
  refine (HRt.out _ (IsBytes.none _)).mono ?_
  rintro e w9 ⟨rfl,hb9⟩
  have hk9:Keeps (fun _=>False) _ w9:=Keeps.of_below hb9 (fun k h1 h2=>by omega)
  have hres9:=hk9.heap hres id
  have hmsg9:=hk9.heap U.msg id
  have hW9:=hW.trans (hb9.mono hW.size)
  have s0:=blk_cell hres9 (k:=0) rfl
  have t0:=blk_free hres9 0
  have n0:=blk_cell hmsg9 (k:=0) rfl
  have s1:=blk_cell hres9 (k:=1) rfl
  have t1:=blk_free hres9 1
  have n1:=blk_cell hmsg9 (k:=1) rfl
  have s2:=blk_cell hres9 (k:=2) rfl
  have t2:=blk_free hres9 2
  have n2:=blk_cell hmsg9 (k:=2) rfl
  have s3:=blk_cell hres9 (k:=3) rfl
  have t3:=blk_free hres9 3
  have n3:=blk_cell hmsg9 (k:=3) rfl
  have s4:=blk_cell hres9 (k:=4) rfl
  have t4:=blk_free hres9 4
  have n4:=blk_cell hmsg9 (k:=4) rfl
  have s5:=blk_cell hres9 (k:=5) rfl
  have t5:=blk_free hres9 5
  have n5:=blk_cell hmsg9 (k:=5) rfl
  have s6:=blk_cell hres9 (k:=6) rfl
  have t6:=blk_free hres9 6
  have n6:=blk_cell hmsg9 (k:=6) rfl
  clear hb9 hk9 hmsg9
  go_wp2_with fail
  have hf:=blk_store hres9 (.int .i64 k) (.int .u32 0) (.int .u16 0) (.int .u16 (bN c0)) (.slice none 0 0) (.int .u32 0) (.int .i64 0)
  obtain ⟨d0,d1,d2,d3,d4,d5,d6⟩:=bc7 0 1 2 3 4 5 6 hf ⟨rfl,rfl,rfl,rfl,rfl,rfl,rfl⟩
  have hbl:=((((((hW9.setCell (p:=⟨w.heap.size,0,none⟩) (Nat.le_refl _) (.int .i64 k)).setCell (p:=⟨w.heap.size,1,none⟩) (Nat.le_refl _) (.int .u32 0)).setCell (p:=⟨w.heap.size,2,none⟩) (Nat.le_refl _) (.int .u16 0)).setCell (p:=⟨w.heap.size,3,none⟩) (Nat.le_refl _) (.int .u16 (bN c0))).setCell (p:=⟨w.heap.size,4,none⟩) (Nat.le_refl _) (.slice none 0 0)).setCell (p:=⟨w.heap.size,5,none⟩) (Nat.le_refl _) (.int .u32 0)).setCell (p:=⟨w.heap.size,6,none⟩) (Nat.le_refl _) (.int .i64 0)
  refine bodyPost_ret (v:=.tuple #[.agg #[.int .i64 k,.int .u32 0,.int .u16 0,.int .u16 (bN c0),.slice none 0 0,.int .u32 0,.int .i64 0],.int .i64 0]) (by simp[results,Tryz.results166,go_sem,d0,d1,d2,d3,d4,d5,d6]) rfl ?_
  rw[hu.out]
  exact ⟨none,0,rfl,IsBytes.none _,hbl,fun _ h=>by cases h⟩
set_option maxHeartbeats 4000000 in
theorem unp_6 (s:ByteArray) (t:List UInt8) (k:Int) (x1 x2:Rd) (b1 b2:ByteArray) (hs:s.size≤maxLen) (hop:opened s.data.toList=(t,0)) (htl:t.length≤100000) (hx1:firstR t=(b1,x1)) (hx2:kindR t=(b2,x2)) (hbk:bN b2=k) (hk:k=6) :
  Calls Tryz.prog 166 #[.string s] w (UnpN w (unpT t).1 (unpT t).2):=by
 have hO:=sum_Open s hs (w.alloc (.cells #[.int .i64 0,.int .u32 0,.int .u16 0,.int .u16 0,.slice none 0 0,.int .u32 0,.int .i64 0] 254))
 rw[hop] at hO
 have HO:=hid hO
 have hx1b:takeR 1 ⟨⟨t.toArray⟩,false⟩=(b1,x1):=hx1
 have hx2b:takeR 1 ⟨x1.s,bN b1 != 80⟩=(b2,x2):=by have:=hx2;unfold kindR at this;rwa [hx1] at this
 have HX1:=hid hx1b
 have HX2:=hid hx2b
 have Hbk:=hid hbk
 have hN:namesK k=34:=by simp[namesK,hk]
 have HN:=hid hN
 have hsz1:x1.s.size≤t.length:=by have:=take_size 1 ⟨⟨t.toArray⟩,false⟩;rw[hx1b] at this;exact Nat.le_trans this (by show t.toArray.size≤t.length;simp)
 have hsz2:x2.s.size≤x1.s.size:=by have:=take_size 1 ⟨x1.s,bN b1 != 80⟩;rw[hx2b] at this;exact this
 have hkr:0≤k∧k<65536:=by
  have h1:=take_len 1 ⟨x1.s,bN b1 != 80⟩
  rw[hx2b] at h1
  have h2:=beN_lt _ b2.data.toList rfl
  have h3:b2.data.toList.length≤1:=by simpa using h1
  have h4:=Nat.lt_of_lt_of_le h2 (Nat.pow_le_pow_right (by omega) h3)
  rw[←hbk]
  unfold bN
  omega
 have Hkr:=hid hkr
 have Htl:=hid htl
 have Hs1:=hid (Nat.le_trans hsz1 htl)
 have Hs2:=hid (Nat.le_trans hsz2 (Nat.le_trans hsz1 htl))
 have hpar:parseT t=parseK k x2:=by unfold parseT;rw[hx2];exact congrArg (fun q=>parseK q x2) hbk
 unfold parseK at hpar
 rw[if_neg (by omega),if_neg (by omega),if_neg (by omega),if_neg (by omega),if_pos hk] at hpar
 obtain ⟨⟨c0,y0⟩,hq0⟩:∃ q,takeR 2 x2=q:=⟨_,rfl⟩
 rw[hq0] at hpar
 simp only at hpar
 have Hq0:=hid hq0
 have hz0:y0.s.size≤x2.s.size:=by have:=take_size 2 x2;rw[hq0] at this;exact this
 have Hz0:=hid hz0
 obtain ⟨⟨c1,y1⟩,hq1⟩:∃ q,rdsR y0=q:=⟨_,rfl⟩
 rw[hq1] at hpar
 simp only at hpar
 have Hq1:=hid hq1
 have hz1:y1.s.size≤y0.s.size:=by have:=rds_size y0;rw[hq1] at this;exact this
 have Hz1:=hid hz1
 have Hpar:=hid hpar
 clear hO hop hs hx1 hx2 hx1b hx2b hbk hN hsz1 hsz2 htl hpar hk hq0 hz0 hq1 hz1
 go_enter Tryz.func166,Tryz.ntmps166
 go_wp2_with fail
 refine HO.out.mono ?_
 rintro e w1 ⟨rfl,hb1⟩
 have hk1:Keeps (fun _=>False) (w.alloc (.cells #[.int .i64 0,.int .u32 0,.int .u16 0,.int .u16 0,.slice none 0 0,.int .u32 0,.int .i64 0] 254)) w1:=Keeps.of_below hb1 (fun k h1 h2=>by omega)
 have hW1:Below w.heap.size w w1:=((Below.refl _ w).alloc (Nat.le_refl _) _).trans (hb1.mono (by simp))
 have hl1:w.heap.size+1≤w1.heap.size:=by have:=hb1.size;simpa using this
 have hres:=hk1.heap (blk_new w (.cells #[.int .i64 0,.int .u32 0,.int .u16 0,.int .u16 0,.slice none 0 0,.int .u32 0,.int .i64 0] 254)) id
 clear hb1 hk1
 go_wp2_with fail
 have hr0:IsRd (w1.alloc (.cells #[.string ⟨t.toArray⟩,.bool false] 369)) w1.heap.size ⟨⟨t.toArray⟩,false⟩:=blk_new _ _
 have hg:=get_16 hr0 1 (by omega) (by show (⟨t.toArray⟩:ByteArray).size≤maxLen;have:=Htl.out;simp[ByteArray.size,maxLen];omega)
 rw[HX1.out] at hg
 refine hg.mono ?_
 rintro e w2 ⟨rfl,h2,hk2⟩
 have h2':IsRd w2 w1.heap.size x1:=h2
 have hres2:=hk2.heap (blk_alloc hres _) (by omega)
 have hW2:=(hW1.alloc hW1.size _).trans (hk2.below (B:=w.heap.size) (by simp;omega) (fun k h1 h2=>by omega))
 have f1:=blk_free h2' 1
 have cr1:w2.cell? ⟨w1.heap.size,1,none⟩=some (.bool x1.bad):=blk_cell h2' rfl
 clear hg h2 hk2 hr0 hres hW1
 have h3:=h2'.setBad (bN b1 != 80)
 have hk3:Keeps (fun b=>b=w1.heap.size) w2 (w2.setCell ⟨w1.heap.size,1,none⟩ (.bool (bN b1 != 80))):=(Keeps.refl (fun b=>b=w1.heap.size) w2).setCell (p:=⟨w1.heap.size,1,none⟩) rfl _
 have hres3:=hk3.heap hres2 (by omega)
 have hW3:=hW2.trans (hk3.below hW2.size (fun k h1 h2=>by omega))
 have hg:=get_16 h3 1 (by omega) (by have:=Hs1.out;show x1.s.size≤maxLen;unfold maxLen;omega)
 rw[HX2.out] at hg
 have Hg:=hid hg
 clear hg h2' hres2 hW2 hk3 h3
 rw[show ((beN (b1,x1).1.data.toList:Nat):Int)=bN b1 from rfl]
 go_wp2_with fail
 refine Hg.out.mono ?_
 rintro e w4 ⟨rfl,h4,hk4⟩
 have h4':IsRd w4 w1.heap.size x2:=h4
 have hres4:=hk4.heap hres3 (by omega)
 have hW4:=hW3.trans (hk4.below hW3.size (fun k h1 h2=>by omega))
 have l4:=blk_lt h4'
 clear Hg h4 hk4 hres3 hW3 f1 cr1
 rw[show ((beN (b2,x2).1.data.toList:Nat):Int)=k from Hbk.out]
 have hkr:=Hkr.out
 have U:UnpSt w w1.heap.size w4.heap.size x2 #[.int .i64 k,.int .u32 0,.int .u16 0,.int .u16 0,.slice none 0 0,.int .u32 0,.int .i64 0] (w4.alloc (.cells #[.int .i64 k,.int .u32 0,.int .u16 0,.int .u16 0,.slice none 0 0,.int .u32 0,.int .i64 0] 254)):=
  ⟨h4'.keeps ((Keeps.refl (fun _=>False) w4).alloc _) id,blk_new _ _,blk_alloc hres4 _,hW4.alloc hW4.size _,by omega,l4,Hs2.out⟩
 clear h4' hres4 hW4
 go_wp2_with fail
 refine (wire_names k _).mono ?_
 rintro e w5 ⟨rfl,rfl⟩
 rw[HN.out]
 have hg:=get_16 U.rd 2 (by omega) U.max
 rw[Hq0.out] at hg
 have Hg:=hid hg
 clear hg
 go_wp2_with fail
 refine Hg.out.mono ?_
 rintro e w6 ⟨rfl,hr6,hk6⟩
 have V:=U.get hk6 hr6 Hz0.out
 clear U Hg hr6 hk6
 rw[show ((beN (c0,y0).1.data.toList:Nat):Int)=bN c0 from rfl]
 have fj:=blk_free V.msg 2
 have cj:=blk_cell V.msg (k:=2) rfl
 have U:=V.set 2 (.int .u16 (bN c0))
 simp only[List.setIfInBounds_toArray,List.set_cons_succ,List.set_cons_zero] at U
 have hg:=read_int U.rd U.max
 rw[Hq1.out] at hg
 have Hg:=hid hg
 clear hg
 go_wp2_with fail
 refine Hg.out.mono ?_
 rintro e w7 ⟨rfl,hr7,hk7⟩
 have V:=U.get hk7 hr7 Hz1.out
 clear U Hg hr7 hk7
 have fj:=blk_free V.msg 6
 have cj:=blk_cell V.msg (k:=6) rfl
 have U:=V.set 6 (.int .i64 c1)
 simp only[List.setIfInBounds_toArray,List.set_cons_succ,List.set_cons_zero] at U
 have hRt:=fun W (hb:IsBytes W none 0 ([]:List UInt8))=>wire_RightM (w:=W) (m:=⟨k,0,(bN c0),0,[],0,c1⟩) hb
 have HRt:=hid hRt
 obtain ⟨cb,cst⟩:=bc2 1 0 U.rd ⟨rfl,rfl⟩
 obtain ⟨m0,m1,m2,m3,m4,m5,m6⟩:=bc7 0 1 2 3 4 5 6 U.msg ⟨rfl,rfl,rfl,rfl,rfl,rfl,rfl⟩
 have hres:=U.res
 unfold zeroC at hres
 have hW:=U.below
 obtain ⟨r0,r1,r2,r3,r4,r5,r6⟩:=bc7 0 1 2 3 4 5 6 hres ⟨rfl,rfl,rfl,rfl,rfl,rfl,rfl⟩
 obtain ⟨g0,g1,g2,g3,g4,g5,g6⟩:=bf7 hres 0 1 2 3 4 5 6
 clear hRt
 by_cases hb:y1.bad=true
 ·have hu:=hid (show unpT t=(Msg.zero,4) from if_pos (by rw[Hpar.out];exact .inl hb))
  rw[hb] at cb
  clear hb HRt
  go_wp2_with fail
  have hf:=blk_store hres (.int .i64 0) (.int .u32 0) (.int .u16 0) (.int .u16 0) (.slice none 0 0) (.int .u32 0) (.int .i64 0)
  obtain ⟨d0,d1,d2,d3,d4,d5,d6⟩:=bc7 0 1 2 3 4 5 6 hf ⟨rfl,rfl,rfl,rfl,rfl,rfl,rfl⟩
  have hbl:=((((((hW.setCell (p:=⟨w.heap.size,0,none⟩) (Nat.le_refl _) (.int .i64 0)).setCell (p:=⟨w.heap.size,1,none⟩) (Nat.le_refl _) (.int .u32 0)).setCell (p:=⟨w.heap.size,2,none⟩) (Nat.le_refl _) (.int .u16 0)).setCell (p:=⟨w.heap.size,3,none⟩) (Nat.le_refl _) (.int .u16 0)).setCell (p:=⟨w.heap.size,4,none⟩) (Nat.le_refl _) (.slice none 0 0)).setCell (p:=⟨w.heap.size,5,none⟩) (Nat.le_refl _) (.int .u32 0)).setCell (p:=⟨w.heap.size,6,none⟩) (Nat.le_refl _) (.int .i64 0)
  refine bodyPost_ret (v:=.tuple #[.agg #[.int .i64 0,.int .u32 0,.int .u16 0,.int .u16 0,.slice none 0 0,.int .u32 0,.int .i64 0],.int .i64 4]) (by simp[results,Tryz.results166,go_sem,d0,d1,d2,d3,d4,d5,d6]) rfl ?_
  rw[hu.out]
  exact ⟨none,0,rfl,IsBytes.none _,hbl,fun _ h=>by cases h⟩
 have hb':y1.bad=false:=by simpa using hb
 rw[hb'] at cb
 by_cases he:y1.s.toList=[]
 rotate_left
 ·have hu:=hid (show unpT t=(Msg.zero,4) from if_pos (by rw[Hpar.out];exact .inr (.inl he)))
  have q1:y1.s.toList.isEmpty=false:=by simpa using he
  clear hb hb' HRt
  go_wp2_with fail
  have hf:=blk_store hres (.int .i64 0) (.int .u32 0) (.int .u16 0) (.int .u16 0) (.slice none 0 0) (.int .u32 0) (.int .i64 0)
  obtain ⟨d0,d1,d2,d3,d4,d5,d6⟩:=bc7 0 1 2 3 4 5 6 hf ⟨rfl,rfl,rfl,rfl,rfl,rfl,rfl⟩
  have hbl:=((((((hW.setCell (p:=⟨w.heap.size,0,none⟩) (Nat.le_refl _) (.int .i64 0)).setCell (p:=⟨w.heap.size,1,none⟩) (Nat.le_refl _) (.int .u32 0)).setCell (p:=⟨w.heap.size,2,none⟩) (Nat.le_refl _) (.int .u16 0)).setCell (p:=⟨w.heap.size,3,none⟩) (Nat.le_refl _) (.int .u16 0)).setCell (p:=⟨w.heap.size,4,none⟩) (Nat.le_refl _) (.slice none 0 0)).setCell (p:=⟨w.heap.size,5,none⟩) (Nat.le_refl _) (.int .u32 0)).setCell (p:=⟨w.heap.size,6,none⟩) (Nat.le_refl _) (.int .i64 0)
  refine bodyPost_ret (v:=.tuple #[.agg #[.int .i64 0,.int .u32 0,.int .u16 0,.int .u16 0,.slice none 0 0,.int .u32 0,.int .i64 0],.int .i64 4]) (by simp[results,Tryz.results166,go_sem,d0,d1,d2,d3,d4,d5,d6]) rfl ?_
  rw[hu.out]
  exact ⟨none,0,rfl,IsBytes.none _,hbl,fun _ h=>by cases h⟩
 have q1:y1.s.toList.isEmpty=true:=by simpa using he
 by_cases hr:RightP ⟨k,0,(bN c0),0,[],0,c1⟩
 rotate_left
 ·have hu:=hid (show unpT t=(Msg.zero,4) from if_pos (by rw[Hpar.out];exact .inr (.inr hr)))
  rw[decide_eq_false hr] at HRt
  clear hb hb' hr he
  go_wp2_with fail
  refine (HRt.out _ (IsBytes.none _)).mono ?_
  rintro e w9 ⟨rfl,hb9⟩
  have hk9:Keeps (fun _=>False) _ w9:=Keeps.of_below hb9 (fun k h1 h2=>by omega)
  have hres9:=hk9.heap hres id
  have hmsg9:=hk9.heap U.msg id
  have hW9:=hW.trans (hb9.mono hW.size)
  have s0:=blk_cell hres9 (k:=0) rfl
  have t0:=blk_free hres9 0
  have n0:=blk_cell hmsg9 (k:=0) rfl
  have s1:=blk_cell hres9 (k:=1) rfl
  have t1:=blk_free hres9 1
  have n1:=blk_cell hmsg9 (k:=1) rfl
  have s2:=blk_cell hres9 (k:=2) rfl
  have t2:=blk_free hres9 2
  have n2:=blk_cell hmsg9 (k:=2) rfl
  have s3:=blk_cell hres9 (k:=3) rfl
  have t3:=blk_free hres9 3
  have n3:=blk_cell hmsg9 (k:=3) rfl
  have s4:=blk_cell hres9 (k:=4) rfl
  have t4:=blk_free hres9 4
  have n4:=blk_cell hmsg9 (k:=4) rfl
  have s5:=blk_cell hres9 (k:=5) rfl
  have t5:=blk_free hres9 5
  have n5:=blk_cell hmsg9 (k:=5) rfl
  have s6:=blk_cell hres9 (k:=6) rfl
  have t6:=blk_free hres9 6
  have n6:=blk_cell hmsg9 (k:=6) rfl
  clear hb9 hk9 hmsg9
  go_wp2_with fail
  have hf:=blk_store hres9 (.int .i64 0) (.int .u32 0) (.int .u16 0) (.int .u16 0) (.slice none 0 0) (.int .u32 0) (.int .i64 0)
  obtain ⟨d0,d1,d2,d3,d4,d5,d6⟩:=bc7 0 1 2 3 4 5 6 hf ⟨rfl,rfl,rfl,rfl,rfl,rfl,rfl⟩
  have hbl:=((((((hW9.setCell (p:=⟨w.heap.size,0,none⟩) (Nat.le_refl _) (.int .i64 0)).setCell (p:=⟨w.heap.size,1,none⟩) (Nat.le_refl _) (.int .u32 0)).setCell (p:=⟨w.heap.size,2,none⟩) (Nat.le_refl _) (.int .u16 0)).setCell (p:=⟨w.heap.size,3,none⟩) (Nat.le_refl _) (.int .u16 0)).setCell (p:=⟨w.heap.size,4,none⟩) (Nat.le_refl _) (.slice none 0 0)).setCell (p:=⟨w.heap.size,5,none⟩) (Nat.le_refl _) (.int .u32 0)).setCell (p:=⟨w.heap.size,6,none⟩) (Nat.le_refl _) (.int .i64 0)
  refine bodyPost_ret (v:=.tuple #[.agg #[.int .i64 0,.int .u32 0,.int .u16 0,.int .u16 0,.slice none 0 0,.int .u32 0,.int .i64 0],.int .i64 4]) (by simp[results,Tryz.results166,go_sem,d0,d1,d2,d3,d4,d5,d6]) rfl ?_
  rw[hu.out]
  exact ⟨none,0,rfl,IsBytes.none _,hbl,fun _ h=>by cases h⟩
 ·have hu:=hid (show unpT t=(⟨k,0,(bN c0),0,[],0,c1⟩,0) from by unfold unpT;rw[Hpar.out,if_neg];rintro (h|h|h);exact hb h;exact h he;exact h hr)
  rw[decide_eq_true hr] at HRt
  clear hb hb' hr he
  go_wp2_with fail
  refine (HRt.out _ (IsBytes.none _)).mono ?_
  rintro e w9 ⟨rfl,hb9⟩
  have hk9:Keeps (fun _=>False) _ w9:=Keeps.of_below hb9 (fun k h1 h2=>by omega)
  have hres9:=hk9.heap hres id
  have hmsg9:=hk9.heap U.msg id
  have hW9:=hW.trans (hb9.mono hW.size)
  have s0:=blk_cell hres9 (k:=0) rfl
  have t0:=blk_free hres9 0
  have n0:=blk_cell hmsg9 (k:=0) rfl
  have s1:=blk_cell hres9 (k:=1) rfl
  have t1:=blk_free hres9 1
  have n1:=blk_cell hmsg9 (k:=1) rfl
  have s2:=blk_cell hres9 (k:=2) rfl
  have t2:=blk_free hres9 2
  have n2:=blk_cell hmsg9 (k:=2) rfl
  have s3:=blk_cell hres9 (k:=3) rfl
  have t3:=blk_free hres9 3
  have n3:=blk_cell hmsg9 (k:=3) rfl
  have s4:=blk_cell hres9 (k:=4) rfl
  have t4:=blk_free hres9 4
  have n4:=blk_cell hmsg9 (k:=4) rfl
  have s5:=blk_cell hres9 (k:=5) rfl
  have t5:=blk_free hres9 5
  have n5:=blk_cell hmsg9 (k:=5) rfl
  have s6:=blk_cell hres9 (k:=6) rfl
  have t6:=blk_free hres9 6
  have n6:=blk_cell hmsg9 (k:=6) rfl
  clear hb9 hk9 hmsg9
  go_wp2_with fail
  have hf:=blk_store hres9 (.int .i64 k) (.int .u32 0) (.int .u16 (bN c0)) (.int .u16 0) (.slice none 0 0) (.int .u32 0) (.int .i64 c1)
  obtain ⟨d0,d1,d2,d3,d4,d5,d6⟩:=bc7 0 1 2 3 4 5 6 hf ⟨rfl,rfl,rfl,rfl,rfl,rfl,rfl⟩
  have hbl:=((((((hW9.setCell (p:=⟨w.heap.size,0,none⟩) (Nat.le_refl _) (.int .i64 k)).setCell (p:=⟨w.heap.size,1,none⟩) (Nat.le_refl _) (.int .u32 0)).setCell (p:=⟨w.heap.size,2,none⟩) (Nat.le_refl _) (.int .u16 (bN c0))).setCell (p:=⟨w.heap.size,3,none⟩) (Nat.le_refl _) (.int .u16 0)).setCell (p:=⟨w.heap.size,4,none⟩) (Nat.le_refl _) (.slice none 0 0)).setCell (p:=⟨w.heap.size,5,none⟩) (Nat.le_refl _) (.int .u32 0)).setCell (p:=⟨w.heap.size,6,none⟩) (Nat.le_refl _) (.int .i64 c1)
  refine bodyPost_ret (v:=.tuple #[.agg #[.int .i64 k,.int .u32 0,.int .u16 (bN c0),.int .u16 0,.slice none 0 0,.int .u32 0,.int .i64 c1],.int .i64 0]) (by simp[results,Tryz.results166,go_sem,d0,d1,d2,d3,d4,d5,d6]) rfl ?_
  rw[hu.out]
  exact ⟨none,0,rfl,IsBytes.none _,hbl,fun _ h=>by cases h⟩
set_option maxHeartbeats 4000000 in
theorem unp_0 (s:ByteArray) (t:List UInt8) (k:Int) (x1 x2:Rd) (b1 b2:ByteArray) (hs:s.size≤maxLen) (hop:opened s.data.toList=(t,0)) (htl:t.length≤100000) (hx1:firstR t=(b1,x1)) (hx2:kindR t=(b2,x2)) (hbk:bN b2=k) (hk:¬ (k=1∨k=2)∧k≠3∧k≠4∧k≠5∧k≠6) :
  Calls Tryz.prog 166 #[.string s] w (UnpN w (unpT t).1 (unpT t).2):=by
 have hO:=sum_Open s hs (w.alloc (.cells #[.int .i64 0,.int .u32 0,.int .u16 0,.int .u16 0,.slice none 0 0,.int .u32 0,.int .i64 0] 254))
 rw[hop] at hO
 have HO:=hid hO
 have hx1b:takeR 1 ⟨⟨t.toArray⟩,false⟩=(b1,x1):=hx1
 have hx2b:takeR 1 ⟨x1.s,bN b1 != 80⟩=(b2,x2):=by have:=hx2;unfold kindR at this;rwa [hx1] at this
 have HX1:=hid hx1b
 have HX2:=hid hx2b
 have Hbk:=hid hbk
 have hN:namesK k=0:=by obtain ⟨h1,h2,h3,h4,h5⟩:=hk;simp[namesK,h1,h2,h3,h4,h5]
 have HN:=hid hN
 have hsz1:x1.s.size≤t.length:=by have:=take_size 1 ⟨⟨t.toArray⟩,false⟩;rw[hx1b] at this;exact Nat.le_trans this (by show t.toArray.size≤t.length;simp)
 have hsz2:x2.s.size≤x1.s.size:=by have:=take_size 1 ⟨x1.s,bN b1 != 80⟩;rw[hx2b] at this;exact this
 have hkr:0≤k∧k<65536:=by
  have h1:=take_len 1 ⟨x1.s,bN b1 != 80⟩
  rw[hx2b] at h1
  have h2:=beN_lt _ b2.data.toList rfl
  have h3:b2.data.toList.length≤1:=by simpa using h1
  have h4:=Nat.lt_of_lt_of_le h2 (Nat.pow_le_pow_right (by omega) h3)
  rw[←hbk]
  unfold bN
  omega
 have Hkr:=hid hkr
 have Htl:=hid htl
 have Hs1:=hid (Nat.le_trans hsz1 htl)
 have Hs2:=hid (Nat.le_trans hsz2 (Nat.le_trans hsz1 htl))
 have hpar:parseT t=parseK k x2:=by unfold parseT;rw[hx2];exact congrArg (fun q=>parseK q x2) hbk
 unfold parseK at hpar
 rw[if_neg hk.1,if_neg hk.2.1,if_neg hk.2.2.1,if_neg hk.2.2.2.1,if_neg hk.2.2.2.2] at hpar
 have Hpar:=hid hpar
 clear hO hop hs hx1 hx2 hx1b hx2b hbk hN hsz1 hsz2 htl hpar hk
 go_enter Tryz.func166,Tryz.ntmps166
 go_wp2_with fail
 refine HO.out.mono ?_
 rintro e w1 ⟨rfl,hb1⟩
 have hk1:Keeps (fun _=>False) (w.alloc (.cells #[.int .i64 0,.int .u32 0,.int .u16 0,.int .u16 0,.slice none 0 0,.int .u32 0,.int .i64 0] 254)) w1:=Keeps.of_below hb1 (fun k h1 h2=>by omega)
 have hW1:Below w.heap.size w w1:=((Below.refl _ w).alloc (Nat.le_refl _) _).trans (hb1.mono (by simp))
 have hl1:w.heap.size+1≤w1.heap.size:=by have:=hb1.size;simpa using this
 have hres:=hk1.heap (blk_new w (.cells #[.int .i64 0,.int .u32 0,.int .u16 0,.int .u16 0,.slice none 0 0,.int .u32 0,.int .i64 0] 254)) id
 clear hb1 hk1
 go_wp2_with fail
 have hr0:IsRd (w1.alloc (.cells #[.string ⟨t.toArray⟩,.bool false] 369)) w1.heap.size ⟨⟨t.toArray⟩,false⟩:=blk_new _ _
 have hg:=get_16 hr0 1 (by omega) (by show (⟨t.toArray⟩:ByteArray).size≤maxLen;have:=Htl.out;simp[ByteArray.size,maxLen];omega)
 rw[HX1.out] at hg
 refine hg.mono ?_
 rintro e w2 ⟨rfl,h2,hk2⟩
 have h2':IsRd w2 w1.heap.size x1:=h2
 have hres2:=hk2.heap (blk_alloc hres _) (by omega)
 have hW2:=(hW1.alloc hW1.size _).trans (hk2.below (B:=w.heap.size) (by simp;omega) (fun k h1 h2=>by omega))
 have f1:=blk_free h2' 1
 have cr1:w2.cell? ⟨w1.heap.size,1,none⟩=some (.bool x1.bad):=blk_cell h2' rfl
 clear hg h2 hk2 hr0 hres hW1
 have h3:=h2'.setBad (bN b1 != 80)
 have hk3:Keeps (fun b=>b=w1.heap.size) w2 (w2.setCell ⟨w1.heap.size,1,none⟩ (.bool (bN b1 != 80))):=(Keeps.refl (fun b=>b=w1.heap.size) w2).setCell (p:=⟨w1.heap.size,1,none⟩) rfl _
 have hres3:=hk3.heap hres2 (by omega)
 have hW3:=hW2.trans (hk3.below hW2.size (fun k h1 h2=>by omega))
 have hg:=get_16 h3 1 (by omega) (by have:=Hs1.out;show x1.s.size≤maxLen;unfold maxLen;omega)
 rw[HX2.out] at hg
 have Hg:=hid hg
 clear hg h2' hres2 hW2 hk3 h3
 rw[show ((beN (b1,x1).1.data.toList:Nat):Int)=bN b1 from rfl]
 go_wp2_with fail
 refine Hg.out.mono ?_
 rintro e w4 ⟨rfl,h4,hk4⟩
 have h4':IsRd w4 w1.heap.size x2:=h4
 have hres4:=hk4.heap hres3 (by omega)
 have hW4:=hW3.trans (hk4.below hW3.size (fun k h1 h2=>by omega))
 have l4:=blk_lt h4'
 clear Hg h4 hk4 hres3 hW3 f1 cr1
 rw[show ((beN (b2,x2).1.data.toList:Nat):Int)=k from Hbk.out]
 have hkr:=Hkr.out
 have U:UnpSt w w1.heap.size w4.heap.size x2 #[.int .i64 k,.int .u32 0,.int .u16 0,.int .u16 0,.slice none 0 0,.int .u32 0,.int .i64 0] (w4.alloc (.cells #[.int .i64 k,.int .u32 0,.int .u16 0,.int .u16 0,.slice none 0 0,.int .u32 0,.int .i64 0] 254)):=
  ⟨h4'.keeps ((Keeps.refl (fun _=>False) w4).alloc _) id,blk_new _ _,blk_alloc hres4 _,hW4.alloc hW4.size _,by omega,l4,Hs2.out⟩
 clear h4' hres4 hW4
 go_wp2_with fail
 refine (wire_names k _).mono ?_
 rintro e w5 ⟨rfl,rfl⟩
 rw[HN.out]
 have hRt:=fun W (hb:IsBytes W none 0 ([]:List UInt8))=>wire_RightM (w:=W) (m:=⟨k,0,0,0,[],0,0⟩) hb
 have HRt:=hid hRt
 obtain ⟨cb,cst⟩:=bc2 1 0 U.rd ⟨rfl,rfl⟩
 obtain ⟨m0,m1,m2,m3,m4,m5,m6⟩:=bc7 0 1 2 3 4 5 6 U.msg ⟨rfl,rfl,rfl,rfl,rfl,rfl,rfl⟩
 have hres:=U.res
 unfold zeroC at hres
 have hW:=U.below
 obtain ⟨r0,r1,r2,r3,r4,r5,r6⟩:=bc7 0 1 2 3 4 5 6 hres ⟨rfl,rfl,rfl,rfl,rfl,rfl,rfl⟩
 obtain ⟨g0,g1,g2,g3,g4,g5,g6⟩:=bf7 hres 0 1 2 3 4 5 6
 clear hRt
 by_cases hb:x2.bad=true
 ·have hu:=hid (show unpT t=(Msg.zero,4) from if_pos (by rw[Hpar.out];exact .inl hb))
  rw[hb] at cb
  clear hb HRt
  go_wp2_with fail
  have hf:=blk_store hres (.int .i64 0) (.int .u32 0) (.int .u16 0) (.int .u16 0) (.slice none 0 0) (.int .u32 0) (.int .i64 0)
  obtain ⟨d0,d1,d2,d3,d4,d5,d6⟩:=bc7 0 1 2 3 4 5 6 hf ⟨rfl,rfl,rfl,rfl,rfl,rfl,rfl⟩
  have hbl:=((((((hW.setCell (p:=⟨w.heap.size,0,none⟩) (Nat.le_refl _) (.int .i64 0)).setCell (p:=⟨w.heap.size,1,none⟩) (Nat.le_refl _) (.int .u32 0)).setCell (p:=⟨w.heap.size,2,none⟩) (Nat.le_refl _) (.int .u16 0)).setCell (p:=⟨w.heap.size,3,none⟩) (Nat.le_refl _) (.int .u16 0)).setCell (p:=⟨w.heap.size,4,none⟩) (Nat.le_refl _) (.slice none 0 0)).setCell (p:=⟨w.heap.size,5,none⟩) (Nat.le_refl _) (.int .u32 0)).setCell (p:=⟨w.heap.size,6,none⟩) (Nat.le_refl _) (.int .i64 0)
  refine bodyPost_ret (v:=.tuple #[.agg #[.int .i64 0,.int .u32 0,.int .u16 0,.int .u16 0,.slice none 0 0,.int .u32 0,.int .i64 0],.int .i64 4]) (by simp[results,Tryz.results166,go_sem,d0,d1,d2,d3,d4,d5,d6]) rfl ?_
  rw[hu.out]
  exact ⟨none,0,rfl,IsBytes.none _,hbl,fun _ h=>by cases h⟩
 have hb':x2.bad=false:=by simpa using hb
 rw[hb'] at cb
 by_cases he:x2.s.toList=[]
 rotate_left
 ·have hu:=hid (show unpT t=(Msg.zero,4) from if_pos (by rw[Hpar.out];exact .inr (.inl he)))
  have q1:x2.s.toList.isEmpty=false:=by simpa using he
  clear hb hb' HRt
  go_wp2_with fail
  have hf:=blk_store hres (.int .i64 0) (.int .u32 0) (.int .u16 0) (.int .u16 0) (.slice none 0 0) (.int .u32 0) (.int .i64 0)
  obtain ⟨d0,d1,d2,d3,d4,d5,d6⟩:=bc7 0 1 2 3 4 5 6 hf ⟨rfl,rfl,rfl,rfl,rfl,rfl,rfl⟩
  have hbl:=((((((hW.setCell (p:=⟨w.heap.size,0,none⟩) (Nat.le_refl _) (.int .i64 0)).setCell (p:=⟨w.heap.size,1,none⟩) (Nat.le_refl _) (.int .u32 0)).setCell (p:=⟨w.heap.size,2,none⟩) (Nat.le_refl _) (.int .u16 0)).setCell (p:=⟨w.heap.size,3,none⟩) (Nat.le_refl _) (.int .u16 0)).setCell (p:=⟨w.heap.size,4,none⟩) (Nat.le_refl _) (.slice none 0 0)).setCell (p:=⟨w.heap.size,5,none⟩) (Nat.le_refl _) (.int .u32 0)).setCell (p:=⟨w.heap.size,6,none⟩) (Nat.le_refl _) (.int .i64 0)
  refine bodyPost_ret (v:=.tuple #[.agg #[.int .i64 0,.int .u32 0,.int .u16 0,.int .u16 0,.slice none 0 0,.int .u32 0,.int .i64 0],.int .i64 4]) (by simp[results,Tryz.results166,go_sem,d0,d1,d2,d3,d4,d5,d6]) rfl ?_
  rw[hu.out]
  exact ⟨none,0,rfl,IsBytes.none _,hbl,fun _ h=>by cases h⟩
 have q1:x2.s.toList.isEmpty=true:=by simpa using he
 by_cases hr:RightP ⟨k,0,0,0,[],0,0⟩
 rotate_left
 ·have hu:=hid (show unpT t=(Msg.zero,4) from if_pos (by rw[Hpar.out];exact .inr (.inr hr)))
  rw[decide_eq_false hr] at HRt
  clear hb hb' hr he
  go_wp2_with fail
  refine (HRt.out _ (IsBytes.none _)).mono ?_
  rintro e w9 ⟨rfl,hb9⟩
  have hk9:Keeps (fun _=>False) _ w9:=Keeps.of_below hb9 (fun k h1 h2=>by omega)
  have hres9:=hk9.heap hres id
  have hmsg9:=hk9.heap U.msg id
  have hW9:=hW.trans (hb9.mono hW.size)
  have s0:=blk_cell hres9 (k:=0) rfl
  have t0:=blk_free hres9 0
  have n0:=blk_cell hmsg9 (k:=0) rfl
  have s1:=blk_cell hres9 (k:=1) rfl
  have t1:=blk_free hres9 1
  have n1:=blk_cell hmsg9 (k:=1) rfl
  have s2:=blk_cell hres9 (k:=2) rfl
  have t2:=blk_free hres9 2
  have n2:=blk_cell hmsg9 (k:=2) rfl
  have s3:=blk_cell hres9 (k:=3) rfl
  have t3:=blk_free hres9 3
  have n3:=blk_cell hmsg9 (k:=3) rfl
  have s4:=blk_cell hres9 (k:=4) rfl
  have t4:=blk_free hres9 4
  have n4:=blk_cell hmsg9 (k:=4) rfl
  have s5:=blk_cell hres9 (k:=5) rfl
  have t5:=blk_free hres9 5
  have n5:=blk_cell hmsg9 (k:=5) rfl
  have s6:=blk_cell hres9 (k:=6) rfl
  have t6:=blk_free hres9 6
  have n6:=blk_cell hmsg9 (k:=6) rfl
  clear hb9 hk9 hmsg9
  go_wp2_with fail
  have hf:=blk_store hres9 (.int .i64 0) (.int .u32 0) (.int .u16 0) (.int .u16 0) (.slice none 0 0) (.int .u32 0) (.int .i64 0)
  obtain ⟨d0,d1,d2,d3,d4,d5,d6⟩:=bc7 0 1 2 3 4 5 6 hf ⟨rfl,rfl,rfl,rfl,rfl,rfl,rfl⟩
  have hbl:=((((((hW9.setCell (p:=⟨w.heap.size,0,none⟩) (Nat.le_refl _) (.int .i64 0)).setCell (p:=⟨w.heap.size,1,none⟩) (Nat.le_refl _) (.int .u32 0)).setCell (p:=⟨w.heap.size,2,none⟩) (Nat.le_refl _) (.int .u16 0)).setCell (p:=⟨w.heap.size,3,none⟩) (Nat.le_refl _) (.int .u16 0)).setCell (p:=⟨w.heap.size,4,none⟩) (Nat.le_refl _) (.slice none 0 0)).setCell (p:=⟨w.heap.size,5,none⟩) (Nat.le_refl _) (.int .u32 0)).setCell (p:=⟨w.heap.size,6,none⟩) (Nat.le_refl _) (.int .i64 0)
  refine bodyPost_ret (v:=.tuple #[.agg #[.int .i64 0,.int .u32 0,.int .u16 0,.int .u16 0,.slice none 0 0,.int .u32 0,.int .i64 0],.int .i64 4]) (by simp[results,Tryz.results166,go_sem,d0,d1,d2,d3,d4,d5,d6]) rfl ?_
  rw[hu.out]
  exact ⟨none,0,rfl,IsBytes.none _,hbl,fun _ h=>by cases h⟩
 ·have hu:=hid (show unpT t=(⟨k,0,0,0,[],0,0⟩,0) from by unfold unpT;rw[Hpar.out,if_neg];rintro (h|h|h);exact hb h;exact h he;exact h hr)
  rw[decide_eq_true hr] at HRt
  clear hb hb' hr he
  go_wp2_with fail
  refine (HRt.out _ (IsBytes.none _)).mono ?_
  rintro e w9 ⟨rfl,hb9⟩
  have hk9:Keeps (fun _=>False) _ w9:=Keeps.of_below hb9 (fun k h1 h2=>by omega)
  have hres9:=hk9.heap hres id
  have hmsg9:=hk9.heap U.msg id
  have hW9:=hW.trans (hb9.mono hW.size)
  have s0:=blk_cell hres9 (k:=0) rfl
  have t0:=blk_free hres9 0
  have n0:=blk_cell hmsg9 (k:=0) rfl
  have s1:=blk_cell hres9 (k:=1) rfl
  have t1:=blk_free hres9 1
  have n1:=blk_cell hmsg9 (k:=1) rfl
  have s2:=blk_cell hres9 (k:=2) rfl
  have t2:=blk_free hres9 2
  have n2:=blk_cell hmsg9 (k:=2) rfl
  have s3:=blk_cell hres9 (k:=3) rfl
  have t3:=blk_free hres9 3
  have n3:=blk_cell hmsg9 (k:=3) rfl
  have s4:=blk_cell hres9 (k:=4) rfl
  have t4:=blk_free hres9 4
  have n4:=blk_cell hmsg9 (k:=4) rfl
  have s5:=blk_cell hres9 (k:=5) rfl
  have t5:=blk_free hres9 5
  have n5:=blk_cell hmsg9 (k:=5) rfl
  have s6:=blk_cell hres9 (k:=6) rfl
  have t6:=blk_free hres9 6
  have n6:=blk_cell hmsg9 (k:=6) rfl
  clear hb9 hk9 hmsg9
  go_wp2_with fail
  have hf:=blk_store hres9 (.int .i64 k) (.int .u32 0) (.int .u16 0) (.int .u16 0) (.slice none 0 0) (.int .u32 0) (.int .i64 0)
  obtain ⟨d0,d1,d2,d3,d4,d5,d6⟩:=bc7 0 1 2 3 4 5 6 hf ⟨rfl,rfl,rfl,rfl,rfl,rfl,rfl⟩
  have hbl:=((((((hW9.setCell (p:=⟨w.heap.size,0,none⟩) (Nat.le_refl _) (.int .i64 k)).setCell (p:=⟨w.heap.size,1,none⟩) (Nat.le_refl _) (.int .u32 0)).setCell (p:=⟨w.heap.size,2,none⟩) (Nat.le_refl _) (.int .u16 0)).setCell (p:=⟨w.heap.size,3,none⟩) (Nat.le_refl _) (.int .u16 0)).setCell (p:=⟨w.heap.size,4,none⟩) (Nat.le_refl _) (.slice none 0 0)).setCell (p:=⟨w.heap.size,5,none⟩) (Nat.le_refl _) (.int .u32 0)).setCell (p:=⟨w.heap.size,6,none⟩) (Nat.le_refl _) (.int .i64 0)
  refine bodyPost_ret (v:=.tuple #[.agg #[.int .i64 k,.int .u32 0,.int .u16 0,.int .u16 0,.slice none 0 0,.int .u32 0,.int .i64 0],.int .i64 0]) (by simp[results,Tryz.results166,go_sem,d0,d1,d2,d3,d4,d5,d6]) rfl ?_
  rw[hu.out]
  exact ⟨none,0,rfl,IsBytes.none _,hbl,fun _ h=>by cases h⟩
end
section
open Go.RowKit
set_option maxRecDepth 10000
variable {w:World}
theorem unpack_err (s:ByteArray) (hs:s.size≤maxLen) (l:List UInt8) (e0:Int) (hop:opened s.data.toList=(l,e0)) (he:e0≠0) :
  Calls Tryz.prog 166 #[.string s] w (UnpN w Msg.zero e0):=by
 have hO:=sum_Open s hs (w.alloc (.cells #[.int .i64 0,.int .u32 0,.int .u16 0,.int .u16 0,.slice none 0 0,.int .u32 0,.int .i64 0] 254))
 rw[hop] at hO
 have HO:=hid hO
 have hq:(e0 != 0)=true:=by simp[he]
 clear hO hop he hs
 go_enter Tryz.func166,Tryz.ntmps166
 go_wp2_with fail
 refine HO.out.mono ?_
 rintro e w1 ⟨rfl,hb1⟩
 have hk1:Keeps (fun _=>False) (w.alloc (.cells #[.int .i64 0,.int .u32 0,.int .u16 0,.int .u16 0,.slice none 0 0,.int .u32 0,.int .i64 0] 254)) w1:=Keeps.of_below hb1 (fun k h1 h2=>by omega)
 have hW:Below w.heap.size w w1:=((Below.refl _ w).alloc (Nat.le_refl _) _).trans (hb1.mono (by simp))
 have hres:=hk1.heap (blk_new w (.cells #[.int .i64 0,.int .u32 0,.int .u16 0,.int .u16 0,.slice none 0 0,.int .u32 0,.int .i64 0] 254)) id
 clear hb1 hk1
 have r0:=blk_cell hres (k:=0) rfl
 have g0:=blk_free hres 0
 have r1:=blk_cell hres (k:=1) rfl
 have g1:=blk_free hres 1
 have r2:=blk_cell hres (k:=2) rfl
 have g2:=blk_free hres 2
 have r3:=blk_cell hres (k:=3) rfl
 have g3:=blk_free hres 3
 have r4:=blk_cell hres (k:=4) rfl
 have g4:=blk_free hres 4
 have r5:=blk_cell hres (k:=5) rfl
 have g5:=blk_free hres 5
 have r6:=blk_cell hres (k:=6) rfl
 have g6:=blk_free hres 6
 go_wp2_with fail
 have hf:=blk_store hres (.int .i64 0) (.int .u32 0) (.int .u16 0) (.int .u16 0) (.slice none 0 0) (.int .u32 0) (.int .i64 0)
 obtain ⟨d0,d1,d2,d3,d4,d5,d6⟩:=bc7 0 1 2 3 4 5 6 hf ⟨rfl,rfl,rfl,rfl,rfl,rfl,rfl⟩
 have hbl:=((((((hW.setCell (p:=⟨w.heap.size,0,none⟩) (Nat.le_refl _) (.int .i64 0)).setCell (p:=⟨w.heap.size,1,none⟩) (Nat.le_refl _) (.int .u32 0)).setCell (p:=⟨w.heap.size,2,none⟩) (Nat.le_refl _) (.int .u16 0)).setCell (p:=⟨w.heap.size,3,none⟩) (Nat.le_refl _) (.int .u16 0)).setCell (p:=⟨w.heap.size,4,none⟩) (Nat.le_refl _) (.slice none 0 0)).setCell (p:=⟨w.heap.size,5,none⟩) (Nat.le_refl _) (.int .u32 0)).setCell (p:=⟨w.heap.size,6,none⟩) (Nat.le_refl _) (.int .i64 0)
 refine bodyPost_ret (v:=.tuple #[.agg #[.int .i64 0,.int .u32 0,.int .u16 0,.int .u16 0,.slice none 0 0,.int .u32 0,.int .i64 0],.int .i64 e0]) (by simp[results,Tryz.results166,go_sem,d0,d1,d2,d3,d4,d5,d6]) rfl ?_
 exact ⟨none,0,rfl,IsBytes.none _,hbl,fun _ h=>by cases h⟩
theorem opened_len (l:List UInt8):(opened l).1.length≤l.length:=by
 unfold opened
 split
 ·exact Nat.zero_le _
 split
 ·simp
 ·exact Nat.zero_le _
theorem wire_UnpackN (s:ByteArray) (hs:s.size≤100000) :
  Calls Tryz.prog 166 #[.string s] w (UnpN w (unpM s.data.toList).1 (unpM s.data.toList).2):=by
 have hm:s.size≤maxLen:=by unfold maxLen;omega
 unfold unpM
 by_cases he:(opened s.data.toList).2=0
 ·rw[if_pos he]
  have hop:opened s.data.toList=((opened s.data.toList).1,0):=Prod.ext rfl he
  have htl:(opened s.data.toList).1.length≤100000:=Nat.le_trans (opened_len _) (by simpa using hs)
  generalize (opened s.data.toList).1=t at *
  clear he
  by_cases h12:bN (kindR t).1=1∨bN (kindR t).1=2
  ·exact unp_12 s t _ _ _ _ _ hm hop htl rfl rfl rfl h12
  by_cases h3:bN (kindR t).1=3
  ·exact unp_3 s t _ _ _ _ _ hm hop htl rfl rfl rfl h3
  by_cases h4:bN (kindR t).1=4
  ·exact unp_4 s t _ _ _ _ _ hm hop htl rfl rfl rfl h4
  by_cases h5:bN (kindR t).1=5
  ·exact unp_5 s t _ _ _ _ _ hm hop htl rfl rfl rfl h5
  by_cases h6:bN (kindR t).1=6
  ·exact unp_6 s t _ _ _ _ _ hm hop htl rfl rfl rfl h6
  ·exact unp_0 s t _ _ _ _ _ hm hop htl rfl rfl rfl ⟨h12,h3,h4,h5,h6⟩
 ·rw[if_neg he]
  exact unpack_err s hm _ _ rfl he
end
section
theorem nil_of {L:List UInt8} {k:Int} (h:0<L.length↔k=3) (hk:k≠3):L=[]:=by
 rcases Nat.eq_zero_or_pos L.length with h0|h0
 ·exact List.eq_nil_of_length_eq_zero h0
 ·exact absurd (h.1 h0) hk
end
section
theorem takeR_front (n:Nat) (l r:List UInt8) (hn:l.length=n):takeR n ⟨⟨(l++r).toArray⟩,false⟩=(⟨l.toArray⟩,⟨⟨r.toArray⟩,false⟩):=by
 subst hn
 have hs:(⟨(l++r).toArray⟩:ByteArray).size=l.length+r.length:=by show (l++r).toArray.size=_;simp
 unfold takeR
 rw[if_neg (by simp only[hs];simp)]
 refine Prod.ext ?_ ?_
 ·refine of_list _ _ ?_
  rw[extract_data]
  simp
 ·show Rd.mk _ _=Rd.mk _ _
  congr 1
  refine of_list _ _ ?_
  simp only[hs]
  rw[extract_data]
  simp
theorem bN_list (l:List UInt8):bN ⟨l.toArray⟩=(beN l:Int):=by simp[bN]
theorem bN_tail4 (n:Int) (h:0≤n∧n<4294967296):bN ⟨(tail4 n).toArray⟩=n:=by
 rw[bN_list]
 simp only[tail4,beN,List.foldl_cons,List.foldl_nil]
 rw[byte_of _ (by omega),byte_of _ (by omega),byte_of _ (by omega),byte_of _ (by omega)]
 omega
theorem bN_be2 (n:Int) (h:0≤n∧n<65536):bN ⟨(be2 n).toArray⟩=n:=by
 rw[bN_list]
 simp only[be2,beN,List.foldl_cons,List.foldl_nil]
 rw[byte_of _ (by omega),byte_of _ (by omega)]
 omega
theorem rdrR_run (L:List UInt8) (hf:fits L=true):rdrR ⟨⟨(runBytes L).toArray⟩,false⟩=(L,⟨⟨([]:List UInt8).toArray⟩,false⟩):=by
 have h:=rd_run L [] hf
 rw[List.append_nil] at h
 unfold rdrR
 simp only[h]
 rw[show ((0:Int) != 0)=false by decide,Bool.or_false]
 have ht:=takeR_front (runBytes L).length (runBytes L) [] rfl
 rw[List.append_nil] at ht
 rw[ht]
theorem rdsR_num (n:Int) (h:-1000≤n∧n≤1000):rdsR ⟨⟨(num (zz n)).toArray⟩,false⟩=(n,⟨⟨([]:List UInt8).toArray⟩,false⟩):=by
 have h1:=rd_behind (zz n) (zz_in n (by omega)) []
 rw[List.append_nil] at h1
 unfold rdsR
 simp only[h1,unzz_zz]
 rw[show ((0:Int) != 0)=false by decide,Bool.or_false]
 have ht:=takeR_front (num (zz n)).length (num (zz n)) [] rfl
 rw[List.append_nil] at ht
 rw[ht]
theorem parse_raw (m:Msg) (hr:RightP m) (wf:m.wf):parseT (rawM m)=(m,⟨⟨([]:List UInt8).toArray⟩,false⟩):=by
 obtain ⟨k,n,s,ak,i,u,l⟩:=m
 obtain ⟨a1,a2,a3,a4,a5,a6,a7,a8,a9⟩:=hr
 obtain ⟨_,wn,ws,wk,wu,_⟩:=wf
 simp only at *
 have h1:firstR (rawM ⟨k,n,s,ak,i,u,l⟩)=(⟨[(80:UInt8)].toArray⟩,⟨⟨(UInt8.ofNat k.toNat :: bodyM ⟨k,n,s,ak,i,u,l⟩).toArray⟩,false⟩):=takeR_front 1 [80] _ rfl
 have hb:(bN ⟨[(80:UInt8)].toArray⟩ != 80)=false:=by rw[bN_list];rfl
 have h2:kindR (rawM ⟨k,n,s,ak,i,u,l⟩)=(⟨[UInt8.ofNat k.toNat].toArray⟩,⟨⟨(bodyM ⟨k,n,s,ak,i,u,l⟩).toArray⟩,false⟩):=by
  unfold kindR
  rw[h1]
  simp only
  rw[hb]
  exact takeR_front 1 [UInt8.ofNat k.toNat] _ rfl
 have h3:bN ⟨[UInt8.ofNat k.toNat].toArray⟩=k:=by
  rw[bN_list]
  simp only[beN,List.foldl_cons,List.foldl_nil]
  rw[byte_of _ (by omega)]
  omega
 unfold parseT
 rw[h2]
 simp only
 rw[h3]
 unfold parseK bodyM
 simp only
 by_cases h12:k=1∨k=2
 ·rw[if_pos h12,if_pos h12]
  have ht:=takeR_front 4 (tail4 n) [] rfl
  rw[List.append_nil] at ht
  rw[ht,bN_tail4 n wn]
  have e:=nil_of a7 (by omega)
  simp only[Prod.mk.injEq,Msg.mk.injEq,and_true,true_and]
  exact ⟨by omega,by omega,e.symm,by omega,by omega⟩
 rw[if_neg h12,if_neg h12]
 by_cases h3':k=3
 ·rw[if_pos h3',if_pos h3']
  rw[List.append_assoc,takeR_front 2 (be2 s) _ rfl]
  simp only
  rw[takeR_front 2 (be2 ak) _ rfl]
  simp only
  rw[rdrR_run i a2,bN_be2 s ws,bN_be2 ak wk]
  simp only[Prod.mk.injEq,Msg.mk.injEq,and_true,true_and]
  exact ⟨by omega,by omega,by omega⟩
 have e:=nil_of a7 h3'
 rw[if_neg h3',if_neg h3']
 by_cases h4:k=4
 ·rw[if_pos h4,if_pos h4,takeR_front 2 (be2 s) _ rfl]
  simp only
  have ht:=takeR_front 4 (tail4 u) [] rfl
  rw[List.append_nil] at ht
  rw[ht,bN_be2 s ws,bN_tail4 u wu]
  simp only[Prod.mk.injEq,Msg.mk.injEq,and_true,true_and]
  exact ⟨by omega,by omega,e.symm,by omega⟩
 rw[if_neg h4,if_neg h4]
 by_cases h5:k=5
 ·rw[if_pos h5,if_pos h5]
  have ht:=takeR_front 2 (be2 ak) [] rfl
  rw[List.append_nil] at ht
  rw[ht,bN_be2 ak wk]
  simp only[Prod.mk.injEq,Msg.mk.injEq,and_true,true_and]
  exact ⟨by omega,by omega,e.symm,by omega,by omega⟩
 rw[if_neg h5,if_neg h5]
 by_cases h6:k=6
 ·rw[if_pos h6,if_pos h6,takeR_front 2 (be2 s) _ rfl]
  simp only
  rw[rdsR_num l a3,bN_be2 s ws]
  simp only[Prod.mk.injEq,Msg.mk.injEq,and_true,true_and]
  exact ⟨by omega,by omega,e.symm,by omega⟩
 ·rw[if_neg h6,if_neg h6]
  simp only[Prod.mk.injEq,Msg.mk.injEq,and_true,true_and]
  exact ⟨by omega,by omega,by omega,e.symm,by omega,by omega⟩
theorem unpT_raw (m:Msg) (hr:RightP m) (wf:m.wf):unpT (rawM m)=(m,0):=by
 unfold unpT
 rw[parse_raw m hr wf,if_neg]
 rintro (h|h|h)
 ·cases h
 ·exact h (by simp[ByteArray.toList_eq])
 ·exact h hr
end
section
open Go.RowKit
set_option maxRecDepth 10000
variable {w:World} {m:Msg} {a:Option Addr} {c:Nat}
theorem opened_sealed (l:List UInt8):opened (sealed l)=(l,0):=by
 unfold opened sealed
 rw[if_neg (by simp[tail4_length])]
 have e:(l++tail4 (more 1 l)).length-4=l.length:=by simp[tail4_length]
 rw[e,List.take_left]
 simp
theorem unpM_pack (m:Msg) (hr:RightP m) (wf:m.wf):unpM (packM m)=(m,0):=by
 unfold unpM packM
 rw[opened_sealed,if_pos rfl]
 exact unpT_raw m hr wf
end
end Go.Proofs.YtalagblioepadaaGreatDoor
