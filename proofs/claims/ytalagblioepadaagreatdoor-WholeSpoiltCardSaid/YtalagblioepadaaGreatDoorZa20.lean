/- The proof, part 20. -/
import Derived.Test.YtalagblioepadaaGreatDoorRows
import Derived.Test.YtalagblioepadaaGreatDoorZa05
import Derived.Test.YtalagblioepadaaGreatDoorZa07
import Derived.Test.YtalagblioepadaaGreatDoorZa01
import Derived.Maps.AppendAt
import Derived.RangeFuncBox
import Derived.Laws.BitsAllLaws
namespace Go.Proofs.YtalagblioepadaaGreatDoor
section
open Go.RowKit
theorem info_u8:(Tryz.prog.info? 5).map (fun i=>(i.zero,i.size,i.bytes))=some (some (.int .u8 0),1,1):=by kernel_rfl
def byteV (c:UInt8):Value:=.int .u8 c.toNat
theorem conv_own {w:World} {base n:Nat} {v:Value} (l:List UInt8) (h:w.ownsRow base 5 1 v n (l.map byteV)) :
  (convert 51 9 v).run Tryz.prog w=.ok (.string ⟨l.toArray⟩) w:=by
 obtain ⟨hl,hv⟩:=id h
 simp at hl
 rcases hv with ⟨rfl,rfl⟩|⟨g,cap,cur,rfl,_⟩
 ·obtain rfl:l=[]:=List.length_eq_zero_iff.1 hl
  rw[run_convert_bytes_nil w 51 5 Tryz.underlying51 Tryz.underlying5 0 0 9 Tryz.underlying9]
  rfl
 ·subst hl
  refine run_convert_bytes_back w 51 9 5 ⟨g,0,none⟩ cap l Tryz.underlying51 Tryz.underlying5 Tryz.underlying9 fun j hj=>?_
  rw[addr_add,Nat.zero_add,h.cellAt j (by simpa using hj)]
  simp[hj,byteV]
theorem own_snoc {w:World} {base:Nat} {v:Value} {acc:List UInt8} {x:Int} (c:UInt8) (h:w.ownsRow base 5 1 v (acc.length+1) (acc.map byteV++[.int .u8 x])) (hx:x=c.toNat) :
  w.ownsRow base 5 1 v (acc++[c]).length ((acc++[c]).map byteV):=by
 simpa[byteV,hx] using h
set_option maxRecDepth 100000 in
theorem pack_Number (N:Nat) (hN:N<two64) (w:World) :
  Calls Tryz.prog 267 #[.int .u64 N] w fun e w'=>e=.returned (.string ⟨(num N).toArray⟩)∧Below w.heap.size w w':=by
 obtain ⟨i0,hi,hz0,hz1,hz2⟩:=info_parts info_u8
 have hlen:=num_len10 N hN
 go_enter Tryz.func267,Tryz.ntmps267
 go_wp2
 go_loopw [0,3] (fun n v wr=>∃ (m:Nat) (acc:List UInt8),n=.int .u64 m∧m≤N∧num N=acc++num m∧wr.ownsRow w.heap.size 5 1 v acc.length (acc.map byteV)∧Below w.heap.size w wr)
  (fun n _ _=>(intOf n).toNat)
 case atStart=>exact ⟨N,[],rfl,Nat.le_refl _,rfl,World.ownsRow_nil _ _ _ _,Below.refl _ _⟩
 case round=>
  obtain ⟨m,acc,rfl,hm,hacc,hown,hb⟩:=hrel
  have hal:acc.length≤10:=by have:=congrArg List.length hacc;simp at this;omega
  have Hacc:=hid hacc
  clear hacc
  by_cases hlt:m<128
  ·go_wp2_with (at_builtin;refine wpList_append_own _ rfl (.tmp 15) (.tmp 18) 51 rfl w.heap.size 5 i0 (.int .u8 0) 1 1 Tryz.underlying51 hi hz0 hz1 hz2 rfl (by decide) _ _ _ rfl (hown.alloc _) ⟨wr.heap.size,0,none⟩ 1 1 [.int .u8 (m:Int)] rfl rfl (cell_one_new _ _ _) (by simp[Value.oneCell']) (by unfold maxLen;omega) (by omega) (by have:=hb.size;simp;omega) ?_)
   intro v' w1 hown' hgrow _
   have hb1:Below w.heap.size w w1:=(hb.alloc hb.size _).grown hgrow (by simpa using Nat.le_succ_of_le hb.size) (fun k e=>((hown.alloc (.cells #[.int .u8 (m:Int)] 5)).lt k e).1)
   have hcv:=conv_own _ (own_snoc (UInt8.ofNat m) hown' (by simp;omega))
   have hfin:num N=acc++[UInt8.ofNat m]:=by rw[Hacc.out,num_small m hlt]
   have Hfin:=hid hfin
   clear hfin hown' hgrow hown
   go_wp2
   go_ret
   exact ⟨by rw[Hfin.out];rfl,hb1⟩
  ·have hor:bits .or .u8 ((m:Int)%128) 128=(m:Int)%128+128:=by
    have h1:=u8_or (((m:Int)%128)) 128 (by omega) (by omega) (by decide) (by decide)
    have h2:=nat_join 7 128 ((m:Int)%128).toNat (by decide) (by omega)
    rw[h1,Nat.or_comm]
    simp only[Int.reduceToNat] at *
    omega
   go_wp2_with (at_builtin;refine wpList_append_own _ rfl (.tmp 8) (.tmp 13) 51 rfl w.heap.size 5 i0 (.int .u8 0) 1 1 Tryz.underlying51 hi hz0 hz1 hz2 rfl (by decide) _ _ _ rfl (hown.alloc _) ⟨wr.heap.size,0,none⟩ 1 1 [.int .u8 ((m:Int)%128+128)] rfl rfl (cell_one_new _ _ _) (by simp[Value.oneCell']) (by unfold maxLen;omega) (by omega) (by have:=hb.size;simp;omega) ?_)
   intro v' w1 hown' hgrow _
   have hb1:Below w.heap.size w w1:=(hb.alloc hb.size _).grown hgrow (by simpa using Nat.le_succ_of_le hb.size) (fun k e=>((hown.alloc (.cells #[.int .u8 ((m:Int)%128+128)] 5)).lt k e).1)
   have hwr:IntKind.u64.wrap ((m:Int) / 128)=(m:Int) / 128:=IntWalk.u64_in _ (by unfold two64 at hN;omega)
   have hnx:num N=(acc++[UInt8.ofNat (m%128+128)])++num (m / 128):=by rw[Hacc.out,num_big m hlt];simp
   have hown2:=own_snoc (UInt8.ofNat (m%128+128)) hown' (by simp;omega)
   have Hnx:=hid hnx
   clear hnx hown' hgrow hown
   go_wp2
   go_roundw
   case rel=>exact ⟨m / 128,_,by go_num,Nat.le_trans (Nat.div_le_self _ _) hm,Hnx.out,hown2,hb1⟩
   case measure=>
    have hd:m / 128<m:=Nat.div_lt_self (by omega) (by decide)
    simp[intOf]
    omega
end
section
open Go.RowKit
theorem shl_same (k:Nat) (x:Int) (hk:k≤9) (hx:0≤x∧x<128) (h:¬ (k=9∧1<x)):(x*2 ^ (7*k) / 2 ^ (7*k) != x)=false∧IntKind.u64.wrap (x*2 ^ (7*k))=x*2 ^ (7*k):=by
 rw[wrap_u64]
 rcases (show k=0∨k=1∨k=2∨k=3∨k=4∨k=5∨k=6∨k=7∨k=8∨k=9 by omega) with rfl|rfl|rfl|rfl|rfl|rfl|rfl|rfl|rfl|rfl<;>(simp only[Nat.reduceMul,Int.reducePow,bne_eq_false_iff_eq];omega)
theorem shl_lost (k:Nat) (hk:k=9) (x:Int) (hx:1<x∧x<128):(IntKind.u64.wrap (x*2 ^ (7*k)) / 2 ^ (7*k) != x)=true:=by
 subst hk
 rw[wrap_u64]
 simp only[Nat.reduceMul,Int.reducePow,bne_iff_ne,ne_eq]
 omega
theorem or_fits (k a x:Nat) (hk:k≤9) (hx:x<128) (h:¬ (k=9∧1<x)) (ha:a<128 ^ k):bits .or .u64 (a:Int) ((x:Int)*2 ^ (7*k))=((a+x*128 ^ k:Nat):Int):=by
 have hf:=(rd_fits k a x hk hx h ha).1
 have e:((x:Int)*2 ^ (7*k))=((x*128 ^ k:Nat):Int):=by
  rw[Nat.pow_mul 2 7 k |> fun (h:2 ^ (7*k)=(2 ^ 7) ^ k)=>show (128:Nat) ^ k=2 ^ (7*k) from h.symm]
  simp
 have e2:128 ^ k=2 ^ (7*k):=(Nat.pow_mul 2 7 k).symm
 unfold two64 at hf
 rw[e,u64_or_nat _ _ (by omega) (by omega),Nat.or_comm,nat_join (7*k) (x*128 ^ k) a (by rw[e2];exact Nat.mul_mod_left _ _) (by rw[←e2];exact ha),Nat.add_comm]
set_option maxRecDepth 100000 in
set_option maxHeartbeats 1000000 in
theorem pack_ReadNumber (s:ByteArray) (hs:s.size≤maxLen) (w:World) :
  Calls Tryz.prog 302 #[.string s] w fun e w'=>e=.returned (.tuple #[.int .u64 ((rdNum s.data.toList).1:Int),.int .i64 ((rdNum s.data.toList).2.1:Int),.int .i64 (rdNum s.data.toList).2.2])∧w=w':=by
 unfold maxLen at hs
 go_enter Tryz.func302,Tryz.ntmps302
 go_wp2_with fail
 go_loop [5,11] (fun n i=>∃ k a:Nat,k≤s.size∧k≤10∧i=.int .i64 k∧n=.int .u64 a∧a<128 ^ k∧a<two64∧rdNum s.data.toList=rdF k a (s.data.toList.drop k)) (fun _ i=>s.size-(intOf i).toNat)
 case atStart=>exact ⟨0,0,by omega,by omega,rfl,rfl,by decide,by decide,rfl⟩
 case round=>
  obtain ⟨k,a,hk,hk10,rfl,rfl,ha,ha64,hr⟩:=hrel
  by_cases hlt:k<s.size
  ·have hd:s.data.toList.drop k=s[k] :: s.data.toList.drop (k+1):=by
    rw[List.drop_eq_getElem_cons (by simpa using hlt)];rfl
   rw[hd] at hr
   have Ha:=hid ha
   have hbyte:(0:Int)≤(s[k].toNat:Int)∧(s[k].toNat:Int)≤255:=by have:=s[k].toNat_lt;omega
   clear hd ha
   by_cases hw:9<k∨(k=9∧1<s[k].toNat%128)
   ·rw[rdF_wide _ _ _ _ hw] at hr
    have Hr:=hid hr
    clear hr
    by_cases h9:9<k
    ·clear hw
     go_wp2_with fail
     go_ret3
     exact ⟨by rw[Hr.out];rfl,rfl⟩
    ·have hl:=shl_lost k (by omega) ((s[k].toNat:Int)%128) (by omega)
     have hk9:k≤9:=by omega
     clear hw
     go_wp2_with fail
     go_ret3
     exact ⟨by rw[Hr.out];rfl,rfl⟩
   ·have hk9:k≤9:=by omega
    obtain ⟨hl,hl2⟩:=shl_same k ((s[k].toNat:Int)%128) hk9 (by omega) (by omega)
    by_cases h2:s[k].toNat=0∧0<k
    ·rw[rdF_nought _ _ _ _ hw h2] at hr
     have Hr:=hid hr
     have h0:(s[k].toNat:Int)<128:=by omega
     have h1:0<k:=h2.2
     have h3:((s[k].toNat:Int)%128 == 0)=true:=by rw[beq_iff_eq];omega
     clear hr hw h2
     go_wp2_with fail
     go_ret3
     exact ⟨by rw[Hr.out];rfl,rfl⟩
    ·have hor:bits .or .u64 (a:Int) ((s[k].toNat:Int)%128*2 ^ (7*k))=((a+s[k].toNat%128*128 ^ k:Nat):Int):=or_fits k a (s[k].toNat%128) hk9 (Nat.mod_lt _ (by decide)) (by omega) Ha.out
     have hfit:=rd_fits k a (s[k].toNat%128) hk9 (Nat.mod_lt _ (by decide)) (by omega) Ha.out
     by_cases h4:s[k].toNat<128
     ·rw[rdF_end _ _ _ _ hw h2 h4] at hr
      have Hr:=hid hr
      have hck:s[k].toNat%128=s[k].toNat:=Nat.mod_eq_of_lt h4
      by_cases h5:s[k].toNat=0
      ·have horz:bits .or .u64 (a:Int) 0=(a:Int):=by
        have h:=u64_or_nat a 0 (by unfold two64 at ha64;exact ha64) (by decide)
        simpa using h
       have hk0:¬ 0<k:=fun c=>h2 ⟨h5,c⟩
       have hz1:((s[k].toNat:Int)%128 == 0)=true:=by rw[beq_iff_eq];omega
       have hz2:a+s[k].toNat%128*128 ^ k=a:=by rw[h5];simp
       rw[hz2] at Hr
       clear hr hw h2 hor hfit hck hz2
       go_wp2_with fail
       go_ret3
       exact ⟨by rw[Hr.out];rfl,rfl⟩
      ·have hz1:((s[k].toNat:Int)%128 == 0)=false:=by rw[beq_eq_false_iff_ne];omega
       clear hr hw h2 hck
       go_wp2_with fail
       go_ret3
       exact ⟨by rw[Hr.out];rfl,rfl⟩
     ·rw[rdF_on _ _ _ _ hw h2 h4] at hr
      have Hr:=hid hr
      clear hr hw h2
      go_wp2_with fail
      go_round
      case rel=>exact ⟨k+1,_,by omega,by omega,by go_num,rfl,hfit.2,hfit.1,Hr.out⟩
      case measure=>simp[intOf];omega
  ·have h0:s.data.toList.drop k=[]:=List.drop_eq_nil_of_le (by simp;omega)
   rw[h0] at hr
   have Hr:=hid hr
   clear hr h0 ha
   go_wp2_with fail
   go_ret3
   exact ⟨by rw[Hr.out];rfl,rfl⟩
end
section
open Go.RowKit
theorem u64_nat (a:Nat) (h:a<two64):IntKind.u64.wrap (a:Int)=(a:Int):=by unfold two64 at h;exact IntWalk.u64_in _ (by omega)
end
section
open Go.RowKit
theorem xor_ones (a:Nat) (h:a<18446744073709551616):a ^^^ 18446744073709551615=18446744073709551615-a:=by
 have e:(BitVec.ofNat 64 a ^^^ BitVec.allOnes 64).toNat=(~~~ BitVec.ofNat 64 a).toNat:=by rw[BitVec.xor_allOnes]
 rw[BitVec.toNat_xor,BitVec.toNat_not,BitVec.toNat_ofNat,BitVec.toNat_allOnes,Nat.mod_eq_of_lt (by omega)] at e
 simpa using e
theorem zig (n:Int) (h:-9223372036854775808≤n∧n≤9223372036854775807):bits .xor .u64 (IntKind.u64.wrap (wrap64 (n*2))) (IntKind.u64.wrap (n / 9223372036854775808))=(zz n:Int):=by
 rw[wrap_u64,wrap_u64]
 by_cases h0:0≤n
 ·have e1:wrap64 (n*2)%18446744073709551616=2*n:=by unfold wrap64;omega
  have e2:n / 9223372036854775808%18446744073709551616=0:=by omega
  rw[e1,e2,u64_xor _ _ (by omega) (by omega) (by decide) (by decide)]
  unfold zz
  rw[if_pos h0]
  simp
 ·have e1:wrap64 (n*2)%18446744073709551616=2*n+18446744073709551616:=by unfold wrap64;omega
  have e2:n / 9223372036854775808%18446744073709551616=18446744073709551615:=by omega
  rw[e1,e2,u64_xor _ _ (by omega) (by omega) (by decide) (by decide)]
  have e3:(18446744073709551615:Int).toNat=18446744073709551615:=rfl
  rw[e3,xor_ones _ (by omega)]
  unfold zz
  rw[if_neg h0]
  omega
theorem ofInt_neg1:BitVec.ofInt 64 (-1)=BitVec.allOnes 64:=by decide
theorem zag (a:Nat) (h:a<two64):bits .xor .i64 (wrap64 ((a:Int) / 2)) (wrap64 (-wrap64 (bits .and .u64 (a:Int) 1)))=unzz a:=by
 unfold two64 at h
 have e0:bits .and .u64 (a:Int) 1=((a%2:Nat):Int):=by
  have h1:=u64_and_nat a 1 h (by decide)
  rw[nat_mask1] at h1
  exact h1
 have e1:wrap64 ((a:Int) / 2)=((a / 2:Nat):Int):=by unfold wrap64;omega
 rw[e0,e1]
 unfold unzz
 have hx:(BitVec.ofInt 64 ((a / 2:Nat):Int)).toNat=a / 2:=ofInt_u64 _ (by omega)
 by_cases h2:a%2=0
 ·rw[if_pos h2,h2]
  have e2:wrap64 (-wrap64 ((0:Nat):Int))=((0:Nat):Int):=by unfold wrap64;omega
  rw[e2]
  show IntKind.i64.wrap ((BitVec.ofInt 64 ((a / 2:Nat):Int) ^^^ BitVec.ofInt 64 ((0:Nat):Int)).toNat:Int)=_
  rw[BitVec.toNat_xor,hx,ofInt_u64 0 (by decide),Nat.xor_zero,IntKind.wrap_i64]
  omega
 ·rw[if_neg h2,show a%2=1 by omega]
  have e2:wrap64 (-wrap64 ((1:Nat):Int))=-1:=by unfold wrap64;omega
  rw[e2]
  show IntKind.i64.wrap ((BitVec.ofInt 64 ((a / 2:Nat):Int) ^^^ BitVec.ofInt 64 (-1)).toNat:Int)=_
  rw[ofInt_neg1,BitVec.xor_allOnes,BitVec.toNat_not,hx,IntKind.wrap_i64]
  omega
theorem pack_Signed (n:Int) (h:-9223372036854775808≤n∧n≤9223372036854775807) (w:World) :
  Calls Tryz.prog 204 #[.int .i64 n] w fun e w'=>e=.returned (.string ⟨(num (zz n)).toArray⟩)∧Below w.heap.size w w':=by
 have hz:=zig n h
 have hz2:=zz_in n h
 clear h
 go_enter Tryz.func204,Tryz.ntmps204
 go_wp2_with fail
 refine (pack_Number _ hz2 _).mono ?_
 rintro e w1 ⟨rfl,hb⟩
 go_wp2_with fail
 go_ret
 exact ⟨rfl,hb⟩
theorem pack_ReadSigned (s:ByteArray) (hs:s.size≤maxLen) (w:World) :
  Calls Tryz.prog 245 #[.string s] w fun e w'=>e=.returned (.tuple #[.int .i64 (unzz (rdNum s.data.toList).1),.int .i64 ((rdNum s.data.toList).2.1:Int),.int .i64 (rdNum s.data.toList).2.2])∧w=w':=by
 have hz:=zag _ (rd_in s.data.toList).1
 go_enter Tryz.func245,Tryz.ntmps245
 go_wp2_with fail
 refine (pack_ReadNumber s hs _).mono ?_
 rintro e w' ⟨rfl,rfl⟩
 go_wp2_with fail
 go_ret3
 exact ⟨rfl,rfl⟩
theorem conv1_at (W:World) (B:Nat) (c:UInt8) (hc:W.cell? ⟨B,0,none⟩=some (.int .u8 c.toNat)) :
  (convert 51 9 (.slice (some ⟨B,0,none⟩) 1 1)).run Tryz.prog W=.ok (.string ⟨#[c]⟩) W:=by
 have:=run_convert_bytes_back (P:=Tryz.prog) W 51 9 5 ⟨B,0,none⟩ 1 [c] Tryz.underlying51 Tryz.underlying5 Tryz.underlying9 (by
  intro j hj
  obtain rfl:j=0:=by simpa using hj
  simpa[addr_add] using hc)
 simpa using this
end
end Go.Proofs.YtalagblioepadaaGreatDoor
