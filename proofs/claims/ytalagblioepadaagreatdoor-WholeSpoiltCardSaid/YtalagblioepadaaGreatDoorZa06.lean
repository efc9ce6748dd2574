/- The proof, part 6. -/
import Derived.Test.YtalagblioepadaaGreatDoorRows
import Derived.Test.YtalagblioepadaaGreatDoorZa02
import Derived.Test.YtalagblioepadaaGreatDoorZa01
import Derived.Test.YtalagblioepadaaGreatDoorZa04
namespace Go.Proofs.YtalagblioepadaaGreatDoor
section
open Go.RowKit
theorem conv4 (w:World) (x0 x1 x2 x3:Int) :
  (convert 51 9 (.slice (some ⟨w.heap.size,0,none⟩) 4 4)).run Tryz.prog (w.alloc (.cells #[.int .u8 x0,.int .u8 x1,.int .u8 x2,.int .u8 x3] 5))=.ok (.string (strOfNums [x0,x1,x2,x3])) (w.alloc (.cells #[.int .u8 x0,.int .u8 x1,.int .u8 x2,.int .u8 x3] 5)):=by
 refine run_convert_bytes_arg _ 51 5 Tryz.underlying51 Tryz.underlying5 w.heap.size 0 4 4 [x0,x1,x2,x3] rfl ?_ 9 Tryz.underlying9
 intro i hi
 match i,hi with
 | 0,_=>go_simp
 | 1,_=>go_simp
 | 2,_=>go_simp
 | 3,_=>go_simp
theorem sum_tail (a:Int) (h:0≤a∧a<4294967296) (w:World) :
  Calls Tryz.prog 269 #[.int .u32 a] w fun e w'=>e=.returned (.string ⟨(tail4 a).toArray⟩)∧Below w.heap.size w w':=by
 have hcv:=conv4
 have hs:strOfNums [a / 16777216,a / 65536%256,a / 256%256,a%256]=⟨(tail4 a).toArray⟩:=by
  unfold strOfNums tail4
  rw[show a / 16777216%256=a / 16777216 by omega]
  rfl
 go_enter Tryz.func269,Tryz.ntmps269
 go_wp2
 go_ret
 exact ⟨rfl,(Below.refl _ _).alloc (Nat.le_refl _) _⟩
theorem sum_round (p:Int×Int) (l m:List UInt8) (q:Int×Int) (hred:Red q) (hp:adl p l=q) :
  adl p (l++m)=((raw q m).1%65521,(raw q m).2%65521):=by
 rw[adl_append,hp]
 obtain ⟨h1,h2⟩:=raw_adl m q q (by unfold Red at hred;omega) (by unfold Red at hred;omega)
 exact Prod.ext h1.symm h2.symm
set_option maxRecDepth 100000 in
theorem sum_More (n:Int) (h:0≤n∧n<4294967296) (s:ByteArray) (hs:s.size≤maxLen) (w:World) :
  Calls Tryz.prog 313 #[.int .u32 n,.string s] w fun e w'=>e=.returned (.int .u32 (more n s.data.toList))∧w=w':=by
 unfold maxLen at hs
 have hb:bits .and .u32 n 65535=n%65536:=bits_mask .u32 32 (by decide) (fun m a b=>by rw[wrap_u32];omega) 16 (by decide) n h.1 h.2
 have Hb:=hid hb
 go_enter Tryz.func313,Tryz.ntmps313
 go_wp2
 go_loop [1,5,6] (fun s' lo hi=>∃ (t:ByteArray) (j:Nat) (p:Int×Int),s'=.string t∧t.size+j=s.size∧t.data.toList=s.data.toList.drop j∧adl (n%65536%65521,n / 65536%65521) (s.data.toList.take j)=p∧lo=.int .u32 p.1∧hi=.int .u32 p.2) (fun s' _ _=>strLen s')
 case atStart=>exact ⟨s,0,_,rfl,by omega,by simp,rfl,rfl,rfl⟩
 case round=>
  obtain ⟨t,j,p,rfl,hj,ht,hp,rfl,rfl⟩:=hrel
  clear hb
  have Hj:=hid hj
  have Ht:=hid ht
  have Hp:=hid hp
  have hj':t.size≤s.size:=by omega
  have hred:Red p:=by rw[←hp];exact red_adl _ _ (red_of n)
  clear hj ht hp
  by_cases h0:0<t.size
  ·by_cases h1:t.size≤5552
   ·go_wp2
    go_loop [5,6,22] (fun lo hi i=>∃ k:Nat,k≤t.size∧i=.int .i64 k∧lo=.int .u32 (raw p (t.data.toList.take k)).1∧hi=.int .u32 (raw p (t.data.toList.take k)).2) (fun _ _ i=>t.size-(intOf i).toNat)
    case atStart=>exact ⟨0,by omega,rfl,rfl,rfl⟩
    case round=>
     obtain ⟨k,hk,rfl,rfl,rfl⟩:=hrel
     have hin:=raw_in p (t.data.toList.take k) hred (by simp;omega)
     by_cases hlt:k<t.size
     ·have hts:=take_snoc t k (by omega)
      have hin2:(raw p (t.data.toList.take k)).2+((raw p (t.data.toList.take k)).1+(t[k].toNat:Int))≤4294690200:=by
       have:=(raw_in p (t.data.toList.take (k+1)) hred (by simp;omega)).2.2
       rwa [hts,raw_snoc] at this
      have Hs:=hid hts
      clear hts
      have hbyte:(0:Int)≤(t[k].toNat:Int)∧(t[k].toNat:Int)≤255:=by have:=t[k].toNat_lt;omega
      go_wp2
      go_round
      case rel=>exact ⟨k+1,by omega,by go_num,by rw[Hs.out,raw_snoc];rfl,by rw[Hs.out,raw_snoc];rfl⟩
      case measure=>simp[intOf];omega
     ·obtain rfl:k=t.size:=by omega
      have hnx:adl (n%65536%65521,n / 65536%65521) (s.data.toList.take (j+t.size))=((raw p (t.data.toList.take t.size)).1%65521,(raw p (t.data.toList.take t.size)).2%65521):=by
       rw[List.take_add,←Ht.out]
       exact sum_round _ _ _ _ hred Hp.out
      have Hn:=hid hnx
      clear hnx
      go_wp2
      go_round
      case rel=>exact ⟨ByteArray.empty,j+t.size,_,rfl,by have:=Hj.out;simp;omega,by rw[List.drop_eq_nil_of_le (by have:=Hj.out;simp;omega)];rfl,Hn.out,rfl,rfl⟩
      case measure=>simp[strLen];omega
   ·go_wp2
    go_loop [5,6,22] (fun lo hi i=>∃ k:Nat,k≤5552∧i=.int .i64 k∧lo=.int .u32 (raw p (t.data.toList.take k)).1∧hi=.int .u32 (raw p (t.data.toList.take k)).2) (fun _ _ i=>5552-(intOf i).toNat)
    case atStart=>exact ⟨0,by omega,rfl,rfl,rfl⟩
    case round=>
     obtain ⟨k,hk,rfl,rfl,rfl⟩:=hrel
     have hin:=raw_in p (t.data.toList.take k) hred (by simp;omega)
     by_cases hlt:k<5552
     ·have hts:=take_snoc t k (by omega)
      have hin2:(raw p (t.data.toList.take k)).2+((raw p (t.data.toList.take k)).1+(t[k].toNat:Int))≤4294690200:=by
       have:=(raw_in p (t.data.toList.take (k+1)) hred (by simp;omega)).2.2
       rwa [hts,raw_snoc] at this
      have Hs:=hid hts
      clear hts
      have hbyte:(0:Int)≤(t[k].toNat:Int)∧(t[k].toNat:Int)≤255:=by have:=t[k].toNat_lt;omega
      go_wp2
      go_round
      case rel=>exact ⟨k+1,by omega,by go_num,by rw[Hs.out,raw_snoc];rfl,by rw[Hs.out,raw_snoc];rfl⟩
      case measure=>simp[intOf];omega
     ·obtain rfl:k=5552:=by omega
      have hnx:adl (n%65536%65521,n / 65536%65521) (s.data.toList.take (j+5552))=((raw p (t.data.toList.take 5552)).1%65521,(raw p (t.data.toList.take 5552)).2%65521):=by
       rw[List.take_add,←Ht.out]
       exact sum_round _ _ _ _ hred Hp.out
      have Hn:=hid hnx
      clear hnx
      go_wp2
      go_round
      case rel=>exact ⟨t.extract 5552 t.size,j+5552,_,rfl,by have:=Hj.out;simp;omega,by rw[extract_end,Ht.out,List.drop_drop],Hn.out,rfl,rfl⟩
      case measure=>simp[strLen];omega
  ·have hm:more n s.data.toList=p.2*65536+p.1:=by
    have e:=Hp.out
    rw[List.take_of_length_le (by have:=Hj.out;simp;omega)] at e
    rw[more,e]
   have Hm:=hid hm
   clear hm
   have hr:(0≤p.1∧p.1<65521)∧(0≤p.2∧p.2<65521):=hred
   go_wp2
   go_ret
   refine ⟨ret_int ?_,rfl⟩
   rw[Hm.out]
   exact bits_join .u32 32 (by decide) (fun m a b=>by rw[wrap_u32];omega) 16 _ _ (by omega) (by omega) (by omega) (by omega) (by omega) (by omega)
end
section
open Go.RowKit
theorem sum_Of (s:ByteArray) (hs:s.size≤maxLen) (w:World) :
  Calls Tryz.prog 270 #[.string s] w fun e w'=>e=.returned (.int .u32 (more 1 s.data.toList))∧w=w':=by
 go_enter Tryz.func270,Tryz.ntmps270
 go_wp2_with (go_at_call 313;refine (sum_More _ (by omega) _ hs _).mono ?_;rintro e w' ⟨rfl,rfl⟩)
 go_ret
 exact ⟨rfl,rfl⟩
def sealed (l:List UInt8):List UInt8:=l++tail4 (more 1 l)
theorem tail4_length (n:Int):(tail4 n).length=4:=rfl
theorem sum_Seal (s:ByteArray) (hs:s.size≤1000000) (w:World) :
  Calls Tryz.prog 205 #[.string s] w fun e w'=>e=.returned (.string ⟨(sealed s.data.toList).toArray⟩)∧Below w.heap.size w w':=by
 have hl:(tail4 (more 1 s.data.toList)).length≤4:=Nat.le_refl _
 have hfin:s++⟨(tail4 (more 1 s.data.toList)).toArray⟩=⟨(sealed s.data.toList).toArray⟩:=by
  apply ByteArray.ext
  simp[sealed,ByteArray.data_append]
 have Hfin:=hid hfin
 clear hfin
 go_enter Tryz.func205,Tryz.ntmps205
 go_wp2_with (first|(go_at_call 270;refine (sum_Of _ (by simp[maxLen];omega) _).mono ?_;rintro e w' ⟨rfl,rfl⟩)|(go_at_call 269;refine (sum_tail _ (more_in _ _) _).mono ?_;rintro e w' ⟨rfl,hb⟩))
 go_ret
 exact ⟨by rw[←Hfin.out];rfl,hb⟩
theorem sealed_size (l:List UInt8):(ByteArray.mk (sealed l).toArray).size=l.length+4:=by
 simp[sealed,tail4_length,ByteArray.size]
def opened (l:List UInt8):List UInt8×Int:=
 if l.length<4 then ([],3) else if sealed (l.take (l.length-4))=l then (l.take (l.length-4),0) else ([],15)
theorem open_is (s:ByteArray) (m:Nat) (hm:s.size=m+4):opened s.data.toList=if (tail4 (more 1 (s.data.toList.take m)) == (s.extract m (m+4)).toList)=true then (s.data.toList.take m,0) else ([],15):=by
 have hl:s.data.toList.length=m+4:=by rw[←hm];simp
 have e1:(s.extract m (m+4)).toList=s.data.toList.drop m:=by
  rw[ByteArray.toList_eq,extract_data,List.take_of_length_le]
  simp;omega
 unfold opened
 rw[if_neg (by omega),show s.data.toList.length-4=m by omega,e1]
 have e2:sealed (s.data.toList.take m)=s.data.toList↔tail4 (more 1 (s.data.toList.take m))=s.data.toList.drop m:=by
  unfold sealed
  constructor
  ·intro h
   have:=congrArg (List.drop m) h
   rwa [List.drop_left' (by simp;omega)] at this
  ·intro h
   rw[h,List.take_append_drop]
 by_cases h:tail4 (more 1 (s.data.toList.take m))=s.data.toList.drop m
 ·rw[if_pos (e2.2 h),if_pos (by simpa using h)]
 ·rw[if_neg (fun c=>h (e2.1 c)),if_neg (by simpa using h)]
theorem open_bad (s:ByteArray) (m:Nat) (hm:s.size=m+4) (h:(!tail4 (more 1 (s.data.toList.take m)) == (s.extract m (m+4)).toList)=true):opened s.data.toList=([],15):=by
 rw[open_is s m hm,if_neg (by simpa using h)]
theorem open_ok (s:ByteArray) (m:Nat) (hm:s.size=m+4) (h:(!tail4 (more 1 (s.data.toList.take m)) == (s.extract m (m+4)).toList)=false):opened s.data.toList=(s.data.toList.take m,0):=by
 rw[open_is s m hm,if_pos (by simpa using h)]
theorem of_list (s:ByteArray) (l:List UInt8) (h:s.data.toList=l):s=⟨l.toArray⟩:=by
 subst h;simp
theorem sum_Open (s:ByteArray) (hs:s.size≤maxLen) (w:World) :
  Calls Tryz.prog 239 #[.string s] w fun e w'=>e=.returned (.tuple #[.string ⟨(opened s.data.toList).1.toArray⟩,.int .i64 (opened s.data.toList).2])∧Below w.heap.size w w':=by
 unfold maxLen at hs
 by_cases h4:s.size<4
 ·have hf:opened s.data.toList=([],3):=by unfold opened;rw[if_pos (by simpa using h4)]
  have Hf:=hid hf
  clear hf
  go_enter Tryz.func239,Tryz.ntmps239
  go_wp2
  go_ret2
  exact ⟨by rw[Hf.out];rfl,Below.refl _ _⟩
 ·obtain ⟨m,hm⟩:∃ m,s.size=m+4:=⟨s.size-4,by omega⟩
  go_enter Tryz.func239,Tryz.ntmps239
  go_wp2
  refine wp_region_after (by kernel_rfl) (by kernel_rfl) ?_
  repeat (go_big_quiet_step (first|(go_at_call 270;exact Calls.after_same (sum_Of _ (by simp[maxLen];omega) _))|(go_at_call 269;exact Calls.after_of (sum_tail _ (more_in _ _) _))))
  refine wpQuiet_nil ?_
  intro _ hw2
  obtain ⟨x,hw3⟩:=hw2
  subst hw3
  go_wp2
  ·have hb:=open_bad s m hm (by assumption)
   have Hb:=hid hb
   clear hb
   go_ret2
   exact ⟨by rw[Hb.out];rfl,x.below⟩
  ·have hb:=open_ok s m hm (by assumption)
   have Hb:=hid hb
   clear hb
   go_ret2
   refine ⟨?_,x.below⟩
   rw[Hb.out]
   exact ret_two (congrArg Value.string (of_list (s.extract 0 m) (s.data.toList.take m) (by rw[extract_data];simp))) rfl
end
end Go.Proofs.YtalagblioepadaaGreatDoor
