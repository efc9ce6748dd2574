/- The proof, part 36. -/
import Derived.Test.YtalagblioepadaaGreatDoorZa29
import Derived.Shelf.SlicesE.DeleteFunc
import Derived.Lib.SliceRun
import Derived.Lib.OwnBridge
import Derived.Sort.OwnSortedInts
import Derived.Test.YtalagblioepadaaGreatDoorZa32
namespace Go.Proofs.YtalagblioepadaaGreatDoor
section
open Go.RowKit
def del_ren:Go.Shelf.Ren:=⟨fun|10=>222|6=>289|n=>n,fun|0=>0|3=>3|4=>4|22=>141|23=>3|25=>228|n=>n,fun|n=>n⟩
theorem del_lay:SlLaysH.n10 Tryz.prog del_ren:={
 mixed:=by kernel_rfl
 f6:=⟨Tryz.f289.name,by decide,Tryz.func289.trans (congrArg some (by kernel_rfl))⟩
 f10:=⟨Tryz.f222.name,by decide,Tryz.func222.trans (congrArg some (by kernel_rfl))⟩
 t0:=Tryz.underlying0
 a0:=Tryz.isAgg0
 z0:=Tryz.sizeOf0
 v0:=Tryz.zeroValue0
 t3:=Tryz.underlying3
 a3:=Tryz.isAgg3
 z3:=Tryz.sizeOf3
 v3:=Tryz.zeroValue3
 t4:=Tryz.underlying4
 a4:=Tryz.isAgg4
 z4:=Tryz.sizeOf4
 v4:=Tryz.zeroValue4
 t22:=Tryz.underlying141
 a22:=Tryz.isAgg141
 z22:=Tryz.sizeOf141
 v22:=Tryz.zeroValue141
 a23:=Tryz.isAgg3
 z23:=Tryz.sizeOf3
 t25:=Tryz.underlying228
 a25:=Tryz.isAgg228
 z25:=Tryz.sizeOf228
 v25:=Tryz.zeroValue228 }
theorem del_nil (fv:Value) (w:World) :
  Calls Tryz.prog 222 #[.slice none 0 0,fv] w fun e w'=>e=.returned (.slice none 0 0)∧w'=w:=by
 have hI:=AnyE.slices_IndexFunc_empty (P:=Tryz.prog) (ρ:=del_ren) { del_lay with } none 0 fv w
 change Calls Tryz.prog 289 _ _ _ at hI
 go_enter Tryz.func222,Tryz.ntmps222
 go_wp2_with fail
 refine hI.mono ?_
 rintro e w' ⟨rfl,rfl⟩
 go_wp2_with fail
 go_ret
 exact ⟨rfl,rfl⟩
theorem del_ints {w:World} {base n:Nat} {v:Value} (zs:List Int) (hown:w.ownsRow base 3 1 v n (zs.map (Value.int .i64))) (hn:n≤4096) (p:Int→Bool) (gf:Nat) (lb:Array Value)
  (hgf:∀ args w,(callFunc gf args).run Tryz.prog w=.ok (.enter gf args) w)
  (hcl:∀ (W:World) (x:Int),Keeps (fun b=>v.ownBlock=some b) w W→Calls Tryz.prog gf (#[.int .i64 x]++lb) W fun e w'=>e=.returned (.bool (p x))∧∃ q,w'=W.drewN q) :
  Calls Tryz.prog 222 #[v,.func (.func gf) #[] lb] w fun e w'=>∃ v',e=.returned v'∧w'.ownsRow base 3 1 v' (zs.filter fun x=>!p x).length ((zs.filter fun x=>!p x).map (Value.int .i64))∧Keeps (fun b=>v.ownBlock=some b) w w':=by
 by_cases hv:v=.slice none 0 0
 ·subst hv
  have hz:zs=[]:=by
   rcases hown.2 with ⟨_,h⟩|⟨g,cap,cur,h,_⟩
   ·exact List.eq_nil_of_length_eq_zero (by have:=hown.1;simp at this;omega)
   ·cases h
  subst hz
  refine (del_nil _ w).mono ?_
  rintro e w' ⟨rfl,rfl⟩
  exact ⟨_,rfl,own_nil _ _ _ _,Keeps.refl _ _⟩
 ·obtain ⟨g,cap,rfl,hbg,hgw,hnc,hcm,hzl,hH⟩:=Lib.holds_of_ownsRow hown hv
  subst hzl
  have hkW:∀ (W:World),Keeps (fun b=>b=g) w W→Keeps (fun b=>(Value.slice (some ⟨g,0,none⟩) zs.length cap).ownBlock=some b) w W:=fun W h=>h.mono fun k _ e=>by subst e;rfl
  have hD:=AnyE.slices_DeleteFunc (P:=Tryz.prog) (ρ:=del_ren) del_lay (Value.int .i64) (fun _=>rfl) p gf lb hgf 0 Tryz.zeroValue3 g 0 cap zs.toArray w
   (fun W x hb=>hcl W x (hkW W (Keeps.of_below hb (fun k h1 h2=>by omega))))
   (fun n os dk x _=>hcl _ x (hkW _ ((Keeps.refl _ w).grown (grownBy_sortedI dk) (fun k hk=>.inl (by cases hk;rfl)))))
   hH (by simp;omega) (by simpa using hnc)
  change Calls Tryz.prog 222 _ _ _ at hD
  rw[List.size_toArray] at hD
  refine hD.mono ?_
  rintro e w' ⟨rfl,q,rfl⟩
  have hle:=List.length_filter_le (fun x=>!p x) zs
  have ho:=Lib.ownsRow_putRow (q:=q) (k:=(zs.filter fun x=>!p x).length) (ys:=(zs.filter fun x=>!p x)++List.replicate (zs.length-(zs.filter fun x=>!p x).length) 0) hown (by simp;omega) hle
  refine ⟨_,rfl,?_,hkW _ ?_⟩
  ·rw[List.take_left] at ho
   exact ho
  ·have hg:=grownBy_sortedI (w:=w) (g:=g) (n:=q) (os:=#[]) ((zs.filter fun x=>!p x)++List.replicate (zs.length-(zs.filter fun x=>!p x).length) 0).toArray
   rw[Sort.grow_empty] at hg
   exact (Keeps.refl _ w).grown hg (fun k hk=>.inl (by cases hk;rfl))
end
section
open Go.RowKit
variable {w w':World} {r B size first:Nat} {L:List (Nat×Int)}
theorem is_Get (h:IsWin w r B size first L) (f:Int) (hr:-9223372036854775808≤f∧f≤9223372036854775807) :
  Calls Tryz.prog 226 #[.pointer (some ⟨r,0,none⟩),.int .i64 f] w fun e w'=>e=.returned (.tuple #[(Value.int .u8 ((lookI L f).getD 0)),.bool (lookI L f).isSome])∧∃ q,w'=w.drewN q:=by
 obtain ⟨S,h,h4⟩:=h
 by_cases hf:inW first size f
 ·obtain ⟨n,rfl⟩:=Int.eq_ofNat_of_zero_le (show 0≤f by unfold inW at hf;omega)
  rw[lookI_nat]
  rcases hl:lookL L n with _|x
  ·obtain ⟨y,hy⟩:=h4.none' n (by unfold inW at hf;omega) (by unfold inW at hf;omega) (by unfold inW at hf;omega) hl
   exact win_Get h n _ n rfl hf rfl y false hy
  ·exact win_Get h n _ n rfl hf rfl x true (h4.some' n x hl)
 ·rw[lookI_none (fun p hp e=>hf (by have:=h4.isin p hp;unfold inW;omega))]
  exact win_Get_no h f hf hr
theorem is_Move_no (h:IsWin w r B size first L) (f:Int) (hf:f<first∨1073741824<f) :
  Calls Tryz.prog 221 #[.pointer (some ⟨r,0,none⟩),.int .i64 f] w fun e w'=>e=.returned (.int .i64 0)∧IsWin w' r B size first L∧Keeps (fun _=>False) w w':=by
 obtain ⟨S,h,h4⟩:=h
 have h1:=(h.keeps (T:=fun _=>False) ((Keeps.refl _ w).alloc (.cells #[.int .i64 f] 3)) id id)
 have c0:=h1.c0
 have cf:(w.alloc (.cells #[.int .i64 f] 3)).cell? ⟨w.heap.size,0,none⟩=some (.int .i64 f):=cell_one_new' _ _ _
 have hk:Keeps (fun _=>False) w (w.alloc (.cells #[.int .i64 f] 3)):=(Keeps.refl _ w).alloc _
 by_cases h2:f<first
 ·clear hf
  go_enter Tryz.func221,Tryz.ntmps221
  go_upto_region 1 with fail
  generalize w.alloc (.cells #[.int .i64 f] 3)=w1 at *
  go_quiet (fail)
  go_wp2
  go_ret
  exact ⟨rfl,⟨S,h1.drew _,h4⟩,hk.drewN _⟩
 ·have h3:1073741824<f:=by omega
  have h5:(first:Int)≤f:=by omega
  clear hf
  go_enter Tryz.func221,Tryz.ntmps221
  go_upto_region 1 with fail
  generalize w.alloc (.cells #[.int .i64 f] 3)=w1 at *
  go_quiet (fail)
  go_wp2
  go_ret
  exact ⟨rfl,⟨S,h1.drew _,h4⟩,hk.drewN _⟩
theorem move1 (Bc:Nat) (n x:Int) (W:World) (hc:W.cell? ⟨Bc,0,none⟩=some (.int .i64 n)) :
  Calls Tryz.prog 287 #[.int .i64 x,.pointer (some ⟨Bc,0,none⟩)] W fun e w'=>e=.returned (.bool (decide (n≤x)))∧∃ q,w'=W.drewN q:=by
 go_enter Tryz.func287,Tryz.ntmps287
 go_wp2
 all_goals
  go_ret
  exact ⟨by simp_all,0,rfl⟩
theorem WinAt.setFirst {S:List (Int×Bool)} (h:WinAt w r B size first S) (n:Nat) (hn:n≤1073741824):WinAt (w.setCell ⟨r,0,none⟩ (.int .i64 (n:Int))) r B size n S:=
 ⟨by simpa using blk_set h.head 0 (.int .i64 (n:Int)),blk_other h.body (Ne.symm h.ne) _,h.slen,h.pos,h.most,hn,h.ne⟩
set_option maxHeartbeats 800000 in
theorem is_Move (h:IsWin w r B size first L) (n:Nat) (f:Int) (hfn:f=n) (hf:first≤n∧n≤1073741824) :
  Calls Tryz.prog 221 #[.pointer (some ⟨r,0,none⟩),.int .i64 f] w fun e w'=>e=.returned (.int .i64 (((L.filter fun p=>decide (p.1<n)).length:Nat):Int))∧IsWin w' r B size n (L.filter fun p=>!decide (p.1<n))∧Keeps (fun b=>b=r∨b=B) w w':=by
 obtain ⟨S,h,h4⟩:=h
 have hk0:Keeps (fun _=>False) w (w.alloc (.cells #[.int .i64 f] 3)):=(Keeps.refl _ w).alloc _
 have h1:=h.keeps hk0 id id
 have c0:=h1.c0
 have cf:(w.alloc (.cells #[.int .i64 f] 3)).cell? ⟨w.heap.size,0,none⟩=some (.int .i64 f):=cell_one_new' _ _ _
 have hs1:(w.alloc (.cells #[.int .i64 f] 3)).heap.size=w.heap.size+1:=by simp
 have lr:=blk_lt h.head
 have lB:=blk_lt h.body
 have h5:(first:Int)≤f:=by omega
 have h6:f≤1073741824:=by omega
 have hd:=h4.drop fun k=>decide (k<n)
 have hm:=hd.move n hf.1 (fun p hp=>by have:=(List.mem_filter.1 hp).2;simpa using this)
 have hll:((L.map (·.1)).filter fun k:Nat=>decide (k<n)).length=(L.filter fun p=>decide (p.1<n)).length:=by rw[List.filter_map,List.length_map];rfl
 have hin:∀ k∈(L.map (·.1)).filter fun k:Nat=>decide (k<n),inW first size (k:Int):=fun k hk=>by
  obtain ⟨p,hp,rfl⟩:=List.mem_map.1 (List.mem_filter.1 hk).1
  have:=h4.isin p hp
  unfold inW
  omega
 have hlen:L.length≤4096:=Nat.le_trans (IsWin.le ⟨S,h,h4⟩).1 h.most
 have hfil:((natsL (L.map (·.1))).filter fun x=>!decide (f≤x))=natsL ((L.map (·.1)).filter fun k:Nat=>decide (k<n)):=by
  unfold natsL
  rw[List.filter_map]
  congr 1
  refine List.filter_congr fun k _=>?_
  simp only[Function.comp_apply]
  rw[Bool.eq_iff_iff]
  simp
  omega
 rw[←hll]
 have Hfn:=hid hfn
 clear hll hd hfn
 generalize ((L.map (·.1)).filter fun k:Nat=>decide (k<n))=fs at *
 have hll2:(natsL fs).length=fs.length:=by simp[natsL]
 have Hin:=hid hin
 have Hfil:=hid hfil
 have Hll:=hid hll2
 have Hn:=hid hf
 have hml:(L.map (·.1)).length≤4096:=by simpa using hlen
 clear hin hfil hll2 hf
 go_enter Tryz.func221,Tryz.ntmps221
 go_upto_region 1 with fail
 generalize w.alloc (.cells #[.int .i64 f] 3)=w1 at *
 generalize w.heap.size=Bc at *
 go_quiet (fail)
 go_wp2_with fail
 refine (is_Frames ⟨S,h1.drew nq,h4⟩).mono ?_
 rintro e w3 ⟨v,rfl,ho3,hb3⟩
 have hk3:Keeps (fun _=>False) w1 w3:=((Keeps.refl _ w1).drewN nq).then_below hb3
 have cf3:=hk3.cell cf id
 have hs3:(w1.drewN nq).heap.size=w1.heap.size:=rfl
 rw[hs3] at ho3
 clear hs3 hb3
 go_wp2_with fail
 refine (del_ints (natsL (L.map (·.1))) ho3 hml (fun x=>decide (f≤x)) 287 #[.pointer (some ⟨Bc,0,none⟩)] (enters_of Tryz.func287 (by kernel_rfl) rfl)
  (fun W x hk=>move1 Bc f x W (hk.cell cf3 (fun e=>by have:=(ho3.lt Bc e).1;omega)))).mono ?_
 rintro e w4 ⟨v4,rfl,ho4,hk4⟩
 rw[Hfil.out,Hll.out] at ho4
 have hk34:∀ b,b<w1.heap.size→¬ v.ownBlock=some b:=fun b hb e=>by have:=(ho3.lt b e).1;omega
 obtain ⟨A,cap,rfl,hv,hb⟩:=vals_of_own ho4
 have hk14:Keeps (fun b=>w1.heap.size≤b) w1 w4:=(hk3.mono (fun _ _ h=>h.elim)).trans (hk4.mono fun b _ e=>(ho3.lt b e).1 |> fun h=>by omega)
 have cf4:=hk14.cell cf (by simp;omega)
 have h14:=h1.keeps hk14 (by omega) (by omega)
 clear ho3 ho4 hk34 hk4 hk3 cf3
 go_wp2_with fail
 refine (win_drop h14 fs A cap hv (fun _ x hx=>by have:=(hb x hx).1;omega) Hin.out).mono ?_
 rintro e w5 ⟨rfl,h5,h6⟩
 have cf5:=h6.cell cf4 (by simp;omega)
 have c05:=h5.c0
 have g5:=blk_free h5.head 0
 have hset:=h5.setFirst n Hn.out.2
 rw[←Hfn.out] at hset
 have hkk:Keeps (fun b=>b=r∨b=B) w (w5.setCell ⟨r,0,none⟩ (.int .i64 f)):=
  (((keeps_any hk0).trans (hk14.mono fun b hb e=>by omega)).trans (h6.mono fun b _ e=>.inr e)).setCell (p:=⟨r,0,none⟩) (.inl rfl) _
 clear h5 h6 hk14 h14 h1
 go_wp2_with fail
 go_ret
 exact ⟨rfl,⟨_,hset,hm⟩,hkk⟩
end
section
open Go.RowKit
structure IsFeed (w:World) (D first next:Nat) (last:Int) (K U:List (Nat×Int)):Prop where
 head:w.heap[D+4]?=some (.cells #[.pointer (some ⟨D+1,0,none⟩),.pointer (some ⟨D+3,0,none⟩),.int .i64 next,.int .u8 last] 167 (0,0))
 known:IsWin w (D+1) D 64 first K
 used:IsWin w (D+3) (D+2) 64 first U
def Feeds (D b:Nat):Prop:=D≤b∧b≤D+4
variable {w w':World} {D first next:Nat} {last:Int} {K U:List (Nat×Int)}
namespace IsFeed
theorem keeps {S:Nat→Prop} (h:IsFeed w D first next last K U) (hk:Keeps S w w') (hs:∀ b,D≤b→b≤D+4→¬ S b):IsFeed w' D first next last K U:=
 ⟨hk.heap h.head (hs _ (by omega) (by omega)),h.known.keeps hk (hs _ (by omega) (by omega)) (hs _ (by omega) (by omega)),h.used.keeps hk (hs _ (by omega) (by omega)) (hs _ (by omega) (by omega))⟩
theorem keep (h:IsFeed w D first next last K U) (hk:Keeps (fun _=>False) w w'):IsFeed w' D first next last K U:=h.keeps hk (fun _ _ _=>id)
theorem drew (h:IsFeed w D first next last K U) (n:Nat):IsFeed (w.drewN n) D first next last K U:=h.keep ((Keeps.refl _ w).drewN n)
theorem c0 (h:IsFeed w D first next last K U):w.cell? ⟨D+4,0,none⟩=some (.pointer (some ⟨D+1,0,none⟩)):=blk_cell h.head rfl
theorem c1 (h:IsFeed w D first next last K U):w.cell? ⟨D+4,1,none⟩=some (.pointer (some ⟨D+3,0,none⟩)):=blk_cell h.head rfl
theorem c2 (h:IsFeed w D first next last K U):w.cell? ⟨D+4,2,none⟩=some (.int .i64 next):=blk_cell h.head rfl
theorem c3 (h:IsFeed w D first next last K U):w.cell? ⟨D+4,3,none⟩=some (.int .u8 last):=blk_cell h.head rfl
theorem lt (h:IsFeed w D first next last K U):D+4<w.heap.size:=blk_lt h.head
end IsFeed
theorem win_empty {w:World} {r B:Nat} (h:WinAt w r B 64 0 (List.replicate 64 ((0:Int),false))):IsWin w r B 64 0 []:=
 ⟨_,h,by simp,by omega,.nil,(fun p hp=>by cases hp),(fun f x h=>by cases h),fun f h1 h2 h3 _=>⟨0,by rw[List.getElem?_replicate,if_pos (Nat.mod_lt _ (by omega))]⟩⟩
theorem feed_New (w:World) :
  Calls Tryz.prog 191 #[] w fun e w'=>e=.returned (.pointer (some ⟨w.heap.size+4,0,none⟩))∧IsFeed w' w.heap.size 0 0 0 [] []∧Below w.heap.size w w':=by
 go_enter Tryz.func191,Tryz.ntmps191
 go_wp2_with fail
 refine (win_Open 64 0 (by omega) (by omega) (by omega) w).mono ?_
 rintro e w1 ⟨rfl,h1,hb1,hs1⟩
 have Hs1:=hid hs1
 clear hs1
 go_wp2_with fail
 refine (win_Open 64 0 (by omega) (by omega) (by omega) w1).mono ?_
 rintro e w2 ⟨rfl,h2,hb2,hs2⟩
 rw[Hs1.out] at h2 hs2 hb2
 have h3:=h1.keeps (Keeps.of_below hb2 (fun k h1 h2=>by have:=Hs1.out;omega):Keeps (fun _=>False) w1 w2) id id
 have Hs2:=hid hs2
 simp only[Hs1.out]
 clear hs2
 go_wp2_with fail
 go_ret
 have hk:Keeps (fun _=>False) w2 (w2.alloc (.cells #[.pointer (some ⟨w.heap.size+1,0,none⟩),.pointer (some ⟨w.heap.size+3,0,none⟩),.int .i64 0,.int .u8 0] 167)):=(Keeps.refl _ w2).alloc _
 have hn:=blk_new w2 (.cells #[.pointer (some ⟨w.heap.size+1,0,none⟩),.pointer (some ⟨w.heap.size+3,0,none⟩),.int .i64 0,.int .u8 0] 167)
 have e2:w2.heap.size=w.heap.size+4:=by rw[Hs2.out]
 rw[e2] at hn ⊢
 exact ⟨rfl,⟨hn,(win_empty h3).keeps hk id id,(win_empty h2).keeps hk id id⟩,(hb1.trans (hb2.mono (by omega))).alloc (by omega) _⟩
theorem _root_.Go.Proofs.YtalagblioepadaaGreatDoor.IsWin.most' {r B size:Nat} {L:List (Nat×Int)} (h:IsWin w r B size first L):∀ p∈L,p.1≤1073741824:=by
 obtain ⟨S,_,h⟩:=h
 exact fun p hp=>(h.isin p hp).2.2
theorem feed_Known (h:IsFeed w D first next last K U) (f:Int) (hr:-9223372036854775808≤f∧f≤9223372036854775807) :
  Calls Tryz.prog 227 #[.pointer (some ⟨D+4,0,none⟩),.int .i64 f] w fun e w'=>e=.returned (.tuple #[.int .u8 ((lookI K f).getD 0),.bool (lookI K f).isSome])∧∃ q,w'=w.drewN q:=by
 have c0:=h.c0
 have hG:=hid (is_Get h.known f hr)
 go_enter Tryz.func227,Tryz.ntmps227
 go_wp2_with fail
 refine hG.out.mono ?_
 rintro e w' ⟨rfl,q,rfl⟩
 go_wp2_with fail
 go_ret2
 exact ⟨rfl,q,rfl⟩
theorem feed_First (h:IsFeed w D first next last K U):Calls Tryz.prog 321 #[.pointer (some ⟨D+4,0,none⟩)] w fun e w'=>e=.returned (.int .i64 first)∧w=w':=by
 have c0:=h.c0
 have hG:=hid (is_First h.known)
 go_enter Tryz.func321,Tryz.ntmps321
 go_wp2_with fail
 refine hG.out.mono ?_
 rintro e w' ⟨rfl,rfl⟩
 go_wp2_with fail
 go_ret
 exact ⟨rfl,rfl⟩
theorem feed_Next (h:IsFeed w D first next last K U):Calls Tryz.prog 49 #[.pointer (some ⟨D+4,0,none⟩)] w fun e w'=>e=.returned (.int .i64 next)∧w=w':=by
 have c2:=h.c2
 go_enter Tryz.func49,Tryz.ntmps49
 go_wp2_with fail
 go_ret
 exact ⟨rfl,rfl⟩
theorem IsFeed.put {w1:World} {K':List (Nat×Int)} (h:IsFeed w D first next last K U) (hk:Keeps (fun b=>b=D) w w1) (hK:IsWin w1 (D+1) D 64 first K') (n:Nat) (x:Int) :
  IsFeed ((w1.setCell ⟨D+4,2,none⟩ (.int .i64 n)).setCell ⟨D+4,3,none⟩ (.int .u8 x)) D first n x K' U:=by
 have h1:=hk.heap h.head (by omega)
 have hu:=h.used.keeps hk (by omega) (by omega)
 have hk2:Keeps (fun b=>b=D+4) w1 ((w1.setCell ⟨D+4,2,none⟩ (.int .i64 n)).setCell ⟨D+4,3,none⟩ (.int .u8 x)):=((Keeps.refl (fun b=>b=D+4) w1).setCell (p:=⟨D+4,2,none⟩) rfl _).setCell (p:=⟨D+4,3,none⟩) rfl _
 exact ⟨by simpa using blk_set (blk_set h1 2 (.int .i64 (n:Int))) 3 (.int .u8 x),hK.keeps hk2 (by omega) (by omega),hu.keeps hk2 (by omega) (by omega)⟩
theorem feed_Put (h:IsFeed w D first next last K U) (x:Int) (hx:x≤63) (f:Int) (hf:f=next) (hn:next≤1073741824) (hw:first≤next∧next<first+64) :
  Calls Tryz.prog 168 #[.pointer (some ⟨D+4,0,none⟩),.int .i64 f,.int .u8 x] w fun e w'=>e=.returned (.int .i64 0)∧IsFeed w' D first (next+1) x (putL K next x) U∧Keeps (fun b=>Feeds D b) w w':=by
 have c0:=h.c0
 have c2:=h.c2
 have hP:=hid (is_Put h.known next f hf (by unfold inW;omega) x)
 have hh:∀ w1:World,Keeps (fun b=>b=D) w w1→w1.frozen? ⟨D+4,2,none⟩=false∧w1.frozen? ⟨D+4,3,none⟩=false∧w1.cell? ⟨D+4,2,none⟩=some (.int .i64 next)∧w1.cell? ⟨D+4,3,none⟩=some (.int .u8 last):=fun w1 hk=>by
  have:=hk.heap h.head (by omega)
  exact ⟨blk_free this 2,blk_free this 3,blk_cell this rfl,blk_cell this rfl⟩
 have Hh:=hid hh
 have Hf:=hid hf
 have e0:0≤f:=by omega
 have e1:f≤1073741824:=by omega
 have e2:(next:Int)≤f:=by omega
 have e3:f≤(next:Int):=by omega
 clear hh hf
 go_enter Tryz.func168,Tryz.ntmps168
 go_wp2_with fail
 refine hP.out.mono ?_
 rintro e w1 ⟨rfl,h1,hk1⟩
 obtain ⟨g2,g3,d2,d3⟩:=Hh.out _ hk1
 have hfin:=h.put hk1 h1 (next+1) x
 rw[show ((next+1:Nat):Int)=f+1 by have:=Hf.out;omega] at hfin
 have hkk:Keeps (fun b=>Feeds D b) w ((w1.setCell ⟨D+4,2,none⟩ (.int .i64 (f+1))).setCell ⟨D+4,3,none⟩ (.int .u8 x)):=
  ((hk1.mono (fun b _ e=>by unfold Feeds;omega)).setCell (p:=⟨D+4,2,none⟩) (by unfold Feeds;simp) _).setCell (p:=⟨D+4,3,none⟩) (by unfold Feeds;simp) _
 clear h1 hk1 h
 go_wp2_with fail
 go_ret
 exact ⟨rfl,hfin,hkk⟩
def SomeNum (e:Ending):Prop:=∃ c:Int,e=.returned (.int .i64 c)
def takeU (first:Nat) (U:List (Nat×Int)) (n:Nat) (x:Int):List (Nat×Int):=if n<first+64 then putL U n x else U
def takeV (K:List (Nat×Int)) (n:Nat) (last:Int):Int:=(lookL K n).getD last
theorem IsFeed.take {w1:World} {U':List (Nat×Int)} (h:IsFeed w D first next last K U) (hk:Keeps (fun b=>b=D+2) w w1) (hU:IsWin w1 (D+3) (D+2) 64 first U'):IsFeed w1 D first next last K U':=
 ⟨hk.heap h.head (by omega),h.known.keeps hk (by omega) (by omega),hU⟩
theorem feed_Take (h:IsFeed w D first next last K U) (n:Nat) (f:Int) (hf:f=n) (hn:first≤n∧n≤1073741824) :
  Calls Tryz.prog 284 #[.pointer (some ⟨D+4,0,none⟩),.int .i64 f] w fun e w'=>e=.returned (.tuple #[.int .u8 (takeV K n last),.bool (lookL K n).isSome])∧IsFeed w' D first next last K (takeU first U n (takeV K n last))∧Keeps (fun b=>Feeds D b) w w':=by
 have hG:=hid (feed_First h)
 have hK:=feed_Known h f (by omega)
 rw[hf,lookI_nat,←hf] at hK
 have HK:=hid hK
 have h2:f≤1073741824:=by omega
 have h3:(first:Int)≤f:=by omega
 have hP:∀ (q:Nat) (x:Int),Calls Tryz.prog 248 #[.pointer (some ⟨D+3,0,none⟩),.int .i64 f,.int .u8 x] (w.drewN q) fun e w'=>SomeNum e∧IsFeed w' D first next last K (takeU first U n x)∧Keeps (fun b=>Feeds D b) w w':=by
  intro q x
  unfold takeU
  by_cases hi:n<first+64
  ·rw[if_pos hi]
   refine (is_Put (h.drew q).used n f hf (by unfold inW;omega) x).mono ?_
   rintro e w' ⟨rfl,h1,h2⟩
   exact ⟨⟨_,rfl⟩,(h.drew q).take h2 h1,((Keeps.refl _ w).drewN q).trans (h2.mono (fun b _ e=>by unfold Feeds;omega))⟩
  ·rw[if_neg hi]
   refine (is_Put_no (h.drew q).used f (by unfold inW;omega) (by omega) x).mono ?_
   rintro e w' ⟨rfl,q2,rfl⟩
   exact ⟨⟨_,rfl⟩,(h.drew q).drew q2,((Keeps.refl _ w).drewN q).drewN q2⟩
 have HP:=hid hP
 have hc:∀ q,(w.drewN q).cell? ⟨D+4,1,none⟩=some (.pointer (some ⟨D+3,0,none⟩))∧(w.drewN q).cell? ⟨D+4,3,none⟩=some (.int .u8 last):=fun q=>⟨(h.drew q).c1,(h.drew q).c3⟩
 have Hc:=hid hc
 unfold takeV at *
 have Hf:=hid hf
 clear hP hK hc hf h
 cases hl:lookL K n with
 | some x=>
  rw[hl] at HK
  simp only[Option.getD_some,Option.isSome_some] at HK ⊢
  clear hl
  go_enter Tryz.func284,Tryz.ntmps284
  go_wp2_with fail
  refine hG.out.mono ?_
  rintro e w' ⟨rfl,rfl⟩
  go_wp2_with fail
  refine HK.out.mono ?_
  rintro e w' ⟨rfl,q,rfl⟩
  obtain ⟨d1,d3⟩:=Hc.out q
  go_wp2_with fail
  refine (HP.out q x).mono ?_
  rintro e w' ⟨⟨c,rfl⟩,h1,h2⟩
  go_wp2_with fail
  go_ret2
  exact ⟨rfl,h1,h2⟩
 | none=>
  rw[hl] at HK
  simp only[Option.getD_none,Option.isSome_none] at HK ⊢
  clear hl
  go_enter Tryz.func284,Tryz.ntmps284
  go_wp2_with fail
  refine hG.out.mono ?_
  rintro e w' ⟨rfl,rfl⟩
  go_wp2_with fail
  refine HK.out.mono ?_
  rintro e w' ⟨rfl,q,rfl⟩
  obtain ⟨d1,d3⟩:=Hc.out q
  go_wp2_with fail
  refine (HP.out q last).mono ?_
  rintro e w' ⟨⟨c,rfl⟩,h1,h2⟩
  go_wp2_with fail
  go_ret2
  exact ⟨rfl,h1,h2⟩
end
section
open Go.RowKit
variable {w w':World} {D first next:Nat} {last:Int} {K U:List (Nat×Int)}
def cutL (n:Nat) (L:List (Nat×Int)):List (Nat×Int):=L.filter fun p=>!decide (p.1<n)
theorem feed_Trim_no (h:IsFeed w D first next last K U) (hfn:first≤next) (f:Int) (hf:f<first) :
  Calls Tryz.prog 149 #[.pointer (some ⟨D+4,0,none⟩),.int .i64 f] w fun e w'=>SomeNum e∧IsFeed w' D first next last K U∧Keeps (fun b=>Feeds D b) w w':=by
 have c1:=h.c1
 have c2:=h.c2
 have hM:=hid (is_Move_no h.used f (.inl hf))
 have h1:f≤(next:Int):=by omega
 have h1b:min f (next:Int)=f:=by omega
 have h2:¬ (next:Int)<f:=by omega
 have H:=hid h
 have Hf:=hid hf
 clear h hf hfn
 go_enter Tryz.func149,Tryz.ntmps149
 go_wp2_with fail
 refine hM.out.mono ?_
 rintro e w1 ⟨rfl,hU,hk⟩
 have d0:=(H.out.keep hk).c0
 go_wp2_with fail
 refine (is_Move_no (H.out.keep hk).known f (.inl Hf.out)).mono ?_
 rintro e w2 ⟨rfl,hK,hk2⟩
 go_wp2_with fail
 go_ret
 exact ⟨⟨_,rfl⟩,(H.out.keep hk).keep hk2,keeps_any (hk.trans hk2)⟩
theorem feed_Trim (h:IsFeed w D first next last K U) (n:Nat) (f:Int) (hn:first≤n∧n≤1073741824) (hf:(f=n∧n≤next)∨(n=next∧(next:Int)<f)) :
  Calls Tryz.prog 149 #[.pointer (some ⟨D+4,0,none⟩),.int .i64 f] w fun e w'=>SomeNum e∧IsFeed w' D n next last (cutL n K) (cutL n U)∧Keeps (fun b=>Feeds D b) w w':=by
 have c1:=h.c1
 have c2:=h.c2
 have Hn:=hid hn
 rcases hf with ⟨hf,h1⟩|⟨hf,h1⟩
 ·have h1':f≤(next:Int):=by omega
  have h1b:min f (next:Int)=f:=by omega
  have h2:¬ (next:Int)<f:=by omega
  have hM:=hid (is_Move h.used n f hf hn)
  have Hf:=hid hf
  have H:=hid h
  clear h hf hn h1
  go_enter Tryz.func149,Tryz.ntmps149
  go_wp2_with fail
  refine hM.out.mono ?_
  rintro e w1 ⟨rfl,hU,hk⟩
  have d0:=hk.cell (p:=⟨D+4,0,none⟩) H.out.c0 (by simp)
  have hKw:=H.out.known.keeps hk (by omega) (by omega)
  go_wp2_with fail
  refine (is_Move hKw n _ Hf.out Hn.out).mono ?_
  rintro e w2 ⟨rfl,hK,hk2⟩
  have hfin:IsFeed w2 D n next last (cutL n K) (cutL n U):=⟨hk2.heap (hk.heap H.out.head (by omega)) (by omega),hK,hU.keeps hk2 (by omega) (by omega)⟩
  have hkk:Keeps (fun b=>Feeds D b) w w2:=(hk.mono (fun b _ e=>by unfold Feeds;omega)).trans (hk2.mono (fun b _ e=>by unfold Feeds;omega))
  clear hK hU hk hk2 hKw
  go_wp2_with fail
  go_ret
  exact ⟨⟨_,rfl⟩,hfin,hkk⟩
 ·have h1b:min f (next:Int)=next:=by omega
  have h2:¬ f≤(next:Int):=by omega
  have hM:=hid (is_Move h.used n (next:Int) (by omega) hn)
  have Hf:=hid (show (next:Int)=(n:Int) by omega)
  have H:=hid h
  clear h hf hn
  go_enter Tryz.func149,Tryz.ntmps149
  go_wp2_with fail
  refine hM.out.mono ?_
  rintro e w1 ⟨rfl,hU,hk⟩
  have d0:=hk.cell (p:=⟨D+4,0,none⟩) H.out.c0 (by simp)
  have hKw:=H.out.known.keeps hk (by omega) (by omega)
  go_wp2_with fail
  refine (is_Move hKw n _ Hf.out Hn.out).mono ?_
  rintro e w2 ⟨rfl,hK,hk2⟩
  have hfin:IsFeed w2 D n next last (cutL n K) (cutL n U):=⟨hk2.heap (hk.heap H.out.head (by omega)) (by omega),hK,hU.keeps hk2 (by omega) (by omega)⟩
  have hkk:Keeps (fun b=>Feeds D b) w w2:=(hk.mono (fun b _ e=>by unfold Feeds;omega)).trans (hk2.mono (fun b _ e=>by unfold Feeds;omega))
  clear hK hU hk hk2 hKw
  go_wp2_with fail
  go_ret
  exact ⟨⟨_,rfl⟩,hfin,hkk⟩
def wrongL (K:List (Nat×Int)):List (Nat×Int)→Option Nat
 | []=>none
 | (g,y) :: r=>match lookL K g with
  | some x=>if x=y then wrongL K r else some g
  | none=>wrongL K r
set_option maxHeartbeats 800000 in
theorem feed_Wrong (h:IsFeed w D first next last K U) :
  Calls Tryz.prog 152 #[.pointer (some ⟨D+4,0,none⟩)] w fun e w'=>e=.returned (.tuple #[.int .i64 (((wrongL K U).getD 0:Nat):Int),.bool (wrongL K U).isSome])∧Keeps (fun _=>False) w w':=by
 have c1:=h.c1
 have hF:=hid (is_Frames h.used)
 have H:=hid h
 have hasc:∀ j (hj:j<U.length),lookL U U[j].1=some U[j].2:=fun j hj=>by
  obtain ⟨S,_,hs⟩:=h.used
  exact mem_lookL hs.asc (List.getElem_mem hj)
 have Hasc:=hid hasc
 have hin:∀ j (hj:j<U.length),U[j].1≤1073741824:=fun j hj=>h.used.most' _ (List.getElem_mem hj)
 have Hin:=hid hin
 obtain ⟨rv,hr⟩:∃ rv,wrongL K U=rv:=⟨_,rfl⟩
 rw[hr]
 have Hr:=hid hr
 have hUl:U.length≤64:=h.used.le.1
 clear hasc hin hr h
 go_enter Tryz.func152,Tryz.ntmps152
 go_wp2_with fail
 refine hF.out.mono ?_
 rintro e w1 ⟨v,rfl,ho,hb⟩
 obtain ⟨A,cap,rfl,hv,_⟩:=vals_of_own ho
 have hk1:Keeps (fun _=>False) w w1:=Keeps.of_below hb (fun k h1 h2=>by omega)
 have hll:(U.map (·.1)).length=U.length:=by simp
 rw[hll] at hv ⊢
 have Hll:=hid hll
 clear ho hb hF hll
 go_wp2_with fail
 go_loopg [18] 64 (fun g i wr=>∃ j:Nat,g=64-j∧j≤U.length∧i=.int .i64 j∧Hid (wrongL K (U.drop j)=rv)∧Keeps (fun _=>False) w1 wr)
 case atStart=>exact ⟨0,rfl,Nat.zero_le _,rfl,Hr,Keeps.refl _ _⟩
 case round=>
  obtain ⟨j,hg,hj,rfl,hrest,hkr⟩:=hrel
  by_cases hjl:j<U.length
  ·obtain ⟨b,o,rfl,hc⟩:=hv.at' (by omega)
   have k0:w1.cell? ⟨b,o+j,none⟩=some (.int .i64 (U[j].1:Nat)):=hc _ _ (by simp[intsL,natsL,hjl])
   have k0r:=hkr.cell k0 id
   have hl:=Hasc.out j hjl
   have hn:=Hin.out j hjl
   have hrest2:=hrest.out
   rw[List.drop_eq_getElem_cons hjl] at hrest2
   have HB:=H.out.keep (hk1.trans hkr)
   have c1r:=HB.c1
   clear hc k0 hrest
   generalize U[j]=p at *
   obtain ⟨f,y⟩:=p
   simp only at hl hn k0r
   have hG:=is_Get HB.used (f:Int) (by omega)
   rw[lookI_nat,hl] at hG
   simp only[Option.getD_some,Option.isSome_some] at hG
   have HG:=hid hG
   have hKn:∀ q,Calls Tryz.prog 227 #[.pointer (some ⟨D+4,0,none⟩),.int .i64 (f:Int)] (wr.drewN q) fun e w'=>e=.returned (.tuple #[.int .u8 ((lookL K f).getD 0),.bool (lookL K f).isSome])∧∃ q2,w'=(wr.drewN q).drewN q2:=fun q=>by
    have:=feed_Known (HB.drew q) (f:Int) (by omega)
    rwa [lookI_nat] at this
   have HKn:=hid hKn
   simp only[wrongL] at hrest2
   clear hl hG hKn HB
   cases hlk:lookL K f with
   | none=>
    rw[hlk] at hrest2 HKn
    simp only[Option.getD_none,Option.isSome_none] at hrest2 HKn
    have Hrest:=hid hrest2
    clear hrest2 hlk
    go_wp2_with fail
    refine HG.out.mono ?_
    rintro e w2 ⟨rfl,q,rfl⟩
    go_wp2_with fail
    refine (HKn.out q).mono ?_
    rintro e w3 ⟨rfl,q2,rfl⟩
    go_wp2_with fail
    go_roundg (64-(j+1))
    case measure=>omega
    case rel=>exact ⟨j+1,rfl,by omega,by go_num,Hrest,hkr.drewN (q+q2)⟩
   | some x=>
    rw[hlk] at hrest2 HKn
    simp only[Option.getD_some,Option.isSome_some] at hrest2 HKn
    by_cases hxy:x=y
    ·rw[if_pos hxy] at hrest2
     have Hrest:=hid hrest2
     have hq:(x != y)=false:=by simp[hxy]
     clear hrest2 hlk hxy
     go_wp2_with fail
     refine HG.out.mono ?_
     rintro e w2 ⟨rfl,q,rfl⟩
     go_wp2_with fail
     refine (HKn.out q).mono ?_
     rintro e w3 ⟨rfl,q2,rfl⟩
     go_wp2_with fail
     go_roundg (64-(j+1))
     case measure=>omega
     case rel=>exact ⟨j+1,rfl,by omega,by go_num,Hrest,hkr.drewN (q+q2)⟩
    ·rw[if_neg hxy] at hrest2
     subst hrest2
     have hq:(x != y)=true:=by simp[hxy]
     clear hlk hxy
     have hkf:=hk1.trans hkr
     go_wp2_with fail
     refine HG.out.mono ?_
     rintro e w2 ⟨rfl,q,rfl⟩
     go_wp2_with fail
     refine (HKn.out q).mono ?_
     rintro e w3 ⟨rfl,q2,rfl⟩
     go_wp2_with fail
     go_ret2
     exact ⟨rfl,hkf.drewN (q+q2)⟩
  ·have hrest2:=hrest.out
   rw[List.drop_of_length_le (by omega)] at hrest2
   simp only[wrongL] at hrest2
   subst hrest2
   have hkf:=hk1.trans hkr
   clear hrest
   go_wp2_with fail
   go_ret2
   exact ⟨rfl,hkf⟩
end
section
variable {α:Type}
def seqL (g:Nat→α) (f n:Nat):List (Nat×α):=(List.range (n-f)).map fun i=>(f+i,g (f+i))
theorem seqL_nil (g:Nat→α) {f n:Nat} (h:n≤f):seqL g f n=[]:=by
 unfold seqL
 rw[show n-f=0 by omega]
 rfl
theorem seqL_succ (g:Nat→α) {f n:Nat} (h:f≤n):seqL g f (n+1)=seqL g f n++[(n,g n)]:=by
 unfold seqL
 rw[show n+1-f=(n-f)+1 by omega,List.range_succ,List.map_append,List.map_singleton,show f+(n-f)=n by omega]
theorem seqL_mem {g:Nat→α} {f n:Nat} {p:Nat×α} (h:p∈seqL g f n):f≤p.1∧p.1<n∧p.2=g p.1:=by
 unfold seqL at h
 obtain ⟨i,hi,rfl⟩:=List.mem_map.1 h
 have:=List.mem_range.1 hi
 exact ⟨by simp only;omega,by simp only;omega,rfl⟩
theorem putL_snoc:∀ (L:List (Nat×α)) (n:Nat) (x:α),(∀ p∈L,p.1<n)→putL L n x=L++[(n,x)]
 | [],n,x,_=>rfl
 | (g,y) :: r,n,x,h=>by
  have h1:g<n:=h (g,y) (by simp)
  unfold putL
  rw[if_neg (by omega),putL_snoc r n x (fun p hp=>h p (by simp[hp]))]
  rfl
theorem seqL_put (g:Nat→α) {f n:Nat} (h:f≤n):putL (seqL g f n) n (g n)=seqL g f (n+1):=by
 rw[seqL_succ g h,putL_snoc _ _ _ (fun p hp=>(seqL_mem hp).2.1)]
theorem lookL_snoc:∀ (L:List (Nat×α)) (n j:Nat) (x:α),(∀ p∈L,p.1<n)→lookL (L++[(n,x)]) j=if j=n then some x else lookL L j
 | [],n,j,x,_=>by
  simp only[List.nil_append,lookL]
  by_cases e:n=j
  ·rw[if_pos e,if_pos e.symm]
  ·rw[if_neg e,if_neg (fun c=>e c.symm)]
 | (g,y) :: r,n,j,x,h=>by
  have h1:g<n:=h (g,y) (by simp)
  have ih:=lookL_snoc r n j x (fun p hp=>h p (by simp[hp]))
  simp only[List.cons_append,lookL]
  by_cases e:g=j
  ·rw[if_pos e,if_pos e,if_neg (by omega)]
  ·rw[if_neg e,if_neg e,ih]
theorem seqL_look (g:Nat→α) (f j:Nat):∀ n,lookL (seqL g f n) j=if f≤j∧j<n then some (g j) else none
 | 0=>by rw[seqL_nil g (by omega),if_neg (by omega)];rfl
 | n+1=>by
  by_cases h:f≤n
  ·rw[seqL_succ g h,lookL_snoc _ _ _ _ (fun p hp=>(seqL_mem hp).2.1),seqL_look g f j n]
   by_cases e:j=n
   ·subst e
    rw[if_pos rfl,if_pos (by omega)]
   ·rw[if_neg e]
    by_cases c:f≤j∧j<n
    ·rw[if_pos c,if_pos (by omega)]
    ·rw[if_neg c,if_neg (by omega)]
  ·rw[seqL_nil g (by omega),if_neg (by omega)]
   rfl
theorem seqL_lookI (g:Nat→α) (f n:Nat) (j:Nat):lookI (seqL g f n) (j:Int)=if f≤j∧j<n then some (g j) else none:=by
 rw[lookI_nat,seqL_look]
theorem seqL_split (g:Nat→α) {f m:Nat} (h:f≤m):∀ d,seqL g f (m+d)=seqL g f m++seqL g m (m+d)
 | 0=>by rw[seqL_nil g (show m+0≤m by omega),List.append_nil];rfl
 | d+1=>by
  rw[show m+(d+1)=(m+d)+1 by omega,seqL_succ g (show f≤m+d by omega),seqL_succ g (show m≤m+d by omega),seqL_split g h d,List.append_assoc]
theorem seqL_cut (g:Nat→α) {f m n:Nat} (h:f≤m) (hn:m≤n):((seqL g f n).filter fun p=>!decide (p.1<m))=seqL g m n:=by
 obtain ⟨d,rfl⟩:∃ d,n=m+d:=⟨n-m,by omega⟩
 rw[seqL_split g h d,List.filter_append,List.filter_eq_nil_iff.2 (fun p hp=>by have:=(seqL_mem hp).2.1;simp;omega),List.nil_append,List.filter_eq_self.2 (fun p hp=>by have:=(seqL_mem hp).1;simp;omega)]
theorem wrong_none (K:List (Nat×Int)):∀ U:List (Nat×Int),(∀ p∈U,lookL K p.1=none∨lookL K p.1=some p.2)→wrongL K U=none
 | [],_=>rfl
 | (g,y) :: r,h=>by
  have h1:=h (g,y) (by simp)
  have ih:=wrong_none K r (fun p hp=>h p (by simp[hp]))
  unfold wrongL
  rcases h1 with h1|h1
  ·simp only at h1
   rw[h1]
   exact ih
  ·simp only at h1
   rw[h1]
   simp[ih]
def noL (f n:Nat):List (Nat×Int):=seqL (fun _=>0) f n
theorem wrong_no (f n f' m:Nat):wrongL (noL f n) (noL f' m)=none:=by
 refine wrong_none _ _ fun p hp=>?_
 have h:=seqL_mem hp
 unfold noL
 rw[seqL_look]
 split
 ·exact .inr (by rw[h.2.2])
 ·exact .inl rfl
end
end Go.Proofs.YtalagblioepadaaGreatDoor
