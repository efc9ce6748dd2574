/- The proof, part 40. -/
import Derived.Test.YtalagblioepadaaGreatDoorZa22
import Derived.Test.YtalagblioepadaaGreatDoorZa37
namespace Go.Proofs.YtalagblioepadaaGreatDoor
section
open Go.RowKit
set_option maxRecDepth 10000
variable {w w':World}
theorem sh_toward (a b s:Int) (ha:isFix a) (hb:isFix b) (hs:isFix s) (w:World):Calls Tryz.prog 374 #[.agg #[.int .i32 a,.int .i32 b],.int .i32 s] w fun e w'=>e=.returned (.agg #[.int .i32 (towX a b s),.int .i32 (towY a b s)])∧Below w.heap.size w w':=by
 have hT:=hid (tg_Toward a b s ha hb hs)
 generalize towX a b s=x at *
 generalize towY a b s=y at *
 have hS:=blk_alloc (blk_new w (.cells #[.int .i32 a,.int .i32 b] 91)) (.cells #[.int .i32 0,.int .i32 0] 91)
 have hZ:=blk_new (w.alloc (.cells #[.int .i32 a,.int .i32 b] 91)) (.cells #[.int .i32 0,.int .i32 0] 91)
 rw[World.size_alloc] at hZ
 have hbe:=(((Below.refl w.heap.size w).alloc (Nat.le_refl _) (.cells #[.int .i32 a,.int .i32 b] 91)).alloc (by simp) (.cells #[.int .i32 0,.int .i32 0] 91))
 go_enter Tryz.func374,Tryz.ntmps374
 go_wp2_with fail
 generalize (w.alloc (.cells #[.int .i32 a,.int .i32 b] 91)).alloc (.cells #[.int .i32 0,.int .i32 0] 91)=w0 at *
 refine (hT.out _).mono ?_
 rintro e _ ⟨rfl,rfl⟩
 obtain ⟨g0,g1⟩:=bf2 hZ 0 1
 obtain ⟨r0,r1⟩:=bc2 0 1 hZ ⟨rfl,rfl⟩
 clear hS
 go_wp2
 have hload:=box_load2 (blk_two hZ (.int .i32 x) (.int .i32 y))
 refine bodyPost_ret (v:=.agg #[.int .i32 x,.int .i32 y]) (by simp[results,Tryz.results374,asAddr,loadVar,loadCells,Tryz.isAgg91,Tryz.sizeOf91,hload]) rfl ?_
 exact ⟨rfl,(hbe.setCell (by show w.heap.size≤w.heap.size+1;omega) _).setCell (by show w.heap.size≤w.heap.size+1;omega) _⟩
def slowI (a b k m:Int):Int×Int:=
 if m<lenI (mulI a k) (mulI b k) then (towX (mulI a k) (mulI b k) m,towY (mulI a k) (mulI b k) m) else (mulI a k,mulI b k)
theorem sh_Slow (a b k m:Int) (ha:isFix a) (hb:isFix b) (hkf:isFix k) (hm:isFix m) (w:World):Calls Tryz.prog 363 #[.agg #[.int .i32 a,.int .i32 b],.int .i32 k,.int .i32 m] w fun e w'=>e=.returned (.agg #[.int .i32 (slowI a b k m).1,.int .i32 (slowI a b k m).2])∧Below w.heap.size w w':=by
 have hSc:=hid (sh_Scale a b k ha hb hkf)
 have hx:isFix (mulI a k):=satI_fix _
 have hy:isFix (mulI b k):=satI_fix _
 have hL:=hid (tg_Length (mulI a k) (mulI b k) hx hy)
 have hT:=hid (sh_toward (mulI a k) (mulI b k) m hx hy hm)
 unfold slowI
 generalize towX (mulI a k) (mulI b k) m=tx at *
 generalize towY (mulI a k) (mulI b k) m=ty at *
 generalize lenI (mulI a k) (mulI b k)=l at *
 generalize mulI a k=x at *
 generalize mulI b k=y at *
 have hS:=blk_alloc (blk_new w (.cells #[.int .i32 a,.int .i32 b] 91)) (.cells #[.int .i32 0,.int .i32 0] 91)
 have hZ:=blk_new (w.alloc (.cells #[.int .i32 a,.int .i32 b] 91)) (.cells #[.int .i32 0,.int .i32 0] 91)
 rw[World.size_alloc] at hZ
 have hbe:=(((Below.refl w.heap.size w).alloc (Nat.le_refl _) (.cells #[.int .i32 a,.int .i32 b] 91)).alloc (by simp) (.cells #[.int .i32 0,.int .i32 0] 91))
 clear ha hb hkf hm hx hy
 by_cases hc:m<l
 ·rw[if_pos hc]
  go_enter Tryz.func363,Tryz.ntmps363
  go_wp2_with fail
  generalize (w.alloc (.cells #[.int .i32 a,.int .i32 b] 91)).alloc (.cells #[.int .i32 0,.int .i32 0] 91)=w0 at *
  refine (hSc.out _).mono ?_
  rintro e w1 ⟨rfl,h1⟩
  have hk1:=(Keeps.refl (fun _=>False) w0).then_below h1
  have hS1:=hk1.heap hS id
  have hZ1:=hk1.heap hZ id
  have hS2:=blk_two hS1 (.int .i32 x) (.int .i32 y)
  have hZ2:=blk_other (blk_other hZ1 (p:=⟨w.heap.size,0,none⟩) (by simp) (.int .i32 x)) (p:=⟨w.heap.size,1,none⟩) (by simp) (.int .i32 y)
  have hb2:=((hbe.trans (h1.mono hbe.size)).setCell (p:=⟨w.heap.size,0,none⟩) (Nat.le_refl _) (.int .i32 x)).setCell (p:=⟨w.heap.size,1,none⟩) (Nat.le_refl _) (.int .i32 y)
  obtain ⟨q0,q1⟩:=bc2 0 1 hS1 ⟨rfl,rfl⟩
  obtain ⟨q2,q3⟩:=bf2 hS1 0 1
  obtain ⟨c0,c1⟩:=bc2 0 1 hS2 ⟨rfl,rfl⟩
  obtain ⟨g0,g1⟩:=bf2 hZ2 0 1
  obtain ⟨r0,r1⟩:=bc2 0 1 hZ2 ⟨rfl,rfl⟩
  clear hS hZ hbe h1 hk1 hS1 hZ1
  go_wp2_with fail
  generalize (w1.setCell ⟨w.heap.size,0,none⟩ (.int .i32 x)).setCell ⟨w.heap.size,1,none⟩ (.int .i32 y)=w2 at *
  refine (hL.out _).mono ?_
  rintro e _ ⟨rfl,rfl⟩
  go_wp2_with fail
  refine (hT.out _).mono ?_
  rintro e w3 ⟨rfl,h3⟩
  have hZ3:=((Keeps.refl (fun _=>False) w2).then_below h3).heap hZ2 id
  have hb3:=hb2.trans (h3.mono hb2.size)
  obtain ⟨g0,g1⟩:=bf2 hZ3 0 1
  obtain ⟨r0,r1⟩:=bc2 0 1 hZ3 ⟨rfl,rfl⟩
  clear hS2 hZ2 h3 q0 q1 q2 q3 c0 c1 hb2
  go_wp2
  have hload:=box_load2 (blk_two hZ3 (.int .i32 tx) (.int .i32 ty))
  refine bodyPost_ret (v:=.agg #[.int .i32 tx,.int .i32 ty]) (by simp[results,Tryz.results363,asAddr,loadVar,loadCells,Tryz.isAgg91,Tryz.sizeOf91,hload]) rfl ?_
  exact ⟨rfl,(hb3.setCell (by show w.heap.size≤w.heap.size+1;omega) _).setCell (by show w.heap.size≤w.heap.size+1;omega) _⟩
 ·rw[if_neg hc]
  go_enter Tryz.func363,Tryz.ntmps363
  go_wp2_with fail
  generalize (w.alloc (.cells #[.int .i32 a,.int .i32 b] 91)).alloc (.cells #[.int .i32 0,.int .i32 0] 91)=w0 at *
  refine (hSc.out _).mono ?_
  rintro e w1 ⟨rfl,h1⟩
  have hk1:=(Keeps.refl (fun _=>False) w0).then_below h1
  have hS1:=hk1.heap hS id
  have hZ1:=hk1.heap hZ id
  have hS2:=blk_two hS1 (.int .i32 x) (.int .i32 y)
  have hZ2:=blk_other (blk_other hZ1 (p:=⟨w.heap.size,0,none⟩) (by simp) (.int .i32 x)) (p:=⟨w.heap.size,1,none⟩) (by simp) (.int .i32 y)
  have hb2:=((hbe.trans (h1.mono hbe.size)).setCell (p:=⟨w.heap.size,0,none⟩) (Nat.le_refl _) (.int .i32 x)).setCell (p:=⟨w.heap.size,1,none⟩) (Nat.le_refl _) (.int .i32 y)
  obtain ⟨q0,q1⟩:=bc2 0 1 hS1 ⟨rfl,rfl⟩
  obtain ⟨q2,q3⟩:=bf2 hS1 0 1
  obtain ⟨c0,c1⟩:=bc2 0 1 hS2 ⟨rfl,rfl⟩
  obtain ⟨g0,g1⟩:=bf2 hZ2 0 1
  obtain ⟨r0,r1⟩:=bc2 0 1 hZ2 ⟨rfl,rfl⟩
  clear hS hZ hbe h1 hk1 hS1 hZ1
  go_wp2_with fail
  generalize (w1.setCell ⟨w.heap.size,0,none⟩ (.int .i32 x)).setCell ⟨w.heap.size,1,none⟩ (.int .i32 y)=w2 at *
  refine (hL.out _).mono ?_
  rintro e _ ⟨rfl,rfl⟩
  go_wp2
  have hload:=box_load2 (blk_two hZ2 (.int .i32 x) (.int .i32 y))
  refine bodyPost_ret (v:=.agg #[.int .i32 x,.int .i32 y]) (by simp[results,Tryz.results363,asAddr,loadVar,loadCells,Tryz.isAgg91,Tryz.sizeOf91,hload]) rfl ?_
  exact ⟨rfl,(hb2.setCell (by show w.heap.size≤w.heap.size+1;omega) _).setCell (by show w.heap.size≤w.heap.size+1;omega) _⟩
theorem sh_Touch (a b r c d s:Int) (ha:isFix a) (hb:isFix b) (hr:isFix r) (hc:isFix c) (hd:isFix d) (hs:isFix s) (w:World) :
  Calls Tryz.prog 351 #[.agg #[.int .i32 a,.int .i32 b],.int .i32 r,.agg #[.int .i32 c,.int .i32 d],.int .i32 s] w fun e w'=>e=.returned (.bool (nearI (subI c a) (subI d b) (addI r s)))∧Below w.heap.size w w':=by
 have hSu:=hid (sh_SubV c d a b hc hd ha hb)
 have hA:=hid (fs_Add r s hr hs)
 have hN:=hid (tg_Near (subI c a) (subI d b) (addI r s) (satI_fix _) (satI_fix _) (satI_fix _))
 generalize nearI (subI c a) (subI d b) (addI r s)=bb at *
 generalize subI c a=x at *
 generalize subI d b=y at *
 generalize addI r s=z at *
 clear ha hb hr hc hd hs
 have hbe:=(((Below.refl w.heap.size w).alloc (Nat.le_refl _) (.cells #[.int .i32 a,.int .i32 b] 91)).alloc (by simp) (.cells #[.int .i32 c,.int .i32 d] 91))
 go_enter Tryz.func351,Tryz.ntmps351
 go_wp2_with fail
 generalize (w.alloc (.cells #[.int .i32 a,.int .i32 b] 91)).alloc (.cells #[.int .i32 c,.int .i32 d] 91)=w0 at *
 refine (hSu.out _).mono ?_
 rintro e w1 ⟨rfl,h1⟩
 have hb1:=hbe.trans (h1.mono hbe.size)
 have hb2:=hb1.alloc hb1.size (.cells #[.int .i32 x,.int .i32 y] 91)
 clear hbe h1
 go_wp2_with fail
 go_quiet (first|(with_reducible exact (hA.out _).mono fun _ _ h=>⟨h.1,_,h.2.symm⟩)|(with_reducible exact (hN.out _).mono fun _ _ h=>⟨h.1,_,h.2.symm⟩))
 go_wp2
 go_ret
 exact ⟨rfl,⟨hb2.os,hb2.tape,hb2.output,hb2.size,hb2.block⟩⟩
end
section
open Go.RowKit
set_option maxRecDepth 10000
variable {w w':World}
set_option maxHeartbeats 1000000 in
theorem sh_Move (px py vx vy lx ly hx hy:Int) (h1:isFix px) (h2:isFix py) (h3:isFix vx) (h4:isFix vy) (h5:lx≤hx) (h6:ly≤hy) (w:World) :
  Calls Tryz.prog 364 #[.agg #[.int .i32 px,.int .i32 py],.agg #[.int .i32 vx,.int .i32 vy],.agg #[.int .i32 lx,.int .i32 ly,.int .i32 hx,.int .i32 hy]] w fun e w'=>
   e=.returned (.tuple #[.agg #[.int .i32 (wallI px vx lx hx 1 2).1,.int .i32 (wallI py vy ly hy 4 8).1],.agg #[.int .i32 (wallI px vx lx hx 1 2).2.1,.int .i32 (wallI py vy ly hy 4 8).2.1],.int .i64 (bits .or .i64 (wallI px vx lx hx 1 2).2.2 (wallI py vy ly hy 4 8).2.2),.int .i64 0])∧Below w.heap.size w w':=by
 have hR:=hid (sh_Right lx ly hx hy h5 h6)
 have hX:=hid (sh_wall px vx lx hx 1 2 h1 h3)
 have hY:=hid (sh_wall py vy ly hy 4 8 h2 h4)
 generalize (wallI px vx lx hx 1 2).1=x1 at *
 generalize (wallI px vx lx hx 1 2).2.1=x2 at *
 generalize (wallI px vx lx hx 1 2).2.2=x3 at *
 generalize (wallI py vy ly hy 4 8).1=y1 at *
 generalize (wallI py vy ly hy 4 8).2.1=y2 at *
 generalize (wallI py vy ly hy 4 8).2.2=y3 at *
 clear h1 h2 h3 h4 h5 h6
 have k0:Keeps (fun _=>False) w (((((w.alloc (.cells #[.int .i32 px,.int .i32 py] 91)).alloc (.cells #[.int .i32 vx,.int .i32 vy] 91)).alloc (.cells #[.int .i32 lx,.int .i32 ly,.int .i32 hx,.int .i32 hy] 214)).alloc (.cells #[.int .i32 0,.int .i32 0] 91)).alloc (.cells #[.int .i32 0,.int .i32 0] 91)):=(((((Keeps.refl _ w).alloc _).alloc _).alloc _).alloc _).alloc _
 have b0:((((((w.alloc (.cells #[.int .i32 px,.int .i32 py] 91)).alloc (.cells #[.int .i32 vx,.int .i32 vy] 91)).alloc (.cells #[.int .i32 lx,.int .i32 ly,.int .i32 hx,.int .i32 hy] 214)).alloc (.cells #[.int .i32 0,.int .i32 0] 91)).alloc (.cells #[.int .i32 0,.int .i32 0] 91))).heap[w.heap.size]?=some (.cells #[.int .i32 px,.int .i32 py] 91 (0,0)):=blk_alloc (blk_alloc (blk_alloc (blk_alloc (blk_new w _) _) _) _) _
 have b1:((((((w.alloc (.cells #[.int .i32 px,.int .i32 py] 91)).alloc (.cells #[.int .i32 vx,.int .i32 vy] 91)).alloc (.cells #[.int .i32 lx,.int .i32 ly,.int .i32 hx,.int .i32 hy] 214)).alloc (.cells #[.int .i32 0,.int .i32 0] 91)).alloc (.cells #[.int .i32 0,.int .i32 0] 91))).heap[w.heap.size+1]?=some (.cells #[.int .i32 vx,.int .i32 vy] 91 (0,0)):=by
  have:=blk_alloc (blk_alloc (blk_alloc (blk_new (w.alloc (.cells #[.int .i32 px,.int .i32 py] 91)) (.cells #[.int .i32 vx,.int .i32 vy] 91)) (.cells #[.int .i32 lx,.int .i32 ly,.int .i32 hx,.int .i32 hy] 214)) (.cells #[.int .i32 0,.int .i32 0] 91)) (.cells #[.int .i32 0,.int .i32 0] 91)
  simpa only[World.size_alloc] using this
 have b2:((((((w.alloc (.cells #[.int .i32 px,.int .i32 py] 91)).alloc (.cells #[.int .i32 vx,.int .i32 vy] 91)).alloc (.cells #[.int .i32 lx,.int .i32 ly,.int .i32 hx,.int .i32 hy] 214)).alloc (.cells #[.int .i32 0,.int .i32 0] 91)).alloc (.cells #[.int .i32 0,.int .i32 0] 91))).heap[w.heap.size+1+1]?=some (.cells #[.int .i32 lx,.int .i32 ly,.int .i32 hx,.int .i32 hy] 214 (0,0)):=by
  have:=blk_alloc (blk_alloc (blk_new ((w.alloc (.cells #[.int .i32 px,.int .i32 py] 91)).alloc (.cells #[.int .i32 vx,.int .i32 vy] 91)) (.cells #[.int .i32 lx,.int .i32 ly,.int .i32 hx,.int .i32 hy] 214)) (.cells #[.int .i32 0,.int .i32 0] 91)) (.cells #[.int .i32 0,.int .i32 0] 91)
  simpa only[World.size_alloc] using this
 have b3:((((((w.alloc (.cells #[.int .i32 px,.int .i32 py] 91)).alloc (.cells #[.int .i32 vx,.int .i32 vy] 91)).alloc (.cells #[.int .i32 lx,.int .i32 ly,.int .i32 hx,.int .i32 hy] 214)).alloc (.cells #[.int .i32 0,.int .i32 0] 91)).alloc (.cells #[.int .i32 0,.int .i32 0] 91))).heap[w.heap.size+1+1+1]?=some (.cells #[.int .i32 0,.int .i32 0] 91 (0,0)):=by
  have:=blk_alloc (blk_new (((w.alloc (.cells #[.int .i32 px,.int .i32 py] 91)).alloc (.cells #[.int .i32 vx,.int .i32 vy] 91)).alloc (.cells #[.int .i32 lx,.int .i32 ly,.int .i32 hx,.int .i32 hy] 214)) (.cells #[.int .i32 0,.int .i32 0] 91)) (.cells #[.int .i32 0,.int .i32 0] 91)
  simpa only[World.size_alloc] using this
 have b4:((((((w.alloc (.cells #[.int .i32 px,.int .i32 py] 91)).alloc (.cells #[.int .i32 vx,.int .i32 vy] 91)).alloc (.cells #[.int .i32 lx,.int .i32 ly,.int .i32 hx,.int .i32 hy] 214)).alloc (.cells #[.int .i32 0,.int .i32 0] 91)).alloc (.cells #[.int .i32 0,.int .i32 0] 91))).heap[w.heap.size+1+1+1+1]?=some (.cells #[.int .i32 0,.int .i32 0] 91 (0,0)):=by
  have:=blk_new ((((w.alloc (.cells #[.int .i32 px,.int .i32 py] 91)).alloc (.cells #[.int .i32 vx,.int .i32 vy] 91)).alloc (.cells #[.int .i32 lx,.int .i32 ly,.int .i32 hx,.int .i32 hy] 214)).alloc (.cells #[.int .i32 0,.int .i32 0] 91)) (.cells #[.int .i32 0,.int .i32 0] 91)
  simpa only[World.size_alloc] using this
 go_enter Tryz.func364,Tryz.ntmps364
 go_wp2_with fail
 generalize (((((w.alloc (.cells #[.int .i32 px,.int .i32 py] 91)).alloc (.cells #[.int .i32 vx,.int .i32 vy] 91)).alloc (.cells #[.int .i32 lx,.int .i32 ly,.int .i32 hx,.int .i32 hy] 214)).alloc (.cells #[.int .i32 0,.int .i32 0] 91)).alloc (.cells #[.int .i32 0,.int .i32 0] 91))=w0 at *
 refine (hR.out _).mono ?_
 rintro e w1 ⟨rfl,hb⟩
 have k1:=(Keeps.refl (fun _=>False) w0).then_below hb
 have k01:=k0.trans k1
 have b0:=k1.heap b0 id
 have b1:=k1.heap b1 id
 have b2:=k1.heap b2 id
 have b3:=k1.heap b3 id
 have b4:=k1.heap b4 id
 clear hb k0 k1
 obtain ⟨c00,c01⟩:=bc2 0 1 b0 ⟨rfl,rfl⟩
 obtain ⟨c10,c11⟩:=bc2 0 1 b1 ⟨rfl,rfl⟩
 obtain ⟨c20,c21,c22,c23⟩:=bc4 0 1 2 3 b2 ⟨rfl,rfl,rfl,rfl⟩
 obtain ⟨g00,g01⟩:=bf2 b0 0 1
 obtain ⟨g10,g11⟩:=bf2 b1 0 1
 go_wp2_with fail
 refine (hX.out _).mono ?_
 rintro e _ ⟨rfl,rfl⟩
 simp only
 go_wp2_with fail
 refine (hY.out _).mono ?_
 rintro e _ ⟨rfl,rfl⟩
 simp only
 have d0:(((((w1.setCell ⟨w.heap.size,0,none⟩ (.int .i32 x1)).setCell ⟨w.heap.size+1,0,none⟩ (.int .i32 x2)).setCell ⟨w.heap.size,1,none⟩ (.int .i32 y1)).setCell ⟨w.heap.size+1,1,none⟩ (.int .i32 y2))).heap[w.heap.size]?=some (.cells #[.int .i32 x1,.int .i32 y1] 91 (0,0)):=by
  have h1:=blk_set b0 0 (.int .i32 x1)
  have h2:=blk_set (blk_other h1 (p:=⟨w.heap.size+1,0,none⟩) (by simp) (.int .i32 x2)) 1 (.int .i32 y1)
  have h3:=blk_other h2 (p:=⟨w.heap.size+1,1,none⟩) (by simp) (.int .i32 y2)
  simpa using h3
 have d1:(((((w1.setCell ⟨w.heap.size,0,none⟩ (.int .i32 x1)).setCell ⟨w.heap.size+1,0,none⟩ (.int .i32 x2)).setCell ⟨w.heap.size,1,none⟩ (.int .i32 y1)).setCell ⟨w.heap.size+1,1,none⟩ (.int .i32 y2))).heap[w.heap.size+1]?=some (.cells #[.int .i32 x2,.int .i32 y2] 91 (0,0)):=by
  have h1:=blk_set (blk_other b1 (p:=⟨w.heap.size,0,none⟩) (by simp) (.int .i32 x1)) 0 (.int .i32 x2)
  have h2:=blk_set (blk_other h1 (p:=⟨w.heap.size,1,none⟩) (by simp) (.int .i32 y1)) 1 (.int .i32 y2)
  simpa using h2
 have k2:Keeps (fun j=>j=w.heap.size∨j=w.heap.size+1) w1 ((((w1.setCell ⟨w.heap.size,0,none⟩ (.int .i32 x1)).setCell ⟨w.heap.size+1,0,none⟩ (.int .i32 x2)).setCell ⟨w.heap.size,1,none⟩ (.int .i32 y1)).setCell ⟨w.heap.size+1,1,none⟩ (.int .i32 y2)):=((((Keeps.refl _ w1).setCell (p:=⟨w.heap.size,0,none⟩) (.inl rfl) _).setCell (p:=⟨w.heap.size+1,0,none⟩) (.inr rfl) _).setCell (p:=⟨w.heap.size,1,none⟩) (.inl rfl) _).setCell (p:=⟨w.heap.size+1,1,none⟩) (.inr rfl) _
 have b3:=k2.heap b3 (by omega)
 have b4:=k2.heap b4 (by omega)
 have kf:=keeps_past k01 k2 (fun k hk e=>by omega)
 clear b0 b1 b2 k01 k2
 go_wp2_with fail
 generalize ((((w1.setCell ⟨w.heap.size,0,none⟩ (.int .i32 x1)).setCell ⟨w.heap.size+1,0,none⟩ (.int .i32 x2)).setCell ⟨w.heap.size,1,none⟩ (.int .i32 y1)).setCell ⟨w.heap.size+1,1,none⟩ (.int .i32 y2))=w2 at *
 clear c00 c01 c10 c11 c20 c21 c22 c23 g00 g01 g10 g11
 obtain ⟨c00,c01⟩:=bc2 0 1 d0 ⟨rfl,rfl⟩
 obtain ⟨c10,c11⟩:=bc2 0 1 d1 ⟨rfl,rfl⟩
 obtain ⟨c30,c31⟩:=bc2 0 1 b3 ⟨rfl,rfl⟩
 obtain ⟨c40,c41⟩:=bc2 0 1 b4 ⟨rfl,rfl⟩
 obtain ⟨g30,g31⟩:=bf2 b3 0 1
 obtain ⟨g40,g41⟩:=bf2 b4 0 1
 go_region
 go_wp2
 have e3:((((w2.setCell ⟨w.heap.size+1+1+1,0,none⟩ (.int .i32 x1)).setCell ⟨w.heap.size+1+1+1,1,none⟩ (.int .i32 y1)).setCell ⟨w.heap.size+1+1+1+1,0,none⟩ (.int .i32 x2)).setCell ⟨w.heap.size+1+1+1+1,1,none⟩ (.int .i32 y2)).heap[w.heap.size+1+1+1]?=some (.cells #[.int .i32 x1,.int .i32 y1] 91 (0,0)):=
  blk_other (blk_other (blk_two b3 _ _) (p:=⟨w.heap.size+1+1+1+1,0,none⟩) (by simp) _) (p:=⟨w.heap.size+1+1+1+1,1,none⟩) (by simp) _
 have e4:((((w2.setCell ⟨w.heap.size+1+1+1,0,none⟩ (.int .i32 x1)).setCell ⟨w.heap.size+1+1+1,1,none⟩ (.int .i32 y1)).setCell ⟨w.heap.size+1+1+1+1,0,none⟩ (.int .i32 x2)).setCell ⟨w.heap.size+1+1+1+1,1,none⟩ (.int .i32 y2)).heap[w.heap.size+1+1+1+1]?=some (.cells #[.int .i32 x2,.int .i32 y2] 91 (0,0)):=
  blk_two (blk_other (blk_other b4 (p:=⟨w.heap.size+1+1+1,0,none⟩) (by simp) _) (p:=⟨w.heap.size+1+1+1,1,none⟩) (by simp) _) _ _
 have kk:=keeps_past kf (((((Keeps.refl (fun j=>w.heap.size≤j) w2).setCell (p:=⟨w.heap.size+1+1+1,0,none⟩) (by show w.heap.size≤w.heap.size+1+1+1;omega) (.int .i32 x1)).setCell (p:=⟨w.heap.size+1+1+1,1,none⟩) (by show w.heap.size≤w.heap.size+1+1+1;omega) (.int .i32 y1)).setCell (p:=⟨w.heap.size+1+1+1+1,0,none⟩) (by show w.heap.size≤w.heap.size+1+1+1+1;omega) (.int .i32 x2)).setCell (p:=⟨w.heap.size+1+1+1+1,1,none⟩) (by show w.heap.size≤w.heap.size+1+1+1+1;omega) (.int .i32 y2)) (fun k hk e=>by omega)
 generalize (((w2.setCell ⟨w.heap.size+1+1+1,0,none⟩ (.int .i32 x1)).setCell ⟨w.heap.size+1+1+1,1,none⟩ (.int .i32 y1)).setCell ⟨w.heap.size+1+1+1+1,0,none⟩ (.int .i32 x2)).setCell ⟨w.heap.size+1+1+1+1,1,none⟩ (.int .i32 y2)=w5 at *
 have l3:=box_load2 (w:=w5.drew) e3
 have l4:=box_load2 (w:=w5.drew) e4
 refine bodyPost_ret (v:=.tuple #[.agg #[.int .i32 x1,.int .i32 y1],.agg #[.int .i32 x2,.int .i32 y2],.int .i64 (bits .or .i64 x3 y3),.int .i64 0]) (by simp[results,Tryz.results364,asAddr,loadVar,loadCells,Tryz.isAgg91,Tryz.sizeOf91,l3,l4]) rfl ?_
 exact ⟨rfl,kk.drew.below (Nat.le_refl _) (fun k h1 h2=>h2)⟩
end
end Go.Proofs.YtalagblioepadaaGreatDoor
