/- The proof, part 32. -/
import Derived.Test.YtalagblioepadaaGreatDoorZa29
import Derived.Shelf.SlicesE.DeleteFunc
import Derived.Lib.SliceRun
namespace Go.Proofs.YtalagblioepadaaGreatDoor
section
open Go.RowKit
variable {w w':World} {r B size first:Nat} {S:List (Int×Bool)}
theorem ints_natsL (fs:List Nat) (k:Nat) (h:k<fs.length):(intsL (natsL fs))[k]?=some (.int .i64 (fs[k]:Nat)):=by simp[intsL,natsL,h]
set_option maxHeartbeats 400000 in
theorem win_drop (h:WinAt w r B size first S) (fs:List Nat) (A:Option Addr) (cap:Nat) (hv:Vals w 1 A fs.length cap (intsL (natsL fs))) (hA:0<fs.length→∀ x,A=some x→x.block≠B) (hin:∀ f∈fs,inW first size (f:Int)) :
  Calls Tryz.prog 288 #[.pointer (some ⟨r,0,none⟩),.slice A fs.length cap] w fun e w'=>e=.returned (.int .i64 (fs.length:Int))∧WinAt w' r B size first (dropS S size fs)∧Keeps (fun b=>b=B) w w':=by
 have hl1:fs.length≤9223372036854775807:=Nat.le_trans hv.2.1 hv.2.2.1
 have Hin:=hid hin
 clear hin
 go_enter Tryz.func288,Tryz.ntmps288
 go_wp2
 go_loopw [9] (fun i wr=>∃ k:Nat,k≤fs.length∧i=.int .i64 k∧WinAt wr r B size first (dropS S size (fs.take k))∧Keeps (fun b=>b=B) w wr) (fun i _=>fs.length-(intOf i).toNat)
 case atStart=>exact ⟨0,Nat.zero_le _,rfl,h,Keeps.refl _ w⟩
 case round=>
  obtain ⟨k,hk,rfl,hW,hkw⟩:=hrel
  by_cases hlt:k<fs.length
  ·obtain ⟨b,o,rfl,hc⟩:=(hv.keeps hkw (fun hn x hx=>hA hn x hx)).at' (by omega)
   have k0:wr.cell? ⟨b,o+k,none⟩=some (.int .i64 (fs[k]:Nat)):=hc _ _ (ints_natsL fs k hlt)
   have hi:=hid (win_inside hW fs[k] (fs[k]%size) _ rfl (Hin.out _ (List.getElem_mem hlt)) rfl)
   have hsn:dropS S size (fs.take (k+1))=(dropS S size (fs.take k)).set (fs[k]%size) (0,false):=by rw[List.take_succ_eq_append_getElem hlt,dropS_snoc]
   have hml:fs[k]%size<(dropS S size (fs.take k)).length:=by rw[hW.slen];exact Nat.mod_lt _ hW.pos
   clear hc
   generalize fs[k]=f at *
   generalize f%size=k' at *
   generalize dropS S size (fs.take k)=D at *
   obtain ⟨s0,s1⟩:=hW.slot (k:=k') (x:=D[k'].1) (b:=D[k'].2) (List.getElem?_eq_getElem hml)
   have g0:=blk_free hW.body (k'*2)
   have g1:=blk_free hW.body (k'*2+1)
   have Hs:=hid hsn
   clear hsn
   go_wp2_with fail
   refine hi.out.mono ?_
   rintro e w2 ⟨rfl,q,rfl⟩
   go_wp2_with fail
   go_roundw
   case rel=>exact ⟨k+1,by omega,by go_num,by rw[Hs.out];exact (hW.drew q).setSlot k' 0 false,((hkw.drewN q).setCell (p:=⟨B,k'*2,none⟩) rfl _).setCell (p:=⟨B,k'*2+1,none⟩) rfl _⟩
   case measure=>simp[intOf];omega
  ·obtain rfl:k=fs.length:=by omega
   rw[List.take_length] at hW
   go_wp2_with fail
   go_ret
   exact ⟨rfl,hW,hkw⟩
def IsWin (w:World) (r B size first:Nat) (L:List (Nat×Int)):Prop:=∃ S,WinAt w r B size first S∧Slots S size first L
theorem IsWin.keeps {L:List (Nat×Int)} {T:Nat→Prop} (h:IsWin w r B size first L) (hk:Keeps T w w') (h1:¬ T r) (h2:¬ T B):IsWin w' r B size first L:=by
 obtain ⟨S,h3,h4⟩:=h
 exact ⟨S,h3.keeps hk h1 h2,h4⟩
variable {L:List (Nat×Int)}
theorem IsWin.le (h:IsWin w r B size first L):L.length≤size∧0<size∧size≤4096∧first≤1073741824∧r<w.heap.size∧B<w.heap.size∧r≠B:=by
 obtain ⟨S,h,h4⟩:=h
 have h5:=frames_of h4.asc first size (fun p hp=>⟨(h4.isin p hp).1,(h4.isin p hp).2.1⟩)
 have h6:=congrArg List.length h5
 rw[List.length_map] at h6
 refine ⟨?_,h.pos,h.most,h.fst,blk_lt h.head,blk_lt h.body,h.ne⟩
 rw[←h6]
 exact Nat.le_trans (List.length_filter_le _ _) (by simp)
theorem is_Frames (h:IsWin w r B size first L) :
  Calls Tryz.prog 225 #[.pointer (some ⟨r,0,none⟩)] w fun e w'=>∃ v,e=.returned v∧w'.ownsRow (w.heap.size+5) 3 1 v (L.map (·.1)).length (intsL (natsL (L.map (·.1))))∧Below w.heap.size w w':=by
 obtain ⟨S,h,h4⟩:=h
 have hF:=win_Frames h
 rw[h4.frames 0,List.filter_eq_self.2 (fun n _=>by simp)] at hF
 exact hF
theorem is_First (h:IsWin w r B size first L):Calls Tryz.prog 342 #[.pointer (some ⟨r,0,none⟩)] w fun e w'=>e=.returned (.int .i64 first)∧w=w':=by
 obtain ⟨S,h,h4⟩:=h
 exact win_First h
theorem is_Put_no (h:IsWin w r B size first L) (f:Int) (hf:¬ inW first size f) (hr:-9223372036854775808≤f∧f≤9223372036854775807) (x:Int) :
  Calls Tryz.prog 248 #[.pointer (some ⟨r,0,none⟩),.int .i64 f,(Value.int .u8 x)] w fun e w'=>e=.returned (.int .i64 (if f<first then 10 else 8))∧∃ q,w'=w.drewN q:=by
 obtain ⟨S,h,h4⟩:=h
 exact win_Put_no h f hf hr x
theorem is_Put (h:IsWin w r B size first L) (n:Nat) (f:Int) (hfn:f=n) (hf:inW first size f) (x:Int) :
  Calls Tryz.prog 248 #[.pointer (some ⟨r,0,none⟩),.int .i64 f,(Value.int .u8 x)] w fun e w'=>e=.returned (.int .i64 0)∧IsWin w' r B size first (putL L n x)∧Keeps (fun b=>b=B) w w':=by
 obtain ⟨S,h,h4⟩:=h
 refine (win_Put h n _ f hfn hf rfl x).mono ?_
 rintro e w' ⟨rfl,h1,h2⟩
 exact ⟨rfl,⟨_,h1,h4.put n x (by unfold inW at hf;omega)⟩,h2⟩
end
end Go.Proofs.YtalagblioepadaaGreatDoor
