/- The proof, part 25. -/
import Derived.Test.YtalagblioepadaaGreatDoorZa20
import Derived.Test.YtalagblioepadaaGreatDoorZa08
import Derived.Deep.Cut
import Derived.OwnWalkIn
import Derived.TacticsInMore
import Derived.Shelf.Abstract
namespace Go.Proofs.YtalagblioepadaaGreatDoor
section
open Go.RowKit
def IsBytes (w:World) (a:Option Addr) (cap:Nat) (L:List UInt8):Prop:=
 L.length≤cap∧cap≤maxLen∧(L=[]∨∃ b o,a=some ⟨b,o,none⟩∧∀ i (h:i<L.length),w.cell? ⟨b,o+i,none⟩=some (byteV L[i]))
theorem pack_stretches (w:World) (a:Option Addr) (n cap:Nat) :
  Calls Tryz.prog 268 #[.slice a n cap] w fun e w'=>e=.returned (.func (.func 312) #[] #[.pointer (some ⟨w.heap.size,0,none⟩)])∧w.alloc (.cells #[.slice a n cap] 51)=w':=by
 go_enter Tryz.func268,Tryz.ntmps268
 go_wp2
 go_ret
 exact ⟨rfl,rfl⟩
theorem IsBytes.keeps {A B:World} {a:Option Addr} {cap:Nat} {L:List UInt8} {S:Nat→Prop} (h:IsBytes A a cap L) (hk:Keeps S A B) (hs:L≠[]→∀ x,a=some x→¬ S x.block):IsBytes B a cap L:=by
 obtain ⟨h1,h2,h3⟩:=h
 refine ⟨h1,h2,?_⟩
 by_cases he:L=[]
 ·exact .inl he
 ·obtain ⟨b,o,rfl,hc⟩:=h3.resolve_left he
  exact .inr ⟨b,o,rfl,fun i hi=>hk.cell (hc i hi) (hs he ⟨b,o,none⟩ rfl)⟩
theorem IsBytes.at' {w:World} {a:Option Addr} {cap:Nat} {L:List UInt8} (h:IsBytes w a cap L) (hne:L≠[]):∃ b o,a=some ⟨b,o,none⟩∧∀ i (hi:i<L.length),w.cell? ⟨b,o+i,none⟩=some (byteV L[i]):=
 h.2.2.resolve_left hne
theorem IsBytes.lt {w:World} {a:Option Addr} {cap:Nat} {L:List UInt8} (h:IsBytes w a cap L) (hne:L≠[]) (x:Addr) (hx:a=some x):x.block<w.heap.size:=by
 obtain ⟨b,o,rfl,hc⟩:=h.at' hne
 cases hx
 have:=World.block_lt_of_cell? w _ (hc 0 (List.length_pos_iff.2 hne))
 exact this
set_option maxRecDepth 10000 in
theorem IsBytes.drop {w:World} {a:Option Addr} {cap:Nat} {L:List UInt8} (h:IsBytes w a cap L) (n:Nat) (hn:n≤L.length) :
  ∃ a',(∀ w1:World,(Instr.slice 51 (.slice a L.length cap) (some (.int .i64 n)) none none).run Tryz.prog w1=.ok (.slice a' (L.length-n) (cap-n)) w1)∧IsBytes w a' (cap-n) (L.drop n)∧(∀ x,a'=some x→∃ y,a=some y∧x.block=y.block):=by
 obtain ⟨h1,h2,h3⟩:=h
 refine ⟨if cap=n then a else a.map (·.add (n*1)),fun w1=>?_,⟨by simp;omega,by omega,?_⟩,?_⟩
 ·rw[run_slice_l w1 51 a L.length cap Tryz.underlying51 .i64 n (by omega) (by omega)]
  simp[go_sem,sliced]
 ·rcases h3 with rfl|⟨b,o,rfl,hc⟩
  ·exact .inl (by simp)
  ·by_cases he:n=L.length
   ·exact .inl (by simp[he])
   ·refine .inr ⟨b,o+n,?_,fun i hi=>?_⟩
    ·rw[if_neg (by omega)];simp[addr_add]
    ·simp only[List.length_drop] at hi
     rw[Nat.add_assoc,hc (n+i) (by omega)]
     simp
 ·intro x hx
  split at hx
  ·exact ⟨x,hx,rfl⟩
  ·cases a with
   | none=>simp at hx
   | some y=>
    simp at hx
    refine ⟨y,rfl,?_⟩
    rw[←hx]
    unfold Addr.add
    split<;>rfl
def rowLen (w:World) (B:Nat):Nat:=match w.cell? ⟨B,0,none⟩ with|some (.slice _ n _)=>n|_=>0
theorem stretches1 (w:World) (Bn:Nat) (hBn:Bn<w.heap.size) (a:Option Addr) (cap:Nat) (L:List UInt8)
  (hc:w.cell? ⟨Bn,0,none⟩=some (.slice a L.length cap)) (hf:w.frozen? ⟨Bn,0,none⟩=false) (hL:IsBytes w a cap L) (Wr:Nat→Prop) (hW1:¬ Wr Bn) (hW2:L≠[]→∀ x,a=some x→x.block<w.heap.size∧¬ Wr x.block∧x.block≠Bn) :
  YieldsAll Tryz.prog 312 #[.pointer (some ⟨Bn,0,none⟩)] (fun p:UInt8×Nat=>#[.int .u8 p.1.toNat,.int .i64 p.2]) (runs L) Wr (fun k=>k=Bn) w:=by
 intro l J W hl hk hsz hJ hY h0
 subst hl
 refine callsIn_wide.2 ?_
 go_enter Tryz.func312,Tryz.ntmps312
 go_wp2
 go_loopw [3] (fun _ wr=>∃ (j:Nat) (a':Option Addr) (cap':Nat) (pre:List (UInt8×Nat)),j≤L.length∧wr.cell? ⟨Bn,0,none⟩=some (.slice a' (L.drop j).length cap')∧wr.frozen? ⟨Bn,0,none⟩=false∧IsBytes wr a' cap' (L.drop j)∧(∀ x,a'=some x→∃ y,a=some y∧x.block=y.block)∧runs L=pre++runs (L.drop j)∧J pre wr∧w.heap.size+2≤wr.heap.size)
  (fun _ wr=>rowLen wr Bn)
 case atStart=>exact ⟨0,a,cap,[],Nat.zero_le _,by simpa using hk.cell hc (fun h=>h),by rw[hk.frozen hBn (fun h=>h)];exact hf,by simpa using hL.keeps hk (fun _ _ _ h=>h),fun x hx=>⟨x,hx,rfl⟩,by simp,h0,by omega⟩
 case round=>
  obtain ⟨j,a',cap',pre,hj,hcell,hfz,hB,hblk,hpre,hJp,hsz2⟩:=hrel
  generalize hR:L.drop j=R at *
  have HR:=hid hR
  have Hpre:=hid hpre
  clear hR hpre
  cases R with
  | nil=>
   go_wp2
   go_end0
   exact ⟨⟨_,rfl⟩,by have h:=Hpre.out;rw[runs,List.append_nil] at h;rw[h];exact hJp⟩
  | cons c r=>
   have hle:=same_le c r
   obtain ⟨h1,h2,h3⟩:=id hB
   rcases h3 with h3|⟨b,o,rfl,hc⟩
   ·cases h3
   have hc0:wr.cell? ⟨b,o,none⟩=some (.int .u8 c.toNat):=hc 0 (by simp)
   have Hc:=hid hc
   clear hc
   obtain ⟨a2,hsl,hB2,hblk2⟩:=hB.drop (same c r+1) (by simp;omega)
   simp only[List.length_cons] at h1 hcell hsl
   unfold maxLen at h2
   go_wp2
   go_loopw [3] (fun n w2=>∃ k q:Nat,1≤k∧k≤same c r+1∧n=.int .i64 k∧w2=wr.drewN q) (fun n _=>same c r+1-(intOf n).toNat)
   case atStart=>exact ⟨1,0,by omega,by omega,rfl,rfl⟩
   case round=>
    obtain ⟨k,q,hk1,hk2,rfl,rfl⟩:=hrel
    by_cases hlt:k<same c r+1
    ·have hkk:=same_at c r (k-1) (by omega) (by omega)
     have hck:wr.cell? ⟨b,o+k,none⟩=some (.int .u8 c.toNat):=by
      have:=Hc.out k (by simp;omega)
      rw[List.getElem_cons] at this
      simpa[byteV,show k≠0 by omega,hkk] using this
     have hd:decide ((k:Int)<(r.length:Int)+1)=true:=by simp;omega
     go_wp2
     go_quiet (fail)
     go_wp2
     go_roundw
     case rel=>exact ⟨k+1,_,by omega,by omega,by go_num,rfl⟩
     case measure=>simp[intOf];omega
    ·have hke:k=same c r+1:=by omega
     have Hke:=hid hke
     by_cases hend:k<r.length+1
     ·obtain ⟨d,hck,hq⟩:∃ d:UInt8,wr.cell? ⟨b,o+k,none⟩=some (.int .u8 d.toNat)∧((d.toNat:Int) == (c.toNat:Int))=false:=by
       have hlt2:same c r<r.length:=by omega
       have hne:=same_end c r hlt2
       have:=Hc.out (same c r+1) (by simp;omega)
       rw[List.getElem_cons] at this
       refine ⟨r[same c r],by rw[hke];simpa[byteV] using this,?_⟩
       rw[beq_eq_false_iff_ne]
       intro h
       exact hne (UInt8.toNat_inj.1 (by omega))
      have hd:decide ((k:Int)<(r.length:Int)+1)=true:=by simp;omega
      clear hke
      go_wp2
      go_quiet (fail)
      go_upto_region 4 with (fail)
      refine (wpIn_wide (n:=0)).1 ?_
      rw[←Hke.out] at hsl
      obtain ⟨fn,tmps,assign,body,hy,hRd⟩:=hY pre (c,k) (runs (r.drop (same c r))) (wr.drewN (q+nq)) (by rw[Hpre.out,runs,Hke.out]) (hJ _ _ _ hJp ((Keeps.refl _ wr).drewN (q+nq)))
      dsimp only at hy
      gi_wp2
      refine ⟨rfl,hRd.mono ?_⟩
      rintro e B ⟨rfl,hJ2,hK2⟩
      have hnb:∀ x,a2=some x→x.block<w.heap.size∧¬ Wr x.block∧x.block≠Bn:=by
       intro x hx
       obtain ⟨y,hy1,hy2⟩:=hblk2 x hx
       obtain ⟨z,hz1,hz2⟩:=hblk y hy1
       rw[hy2,hz2]
       exact hW2 (fun e=>by have h:=HR.out;rw[e] at h;simp at h) z hz1
      have hcellB:B.cell? ⟨Bn,0,none⟩=some (.slice (some ⟨b,o,none⟩) (r.length+1) cap'):=hK2.cell (p:=⟨Bn,0,none⟩) hcell (fun h=>h.elim hW1 (fun h=>by simp at h;omega))
      have hfzB:B.frozen? ⟨Bn,0,none⟩=false:=(hK2.frozen (p:=⟨Bn,0,none⟩) (by simp;omega) (fun h=>h.elim hW1 (fun h=>by simp at h;omega))).trans hfz
      have hBB:IsBytes B a2 (cap'-k) ((c :: r).drop k):=by
       rw[Hke.out]
       exact (hB2.keeps ((Keeps.refl (fun _=>False) wr).drewN (q+nq)) (fun _ _ _ h=>h)).keeps hK2 (fun _ x hx h=>h.elim (hnb x hx).2.1 (fun h=>by have:=(hnb x hx).1;omega))
      have hrl:rowLen wr Bn=r.length+1:=by unfold rowLen;rw[hcell]
      clear hy hRd hc0 hcell hfz
      try clear hck
      gi_wp2
      go_wp2
      have hdr:L.drop (j+k)=(c :: r).drop k:=by rw[←HR.out,List.drop_drop]
      have hcs:(B.setCell ⟨Bn,0,none⟩ (.slice a2 (r.length+1-k) (cap'-k))).cell? ⟨Bn,0,none⟩=some (.slice a2 (r.length+1-k) (cap'-k)):=World.cell?_setCell_same _ _ _ hcellB
      have hjl:j+(r.length+1)=L.length:=by have:=congrArg List.length HR.out;simp at this;omega
      have hks:Keeps (fun k=>k=Bn) B (B.setCell ⟨Bn,0,none⟩ (.slice a2 (r.length+1-k) (cap'-k))):=(Keeps.refl (fun k=>k=Bn) B).setCell (p:=⟨Bn,0,none⟩) rfl _
      refine ⟨⟨j+k,a2,cap'-k,pre++[(c,k)],by omega,?_,by rw[World.frozen?_setCell];exact hfzB,?_,?_,?_,hJ _ _ _ hJ2 hks,?_⟩,?_⟩
      ·rw[hcs,hdr,List.length_drop,List.length_cons]
      ·rw[hdr];exact hBB.keeps hks (fun _ x hx=>(hnb x hx).2.2)
      ·intro x hx
       obtain ⟨y,hy1,hy2⟩:=hblk2 x hx
       obtain ⟨z,hz1,hz2⟩:=hblk y hy1
       exact ⟨z,hz1,hy2.trans hz2⟩
      ·rw[hdr,Hpre.out,runs,Hke.out];simp
      ·have:=hK2.size;simp at this;simp;omega
      ·rw[hrl];unfold rowLen;rw[hcs];show r.length+1-k<r.length+1;omega
     ·have hd:decide ((k:Int)<(r.length:Int)+1)=false:=by simp;omega
      clear hke
      go_wp2
      go_quiet (fail)
      go_upto_region 4 with (fail)
      refine (wpIn_wide (n:=0)).1 ?_
      rw[←Hke.out] at hsl
      obtain ⟨fn,tmps,assign,body,hy,hRd⟩:=hY pre (c,k) (runs (r.drop (same c r))) (wr.drewN (q+nq)) (by rw[Hpre.out,runs,Hke.out]) (hJ _ _ _ hJp ((Keeps.refl _ wr).drewN (q+nq)))
      dsimp only at hy
      gi_wp2
      refine ⟨rfl,hRd.mono ?_⟩
      rintro e B ⟨rfl,hJ2,hK2⟩
      have hnb:∀ x,a2=some x→x.block<w.heap.size∧¬ Wr x.block∧x.block≠Bn:=by
       intro x hx
       obtain ⟨y,hy1,hy2⟩:=hblk2 x hx
       obtain ⟨z,hz1,hz2⟩:=hblk y hy1
       rw[hy2,hz2]
       exact hW2 (fun e=>by have h:=HR.out;rw[e] at h;simp at h) z hz1
      have hcellB:B.cell? ⟨Bn,0,none⟩=some (.slice (some ⟨b,o,none⟩) (r.length+1) cap'):=hK2.cell (p:=⟨Bn,0,none⟩) hcell (fun h=>h.elim hW1 (fun h=>by simp at h;omega))
      have hfzB:B.frozen? ⟨Bn,0,none⟩=false:=(hK2.frozen (p:=⟨Bn,0,none⟩) (by simp;omega) (fun h=>h.elim hW1 (fun h=>by simp at h;omega))).trans hfz
      have hBB:IsBytes B a2 (cap'-k) ((c :: r).drop k):=by
       rw[Hke.out]
       exact (hB2.keeps ((Keeps.refl (fun _=>False) wr).drewN (q+nq)) (fun _ _ _ h=>h)).keeps hK2 (fun _ x hx h=>h.elim (hnb x hx).2.1 (fun h=>by have:=(hnb x hx).1;omega))
      have hrl:rowLen wr Bn=r.length+1:=by unfold rowLen;rw[hcell]
      clear hy hRd hc0 hcell hfz
      try clear hck
      gi_wp2
      go_wp2
      have hdr:L.drop (j+k)=(c :: r).drop k:=by rw[←HR.out,List.drop_drop]
      have hcs:(B.setCell ⟨Bn,0,none⟩ (.slice a2 (r.length+1-k) (cap'-k))).cell? ⟨Bn,0,none⟩=some (.slice a2 (r.length+1-k) (cap'-k)):=World.cell?_setCell_same _ _ _ hcellB
      have hjl:j+(r.length+1)=L.length:=by have:=congrArg List.length HR.out;simp at this;omega
      have hks:Keeps (fun k=>k=Bn) B (B.setCell ⟨Bn,0,none⟩ (.slice a2 (r.length+1-k) (cap'-k))):=(Keeps.refl (fun k=>k=Bn) B).setCell (p:=⟨Bn,0,none⟩) rfl _
      refine ⟨⟨j+k,a2,cap'-k,pre++[(c,k)],by omega,?_,by rw[World.frozen?_setCell];exact hfzB,?_,?_,?_,hJ _ _ _ hJ2 hks,?_⟩,?_⟩
      ·rw[hcs,hdr,List.length_drop,List.length_cons]
      ·rw[hdr];exact hBB.keeps hks (fun _ x hx=>(hnb x hx).2.2)
      ·intro x hx
       obtain ⟨y,hy1,hy2⟩:=hblk2 x hx
       obtain ⟨z,hz1,hz2⟩:=hblk y hy1
       exact ⟨z,hz1,hy2.trans hz2⟩
      ·rw[hdr,Hpre.out,runs,Hke.out];simp
      ·have:=hK2.size;simp at this;simp;omega
      ·rw[hrl];unfold rowLen;rw[hcs];show r.length+1-k<r.length+1;omega
end
end Go.Proofs.YtalagblioepadaaGreatDoor
