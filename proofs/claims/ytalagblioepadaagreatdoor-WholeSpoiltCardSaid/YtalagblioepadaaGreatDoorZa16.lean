/- The proof, part 16. -/
import Derived.Test.YtalagblioepadaaGreatDoorZa07
import Derived.Test.YtalagblioepadaaGreatDoorZa05
import Derived.Laws.BitsAllLaws
import Derived.IntWalk
namespace Go.Proofs.YtalagblioepadaaGreatDoor
section
open Go.RowKit
theorem conv_back (w:World) (b cap:Nat) (l:List UInt8) (k:Nat) (c:UInt8) (hk:k<l.length)
  (hcell:∀ i (h:i<l.length),w.cell? ⟨b,i,none⟩=some (.int .u8 l[i].toNat)) :
  (convert 51 9 (.slice (some ⟨b,0,none⟩) l.length cap)).run Tryz.prog (w.setCell ⟨b,k,none⟩ (.int .u8 c.toNat))=.ok (.string ⟨(l.set k c).toArray⟩) (w.setCell ⟨b,k,none⟩ (.int .u8 c.toNat)):=by
 have h:=run_convert_bytes_back (P:=Tryz.prog) (w.setCell ⟨b,k,none⟩ (.int .u8 c.toNat)) 51 9 5 ⟨b,0,none⟩ cap (l.set k c) Tryz.underlying51 Tryz.underlying5 Tryz.underlying9 (by
  intro j hj
  have hj':j<l.length:=by simpa using hj
  have ea:(⟨b,0,none⟩:Addr).add j=⟨b,j,none⟩:=by rw[addr_add,Nat.zero_add]
  rw[ea]
  by_cases e:k=j
  ·subst e
   rw[World.cell?_setCell_same _ _ _ (hcell k hk)]
   simp
  ·rw[World.cell?_setCell_other _ _ _ _ (by simp),hcell j hj']
   simp[List.getElem_set_ne e])
 simpa using h
def turnIx (x:Int) (n:Nat):Nat:=if x.tmod n<0 then (x.tmod n+n).toNat else (x.tmod n).toNat
theorem tmod_in (x:Int) (n:Nat) (h0:0<n):-(n:Int)<x.tmod n∧x.tmod n<n:=by
 have c:=tmod_cases x n
 by_cases h:0≤x
 ·rw[c.1 h]
  have:=Int.emod_lt_of_pos x (show (0:Int)<n by omega)
  have:=Int.emod_nonneg x (show (n:Int)≠0 by omega)
  omega
 ·rw[c.2 (by omega)]
  have:=Int.emod_lt_of_pos (-x) (show (0:Int)<n by omega)
  have:=Int.emod_nonneg (-x) (show (n:Int)≠0 by omega)
  omega
theorem turn_pick (x:Int) (n:Nat) (h0:0<n) (h1:n≤256):∃ r:Int,x.tmod (n:Int)=r∧((r<0∧wrap64 (r+n)=(turnIx x n:Int)∧turnIx x n<n)∨(0≤r∧r=(turnIx x n:Int)∧turnIx x n<n)):=by
 have h:=tmod_in x n h0
 refine ⟨x.tmod n,rfl,?_⟩
 unfold turnIx
 split
 ·left
  unfold wrap64
  omega
 ·right
  omega
def xorB (x:UInt8) (b:Nat):UInt8:=UInt8.ofNat (x.toNat ^^^ b)
theorem xorB_bits (x:UInt8) (b:Nat) (hb:b<256):bits .xor .u8 (x.toNat:Int) (b:Int)=((xorB x b).toNat:Int):=by
 have hlt:x.toNat ^^^ b<256:=Nat.xor_lt_two_pow (n:=8) x.toNat_lt hb
 rw[u8_xor_nat _ b x.toNat_lt hb,xorB]
 simp[Nat.mod_eq_of_lt hlt,-UInt8.toNat_xor,-UInt8.ofNat_xor]
def turnL (l:List UInt8) (x:Int) (b:Nat):List UInt8:=l.set (turnIx x l.length) (xorB (l.getD (turnIx x l.length) 0) b)
def turnT (t:ByteArray) (x:Int) (b:Nat):ByteArray:=⟨(turnL t.data.toList x b).toArray⟩
end
end Go.Proofs.YtalagblioepadaaGreatDoor
