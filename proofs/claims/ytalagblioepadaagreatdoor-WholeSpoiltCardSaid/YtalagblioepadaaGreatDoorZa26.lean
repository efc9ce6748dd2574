/- The proof, part 26. -/
import Derived.Test.YtalagblioepadaaGreatDoorZa25
import Derived.Test.YtalagblioepadaaGreatDoorZa11
import Derived.IntWalk
namespace Go.Proofs.YtalagblioepadaaGreatDoor
section
open Go.RowKit
set_option maxRecDepth 10000
theorem eq_bytes (w:World) (a b:Option Addr) (ca cb:Nat) (L M:List UInt8) (hL:IsBytes w a ca L) (hM:IsBytes w b cb M) :
  Calls Tryz.prog 311 #[.slice a L.length ca,.slice b M.length cb] w fun e w'=>e=.returned (.bool (decide (L=M)))∧∃ q,w'=w.drewN q:=by
 have hl1:L.length≤9223372036854775807:=Nat.le_trans hL.1 hL.2.1
 have hl2:M.length≤9223372036854775807:=Nat.le_trans hM.1 hM.2.1
 by_cases hlen:L.length=M.length
 ·have hq:((L.length:Int) == (M.length:Int))=true:=by rw[beq_iff_eq];omega
  have hqn:((L.length:Int) != (M.length:Int))=false:=by simp[hlen]
  have Hlen:=hid hlen
  clear hlen
  go_enter Tryz.func311,Tryz.ntmps311
  go_wp2
  go_loopw [13] (fun i wr=>∃ k q:Nat,k≤L.length∧i=.int .i64 k∧w.drewN q=wr∧Hid (∀ j (h1:j<L.length) (h2:j<M.length),j<k→L[j]=M[j])) (fun i _=>L.length-(intOf i).toNat)
  case atStart=>exact ⟨0,0,Nat.zero_le _,rfl,rfl,fun _ _ _ h=>absurd h (Nat.not_lt_zero _)⟩
  case round=>
   obtain ⟨k,q,hk,rfl,rfl,hall⟩:=hrel
   by_cases hlt:k<L.length
   ·have hlm:k<M.length:=by have:=Hlen.out;omega
    obtain ⟨b1,o1,rfl,hc1⟩:=hL.at' (by intro h;rw[h] at hlt;exact Nat.not_lt_zero _ hlt)
    obtain ⟨b2,o2,rfl,hc2⟩:=hM.at' (by intro h;rw[h] at hlm;exact Nat.not_lt_zero _ hlm)
    have hk1:w.cell? ⟨b1,o1+k,none⟩=some (.int .u8 L[k].toNat):=hc1 k hlt
    have hk2:w.cell? ⟨b2,o2+k,none⟩=some (.int .u8 M[k].toNat):=hc2 k hlm
    clear hc1 hc2
    by_cases he:L[k]=M[k]
    ·have hq2:((L[k].toNat:Int) == (M[k].toNat:Int))=true:=by rw[beq_iff_eq,he]
     have hq3:((L[k].toNat:Int) != (M[k].toNat:Int))=false:=by simp[he]
     have He:=hid he
     clear he
     go_wp2
     go_quiet (fail)
     go_wp2
     go_roundw
     case rel=>exact ⟨k+1,q+nq,by omega,by go_num,rfl,fun j h1 h2 h3=>by
      by_cases e:j=k
      ·subst e;exact He.out
      ·exact hall j h1 h2 (by omega)⟩
     case measure=>simp[intOf];omega
    ·have hne:¬ (L[k].toNat:Int)=(M[k].toNat:Int):=fun h=>he (UInt8.toNat_inj.1 (by omega))
     have hq2:((L[k].toNat:Int) == (M[k].toNat:Int))=false:=by rw[beq_eq_false_iff_ne];exact hne
     have hq3:((L[k].toNat:Int) != (M[k].toNat:Int))=true:=by simp only[bne,hq2,Bool.not_false]
     have hfin:decide (L=M)=false:=by
      rw[decide_eq_false_iff_not]
      intro h
      subst h
      exact he rfl
     have Hfin:=hid hfin
     clear he hfin hne
     go_wp2
     go_quiet (fail)
     go_wp2
     go_ret
     exact ⟨by rw[Hfin.out];rfl,q+nq,by simp[World.drewN,Nat.add_assoc]⟩
   ·have hfin:decide (L=M)=true:=by
     rw[decide_eq_true_eq]
     exact List.ext_getElem Hlen.out fun j h1 h2=>hall j h1 h2 (by omega)
    have Hfin:=hid hfin
    clear hfin
    go_wp2
    go_ret
    exact ⟨by rw[Hfin.out];rfl,q,rfl⟩
 ·have hq:((L.length:Int) == (M.length:Int))=false:=by rw[beq_eq_false_iff_ne];omega
  have hqn:((L.length:Int) != (M.length:Int))=true:=by simp only[bne,hq,Bool.not_false]
  have hfin:decide (L=M)=false:=by
   rw[decide_eq_false_iff_not]
   intro h
   exact hlen (by rw[h])
  have Hfin:=hid hfin
  clear hlen hfin
  go_enter Tryz.func311,Tryz.ntmps311
  go_wp2
  go_ret
  exact ⟨by rw[Hfin.out];rfl,0,rfl⟩
end
end Go.Proofs.YtalagblioepadaaGreatDoor
