/- The proof, part 14. -/
import Derived.Test.YtalagblioepadaaGreatDoorZa05
import Derived.Below
import Derived.Laws.OwnMore
import Derived.Deep.AppendLies
import Derived.Maps.AppendAt
import Derived.OwnWalk
namespace Go.Proofs.YtalagblioepadaaGreatDoor
section
open Go.RowKit
def Vals (w:World) (sz:Nat) (A:Option Addr) (n cap:Nat) (xs:List Value):Prop:=
 xs.length=n*sz∧n≤cap∧cap≤maxLen∧(0<n→∃ b o,A=some ⟨b,o,none⟩∧∀ j u,xs[j]?=some u→w.cell? ⟨b,o+j,none⟩=some u)
section
variable {w w':World} {sz n cap:Nat} {A:Option Addr} {xs:List Value}
theorem Vals.nil (w:World) (sz:Nat):Vals w sz none 0 0 []:=⟨by simp,Nat.le_refl _,Nat.zero_le _,fun h=>absurd h (Nat.lt_irrefl _)⟩
theorem Vals.at' (h:Vals w sz A n cap xs) (hn:0<n):∃ b o,A=some ⟨b,o,none⟩∧∀ j u,xs[j]?=some u→w.cell? ⟨b,o+j,none⟩=some u:=h.2.2.2 hn
theorem Vals.lt (h:Vals w sz A n cap xs) (hs:0<sz) (hn:0<n) {x:Addr} (hx:A=some x):x.block<w.heap.size:=by
 obtain ⟨b,o,e,hc⟩:=h.at' hn
 rw[hx] at e
 cases e
 have hl:0<xs.length:=by rw[h.1];exact Nat.mul_pos hn hs
 exact World.block_lt_of_cell? w ⟨b,o+0,none⟩ (hc 0 xs[0] (by simp))
theorem Vals.keeps {S:Nat→Prop} (h:Vals w sz A n cap xs) (hk:Keeps S w w') (hs:0<n→∀ x,A=some x→¬ S x.block):Vals w' sz A n cap xs:=
 ⟨h.1,h.2.1,h.2.2.1,fun hn=>by
  obtain ⟨b,o,rfl,hc⟩:=h.at' hn
  exact ⟨b,o,rfl,fun j u hu=>hk.cell (p:=⟨b,o+j,none⟩) (hc j u hu) (hs hn ⟨b,o,none⟩ rfl)⟩⟩
theorem Vals.below (h:Vals w sz A n cap xs) {B:Nat} (hb:Below B w w') (hlt:0<n→∀ x,A=some x→x.block<B):Vals w' sz A n cap xs:=
 ⟨h.1,h.2.1,h.2.2.1,fun hn=>by
  obtain ⟨b,o,rfl,hc⟩:=h.at' hn
  exact ⟨b,o,rfl,fun j u hu=>hb.cell (p:=⟨b,o+j,none⟩) (hlt hn ⟨b,o,none⟩ rfl) |>.trans (hc j u hu)⟩⟩
theorem vals_of_own {base:Nat} {e:TypeId} {v:Value} (h:w.ownsRow base e sz v n xs):∃ A cap,v=.slice A n cap∧Vals w sz A n cap xs∧(∀ x,A=some x→base≤x.block∧x.block<w.heap.size∧v.ownBlock=some x.block):=by
 rcases h.2 with ⟨rfl,rfl⟩|⟨g,cap,cur,rfl,hg,hh,hn,hm,hs,ht⟩
 ·exact ⟨none,0,rfl,⟨h.1,Nat.le_refl _,Nat.zero_le _,fun h=>absurd h (Nat.lt_irrefl _)⟩,fun x h=>by cases h⟩
 ·refine ⟨_,cap,rfl,⟨h.1,hn,hm,fun _=>⟨g,0,rfl,fun j u hu=>?_⟩⟩,fun x hx=>by cases hx;exact ⟨hg,blk_lt hh,rfl⟩⟩
  rw[Nat.zero_add]
  refine blk_cell hh ?_
  rw[←ht,List.getElem?_take] at hu
  split at hu
  ·simpa using hu
  ·cases hu
theorem own_keeps {base:Nat} {e:TypeId} {v:Value} {S:Nat→Prop} (h:w.ownsRow base e sz v n xs) (hk:Keeps S w w') (hs:∀ b,v.ownBlock=some b→¬ S b):w'.ownsRow base e sz v n xs:=by
 refine ⟨h.1,?_⟩
 rcases h.2 with h2|⟨g,cap,cur,rfl,hg,hh,r⟩
 ·exact .inl h2
 ·exact .inr ⟨g,cap,cur,rfl,hg,hk.heap hh (hs g rfl),r⟩
theorem own_nil (w:World) (base:Nat) (e:TypeId) (sz:Nat):w.ownsRow base e sz (.slice none 0 0) 0 []:=World.ownsRow_nil w base e sz
end
theorem vals_one (w:World) (u:Value) (t:TypeId):Vals (w.alloc (.cells #[u] t)) 1 (some ⟨w.heap.size,0,none⟩) 1 1 [u]:=
 ⟨rfl,Nat.le_refl _,by simp[maxLen],fun _=>⟨_,_,rfl,fun j v hv=>by
  match j,hv with
  | 0,hv=>
   rw[Option.some.inj (show some u=some v from hv)]
   exact cell_one_new' _ _ _
  | j+1,hv=>simp at hv⟩⟩
section
variable {P:Program} (w:World)
theorem run_append_vals (base:Nat) (t ty e:TypeId) (i:TypeInfo) (z:Value) (sz bytes:Nat) (ht:P.underlying t=some (.slice e)) (hi:P.info? e=some i) (hz:i.zero=some z)
  (hsize:i.size=sz) (hby:i.bytes=bytes) (hzs:z.cells.size=sz) (hsz:0<sz)
  (v:Value) (n:Nat) (xs:List Value) (hown:w.ownsRow base e sz v n xs)
  (A:Option Addr) (m c:Nat) (news:List Value) (hr:Vals w sz A m c news) (h1:∀ u∈news,u.oneCell'=true)
  (h63:n+m≤maxLen) (hbytes:(n+m)*bytes≤140737488355328) (hbase:base≤w.heap.size) :
  ∃ v' w',(Builtin.append_ #[t,t] ty #[v,.slice A m c]).run P w=.ok v' w'∧w'.ownsRow base e sz v' (n+m) (xs++news)∧w.grownBy w' v.ownBlock∧
   (v'.ownBlock=v.ownBlock∨v'.ownBlock=some w.heap.size):=by
 cases A with
 | none=>
  obtain rfl:m=0:=by
   rcases Nat.eq_zero_or_pos m with h0|h0
   ·exact h0
   ·obtain ⟨b,o,h,_⟩:=hr.at' h0
    cases h
  obtain rfl:news=[]:=List.eq_nil_of_length_eq_zero (by simpa using hr.1)
  refine ⟨v,w,?_,by simpa using hown,World.grownBy.refl w _,.inl rfl⟩
  rcases hown.2 with ⟨rfl,rfl⟩|⟨g,cap,cur,rfl,_,_,hnc,_⟩
  ·simp[Builtin.append_,run_underlying ht,sizeOf,typeInfo,hi,Builtin.lenOf,Builtin.firstCells]
  ·simp[Builtin.append_,run_underlying ht,sizeOf,typeInfo,hi,Builtin.lenOf,Builtin.firstCells,hnc,storeCells]
 | some ad=>
  have hcells:∀ j u,news[j]?=some u→w.cell? (ad.add j)=some u:=by
   intro j u hu
   rcases Nat.eq_zero_or_pos m with h0|h0
   ·subst h0
    obtain rfl:news=[]:=List.eq_nil_of_length_eq_zero (by simpa using hr.1)
    simp at hu
   ·obtain ⟨b,o,h,hc⟩:=hr.at' h0
    cases h
    rw[addr_add]
    exact hc j u hu
  obtain ⟨v',w',hrun,h2,h3,_,h5⟩:=run_append_own_at (P:=P) w base t ty e i z sz bytes ht hi hz hsize hby hzs hsz v n xs hown ad m c news hr.1 hcells h1 h63 hbytes hbase
  exact ⟨v',w',hrun,h2,h3,h5⟩
theorem wp_append_vals {o:Oper} {a:Act} {K:Act→World→Prop} {Q:Exit→Act→World→Prop} (s x:Operand) (t:TypeId)
  (ho:o.op=.call { callee:=.builtin .append,args:=#[s,x],argTypes:=#[t,t] })
  (base:Nat) (e:TypeId) (i:TypeInfo) (z:Value) (sz bytes:Nat) (ht:P.underlying t=some (.slice e)) (hi:P.info? e=some i) (hz:i.zero=some z)
  (hsize:i.size=sz) (hby:i.bytes=bytes) (hzs:z.cells.size=sz) (hsz:0<sz)
  (v:Value) (n:Nat) (xs:List Value) (hs:a.eval s=v) (hown:w.ownsRow base e sz v n xs)
  (A:Option Addr) (m c:Nat) (news:List Value) (hx:a.eval x=.slice A m c) (hr:Vals w sz A m c news) (h1:∀ u∈news,u.oneCell'=true)
  (h63:n+m≤maxLen) (hbytes:(n+m)*bytes≤140737488355328) (hbase:base≤w.heap.size)
  (h:∀ v' w',w'.ownsRow base e sz v' (n+m) (xs++news)→w.grownBy w' v.ownBlock→(v'.ownBlock=v.ownBlock∨v'.ownBlock=some w.heap.size)→K (a.put o.dst v') w'):o.wp P a w K Q:=by
 obtain ⟨v',w',hrun,h2,h3,h4⟩:=run_append_vals (P:=P) w base t o.type e i z sz bytes ht hi hz hsize hby hzs hsz v n xs hown A m c news hr h1 h63 hbytes hbase
 unfold Oper.wp execOp
 simp only[ho,resolve,invoke,builtin,Sem.run_bind,Sem.run_pure,Result.andThen_ok,List.map_toArray,List.map_cons,List.map_nil,hs,hx,hrun]
 exact h v' w' h2 h3 h4
theorem wpList_append_vals {ops:Array Oper} {rest:List Oper} {o:Oper} {a:Act} {Q:Exit→Act→World→Prop} (hgd:o.guard=none) (s x:Operand) (t:TypeId)
  (ho:o.op=.call { callee:=.builtin .append,args:=#[s,x],argTypes:=#[t,t] })
  (base:Nat) (e:TypeId) (i:TypeInfo) (z:Value) (sz bytes:Nat) (ht:P.underlying t=some (.slice e)) (hi:P.info? e=some i) (hz:i.zero=some z)
  (hsize:i.size=sz) (hby:i.bytes=bytes) (hzs:z.cells.size=sz) (hsz:0<sz)
  (v:Value) (n:Nat) (xs:List Value) (hs:a.eval s=v) (hown:w.ownsRow base e sz v n xs)
  (A:Option Addr) (m c:Nat) (news:List Value) (hx:a.eval x=.slice A m c) (hr:Vals w sz A m c news) (h1:∀ u∈news,u.oneCell'=true)
  (h63:n+m≤maxLen) (hbytes:(n+m)*bytes≤140737488355328) (hbase:base≤w.heap.size)
  (h:∀ v' w',w'.ownsRow base e sz v' (n+m) (xs++news)→w.grownBy w' v.ownBlock→(v'.ownBlock=v.ownBlock∨v'.ownBlock=some w.heap.size)→wpList P ops Q rest (a.put o.dst v') w'):wpList P ops Q (o :: rest) a w:=
 wpList_plain hgd fun _ hK=>wp_append_vals w s x t ho base e i z sz bytes ht hi hz hsize hby hzs hsz v n xs hs hown A m c news hx hr h1 h63 hbytes hbase fun v' w' h2 h3 h4=>hK _ _ (h v' w' h2 h3 h4)
end
end
section
open Go.RowKit
theorem addr_none {w:World} {b o:Nat} {s:Option Nat} {v:Value} (h:w.cell? ⟨b,o,s⟩=some v):s=none:=by
 cases s with
 | none=>rfl
 | some x=>
  exfalso
  simp only[World.cell?] at h
  split at h
  ·simp at h
  ·cases h
theorem vals_of_row {k:IntKind} {w:World} {a:Option Addr} {len cap:Nat} {zs:List Int}
  (h:(a=none∧len=0∧cap=0∧zs=[])∨∃ x,a=some x∧len≤cap∧cap≤maxLen∧zs.length=cap∧(∀ i,i<zs.length→w.cell? (x.add i)=some (.int k (zs.getD i 0)))∧∀ n∈zs,(Lit.int k n).wf=true) :
  ∃ L:List Int,L.length=len∧Vals w 1 a len cap (L.map fun x=>.int k x)∧∀ n∈L,(Lit.int k n).wf=true:=by
 rcases h with ⟨rfl,rfl,rfl,rfl⟩|⟨x,rfl,hl,hm,hz,hc,hw⟩
 ·exact ⟨[],rfl,Vals.nil w 1,fun _ h=>by cases h⟩
 ·refine ⟨zs.take len,by simp;omega,⟨by simp;omega,hl,hm,fun hn=>?_⟩,fun n hn=>hw n (List.mem_of_mem_take hn)⟩
  obtain ⟨b,o,s⟩:=x
  have h0:=hc 0 (by omega)
  have hs:s=none:=addr_none (by simpa[Addr.add] using h0)
  subst hs
  refine ⟨b,o,rfl,fun j u hu=>?_⟩
  rw[List.getElem?_map,List.getElem?_take] at hu
  split at hu
  ·have hj:j<zs.length:=by omega
   have h1:=hc j hj
   rw[addr_add] at h1
   rw[h1]
   simp[hj] at hu
   simp[hj,hu]
  ·simp at hu
theorem wf_u8 {n:Int} (h:(Lit.int .u8 n).wf=true):0≤n∧n≤255:=by
 simp only[Lit.wf] at h
 simpa[IntKind.min,IntKind.max,IntKind.signed,IntKind.bits] using h
end
end Go.Proofs.YtalagblioepadaaGreatDoor
