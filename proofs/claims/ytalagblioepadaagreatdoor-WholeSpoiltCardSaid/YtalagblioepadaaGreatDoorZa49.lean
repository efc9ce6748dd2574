/- The proof, part 49. -/
import Derived.Test.YtalagblioepadaaGreatDoorZa48
namespace Go.Proofs.YtalagblioepadaaGreatDoor
section
open Go.RowKit
open Go.Maps
set_option maxRecDepth 100000
set_option linter.unusedVariables false
variable {w w':World} {B:BB} {t:BS} {r:Rw}
def Zlo (lo:Nat) (w:World) (j:Nat):Prop:=lo≤j∧j<w.heap.size
theorem BtR.fit {Z:Nat→Prop} {lo:Nat} (h:BtR w Z B t r) (hz:∀ j,Z j→lo≤j):BtR w (Zlo lo w) B t r:=
 ⟨h.sep,fun x hx j hj=>⟨hz j (h.z x hx j hj),h.sep.lt hx hj⟩,h.few⟩
def OutE (e:Ending):Prop:=∃ (A:Option Addr) (n c:Nat) (m:Bool) (er:Int),e=.returned (.tuple #[.agg #[.slice none 0 0,.slice A n c,.bool m],.int .i64 er])
theorem BoPost.lo {lo:Nat} {e:Ending} (h:BoPost w (Zlo lo w) B t r e w') (hl:lo≤w.heap.size):OutE e∧(∃ r',BtR w' (Zlo lo w') B t r'∧∀ j,r'.n j≤r.n j+1)∧Below lo w w':=by
 obtain ⟨he,⟨r',hb,hn⟩,hk⟩:=h
 refine ⟨he,⟨r',hb.fit fun j hj=>?_,hn⟩,hk.below hl fun k hk hz=>?_⟩
 ·rcases hj with hj|hj
  ·exact hj.1
  ·omega
 ·have:=hz.1
  omega
structure SpQ (u:SuP) (lo cnt:Nat) (B:BB) (T bad:Nat→Int) (g:Nat→Bool) (cs:CS) (r:Rw) (w:World):Prop where
 bt:BtR w (Zlo lo w) B ⟨fun k=>spP u k (T k) (bad k) (g k),cs⟩ r
 lo:lo≤w.heap.size
 T:∀ k,0≤T k∧T k≤cnt
 bad:∀ k,0≤bad k∧bad k≤cnt
 lost:0≤cs.lost∧cs.lost≤cnt
 fly:∀ x,(x∈cs.a∨x∈cs.b)→∃ m,RightP m∧x=textM m
 n:∀ k,r.n k≤cnt
def SpI (u:SuP) (lo cnt:Nat) (B:BB) (w:World):Prop:=∃ T bad g cs r,SpQ u lo cnt B T bad g cs r w
def SpPost (u:SuP) (lo cnt:Nat) (B:BB) (w:World) (e:Ending) (w':World):Prop:=OutE e∧SpI u lo (cnt+1) B w'∧Below lo w w'
theorem sp_fin {u:SuP} {lo cnt:Nat} {T bad:Nat→Int} {g:Nat→Bool} {cs:CS} {e:Ending} (hp:BoPost w (Zlo lo w) B ⟨fun k=>spP u k (T k) (bad k) (g k),cs⟩ r e w') (hl:lo≤w.heap.size)
  (hT:∀ k,0≤T k∧T k≤(cnt+1:Nat)) (hb:∀ k,0≤bad k∧bad k≤(cnt+1:Nat)) (ho:0≤cs.lost∧cs.lost≤(cnt+1:Nat)) (hf:∀ x,(x∈cs.a∨x∈cs.b)→∃ m,RightP m∧x=textM m) (hn:∀ k,r.n k≤cnt):SpPost u lo cnt B w e w':=by
 obtain ⟨he,⟨r',hbt,hn'⟩,hbe⟩:=hp.lo hl
 exact ⟨he,⟨T,bad,g,cs,r',hbt,Nat.le_trans hl hbe.size,hT,hb,ho,hf,fun k=>by have:=hn k;have:=hn' k;omega⟩,hbe⟩
theorem setS_sp (u:SuP) (T bad:Nat→Int) (g:Nat→Bool) (k:Nat) (T' bad':Int) (g':Bool):setS (fun j=>spP u j (T j) (bad j) (g j)) k (spP u k T' bad' g')=fun j=>spP u j (updA T k T' j) (updA bad k bad' j) (updA g k g' j):=by
 funext j
 unfold setS updA
 by_cases e:j=k
 ·subst e
  simp
 ·simp[e]
theorem updA_all {α:Type} {p:α→Prop} {f:Nat→α} (h:∀ j,p (f j)) (k:Nat) {y:α} (hy:p y) (j:Nat):p (updA f k y j):=by
 unfold updA
 split
 ·exact hy
 ·exact h j
theorem copy_in {s:CS} {to i:Int} {v:ByteArray} (h:copyC s to i=some v):v∈s.a∨v∈s.b:=by
 unfold copyC at h
 split at h
 ·have h1:=List.mem_of_getElem? h
  unfold CS.get at h1
  split at h1
  ·exact .inl h1
  ·exact .inr h1
 ·cases h
theorem take_in {s:CS} {to i:Int} {v:ByteArray} (h:v∈(takeC s to i).a∨v∈(takeC s to i).b):v∈s.a∨v∈s.b:=by
 unfold takeC at h
 split at h
 ·unfold CS.put CS.get at h
  split at h
  ·rcases h with h|h
   ·exact .inl (List.mem_of_mem_eraseIdx h)
   ·exact .inr h
  ·rcases h with h|h
   ·exact .inl h
   ·exact .inr (List.mem_of_mem_eraseIdx h)
 ·exact h
theorem take_lost (s:CS) (to i:Int):(takeC s to i).lost=s.lost:=by
 unfold takeC CS.put
 split
 ·split<;>rfl
 ·rfl
theorem drop_in {s:CS} {to i:Int} {v:ByteArray} (h:v∈(dropC s to i).a∨v∈(dropC s to i).b):v∈s.a∨v∈s.b:=by
 unfold dropC at h
 split at h
 ·exact take_in h
 ·exact h
theorem drop_lost (s:CS) (to i:Int):s.lost≤(dropC s to i).lost∧(dropC s to i).lost≤s.lost+1:=by
 unfold dropC
 split
 ·exact ⟨by show s.lost≤s.lost+1;omega,Int.le_refl _⟩
 ·omega
theorem send_in {s:CS} {to:Int} {t v:ByteArray} (h:v∈(sendC s 64 to t).a∨v∈(sendC s 64 to t).b):v=t∨v∈s.a∨v∈s.b:=by
 unfold sendC at h
 by_cases h1:okTo to∧okText t
 ·rw[if_pos h1] at h
  by_cases h2:(s.get to).length<64
  ·rw[if_pos h2] at h
   unfold CS.put CS.get at h
   by_cases h3:to=0
   ·simp only[if_pos h3,List.mem_append,List.mem_singleton] at h
    rcases h with (h|h)|h
    ·exact .inr (.inl h)
    ·exact .inl h
    ·exact .inr (.inr h)
   ·simp only[if_neg h3,List.mem_append,List.mem_singleton] at h
    rcases h with h|h|h
    ·exact .inr (.inl h)
    ·exact .inr (.inr h)
    ·exact .inl h
  ·rw[if_neg h2] at h
   exact .inr h
 ·rw[if_neg h1] at h
  exact .inr h
theorem sends_in (to:Int):∀ (ms:List Msg) (s:CS),(∀ m∈ms,RightP m)→(∀ x,(x∈s.a∨x∈s.b)→∃ m,RightP m∧x=textM m)→∀ x,(x∈(sendsC s to ms).a∨x∈(sendsC s to ms).b)→∃ m,RightP m∧x=textM m
 | [],_,_,h=>h
 | m :: ms,s,hm,h=>sends_in to ms (sendC s 64 to (textM m)) (fun y hy=>hm y (List.mem_cons_of_mem _ hy)) fun x hx=>by
  rcases send_in hx with e|e
  ·exact ⟨m,hm m List.mem_cons_self,e⟩
  ·exact h x e
theorem pack_small {m:Msg} (h:RightP m):(packM m).length≤100000:=by
 have:=textM_size h
 have hl:(packM m).length=(textM m).size:=by simp[textM,ByteArray.size]
 omega
theorem sp_arg {u:SuP} {lo cnt:Nat} (h:SpI u lo cnt B w) (hu:u.ok) (hc:cnt≤1000) (kd who i at' by' in':Int) (hw:¬ (0≤who∧who<2)∨kd<1∨6<kd):Calls Tryz.prog 10 #[.pointer (some ⟨B.b,0,none⟩),.agg #[.int .i64 kd,.int .i64 who,.int .i64 i,.int .i64 at',.int .u8 by',.int .u8 in']] w (SpPost u lo cnt B w):=by
 obtain ⟨T,bad,g,cs,r,h⟩:=h
 refine (bo_Do_arg h.bt (fun j hj=>hj.2) kd who i at' by' in' hw).mono fun e w' hp=>?_
 exact sp_fin hp h.lo (fun k=>by have:=h.T k;omega) (fun k=>by have:=h.bad k;omega) (by have:=h.lost;omega) h.fly h.n
theorem sp_wrongin {u:SuP} {lo cnt:Nat} (h:SpI u lo cnt B w) (hu:u.ok) (hc:cnt≤1000) (k:Nat) (hk:k<2) (i at' by' v:Int) (hv:63<v):Calls Tryz.prog 10 #[.pointer (some ⟨B.b,0,none⟩),.agg #[.int .i64 1,.int .i64 k,.int .i64 i,.int .i64 at',.int .u8 by',.int .u8 v]] w (SpPost u lo cnt B w):=by
 obtain ⟨T,bad,g,cs,r,h⟩:=h
 refine (bo_Do_tick h.bt (fun j hj=>hj.2) k hk i at' by' v _ fun W r' hW hr hs=>bo_tick_arg hW (fun j hj=>by have:=hj.2;omega) k hk v hv).mono fun e w' hp=>?_
 exact sp_fin hp h.lo (fun k=>by have:=h.T k;omega) (fun k=>by have:=h.bad k;omega) (by have:=h.lost;omega) h.fly h.n
theorem sp_tickin {u:SuP} {lo cnt:Nat} (h:SpI u lo cnt B w) (hu:u.ok) (hc:cnt≤1000) (k:Nat) (hk:k<2) (i at' by' v:Int) (hv:v≤63):Calls Tryz.prog 10 #[.pointer (some ⟨B.b,0,none⟩),.agg #[.int .i64 1,.int .i64 k,.int .i64 i,.int .i64 at',.int .u8 by',.int .u8 v]] w (SpPost u lo cnt B w):=by
 obtain ⟨T,bad,g,cs,r,h⟩:=h
 have hT:=h.T k
 have hm:=spM_ok u hk (T k) (g k)
 have hlost:=sendsC_lost (1-(k:Int)) (spM u k (T k) (g k)) cs
 refine (bo_Do_tick h.bt (fun j hj=>hj.2) k hk i at' by' v ⟨setS (fun k=>spP u k (T k) (bad k) (g k)) k (spP u k (T k+1) (bad k) (spG u (T k) (g k))),sendsC cs (1-(k:Int)) (spM u k (T k) (g k))⟩ fun W r' hW hr hs=>
  bo_tick hW (fun j hj=>by have:=hj.2;omega) k hk v (spP u k (T k+1) (bad k) (spG u (T k) (g k))) (spM u k (T k) (g k)) false (fun W hp=>sp_Tick hk ⟨hT.1,by omega⟩ hu v hv hp) (by omega) (by have:=h.lost;show 0≤cs.lost∧cs.lost≤_;omega)
   (fun m hx=>pack_small (hm.1 m hx).2) (by have:=h.n k;have:=hr k;omega)).mono fun e w' hp=>?_
 rw[setS_sp] at hp
 refine sp_fin hp h.lo (fun j=>?_) (fun j=>?_) (by have:=h.lost;omega) (sends_in _ _ _ (fun m hx=>(hm.1 m hx).2) h.fly) h.n
 ·exact updA_all (p:=fun z=>0≤z∧z≤((cnt+1:Nat):Int)) (fun j=>by have:=h.T j;omega) k (by omega) j
 ·exact updA_all (p:=fun z=>0≤z∧z≤((cnt+1:Nat):Int)) (fun j=>by have:=h.bad j;omega) k (by have:=h.bad k;omega) j
theorem sp_drop {u:SuP} {lo cnt:Nat} (h:SpI u lo cnt B w) (hu:u.ok) (hc:cnt≤1000) (k:Nat) (hk:k<2) (i at' by' v:Int):Calls Tryz.prog 10 #[.pointer (some ⟨B.b,0,none⟩),.agg #[.int .i64 4,.int .i64 k,.int .i64 i,.int .i64 at',.int .u8 by',.int .u8 v]] w (SpPost u lo cnt B w):=by
 obtain ⟨T,bad,g,cs,r,h⟩:=h
 have hl:0≤cs.lost∧cs.lost≤1000000:=by have:=h.lost;omega
 have hd:=drop_lost cs k i
 refine (bo_Do_hear h.bt (fun j hj=>hj.2) 4 (by omega) k hk i at' by' v ⟨fun k=>spP u k (T k) (bad k) (g k),dropC cs k i⟩ fun W r' hW hr hs=>?_).mono fun e w' hp=>?_
 ·have hO:∀ W,BtR W (Zlo lo w) B ⟨fun k=>spP u k (T k) (bad k) (g k),cs⟩ r'→_:=fun W hW=>bo_out_drop hW (k:Int) i at' by' v hl
  cases hcp:(copyC cs k i).isSome with
  | false=>exact bo_hear_no hW (fun j hj=>by have:=hj.2;omega) 4 k i at' by' v ByteArray.empty (dropC cs k i) (fun W hW=>by have:=hO W hW;rw[show (copyC (BS.cs ⟨fun k=>spP u k (T k) (bad k) (g k),cs⟩) k i).isSome=false from hcp] at this;exact this)
  | true=>exact bo_hear_drop hW (fun j hj=>by have:=hj.2;omega) 4 k i at' by' v ByteArray.empty (dropC cs k i) rfl (fun W hW=>by have:=hO W hW;rw[show (copyC (BS.cs ⟨fun k=>spP u k (T k) (bad k) (g k),cs⟩) k i).isSome=true from hcp] at this;exact this)
 ·exact sp_fin hp h.lo (fun k=>by have:=h.T k;omega) (fun k=>by have:=h.bad k;omega) (by have:=h.lost;omega) (fun x hx=>h.fly x (drop_in hx)) h.n
theorem sp_spoil {u:SuP} {lo cnt:Nat} (h:SpI u lo cnt B w) (hu:u.ok) (hc:cnt≤1000) (k:Nat) (hk:k<2) (i at' v:Int) (by':Nat) (hby:0<by'∧by'<256):Calls Tryz.prog 10 #[.pointer (some ⟨B.b,0,none⟩),.agg #[.int .i64 5,.int .i64 k,.int .i64 i,.int .i64 at',.int .u8 by',.int .u8 v]] w (SpPost u lo cnt B w):=by
 obtain ⟨T,bad,g,cs,r,h⟩:=h
 cases hcp:copyC cs k i with
 | none=>
  refine (bo_Do_hear h.bt (fun j hj=>hj.2) 5 (by omega) k hk i at' by' v ⟨fun k=>spP u k (T k) (bad k) (g k),cs⟩ fun W r' hW hr hs=>?_).mono fun e w' hp=>?_
  ·exact bo_hear_no hW (fun j hj=>by have:=hj.2;omega) 5 k i at' by' v ByteArray.empty cs (fun W hW=>bo_out_spoil hW (k:Int) i at' by' v ByteArray.empty false cs fun W hc=>cable_Spoil_no hc (k:Int) i at' by' hcp)
  ·exact sp_fin hp h.lo (fun k=>by have:=h.T k;omega) (fun k=>by have:=h.bad k;omega) (by have:=h.lost;omega) h.fly h.n
 | some x=>
  obtain ⟨m,hm,rfl⟩:=h.fly x (copy_in hcp)
  have hs:=textM_size hm
  have hu15:=spoilt_unp m at' by' hby.2 (by omega) hm
  obtain ⟨bad',er,hb1,hb2,hH⟩:=sp_Hear (u:=u) (k:=k) (T:=T k) (bad:=bad k) (g:=g k) (by have:=h.bad k;omega) hu _ hu15.1 hu15.2
  refine (bo_Do_hear h.bt (fun j hj=>hj.2) 5 (by omega) k hk i at' by' v ⟨setS (fun k=>spP u k (T k) (bad k) (g k)) k (spP u k (T k) bad' (g k)),takeC cs k i⟩ fun W r' hW hr hs=>?_).mono fun e w' hp=>?_
  ·exact bo_hear_txt hW (fun j hj=>by have:=hj.2;omega) 5 k hk i at' by' v (turnT (textM m) at' by') (takeC cs k i) (by omega) (spP u k (T k) bad' (g k)) er (fun W hW=>bo_out_spoil hW (k:Int) i at' by' v (turnT (textM m) at' by') true (takeC cs k i) fun W hc=>cable_Spoil hc (k:Int) i at' by' hby.2 (textM m) hcp (textM_size hm).1 (textM_size hm).2) (fun W hp=>hH W _ hp)
  ·rw[setS_sp] at hp
   refine sp_fin hp h.lo (fun j=>?_) (fun j=>?_) (by rw[take_lost];have:=h.lost;omega) (fun x hx=>h.fly x (take_in hx)) h.n
   ·exact updA_all (p:=fun z=>0≤z∧z≤((cnt+1:Nat):Int)) (fun j=>by have:=h.T j;omega) k (by have:=h.T k;omega) j
   ·exact updA_all (p:=fun z=>0≤z∧z≤((cnt+1:Nat):Int)) (fun j=>by have:=h.bad j;omega) k (by have:=h.bad k;omega) j
theorem sp_Do {u:SuP} {lo cnt:Nat} (h:SpI u lo cnt B w) (hu:u.ok) (hc:cnt≤1000) (kd who i at' by' in':Int) (hby:0≤by'∧by'<256) (hkd:kd≠2∧kd≠3∧kd≠6∧(kd=5→by'≠0)):Calls Tryz.prog 10 #[.pointer (some ⟨B.b,0,none⟩),.agg #[.int .i64 kd,.int .i64 who,.int .i64 i,.int .i64 at',.int .u8 by',.int .u8 in']] w (SpPost u lo cnt B w):=by
 by_cases hw:¬ (0≤who∧who<2)∨kd<1∨6<kd
 ·exact sp_arg h hu hc kd who i at' by' in' hw
 ·obtain ⟨k,rfl⟩:=Int.eq_ofNat_of_zero_le (show 0≤who by omega)
  have hk:k<2:=by omega
  have h3:kd=1∨kd=4∨kd=5:=by omega
  rcases h3 with rfl|rfl|rfl
  ·by_cases hv:in'≤63
   ·exact sp_tickin h hu hc k hk i at' by' in' hv
   ·exact sp_wrongin h hu hc k hk i at' by' in' (by omega)
  ·exact sp_drop h hu hc k hk i at' by' in'
  ·obtain ⟨b,rfl⟩:=Int.eq_ofNat_of_zero_le hby.1
   have:=hkd.2.2.2 rfl
   exact sp_spoil h hu hc k hk i at' in' b (by omega)
end
section
open Go.RowKit
open Go.Maps
set_option maxRecDepth 100000
variable {w w':World} {B:BB} {t:BS} {r:Rw}
def tN (s:Aw) (j:Nat):Pe:=if j=0 then peN 0 s.p else if j=1 then peN 1 s.q else peN j (Nm.new j)
def csN (s:Aw):CS:=⟨s.f.map textM,s.g.map textM,0⟩
structure AwQ (lo cnt:Nat) (B:BB) (s:Aw) (r:Rw) (w:World):Prop where
 bt:BtR w (Zlo lo w) B ⟨tN s,csN s⟩ r
 lo:lo≤w.heap.size
 p:NmOk s.p
 q:NmOk s.q
 n:∀ k,r.n k≤cnt
def AwI (lo cnt:Nat) (B:BB) (s:Aw) (w:World):Prop:=∃ r,AwQ lo cnt B s r w
def AwPost (lo cnt:Nat) (B:BB) (s:Aw) (w:World) (e:Ending) (w':World):Prop:=OutE e∧AwI lo (cnt+1) B s w'∧Below lo w w'
theorem aw_fin {lo cnt:Nat} {s:Aw} {e:Ending} (hp:BoPost w (Zlo lo w) B ⟨tN s,csN s⟩ r e w') (hl:lo≤w.heap.size) (h1:NmOk s.p) (h2:NmOk s.q) (hn:∀ k,r.n k≤cnt):AwPost lo cnt B s w e w':=by
 obtain ⟨he,⟨r',hbt,hn'⟩,hbe⟩:=hp.lo hl
 exact ⟨he,⟨r',hbt,Nat.le_trans hl hbe.size,h1,h2,fun k=>by have:=hn k;have:=hn' k;omega⟩,hbe⟩
theorem setS_0 (s:Aw) (p':Nm):setS (tN s) 0 (peN 0 p')=tN { s with p:=p' }:=by
 funext j
 unfold setS tN
 by_cases e:j=0
 ·rw[if_pos e,if_pos e]
 ·rw[if_neg e,if_neg e,if_neg e]
theorem setS_1 (s:Aw) (q':Nm):setS (tN s) 1 (peN 1 q')=tN { s with q:=q' }:=by
 funext j
 unfold setS tN
 by_cases e:j=1
 ·subst e
  rw[if_pos rfl,if_neg (by omega),if_pos rfl]
 ·rw[if_neg e,if_neg e,if_neg e]
theorem sends_0 (G:List ByteArray):∀ (ms F:List Msg),(∀ m∈ms,RightP m)→F.length+ms.length≤60→sendsC ⟨F.map textM,G,0⟩ 0 ms=⟨(F++ms).map textM,G,0⟩
 | [],F,_,_=>by rw[List.append_nil];rfl
 | m :: ms,F,hm,hl=>by
  have hs:=textM_size (hm m List.mem_cons_self)
  have e:sendC ⟨F.map textM,G,0⟩ 64 0 (textM m)=⟨(F++[m]).map textM,G,0⟩:=by
   unfold sendC
   rw[if_pos ⟨.inl rfl,hs⟩,if_pos (by show (F.map textM).length<64;simp at hl ⊢;omega)]
   simp[CS.put,CS.get]
  show sendsC (sendC ⟨F.map textM,G,0⟩ 64 0 (textM m)) 0 ms=_
  rw[e,sends_0 G ms (F++[m]) (fun x hx=>hm x (List.mem_cons_of_mem _ hx)) (by simp at hl ⊢;omega)]
  simp
theorem sends_1 (F:List ByteArray):∀ (ms G:List Msg),(∀ m∈ms,RightP m)→G.length+ms.length≤60→sendsC ⟨F,G.map textM,0⟩ 1 ms=⟨F,(G++ms).map textM,0⟩
 | [],G,_,_=>by rw[List.append_nil];rfl
 | m :: ms,G,hm,hl=>by
  have hs:=textM_size (hm m List.mem_cons_self)
  have e:sendC ⟨F,G.map textM,0⟩ 64 1 (textM m)=⟨F,(G++[m]).map textM,0⟩:=by
   unfold sendC
   rw[if_pos ⟨.inr rfl,hs⟩,if_pos (by show (G.map textM).length<64;simp at hl ⊢;omega)]
   simp[CS.put,CS.get]
  show sendsC (sendC ⟨F,G.map textM,0⟩ 64 1 (textM m)) 1 ms=_
  rw[e,sends_1 F ms (G++[m]) (fun x hx=>hm x (List.mem_cons_of_mem _ hx)) (by simp at hl ⊢;omega)]
  simp
theorem aw_tick0 {lo cnt:Nat} {s s':Aw} (h:AwI lo cnt B s w) (hc:cnt≤50000) (ht:tick0 stS s=some s'):Calls Tryz.prog 10 #[.pointer (some ⟨B.b,0,none⟩),.agg #[.int .i64 1,.int .i64 0,.int .i64 0,.int .i64 0,.int .u8 0,.int .u8 0]] w (AwPost lo cnt B s' w):=by
 obtain ⟨r,h⟩:=h
 unfold tick0 at ht
 split at ht
 ·rename_i ms p' hp
  split at ht
  ·rename_i hl
   simp only[Option.some.injEq] at ht
   subst ht
   obtain ⟨hn,hm,m1,hT⟩:=tick_N (k:=0) (by omega) s.p p' ms h.p hp (by omega)
   refine (bo_Do_tick h.bt (fun j hj=>hj.2) 0 (by omega) 0 0 0 0 ⟨setS (tN s) 0 (peN 0 p'),sendsC (csN s) (1-((0:Nat):Int)) ms⟩ fun W r' hW hr hs=>
    bo_tick hW (fun j hj=>by have:=hj.2;omega) 0 (by omega) 0 (peN 0 p') ms m1 (fun W hp=>hT W _ hp) (by omega) (by show 0≤(0:Int)∧(0:Int)≤_;omega) (fun m hx=>pack_small (hm m hx).2) (by have:=h.n 0;have:=hr 0;omega)).mono fun e w' hp=>?_
   rw[setS_0,show sendsC (csN s) (1-((0:Nat):Int)) ms=⟨s.f.map textM,(s.g++ms).map textM,0⟩ from sends_1 _ ms s.g (fun m hx=>(hm m hx).2) hl] at hp
   exact aw_fin (s:={ s with p:=p',g:=s.g++ms }) hp h.lo hn h.q h.n
  ·cases ht
 ·cases ht
theorem aw_tick1 {lo cnt:Nat} {s s':Aw} (h:AwI lo cnt B s w) (hc:cnt≤50000) (ht:tick1 stS s=some s'):Calls Tryz.prog 10 #[.pointer (some ⟨B.b,0,none⟩),.agg #[.int .i64 1,.int .i64 1,.int .i64 0,.int .i64 0,.int .u8 0,.int .u8 0]] w (AwPost lo cnt B s' w):=by
 obtain ⟨r,h⟩:=h
 unfold tick1 at ht
 split at ht
 ·rename_i ms q' hp
  split at ht
  ·rename_i hl
   simp only[Option.some.injEq] at ht
   subst ht
   obtain ⟨hn,hm,m1,hT⟩:=tick_N (k:=1) (by omega) s.q q' ms h.q hp (by omega)
   refine (bo_Do_tick h.bt (fun j hj=>hj.2) 1 (by omega) 0 0 0 0 ⟨setS (tN s) 1 (peN 1 q'),sendsC (csN s) (1-((1:Nat):Int)) ms⟩ fun W r' hW hr hs=>
    bo_tick hW (fun j hj=>by have:=hj.2;omega) 1 (by omega) 0 (peN 1 q') ms m1 (fun W hp=>hT W _ hp) (by omega) (by show 0≤(0:Int)∧(0:Int)≤_;omega) (fun m hx=>pack_small (hm m hx).2) (by have:=h.n 1;have:=hr 1;omega)).mono fun e w' hp=>?_
   rw[setS_1,show sendsC (csN s) (1-((1:Nat):Int)) ms=⟨(s.f++ms).map textM,s.g.map textM,0⟩ from sends_0 _ ms s.f (fun m hx=>(hm m hx).2) hl] at hp
   exact aw_fin (s:={ s with q:=q',f:=s.f++ms }) hp h.lo h.p hn h.n
  ·cases ht
 ·cases ht
theorem aw_take0 {lo cnt:Nat} {s:Aw} {p':Nm} {m:Msg} {l:List Msg} (h:AwI lo cnt B s w) (hf:s.f=m :: l) (ht:hearN s.p m=some p'):Calls Tryz.prog 10 #[.pointer (some ⟨B.b,0,none⟩),.agg #[.int .i64 2,.int .i64 0,.int .i64 0,.int .i64 0,.int .u8 0,.int .u8 0]] w (AwPost lo cnt B { s with p:=p',f:=l } w):=by
 obtain ⟨r,h⟩:=h
 obtain ⟨hn,hH⟩:=hear_N (k:=0) (by omega) s.p p' m h.p ht
 have e1:copyC (csN s) ((0:Nat):Int) 0=some (textM m):=by simp[copyC,csN,okTo,CS.get,hf]
 have e2:takeC (csN s) ((0:Nat):Int) 0=csN { s with p:=p',f:=l }:=by simp[takeC,csN,okTo,CS.get,CS.put,hf]
 refine (bo_Do_hear h.bt (fun j hj=>hj.2) 2 (by omega) 0 (by omega) 0 0 0 0 ⟨setS (tN s) 0 (peN 0 p'),takeC (csN s) ((0:Nat):Int) 0⟩ fun W r' hW hr hs=>?_).mono fun e w' hp=>?_
 ·refine bo_hear_txt hW (fun j hj=>by have:=hj.2;omega) 2 0 (by omega) 0 0 0 0 (textM m) (takeC (csN s) ((0:Nat):Int) 0) (by omega) (peN 0 p') 0 (fun W hW=>?_) (fun W hp=>hH W _ hp)
  have:=bo_out_take hW ((0:Nat):Int) 0 0 0 0
  rw[show copyC (BS.cs ⟨tN s,csN s⟩) ((0:Nat):Int) 0=some (textM m) from e1] at this
  exact this
 ·rw[setS_0,e2] at hp
  exact aw_fin (s:={ s with p:=p',f:=l }) hp h.lo hn h.q h.n
theorem aw_take1 {lo cnt:Nat} {s:Aw} {q':Nm} {m:Msg} {l:List Msg} (h:AwI lo cnt B s w) (hf:s.g=m :: l) (ht:hearN s.q m=some q'):Calls Tryz.prog 10 #[.pointer (some ⟨B.b,0,none⟩),.agg #[.int .i64 2,.int .i64 1,.int .i64 0,.int .i64 0,.int .u8 0,.int .u8 0]] w (AwPost lo cnt B { s with q:=q',g:=l } w):=by
 obtain ⟨r,h⟩:=h
 obtain ⟨hn,hH⟩:=hear_N (k:=1) (by omega) s.q q' m h.q ht
 have e1:copyC (csN s) ((1:Nat):Int) 0=some (textM m):=by simp[copyC,csN,okTo,CS.get,hf]
 have e2:takeC (csN s) ((1:Nat):Int) 0=csN { s with q:=q',g:=l }:=by simp[takeC,csN,okTo,CS.get,CS.put,hf]
 refine (bo_Do_hear h.bt (fun j hj=>hj.2) 2 (by omega) 1 (by omega) 0 0 0 0 ⟨setS (tN s) 1 (peN 1 q'),takeC (csN s) ((1:Nat):Int) 0⟩ fun W r' hW hr hs=>?_).mono fun e w' hp=>?_
 ·refine bo_hear_txt hW (fun j hj=>by have:=hj.2;omega) 2 1 (by omega) 0 0 0 0 (textM m) (takeC (csN s) ((1:Nat):Int) 0) (by omega) (peN 1 q') 0 (fun W hW=>?_) (fun W hp=>hH W _ hp)
  have:=bo_out_take hW ((1:Nat):Int) 0 0 0 0
  rw[show copyC (BS.cs ⟨tN s,csN s⟩) ((1:Nat):Int) 0=some (textM m) from e1] at this
  exact this
 ·rw[setS_1,e2] at hp
  exact aw_fin (s:={ s with q:=q',g:=l }) hp h.lo h.p hn h.n
theorem run_part {S:Nat→Int} {s x:Aw}:∀ {n:Nat},runN S n s=some x→∀ i,i<n→∃ y y',runN S i s=some y∧roundN S y=some y'∧runN S (i+1) s=some y'
 | 0,_,i,hi=>by omega
 | n+1,h,i,hi=>by
  have h':(runN S n s).bind (roundN S)=some x:=h
  cases hr:runN S n s with
  | none=>rw[hr] at h';cases h'
  | some y=>
   by_cases e:i=n
   ·subst e
    rw[hr] at h'
    exact ⟨y,x,hr,h',h⟩
   ·exact run_part hr i (by omega)
structure RoundP (S:Nat→Int) (s a b c s':Aw):Prop where
 t0:tick0 S s=some a
 t1:tick1 S a=some b
 k0:take0 b=some c
 k1:take1 c=some s'
theorem round_parts {S:Nat→Int} {s s':Aw} (h:roundN S s=some s'):∃ a b c,RoundP S s a b c s':=by
 unfold roundN at h
 cases h0:tick0 S s with
 | none=>rw[h0] at h;cases h
 | some a=>
  rw[h0] at h
  simp only[Option.bind_some] at h
  cases h1:tick1 S a with
  | none=>rw[h1] at h;cases h
  | some b=>
   rw[h1] at h
   simp only[Option.bind_some] at h
   cases h2:take0 b with
   | none=>rw[h2] at h;cases h
   | some c=>
    rw[h2] at h
    simp only[Option.bind_some] at h
    exact ⟨a,b,c,h0,h1,h2,h⟩
theorem take0_len {S:Nat→Int} {a b:Aw} (h:tick1 S a=some b):b.f.length≤60:=by
 unfold tick1 at h
 split at h
 ·split at h
  ·rename_i hl
   simp only[Option.some.injEq] at h
   subst h
   simpa using hl
  ·cases h
 ·cases h
theorem tick0_len {S:Nat→Int} {a b:Aw} (h:tick0 S a=some b):b.g.length≤60:=by
 unfold tick0 at h
 split at h
 ·split at h
  ·rename_i hl
   simp only[Option.some.injEq] at h
   subst h
   simpa using hl
  ·cases h
 ·cases h
theorem tick1_g {S:Nat→Int} {a b:Aw} (h:tick1 S a=some b):b.g=a.g:=by
 unfold tick1 at h
 split at h
 ·split at h
  ·simp only[Option.some.injEq] at h
   subst h
   rfl
  ·cases h
 ·cases h
theorem take0_is {b c:Aw} (h:take0 b=some c):∃ p',hears b.p b.f=some p'∧c={ b with p:=p',f:=[] }:=by
 unfold take0 at h
 split at h
 ·rename_i p' hp
  simp only[Option.some.injEq] at h
  exact ⟨p',hp,h.symm⟩
 ·cases h
theorem take1_is {b c:Aw} (h:take1 b=some c):∃ q',hears b.q b.g=some q'∧c={ b with q:=q',g:=[] }:=by
 unfold take1 at h
 split at h
 ·rename_i p' hp
  simp only[Option.some.injEq] at h
  exact ⟨p',hp,h.symm⟩
 ·cases h
theorem hears_cons {a x:Nm} {m:Msg} {l:List Msg} (h:hears a (m :: l)=some x):∃ a',hearN a m=some a'∧hears a' l=some x:=by
 have h':(match hearN a m with|some a'=>hears a' l|none=>none)=some x:=h
 split at h'
 ·rename_i a' e
  exact ⟨a',e,h'⟩
 ·cases h'
end
section
open Go.RowKit
open Go.Maps
set_option maxRecDepth 100000
variable {w w':World}
theorem SepN.set {n:Nat} {L:List Res} {T:Nat→Prop} (h:SepN n w L) (i:Nat) {r r':Res} (hi:L[i]?=some r) (hk:Keeps T w w') (hT:∀ b,T b→r.S b) (hP:r'.P w') (hS:∀ b,r'.S b→r.S b):SepN n w' (L.set i r'):=
 ⟨Sep.set h.sep i hi hk (fun b _=>hT b) hP (fun b hb=>.inl (hS b hb)),fun x hx j hj=>by
  rcases List.mem_or_eq_of_mem_set hx with hx|rfl
  ·exact h.lo x hx j hj
  ·exact h.lo r (List.mem_of_getElem? hi) j (hS j hj)⟩
theorem SepN.row {n:Nat} {L:List Res} (h:SepN n w L):SepN n w (Res.row (.slice none 0 0) 0 [] :: L):=
 ⟨h.sep.cons (Keeps.refl (fun _=>False) w) (fun _ _ _ _ e=>e) (own_nil w 0 5 1) (fun j hj=>by cases hj),fun s hs j hj=>by
  rcases List.mem_cons.1 hs with rfl|hs
  ·cases hj
  ·exact h.lo s hs j hj⟩
def newP (seed:Int) (d n:Nat) (pat ent voi:Int) (k:Nat):Pe:=newPe ⟨seed,d,n,k,fun _=>fdZ d,0,[(0,standV seed 0)],0⟩ (Lk.new ((k:Int)+1) pat d) ent voi
def btP (c:Nat) (p0 p1:Option Addr):Array Value:=#[.pointer p0,.slice none 0 0,.slice none 0 0,.pointer p1,.slice none 0 0,.slice none 0 0,.pointer (some ⟨c,0,none⟩),.int .i64 0]
structure NwI (w:World) (seed d n pat ent voi:Int) (b:Nat) (L:List Res) (W:World):Prop where
 su:∃ me non,W.heap[w.heap.size]?=some (.cells #[.int .u32 seed,.int .i64 d,.int .i64 n,me,non,.int .i64 pat,.int .i64 ent,.int .i64 voi] 26 (0,0))
 sep:SepN (w.heap.size+1) W L
 bl:Below w.heap.size w W
set_option maxHeartbeats 1000000 in
theorem bo_New_no (seed d n pat ent voi me0 non0:Int) (hno:¬ goodS d n pat ent voi) (w:World):Calls Tryz.prog 33 #[.agg #[.int .u32 seed,.int .i64 d,.int .i64 n,.int .i64 me0,.int .u32 non0,.int .i64 pat,.int .i64 ent,.int .i64 voi]] w fun e w'=>e=.returned (.tuple #[.pointer none,.int .i64 1])∧Below w.heap.size w w':=by
 have HN:Hid (∀ W,Calls Tryz.prog 58 #[.agg #[.int .u32 seed,.int .i64 d,.int .i64 n,.int .i64 0,.int .u32 1,.int .i64 pat,.int .i64 ent,.int .i64 voi]] W fun e w'=>e=.returned (.tuple #[.pointer none,.int .i64 1])∧Below W.heap.size W w'):=hid (pe_New_no seed d n 1 pat ent voi 0 (by omega) hno)
 clear hno
 have k0:=(Keeps.refl (fun _=>False) w).alloc (.cells #[.int .u32 seed,.int .i64 d,.int .i64 n,.int .i64 me0,.int .u32 non0,.int .i64 pat,.int .i64 ent,.int .i64 voi] 26)
 have hS:=blk_new w (.cells #[.int .u32 seed,.int .i64 d,.int .i64 n,.int .i64 me0,.int .u32 non0,.int .i64 pat,.int .i64 ent,.int .i64 voi] 26)
 have hz:(w.alloc (.cells #[.int .u32 seed,.int .i64 d,.int .i64 n,.int .i64 me0,.int .u32 non0,.int .i64 pat,.int .i64 ent,.int .i64 voi] 26)).heap.size=w.heap.size+1:=by simp
 have b0:=(Below.refl w.heap.size w).alloc (Nat.le_refl _) (.cells #[.int .u32 seed,.int .i64 d,.int .i64 n,.int .i64 me0,.int .u32 non0,.int .i64 pat,.int .i64 ent,.int .i64 voi] 26)
 go_enter Tryz.func33,Tryz.ntmps33
 go_wp2_with fail
 generalize World.alloc w _=w0 at *
 refine (cable_New 64 (by omega) (by omega) w0).mono ?_
 rintro e w1 ⟨rfl,hc,hb1⟩
 have k1:Keeps (fun _=>False) w0 w1:=Keeps.of_below hb1 (fun k h1 h2=>by omega)
 have hS1:=k1.heap hS id
 have hs1:=hb1.size
 obtain ⟨c,hcc⟩:∃ c,c=w0.heap.size:=⟨_,rfl⟩
 rw[←hcc] at hc
 have h1:SepN (w.heap.size+1) w1 [Res.cable c ⟨[],[],0⟩]:=(SepN.nil _ w0).cons k1 hc (fun j hj=>by have h9:c≤j:=hj.1;omega) (by omega)
 have kq:=(Keeps.refl (fun _=>False) w1).alloc (.cells (btP c none none) 82)
 have h2:SepN (w.heap.size+1) (w1.alloc (.cells (btP c none none) 82)) [Res.blk w1.heap.size (btP c none none,82),Res.cable c ⟨[],[],0⟩]:=h1.cons kq (blk_new _ _) (fun j hj=>Nat.le_of_eq hj.symm) (by omega)
 have hI:NwI w seed d n pat ent voi w1.heap.size [Res.blk w1.heap.size (btP c none none,82),Res.cable c ⟨[],[],0⟩] (w1.alloc (.cells (btP c none none) 82)):=
  ⟨⟨_,_,kq.heap hS1 id⟩,h2,(b0.trans (hb1.mono (by omega))).alloc (by omega) _⟩
 have HI:=hid hI
 clear hI h2 kq h1 hs1 hS1 k1 hc hb1 b0 hz hS k0
 rw[←hcc]
 clear hcc
 unfold btP at HI
 go_upto_region 5 with fail
 generalize World.alloc w1 _=w2 at *
 generalize w1.heap.size=b at *
 go_wp2_with fail
 go_loopg [7,8,9,20] 2 (fun g _ _ _ i wr=>i=.int .i64 0∧w2=wr)
 case atStart=>exact ⟨rfl,rfl⟩
 case round=>
  obtain ⟨rfl,rfl⟩:=hrel
  obtain ⟨⟨me,non,hsu⟩,hsep,hbl⟩:=HI.out
  obtain ⟨s3,s4⟩:=bc2 3 4 hsu ⟨rfl,rfl⟩
  obtain ⟨f3,f4⟩:=bf2 hsu 3 4
  have hsl:=blk_lt hsu
  have ks:=((Keeps.refl (fun j=>j=w.heap.size) w2).setCell (p:=⟨w.heap.size,3,none⟩) rfl (.int .i64 0)).setCell (p:=⟨w.heap.size,4,none⟩) rfl (.int .u32 1)
  have hsu2:=blk_set (blk_set hsu 3 (.int .i64 0)) 4 (.int .u32 1)
  have hsep2:=hsep.keeps ks (fun j h1 h2=>by omega)
  have hbl2:=hbl.trans (ks.below hbl.size (fun k h1 h2=>by omega))
  simp only[List.setIfInBounds_toArray,List.set_cons_succ,List.set_cons_zero] at hsu2
  have Hsu2:=hid hsu2
  have Hsep2:=hid hsep2
  have Hbl2:=hid hbl2
  clear hsu hsep hbl ks hsu2 hsep2 hbl2
  go_upto_region 9 with fail
  clear s3 s4 f3 f4 hsl
  generalize World.setCell (World.setCell _ ⟨w.heap.size,3,none⟩ _) _ _=v1 at *
  obtain ⟨s0,s1,s2,s3,s4,s5,s6,s7⟩:=bc8 0 1 2 3 4 5 6 7 Hsu2.out ⟨rfl,rfl,rfl,rfl,rfl,rfl,rfl,rfl⟩
  simp only[List.getElem_toArray,List.getElem_cons_zero,List.getElem_cons_succ] at s0 s1 s2 s3 s4 s5 s6 s7
  go_wp2_with fail
  refine (HN.out _).mono ?_
  rintro e v2 ⟨rfl,hb2⟩
  have hbf:=Hbl2.out.trans (hb2.mono Hbl2.out.size)
  have Hbf:=hid hbf
  clear hb2 hbf s0 s1 s2 s3 s4 s5 s6 s7
  go_wp2_with fail
  go_ret2
  exact ⟨rfl,Hbf.out⟩
def nwL (b c:Nat) (s:Nat→Pe):List PeB→List Res
 | []=>[Res.blk b (btP c none none,82),Res.cable c ⟨[],[],0⟩]
 | [p0]=>[Res.peer p0 (s 0),Res.blk b (btP c (some ⟨p0.p,0,none⟩) none,82),Res.cable c ⟨[],[],0⟩]
 | p0 :: p1 :: _=>[Res.peer p1 (s 1),Res.peer p0 (s 0),Res.blk b (btP c (some ⟨p0.p,0,none⟩) (some ⟨p1.p,0,none⟩),82),Res.cable c ⟨[],[],0⟩]
set_option maxHeartbeats 1000000 in
theorem bo_New (seed:Int) (d n:Nat) (pat ent voi me0 non0:Int) (hd:d≤8) (hn:1≤n∧n≤16) (hp:1≤pat∧pat≤10000) (he:1≤ent∧ent≤256) (hv:1≤voi∧voi≤16) (w:World):Calls Tryz.prog 33 #[.agg #[.int .u32 seed,.int .i64 d,.int .i64 n,.int .i64 me0,.int .u32 non0,.int .i64 pat,.int .i64 ent,.int .i64 voi]] w fun e w'=>
  ∃ (B:BB) (r:Rw),e=.returned (.tuple #[.pointer (some ⟨B.b,0,none⟩),.int .i64 0])∧BtR w' (fun j=>w.heap.size≤j∧j<w'.heap.size) B ⟨newP seed d n pat ent voi,⟨[],[],0⟩⟩ r∧(∀ j,r.n j=0)∧Below w.heap.size w w':=by
 have HN0:Hid (∀ W,Calls Tryz.prog 58 #[.agg #[.int .u32 seed,.int .i64 d,.int .i64 n,.int .i64 0,.int .u32 1,.int .i64 pat,.int .i64 ent,.int .i64 voi]] W fun e w'=>∃ b:PeB,e=.returned (.tuple #[.pointer (some ⟨b.p,0,none⟩),.int .i64 0])∧IsPeer w' b (newP seed d n pat ent voi 0)∧(∀ j,b.S (newP seed d n pat ent voi 0) j→W.heap.size≤j)∧Below W.heap.size W w'):=hid (pe_New seed d n 0 1 pat ent voi (by omega) hd hn hp he hv)
 have HN1:Hid (∀ W,Calls Tryz.prog 58 #[.agg #[.int .u32 seed,.int .i64 d,.int .i64 n,.int .i64 1,.int .u32 2,.int .i64 pat,.int .i64 ent,.int .i64 voi]] W fun e w'=>∃ b:PeB,e=.returned (.tuple #[.pointer (some ⟨b.p,0,none⟩),.int .i64 0])∧IsPeer w' b (newP seed d n pat ent voi 1)∧(∀ j,b.S (newP seed d n pat ent voi 1) j→W.heap.size≤j)∧Below W.heap.size W w'):=hid (pe_New seed d n 1 2 pat ent voi (by omega) hd hn hp he hv)
 clear hd hn hp he hv
 have k0:=(Keeps.refl (fun _=>False) w).alloc (.cells #[.int .u32 seed,.int .i64 d,.int .i64 n,.int .i64 me0,.int .u32 non0,.int .i64 pat,.int .i64 ent,.int .i64 voi] 26)
 have hS:=blk_new w (.cells #[.int .u32 seed,.int .i64 d,.int .i64 n,.int .i64 me0,.int .u32 non0,.int .i64 pat,.int .i64 ent,.int .i64 voi] 26)
 have hz:(w.alloc (.cells #[.int .u32 seed,.int .i64 d,.int .i64 n,.int .i64 me0,.int .u32 non0,.int .i64 pat,.int .i64 ent,.int .i64 voi] 26)).heap.size=w.heap.size+1:=by simp
 have b0:=(Below.refl w.heap.size w).alloc (Nat.le_refl _) (.cells #[.int .u32 seed,.int .i64 d,.int .i64 n,.int .i64 me0,.int .u32 non0,.int .i64 pat,.int .i64 ent,.int .i64 voi] 26)
 go_enter Tryz.func33,Tryz.ntmps33
 go_wp2_with fail
 generalize World.alloc w _=w0 at *
 refine (cable_New 64 (by omega) (by omega) w0).mono ?_
 rintro e w1 ⟨rfl,hc,hb1⟩
 have k1:Keeps (fun _=>False) w0 w1:=Keeps.of_below hb1 (fun k h1 h2=>by omega)
 have hS1:=k1.heap hS id
 have hs1:=hb1.size
 obtain ⟨c,hcc⟩:∃ c,c=w0.heap.size:=⟨_,rfl⟩
 rw[←hcc] at hc
 have h1:SepN (w.heap.size+1) w1 [Res.cable c ⟨[],[],0⟩]:=(SepN.nil _ w0).cons k1 hc (fun j hj=>by have h9:c≤j:=hj.1;omega) (by omega)
 have kq:=(Keeps.refl (fun _=>False) w1).alloc (.cells (btP c none none) 82)
 have h2:SepN (w.heap.size+1) (w1.alloc (.cells (btP c none none) 82)) [Res.blk w1.heap.size (btP c none none,82),Res.cable c ⟨[],[],0⟩]:=h1.cons kq (blk_new _ _) (fun j hj=>Nat.le_of_eq hj.symm) (by omega)
 have hI:NwI w seed d n pat ent voi w1.heap.size [Res.blk w1.heap.size (btP c none none,82),Res.cable c ⟨[],[],0⟩] (w1.alloc (.cells (btP c none none) 82)):=
  ⟨⟨_,_,kq.heap hS1 id⟩,h2,(b0.trans (hb1.mono (by omega))).alloc (by omega) _⟩
 have HI:=hid hI
 clear hI h2 kq h1 hs1 hS1 k1 hc hb1 b0 hz hS k0
 rw[←hcc]
 clear hcc
 unfold btP at HI
 go_upto_region 5 with fail
 generalize World.alloc w1 _=w2 at *
 generalize w1.heap.size=b at *
 go_wp2_with fail
 go_loopg [7,8,9,20] 2 (fun g _ _ _ i wr=>(g=2∧i=.int .i64 0∧NwI w seed d n pat ent voi b (nwL b c (newP seed d n pat ent voi) []) wr)∨(g=1∧i=.int .i64 1∧∃ p0,NwI w seed d n pat ent voi b (nwL b c (newP seed d n pat ent voi) [p0]) wr)∨(g=0∧i=.int .i64 2∧∃ p0 p1,NwI w seed d n pat ent voi b (nwL b c (newP seed d n pat ent voi) [p0,p1]) wr))
 case atStart=>exact .inl ⟨rfl,rfl,HI.out⟩
 case round=>
  clear HI
  rcases hrel with ⟨rfl,rfl,hJ⟩|⟨rfl,rfl,p0,hJ⟩|⟨rfl,rfl,p0,p1,hJ⟩
  ·obtain ⟨⟨me,non,hsu⟩,hsep,hbl⟩:=hJ
   obtain ⟨s3,s4⟩:=bc2 3 4 hsu ⟨rfl,rfl⟩
   obtain ⟨f3,f4⟩:=bf2 hsu 3 4
   have hsl:=blk_lt hsu
   have ks:=((Keeps.refl (fun j=>j=w.heap.size) wr).setCell (p:=⟨w.heap.size,3,none⟩) rfl (.int .i64 0)).setCell (p:=⟨w.heap.size,4,none⟩) rfl (.int .u32 1)
   have hsu2:=blk_set (blk_set hsu 3 (.int .i64 0)) 4 (.int .u32 1)
   have hsep2:=hsep.keeps ks (fun j h1 h2=>by omega)
   have hbl2:=hbl.trans (ks.below hbl.size (fun k h1 h2=>by omega))
   simp only[List.setIfInBounds_toArray,List.set_cons_succ,List.set_cons_zero] at hsu2
   have Hsu2:=hid hsu2
   have Hsep2:=hid hsep2
   have Hbl2:=hid hbl2
   clear hsu hsep hbl ks hsu2 hsep2 hbl2
   go_upto_region 9 with fail
   clear s3 s4 f3 f4 hsl
   generalize World.setCell (World.setCell _ ⟨w.heap.size,3,none⟩ _) _ _=v1 at *
   obtain ⟨s0,s1,s2,s3,s4,s5,s6,s7⟩:=bc8 0 1 2 3 4 5 6 7 Hsu2.out ⟨rfl,rfl,rfl,rfl,rfl,rfl,rfl,rfl⟩
   simp only[List.getElem_toArray,List.getElem_cons_zero,List.getElem_cons_succ] at s0 s1 s2 s3 s4 s5 s6 s7
   go_wp2_with fail
   refine (HN0.out _).mono ?_
   rintro e v2 ⟨pN,rfl,hp,hpS,hb2⟩
   have k2:Keeps (fun _=>False) v1 v2:=Keeps.of_below hb2 (fun k h1 h2=>by omega)
   have hsl1:=blk_lt Hsu2.out
   have h3:SepN (w.heap.size+1) v2 (Res.peer pN (newP seed d n pat ent voi 0) :: nwL b c (newP seed d n pat ent voi) []):=Hsep2.out.cons k2 hp hpS (by omega)
   have hbk:v2.heap[b]?=some (.cells (btP c none none) 82 (0,0)):=h3.sep.at' (1) rfl
   have hbn:w.heap.size+1≤b:=h3.lo (Res.blk b (btP c none none,82)) (List.mem_of_getElem? (i:=1) rfl) b rfl
   have hsu3:=k2.heap Hsu2.out id
   have hbl3:=Hbl2.out.trans (hb2.mono Hbl2.out.size)
   unfold btP at hbk
   have c0:v2.cell? ⟨b,0,none⟩=some (.pointer none):=blk_cell (k:=0) hbk rfl
   have f0:=blk_free hbk 0
   have hbb:=blk_lt hbk
   have kz:=(Keeps.refl (fun j=>j=b) v2).setCell (p:=⟨b,0,none⟩) rfl (.pointer (some ⟨pN.p,0,none⟩))
   have hsu4:=kz.heap hsu3 (by omega)
   have hbl4:=hbl3.trans (kz.below hbl3.size (fun k h1 h2=>by omega))
   have hbs:=blk_set hbk 0 (.pointer (some ⟨pN.p,0,none⟩))
   have H3:=hid h3
   have Hsu4:=hid hsu4
   have Hbl4:=hid hbl4
   have Kz:=hid kz
   have Hbs:=hid hbs
   clear Hsu2 Hsep2 Hbl2 hp hpS hb2 k2 h3 hbk hsu3 hbl3 kz hsu4 hbl4 hbs hsl1 s0 s1 s2 s3 s4 s5 s6 s7
   go_wp2_with fail
   go_roundg 1
   case rel=>exact .inr (.inl ⟨rfl,by go_num,pN,⟨⟨_,_,Hsu4.out⟩,H3.out.set 1 (r':=Res.blk b (btP c (some ⟨pN.p,0,none⟩) none,82)) rfl Kz.out (fun _ e=>e) (by simpa[btP,Res.blk] using Hbs.out) (fun _ e=>e),Hbl4.out⟩⟩)
   case measure=>omega
  ·obtain ⟨⟨me,non,hsu⟩,hsep,hbl⟩:=hJ
   obtain ⟨s3,s4⟩:=bc2 3 4 hsu ⟨rfl,rfl⟩
   obtain ⟨f3,f4⟩:=bf2 hsu 3 4
   have hsl:=blk_lt hsu
   have ks:=((Keeps.refl (fun j=>j=w.heap.size) wr).setCell (p:=⟨w.heap.size,3,none⟩) rfl (.int .i64 1)).setCell (p:=⟨w.heap.size,4,none⟩) rfl (.int .u32 2)
   have hsu2:=blk_set (blk_set hsu 3 (.int .i64 1)) 4 (.int .u32 2)
   have hsep2:=hsep.keeps ks (fun j h1 h2=>by omega)
   have hbl2:=hbl.trans (ks.below hbl.size (fun k h1 h2=>by omega))
   simp only[List.setIfInBounds_toArray,List.set_cons_succ,List.set_cons_zero] at hsu2
   have Hsu2:=hid hsu2
   have Hsep2:=hid hsep2
   have Hbl2:=hid hbl2
   clear hsu hsep hbl ks hsu2 hsep2 hbl2
   go_upto_region 9 with fail
   clear s3 s4 f3 f4 hsl
   generalize World.setCell (World.setCell _ ⟨w.heap.size,3,none⟩ _) _ _=v1 at *
   obtain ⟨s0,s1,s2,s3,s4,s5,s6,s7⟩:=bc8 0 1 2 3 4 5 6 7 Hsu2.out ⟨rfl,rfl,rfl,rfl,rfl,rfl,rfl,rfl⟩
   simp only[List.getElem_toArray,List.getElem_cons_zero,List.getElem_cons_succ] at s0 s1 s2 s3 s4 s5 s6 s7
   go_wp2_with fail
   refine (HN1.out _).mono ?_
   rintro e v2 ⟨pN,rfl,hp,hpS,hb2⟩
   have k2:Keeps (fun _=>False) v1 v2:=Keeps.of_below hb2 (fun k h1 h2=>by omega)
   have hsl1:=blk_lt Hsu2.out
   have h3:SepN (w.heap.size+1) v2 (Res.peer pN (newP seed d n pat ent voi 1) :: nwL b c (newP seed d n pat ent voi) [p0]):=Hsep2.out.cons k2 hp hpS (by omega)
   have hbk:v2.heap[b]?=some (.cells (btP c (some ⟨p0.p,0,none⟩) none) 82 (0,0)):=h3.sep.at' (2) rfl
   have hbn:w.heap.size+1≤b:=h3.lo (Res.blk b (btP c (some ⟨p0.p,0,none⟩) none,82)) (List.mem_of_getElem? (i:=2) rfl) b rfl
   have hsu3:=k2.heap Hsu2.out id
   have hbl3:=Hbl2.out.trans (hb2.mono Hbl2.out.size)
   unfold btP at hbk
   have c0:v2.cell? ⟨b,3,none⟩=some (.pointer none):=blk_cell (k:=3) hbk rfl
   have f0:=blk_free hbk 3
   have hbb:=blk_lt hbk
   have kz:=(Keeps.refl (fun j=>j=b) v2).setCell (p:=⟨b,3,none⟩) rfl (.pointer (some ⟨pN.p,0,none⟩))
   have hsu4:=kz.heap hsu3 (by omega)
   have hbl4:=hbl3.trans (kz.below hbl3.size (fun k h1 h2=>by omega))
   have hbs:=blk_set hbk 3 (.pointer (some ⟨pN.p,0,none⟩))
   have H3:=hid h3
   have Hsu4:=hid hsu4
   have Hbl4:=hid hbl4
   have Kz:=hid kz
   have Hbs:=hid hbs
   clear Hsu2 Hsep2 Hbl2 hp hpS hb2 k2 h3 hbk hsu3 hbl3 kz hsu4 hbl4 hbs hsl1 s0 s1 s2 s3 s4 s5 s6 s7
   go_wp2_with fail
   go_roundg 0
   case rel=>exact .inr (.inr ⟨rfl,by go_num,p0,pN,⟨⟨_,_,Hsu4.out⟩,H3.out.set 2 (r':=Res.blk b (btP c (some ⟨p0.p,0,none⟩) (some ⟨pN.p,0,none⟩),82)) rfl Kz.out (fun _ e=>e) (by simpa[btP,Res.blk] using Hbs.out) (fun _ e=>e),Hbl4.out⟩⟩)
   case measure=>omega
  ·have HJ:=hid hJ
   clear hJ
   go_wp2_with fail
   go_ret2
   have h4:=HJ.out.sep.row.row.pick [4,3,2,5,0,1] (by decide) (fun i hi=>by show i<6;exact (show ∀ i∈[4,3,2,5,0,1],i<6 by decide) i hi)
   refine ⟨⟨b,c,fun k=>if k=0 then p0 else p1⟩,⟨fun _=>.slice none 0 0,fun _=>0,fun _=>[],0⟩,rfl,⟨h4.sep,fun x hx j hj=>⟨?_,h4.sep.lt hx hj⟩,fun k _=>Nat.zero_le _⟩,fun _=>rfl,HJ.out.bl⟩
   have:=h4.lo x hx j hj
   omega
end
section
open Go.RowKit
open Go.Maps
set_option maxRecDepth 100000
variable {w w':World} {Z:Nat→Prop} {B:BB} {t:BS} {r:Rw}
theorem bo_Flying (h:BtR w Z B t r) (who:Int):Calls Tryz.prog 30 #[.pointer (some ⟨B.b,0,none⟩),.int .i64 who] w fun e w'=>e=.returned (.int .i64 (lenC t.cs who))∧w=w':=by
 have c6:=h.c6
 have hF:=hid (cable_Flying h.cable who)
 clear h
 go_enter Tryz.func30,Tryz.ntmps30
 go_wp2_with fail
 refine hF.out.mono ?_
 rintro e _ ⟨rfl,rfl⟩
 go_wp2
 go_ret
 exact ⟨rfl,rfl⟩
theorem bo_Stream (h:BtR w Z B t r) (k:Nat) (hk:k<2):Calls Tryz.prog 11 #[.pointer (some ⟨B.b,0,none⟩),.int .i64 k] w fun e w'=>e=.returned (.slice none 0 0)∧w=w':=by
 have hc:=h.cst hk
 have hS:=hid (bo_side B.b k hk w)
 clear h
 go_enter Tryz.func11,Tryz.ntmps11
 go_wp2_with fail
 refine hS.out.mono ?_
 rintro e _ ⟨rfl,rfl⟩
 go_wp2_with fail
 refine (cm_Clone0 _).mono ?_
 rintro e _ ⟨rfl,rfl⟩
 go_wp2
 go_ret
 exact ⟨rfl,rfl⟩
theorem bo_halted_no (h:BtR w Z B t r) (hh:(t.s 0).halted=false):Calls Tryz.prog 59 #[.pointer (some ⟨B.b,0,none⟩)] w fun e w'=>e=.returned (.bool false)∧∃ q,w'=w.drewN q:=by
 have c0:w.cell? ⟨B.b,0,none⟩=some (.pointer (some ⟨(B.p 0).p,0,none⟩)):=h.cp (k:=0) (by omega)
 have hH:=hid (pe_Halted (h.peer (k:=0) (by omega)))
 rw[hh] at hH
 have hlb:=blk_lt h.blk
 clear h hh
 go_enter Tryz.func59,Tryz.ntmps59
 go_wp2_with fail
 go_loopg [3,4,5,6] 0 (fun g _ _ _ i wr=>i=.int .i64 0∧wr=w)
 case atStart=>exact ⟨rfl,rfl⟩
 case round=>
  obtain ⟨rfl,rfl⟩:=hrel
  go_wp2_with fail
  refine hH.out.mono ?_
  rintro e _ ⟨rfl,q,rfl⟩
  go_wp2
  go_ret
  exact ⟨rfl,q,rfl⟩
theorem lk_Counts {b:LB} {l:Lk} (h:IsLink w b l):Calls Tryz.prog 19 #[.pointer (some ⟨b.p,0,none⟩)] w fun e w'=>e=.returned (.tuple #[.int .i64 l.good,.int .i64 l.bad,.int .i64 l.stale])∧∃ q,w'=w.drewN q:=by
 have c10:=h.c10
 have c11:=h.c11
 have c12:=h.c12
 clear h
 go_enter Tryz.func19,Tryz.ntmps19
 go_wp2_with fail
 go_quiet (fail)
 go_wp2
 go_ret3
 exact ⟨rfl,_,rfl⟩
theorem build_cf (W:World):(Instr.build 24 #[(0,.int .u32 5),(1,.int .i64 1),(2,.int .i64 4)]).run Tryz.prog W=.ok (.agg #[.int .u32 5,.int .i64 1,.int .i64 4,.int .i64 0]) W:=by kernel_rfl
theorem build_su (W:World):(Instr.build 26 #[(0,.agg #[.int .u32 5,.int .i64 1,.int .i64 4,.int .i64 0]),(2,.int .i64 100),(3,.int .i64 100),(4,.int .i64 8)]).run Tryz.prog W=.ok (.agg #[.int .u32 5,.int .i64 1,.int .i64 4,.int .i64 0,.int .u32 0,.int .i64 100,.int .i64 100,.int .i64 8]) W:=by kernel_rfl
theorem tp_Plain (w:World):Calls Tryz.prog 34 #[] w fun e w'=>e=.returned (.agg #[.int .u32 5,.int .i64 1,.int .i64 4,.int .i64 0,.int .u32 0,.int .i64 100,.int .i64 100,.int .i64 8])∧Below w.heap.size w w':=by
 have hload:=box_load _ _ _ _ (blk_new w (.cells #[.int .u32 5,.int .i64 1,.int .i64 4,.int .i64 0,.int .u32 0,.int .i64 100,.int .i64 100,.int .i64 8] 26)) 8 rfl
 have h1:=build_cf
 have h2:=build_su
 go_enter Tryz.func34,Tryz.ntmps34
 go_wp2
 refine bodyPost_ret (v:=.agg #[.int .u32 5,.int .i64 1,.int .i64 4,.int .i64 0,.int .u32 0,.int .i64 100,.int .i64 100,.int .i64 8]) (by simp[results,Tryz.results34,asAddr,loadVar,loadCells,Tryz.isAgg26,Tryz.sizeOf26,hload]) rfl ?_
 exact ⟨rfl,(Below.refl _ w).alloc (Nat.le_refl _) _⟩
theorem tp_open_no (seed d n pat ent voi me0 non0:Int) (hno:¬ goodS d n pat ent voi) (w:World):Calls Tryz.prog 9 #[.agg #[.int .u32 seed,.int .i64 d,.int .i64 n,.int .i64 me0,.int .u32 non0,.int .i64 pat,.int .i64 ent,.int .i64 voi]] w fun e w'=>e=.returned (.tuple #[.pointer none,.bool false])∧Below w.heap.size w w':=by
 have b0:=(Below.refl w.heap.size w).alloc (Nat.le_refl _) (.cells #[.int .u32 seed,.int .i64 d,.int .i64 n,.int .i64 me0,.int .u32 non0,.int .i64 pat,.int .i64 ent,.int .i64 voi] 26)
 have HN:=hid (bo_New_no seed d n pat ent voi me0 non0 hno)
 clear hno
 go_enter Tryz.func9,Tryz.ntmps9
 go_wp2_with fail
 generalize World.alloc w _=w0 at *
 refine (HN.out _).mono ?_
 rintro e w1 ⟨rfl,hb⟩
 have hbb:=b0.trans (hb.mono b0.size)
 clear b0 hb HN
 go_wp2
 go_ret2
 exact ⟨rfl,hbb⟩
theorem tp_open (seed:Int) (d n:Nat) (pat ent voi me0 non0:Int) (hd:d≤8) (hn:1≤n∧n≤16) (hp:1≤pat∧pat≤10000) (he:1≤ent∧ent≤256) (hv:1≤voi∧voi≤16) (w:World):Calls Tryz.prog 9 #[.agg #[.int .u32 seed,.int .i64 d,.int .i64 n,.int .i64 me0,.int .u32 non0,.int .i64 pat,.int .i64 ent,.int .i64 voi]] w fun e w'=>
  ∃ (B:BB) (r:Rw),e=.returned (.tuple #[.pointer (some ⟨B.b,0,none⟩),.bool true])∧BtR w' (Zlo w.heap.size w') B ⟨newP seed d n pat ent voi,⟨[],[],0⟩⟩ r∧(∀ j,r.n j=0)∧Below w.heap.size w w':=by
 have b0:=(Below.refl w.heap.size w).alloc (Nat.le_refl _) (.cells #[.int .u32 seed,.int .i64 d,.int .i64 n,.int .i64 me0,.int .u32 non0,.int .i64 pat,.int .i64 ent,.int .i64 voi] 26)
 have hz:(w.alloc (.cells #[.int .u32 seed,.int .i64 d,.int .i64 n,.int .i64 me0,.int .u32 non0,.int .i64 pat,.int .i64 ent,.int .i64 voi] 26)).heap.size=w.heap.size+1:=by simp
 have HN:=hid (bo_New seed d n pat ent voi me0 non0 hd hn hp he hv)
 clear hd hn hp he hv
 go_enter Tryz.func9,Tryz.ntmps9
 go_wp2_with fail
 generalize World.alloc w _=w0 at *
 refine (HN.out _).mono ?_
 rintro e w1 ⟨B,r,rfl,hbt,hr,hb⟩
 have hbb:=b0.trans (hb.mono b0.size)
 have hbt2:=hbt.fit (lo:=w.heap.size) (fun j hj=>by omega)
 have Hbt:=hid hbt2
 have Hr:=hid hr
 clear b0 hb HN hbt hbt2 hr hz
 go_wp2
 go_ret2
 exact ⟨B,r,rfl,Hbt.out,Hr.out,hbb⟩
end
section
open Go.RowKit
open Go.Maps
set_option maxRecDepth 100000
variable {w w':World} {B:BB} {lo cnt:Nat} {s:Aw}
theorem AwI.keep (h:AwI lo cnt B s w) (hk:Keeps (fun _=>False) w w'):AwI lo cnt B s w':=by
 obtain ⟨r,h⟩:=h
 exact ⟨r,(h.bt.keep hk).fit (fun j hj=>hj.1),Nat.le_trans h.lo hk.size,h.p,h.q,h.n⟩
theorem AwI.more (h:AwI lo cnt B s w) {c:Nat} (hc:cnt≤c):AwI lo c B s w:=by
 obtain ⟨r,h⟩:=h
 exact ⟨r,h.bt,h.lo,h.p,h.q,fun k=>Nat.le_trans (h.n k) hc⟩
theorem AwI.past (h:AwI lo cnt B s w):lo≤w.heap.size:=by
 obtain ⟨r,h⟩:=h
 exact h.lo
theorem aw_halted (h:AwI lo cnt B s w):Calls Tryz.prog 59 #[.pointer (some ⟨B.b,0,none⟩)] w fun e w'=>e=.returned (.bool false)∧∃ q,w'=w.drewN q:=by
 obtain ⟨r,h⟩:=h
 exact bo_halted_no h.bt rfl
theorem aw_fly0 (h:AwI lo cnt B s w):Calls Tryz.prog 30 #[.pointer (some ⟨B.b,0,none⟩),.int .i64 0] w fun e w'=>e=.returned (.int .i64 s.f.length)∧w=w':=by
 obtain ⟨r,h⟩:=h
 have:=bo_Flying h.bt 0
 rw[show lenC (BS.cs ⟨tN s,csN s⟩) 0=s.f.length by simp[lenC,okTo,CS.get,csN]] at this
 exact this
theorem aw_fly1 (h:AwI lo cnt B s w):Calls Tryz.prog 30 #[.pointer (some ⟨B.b,0,none⟩),.int .i64 1] w fun e w'=>e=.returned (.int .i64 s.g.length)∧w=w':=by
 obtain ⟨r,h⟩:=h
 have:=bo_Flying h.bt 1
 rw[show lenC (BS.cs ⟨tN s,csN s⟩) 1=s.g.length by simp[lenC,okTo,CS.get,csN]] at this
 exact this
theorem build_mv1 (k:Int) (W:World):(Instr.build 40 #[(0,.int .i64 1),(1,.int .i64 k)]).run Tryz.prog W=.ok (.agg #[.int .i64 1,.int .i64 k,.int .i64 0,.int .i64 0,.int .u8 0,.int .u8 0]) W:=by kernel_rfl
theorem build_mv2 (k:Int) (W:World):(Instr.build 40 #[(0,.int .i64 2),(1,.int .i64 k)]).run Tryz.prog W=.ok (.agg #[.int .i64 2,.int .i64 k,.int .i64 0,.int .i64 0,.int .u8 0,.int .u8 0]) W:=by kernel_rfl
set_option maxHeartbeats 2000000 in
theorem bo_Calm {s0 sN:Aw} (h:AwI lo 0 B s0 w) (hr:runN stS 20 s0=some sN):Calls Tryz.prog 35 #[.pointer (some ⟨B.b,0,none⟩),.int .i64 20] w fun e w'=>e=.returned (.int .i64 20)∧AwI lo 10000 B sN w'∧Below lo w w':=by
 have bm1:=build_mv1
 have bm2:=build_mv2
 have H:=hid h
 have HR:=hid hr
 clear h hr
 go_enter Tryz.func35,Tryz.ntmps35
 go_wp2_with fail
 go_loopg [5,6,7,23,31] 20 (fun g n _ _ _ _ wr=>∃ j:Nat,g=20-j∧j≤20∧n=.int .i64 j∧∃ s,runN stS j s0=some s∧AwI lo (300*j) B s wr∧Below lo w wr)
 case atStart=>exact ⟨0,rfl,by omega,rfl,s0,rfl,H.out,Below.refl _ _⟩
 case round=>
  obtain ⟨j,hg,hj,rfl,s,hs,hI,hBB⟩:=hrel
  clear H
  have hha:=hid (aw_halted hI)
  have HI:=hid hI
  have HB0:=hid hBB
  have Hs:=hid hs
  clear hI hBB hs
  by_cases hlt:j<20
  ·obtain ⟨y,y',e1,e2,e3⟩:=run_part HR.out j hlt
   obtain rfl:y=s:=Option.some.inj (e1.symm.trans Hs.out)
   obtain ⟨sa,sb,sc,hP⟩:=round_parts e2
   have HP:=hid hP
   have He3:=hid e3
   clear e1 e2 hP e3 Hs
   go_wp2_with fail
   refine hha.out.mono ?_
   rintro e w1 ⟨rfl,q,rfl⟩
   have hI1:=HI.out.keep ((Keeps.refl _ wr).drewN q)
   have hB1:Below lo w (wr.drewN q):=HB0.out.trans (((Keeps.refl (fun _=>False) wr).drewN q).below HI.out.past (fun _ _ e=>e))
   have HI1:=hid hI1
   have HB1:=hid hB1
   clear hI1 hB1 HI HB0 hha
   generalize wr.drewN q=w1 at *
   go_wp2_with fail
   go_loopg [6,23] 2 (fun g _ i vr=>(g=2∧i=.int .i64 0∧AwI lo (300*j) B y vr∧Below lo w vr)∨(g=1∧i=.int .i64 1∧AwI lo (300*j+1) B sa vr∧Below lo w vr)∨(g=0∧i=.int .i64 2∧AwI lo (300*j+2) B sb vr∧Below lo w vr))
   case atStart=>exact .inl ⟨rfl,rfl,HI1.out,HB1.out⟩
   case round=>
    clear HI1 HB1
    rcases hrel with ⟨rfl,rfl,hJ,hBB⟩|⟨rfl,rfl,hJ,hBB⟩|⟨rfl,rfl,hJ,hBB⟩
    ·have hD:=hid (aw_tick0 hJ (by omega) HP.out.t0)
     have HB:=hid hBB
     clear hJ hBB
     go_wp2_with fail
     refine hD.out.mono ?_
     rintro e w2 ⟨⟨A,n,c,m,er,rfl⟩,hI2,hb2⟩
     have hbf:=HB.out.trans hb2
     clear hD HB hb2
     go_wp2_with fail
     go_roundg 1
     case rel=>exact (.inr (.inl ⟨rfl,by go_num,hI2,hbf⟩))
     case measure=>omega
    ·have hD:=hid (aw_tick1 hJ (by omega) HP.out.t1)
     have HB:=hid hBB
     clear hJ hBB
     go_wp2_with fail
     refine hD.out.mono ?_
     rintro e w2 ⟨⟨A,n,c,m,er,rfl⟩,hI2,hb2⟩
     have hbf:=HB.out.trans hb2
     clear hD HB hb2
     go_wp2_with fail
     go_roundg 0
     case rel=>exact (.inr (.inr ⟨rfl,by go_num,hI2,hbf⟩))
     case measure=>omega
    ·have HJ:=hid hJ
     have HBB:=hid hBB
     clear hJ hBB
     go_wp2_with fail
     go_loopg [7,31] 2 (fun g _ i vr=>(g=2∧i=.int .i64 0∧AwI lo (300*j+2) B sb vr∧Below lo w vr)∨(g=1∧i=.int .i64 1∧AwI lo (300*j+100) B sc vr∧Below lo w vr)∨(g=0∧i=.int .i64 2∧AwI lo (300*j+200) B y' vr∧Below lo w vr))
     case atStart=>exact .inl ⟨rfl,rfl,HJ.out,HBB.out⟩
     case round=>
      clear HJ HBB
      rcases hrel with ⟨rfl,rfl,hJ,hBB⟩|⟨rfl,rfl,hJ,hBB⟩|⟨rfl,rfl,hJ,hBB⟩
      ·obtain ⟨p',hp',hsc⟩:=take0_is HP.out.k0
       have Hlen:=hid (take0_len HP.out.t1)
       have HJ:=hid hJ
       have HBB:=hid hBB
       have Hp':=hid hp'
       have Hsc:=hid hsc
       clear hJ hBB hp' hsc
       go_wp2_with fail
       go_loopg [] sb.f.length (fun g ur=>∃ l p,g=l.length∧l.length≤sb.f.length∧hears p l=some p'∧AwI lo (300*j+2+(sb.f.length-l.length)) B { sb with p:=p,f:=l } ur∧Below lo w ur)
       case atStart=>exact ⟨sb.f,sb.p,rfl,Nat.le_refl _,Hp'.out,by rw[Nat.sub_self];exact HJ.out,HBB.out⟩
       case round=>
        obtain ⟨l,p,hg4,hle,hh,hK,hB4⟩:=hrel
        clear HJ HBB
        cases l with
        | nil=>
         have hF:Hid (Calls Tryz.prog 30 #[.pointer (some ⟨B.b,0,none⟩),.int .i64 0] _ fun e w'=>e=.returned (.int .i64 0)∧_=w'):=hid (aw_fly0 hK)
         have hpp:p=p':=Option.some.inj hh
         have HK:=hid hK
         have HB4:=hid hB4
         clear hK hB4 hh hle
         go_wp2_with fail
         refine hF.out.mono ?_
         rintro e _ ⟨rfl,rfl⟩
         have hK:=HK.out.more (c:=300*j+100) (by have:=Hlen.out;simp only[List.length_nil];omega)
         rw[hpp,←Hsc.out] at hK
         clear HK hF
         go_wp2_with fail
         go_roundg 1
         case rel=>exact .inr (.inl ⟨rfl,by go_num,hK,HB4.out⟩)
         case measure=>omega
        | cons m l=>
         obtain ⟨p2,h1,h2⟩:=hears_cons hh
         have hF:Hid (Calls Tryz.prog 30 #[.pointer (some ⟨B.b,0,none⟩),.int .i64 0] _ fun e w'=>e=.returned (.int .i64 ((l.length:Int)+1))∧_=w'):=hid (by have:=aw_fly0 hK;simpa using this)
         have hD:=hid (aw_take0 hK rfl h1)
         have H2:=hid h2
         have HB4:=hid hB4
         have Hle:=hid hle
         have Hg4:=hid hg4
         have hl0:(0:Int)<(l.length:Int)+1:=by omega
         clear hK hB4 hh h1 h2 hle hg4
         go_wp2_with fail
         refine hF.out.mono ?_
         rintro e _ ⟨rfl,rfl⟩
         go_wp2_with fail
         refine hD.out.mono ?_
         rintro e w2 ⟨⟨A,n,c,mm,er,rfl⟩,hI2,hb2⟩
         have hbf:=HB4.out.trans hb2
         have hK2:=hI2.more (c:=300*j+2+(sb.f.length-l.length)) (by have:=Hle.out;simp only[List.length_cons] at this ⊢;omega)
         clear hD HB4 hb2 hI2 hF
         go_wp2_with fail
         go_roundg l.length
         case rel=>exact ⟨l,p2,rfl,by have:=Hle.out;simp only[List.length_cons] at this;omega,H2.out,hK2,hbf⟩
         case measure=>have:=Hg4.out;simp only[List.length_cons] at this;omega
      ·obtain ⟨p',hp',hsc⟩:=take1_is HP.out.k1
       have hg0:sc.g=sa.g:=by
        obtain ⟨_,_,e⟩:=take0_is HP.out.k0
        rw[e]
        exact (tick1_g HP.out.t1:sb.g=sa.g)
       have Hlen:=hid (show sc.g.length≤60 by rw[hg0];exact tick0_len HP.out.t0)
       have HJ:=hid hJ
       have HBB:=hid hBB
       have Hp':=hid hp'
       have Hsc:=hid hsc
       clear hJ hBB hp' hsc hg0
       go_wp2_with fail
       go_loopg [] sc.g.length (fun g ur=>∃ l p,g=l.length∧l.length≤sc.g.length∧hears p l=some p'∧AwI lo (300*j+100+(sc.g.length-l.length)) B { sc with q:=p,g:=l } ur∧Below lo w ur)
       case atStart=>exact ⟨sc.g,sc.q,rfl,Nat.le_refl _,Hp'.out,by rw[Nat.sub_self];exact HJ.out,HBB.out⟩
       case round=>
        obtain ⟨l,p,hg4,hle,hh,hK,hB4⟩:=hrel
        clear HJ HBB
        cases l with
        | nil=>
         have hF:Hid (Calls Tryz.prog 30 #[.pointer (some ⟨B.b,0,none⟩),.int .i64 1] _ fun e w'=>e=.returned (.int .i64 0)∧_=w'):=hid (aw_fly1 hK)
         have hpp:p=p':=Option.some.inj hh
         have HK:=hid hK
         have HB4:=hid hB4
         clear hK hB4 hh hle
         go_wp2_with fail
         refine hF.out.mono ?_
         rintro e _ ⟨rfl,rfl⟩
         have hK:=HK.out.more (c:=300*j+200) (by have:=Hlen.out;simp only[List.length_nil];omega)
         rw[hpp,←Hsc.out] at hK
         clear HK hF
         go_wp2_with fail
         go_roundg 0
         case rel=>exact .inr (.inr ⟨rfl,by go_num,hK,HB4.out⟩)
         case measure=>omega
        | cons m l=>
         obtain ⟨p2,h1,h2⟩:=hears_cons hh
         have hF:Hid (Calls Tryz.prog 30 #[.pointer (some ⟨B.b,0,none⟩),.int .i64 1] _ fun e w'=>e=.returned (.int .i64 ((l.length:Int)+1))∧_=w'):=hid (by have:=aw_fly1 hK;simpa using this)
         have hD:=hid (aw_take1 hK rfl h1)
         have H2:=hid h2
         have HB4:=hid hB4
         have Hle:=hid hle
         have Hg4:=hid hg4
         have hl0:(0:Int)<(l.length:Int)+1:=by omega
         clear hK hB4 hh h1 h2 hle hg4
         go_wp2_with fail
         refine hF.out.mono ?_
         rintro e _ ⟨rfl,rfl⟩
         go_wp2_with fail
         refine hD.out.mono ?_
         rintro e w2 ⟨⟨A,n,c,mm,er,rfl⟩,hI2,hb2⟩
         have hbf:=HB4.out.trans hb2
         have hK2:=hI2.more (c:=300*j+100+(sc.g.length-l.length)) (by have:=Hle.out;simp only[List.length_cons] at this ⊢;omega)
         clear hD HB4 hb2 hI2 hF
         go_wp2_with fail
         go_roundg l.length
         case rel=>exact ⟨l,p2,rfl,by have:=Hle.out;simp only[List.length_cons] at this;omega,H2.out,hK2,hbf⟩
         case measure=>have:=Hg4.out;simp only[List.length_cons] at this;omega
      ·have hJ2:=hJ.more (c:=300*(j+1)) (by omega)
       clear hJ
       go_wp2_with fail
       go_roundg (20-(j+1))
       case rel=>exact ⟨j+1,rfl,by omega,by go_num,y',He3.out,hJ2,hBB⟩
       case measure=>omega
  ·obtain rfl:j=20:=by omega
   obtain rfl:s=sN:=Option.some.inj (Hs.out.symm.trans HR.out)
   clear hha
   go_wp2_with fail
   go_ret
   exact ⟨rfl,HI.out.more (by omega),HB0.out⟩
end
section
open Go.RowKit
open Go.Maps
set_option maxRecDepth 100000
variable {w w':World}
theorem run20:∃ s,runN stS 20 awk0=some s∧3<s.p.now∧1<s.q.com:=by
 have h:(match runN stS 20 awk0 with|some s=>decide (3<s.p.now∧1<s.q.com)|none=>false)=true:=by kernel_rfl
 cases hr:runN stS 20 awk0 with
 | none=>
  rw[hr] at h
  cases h
 | some s=>
  rw[hr] at h
  exact ⟨s,rfl,of_decide_eq_true h⟩
theorem tN_0:tN awk0=newP 5 1 4 100 100 8:=by
 funext j
 unfold tN
 have h:=new_N j
 by_cases e:j=0
 ·subst e
  exact h.symm
 ·rw[if_neg e]
  by_cases e2:j=1
  ·subst e2
   exact h.symm
  ·rw[if_neg e2]
   exact h.symm
theorem nm_new (k:Nat):NmOk (Nm.new k):=⟨Nat.zero_le _,by show 1≤0+60;omega⟩
set_option maxHeartbeats 1000000 in
theorem tp_awake (w:World):Calls Tryz.prog 8 #[] w fun e w'=>e=.returned (.bool true)∧Below w.heap.size w w':=by
 obtain ⟨sN,hr,hn,hc⟩:=run20
 have HN:=hid (bo_New 5 1 4 100 100 8 0 0 (by omega) (by omega) (by omega) (by omega) (by omega))
 have Hr:=hid hr
 have hn':(3:Int)<(sN.p.now:Int):=by omega
 clear hr hn
 go_enter Tryz.func8,Tryz.ntmps8
 go_wp2_with fail
 refine (tp_Plain w).mono ?_
 rintro e w1 ⟨rfl,hb1⟩
 go_wp2_with fail
 refine (HN.out w1).mono ?_
 rintro e w2 ⟨B,r,rfl,hbt,hr0,hb2⟩
 have hI:AwI w1.heap.size 0 B awk0 w2:=⟨r,by rw[tN_0];exact hbt.fit (fun j hj=>hj.1),hb2.size,nm_new 0,nm_new 1,fun k=>by rw[hr0];exact Nat.le_refl _⟩
 have hCm:=hid (bo_Calm hI Hr.out)
 have Hb:=hid (hb1.trans (hb2.mono hb1.size))
 have Hz:=hid hb1.size
 clear hbt hr0 hI hb1 hb2 HN
 go_wp2_with fail
 refine hCm.out.mono ?_
 rintro e w3 ⟨rfl,hI3,hb3⟩
 have hbb:=Hb.out.trans (hb3.mono Hz.out)
 obtain ⟨r3,hQ⟩:=hI3
 have hP0:Hid (Calls Tryz.prog 15 #[.pointer (some ⟨B.b,0,none⟩),.int .i64 0] w3 fun e w'=>e=.returned (.pointer (some ⟨(B.p 0).p,0,none⟩))∧w3=w'):=hid (bo_Peer hQ.bt 0 (by omega))
 have hP1:Hid (Calls Tryz.prog 15 #[.pointer (some ⟨B.b,0,none⟩),.int .i64 1] w3 fun e w'=>e=.returned (.pointer (some ⟨(B.p 1).p,0,none⟩))∧w3=w'):=hid (bo_Peer hQ.bt 1 (by omega))
 have p0:IsPeer w3 (B.p 0) (peN 0 sN.p):=hQ.bt.peer (k:=0) (by omega)
 have p1:IsPeer w3 (B.p 1) (peN 1 sN.q):=hQ.bt.peer (k:=1) (by omega)
 have hC0:=hid (pe_Core p0)
 have hL1:=hid (pe_Ledger p1)
 have hCu:Hid (Calls Tryz.prog 22 #[.pointer (some ⟨(B.p 0).c.c,0,none⟩)] w3 fun e w'=>e=.returned (.int .i64 sN.p.now)∧w3=w'):=hid (co_Current p0.core)
 have hCo:Hid (Calls Tryz.prog 17 #[.pointer (some ⟨(B.p 1).ld,0,none⟩)] w3 fun e w'=>e=.returned (.int .i64 sN.q.com)∧w3=w'):=hid (le_Committed p1)
 have Hbb:=hid hbb
 clear hCm Hb Hz hb3 hQ p0 p1 hbb
 go_wp2_with fail
 refine hP0.out.mono ?_
 rintro e _ ⟨rfl,rfl⟩
 go_wp2_with fail
 refine hC0.out.mono ?_
 rintro e _ ⟨rfl,rfl⟩
 go_wp2_with fail
 refine hCu.out.mono ?_
 rintro e _ ⟨rfl,rfl⟩
 go_wp2_with fail
 refine hP1.out.mono ?_
 rintro e _ ⟨rfl,rfl⟩
 go_wp2_with fail
 refine hL1.out.mono ?_
 rintro e _ ⟨rfl,rfl⟩
 go_wp2_with fail
 refine hCo.out.mono ?_
 rintro e _ ⟨rfl,rfl⟩
 go_wp2
 go_ret
 exact ⟨rfl,Hbb.out⟩
end
end Go.Proofs.YtalagblioepadaaGreatDoor
