/- The proof, part 44. -/
import Derived.Test.YtalagblioepadaaGreatDoorZa43
import Derived.Test.YtalagblioepadaaGreatDoorZa41
import Derived.Test.YtalagblioepadaaGreatDoorZa10
import Derived.Test.YtalagblioepadaaGreatDoorZa36
namespace Go.Proofs.YtalagblioepadaaGreatDoor
section
open Go.RowKit
set_option maxRecDepth 10000
def Res.core (b:CoB) (x:Co):Res where
 S:=b.S
 P w:=IsCore w b x
 lt h hb:=h.lt hb
 frame h hk hs:=h.keeps hk hs
def Res.link (B:LB) (l:Lk):Res where
 S:=B.S
 P w:=IsLink w B l
 lt h hb:=by
  have:=h.lt
  rcases hb with e|e|e|e|e<;>omega
 frame h hk hs:=h.keeps hk hs
def noEl (v:Value):Option (DataW Unit×List MemPlace):=match v with
 | .slice none 0 0=>some (.nil,[])
 | _=>none
theorem noEl_inv {v:Value} {z:DataW Unit×List MemPlace} (h:noEl v=some z):v=.slice none 0 0∧z=(.nil,[]):=by
 unfold noEl at h
 split at h
 ·cases h;exact ⟨rfl,rfl⟩
 ·cases h
def noKey (_:Value):Option (DataW Unit×List MemPlace):=none
def Res.told (b n:Nat):Res where
 S j:=j=b
 P w:=∃ D,w.ownsMap Tryz.prog 3 noEl b n D
 lt h e:=by subst e;obtain ⟨D,h⟩:=h;exact h.lt
 frame h hk hs:=by obtain ⟨D,h⟩:=h;exact ⟨D,map_keeps h hk (hs _ rfl)⟩
def Res.live (b:Nat):Res:=Res.map Tryz.prog 43 noKey b 0 (.map [])
def Res.sums (b n:Nat) (D:DataW Unit):Res:=Res.map Tryz.prog 3 (plainElem Tryz.prog 22) b n D
structure PeB where
 p:Nat
 c:CoB
 L:LB
 ld:Nat
 lv:Nat
 tl:Nat
 mx:Nat
 fe:Nat
 ea:Nat
 ow:Nat
 wt:Nat
structure Pe where
 x:Co
 lk:Lk
 most:Int
 com:Int
 lh:Bool
 tn:Nat
 voices:Int
 on:Nat
 D:DataW Unit
 wn:Nat
 W:DataW Unit
 far:Int
 halted:Bool
 reason:Int
def peC (b:PeB) (s:Pe):Array Value:=#[.pointer (some ⟨b.c.c,0,none⟩),.pointer (some ⟨b.L.p,0,none⟩),.pointer (some ⟨b.ld,0,none⟩),.pointer (some ⟨b.mx,0,none⟩),.pointer (some ⟨b.fe,0,none⟩),.pointer (some ⟨b.ea,0,none⟩),.map (some b.ow),.map (some b.wt),.int .i64 s.far,.bool s.halted,.int .i64 s.reason,.int .i64 0]
def ldC (b:PeB) (s:Pe):Array Value:=#[.int .i64 s.most,.map (some b.lv),.map (some b.tl),.int .i64 s.com,.bool s.lh]
def peL (b:PeB) (s:Pe):List Res:=[Res.blk b.p (peC b s,114),Res.core b.c s.x,Res.link b.L s.lk,Res.blk b.ld (ldC b s,118),Res.live b.lv,Res.told b.tl s.tn,
 Res.blk b.mx (#[.int .i64 s.voices,.int .i64 0,.slice none 0 0],177),Res.blk b.fe (#[.slice none 0 0],291),Res.blk b.ea (#[.int .i32 0,.int .i32 0,.int .i32 0,.int .i32 0],278),Res.sums b.ow s.on s.D,Res.sums b.wt s.wn s.W]
def IsPeer (w:World) (b:PeB) (s:Pe):Prop:=Sep w (peL b s)
def PeB.S (b:PeB) (s:Pe) (j:Nat):Prop:=∃ r∈peL b s,r.S j
namespace IsPeer
variable {w w':World} {b:PeB} {s:Pe}
theorem blk (h:IsPeer w b s):w.heap[b.p]?=some (.cells (peC b s) 114 (0,0)):=h.at' 0 rfl
theorem core (h:IsPeer w b s):IsCore w b.c s.x:=h.at' 1 rfl
theorem link (h:IsPeer w b s):IsLink w b.L s.lk:=h.at' 2 rfl
theorem led (h:IsPeer w b s):w.heap[b.ld]?=some (.cells (ldC b s) 118 (0,0)):=h.at' 3 rfl
theorem live (h:IsPeer w b s):w.ownsMap Tryz.prog 43 noKey b.lv 0 (.map []):=h.at' 4 rfl
theorem told (h:IsPeer w b s):∃ D,w.ownsMap Tryz.prog 3 noEl b.tl s.tn D:=h.at' 5 rfl
theorem feel (h:IsPeer w b s):w.heap[b.fe]?=some (.cells #[.slice none 0 0] 291 (0,0)):=h.at' 7 rfl
theorem ease (h:IsPeer w b s):w.heap[b.ea]?=some (.cells #[.int .i32 0,.int .i32 0,.int .i32 0,.int .i32 0] 278 (0,0)):=h.at' 8 rfl
theorem own (h:IsPeer w b s):w.ownsMap Tryz.prog 3 (plainElem Tryz.prog 22) b.ow s.on s.D:=h.at' 9 rfl
theorem wait (h:IsPeer w b s):w.ownsMap Tryz.prog 3 (plainElem Tryz.prog 22) b.wt s.wn s.W:=h.at' 10 rfl
theorem c0 (h:IsPeer w b s):w.cell? ⟨b.p,0,none⟩=some (.pointer (some ⟨b.c.c,0,none⟩)):=blk_cell h.blk rfl
theorem c1 (h:IsPeer w b s):w.cell? ⟨b.p,1,none⟩=some (.pointer (some ⟨b.L.p,0,none⟩)):=blk_cell h.blk rfl
theorem c2 (h:IsPeer w b s):w.cell? ⟨b.p,2,none⟩=some (.pointer (some ⟨b.ld,0,none⟩)):=blk_cell h.blk rfl
theorem c4 (h:IsPeer w b s):w.cell? ⟨b.p,4,none⟩=some (.pointer (some ⟨b.fe,0,none⟩)):=blk_cell h.blk rfl
theorem c5 (h:IsPeer w b s):w.cell? ⟨b.p,5,none⟩=some (.pointer (some ⟨b.ea,0,none⟩)):=blk_cell h.blk rfl
theorem c6 (h:IsPeer w b s):w.cell? ⟨b.p,6,none⟩=some (.map (some b.ow)):=blk_cell h.blk rfl
theorem c7 (h:IsPeer w b s):w.cell? ⟨b.p,7,none⟩=some (.map (some b.wt)):=blk_cell h.blk rfl
theorem c8 (h:IsPeer w b s):w.cell? ⟨b.p,8,none⟩=some (.int .i64 s.far):=blk_cell h.blk rfl
theorem c9 (h:IsPeer w b s):w.cell? ⟨b.p,9,none⟩=some (.bool s.halted):=blk_cell h.blk rfl
theorem c10 (h:IsPeer w b s):w.cell? ⟨b.p,10,none⟩=some (.int .i64 s.reason):=blk_cell h.blk rfl
theorem free (h:IsPeer w b s) (k:Nat):w.frozen? ⟨b.p,k,none⟩=false:=blk_free h.blk k
theorem keep (h:IsPeer w b s) (hk:Keeps (fun _=>False) w w'):IsPeer w' b s:=Sep.keep h hk
theorem drew (h:IsPeer w b s) (n:Nat):IsPeer (w.drewN n) b s:=Sep.drew h n
theorem part {T:Nat→Prop} {s':Pe} (h:IsPeer w b s) (i:Nat) {r r':Res} (hi:(peL b s)[i]?=some r) (hk:Keeps T w w') (hT:∀ j,T j→r.S j) (hP:r'.P w') (hS:∀ j,r'.S j→r.S j) (he:(peL b s).set i r'=peL b s'):IsPeer w' b s':=by
 have:=Sep.set (r':=r') h i hi hk (fun j _=>hT j) hP (fun j hj=>.inl (hS j hj))
 rw[he] at this
 exact this
theorem setCore {x:Co} (h:IsPeer w b s) (hx:IsCore w' b.c x) (hk:Keeps b.c.S w w'):IsPeer w' b { s with x:=x }:=h.part 1 (r':=Res.core b.c x) rfl hk (fun _ h=>h) hx (fun _ h=>h) rfl
theorem setLink {l:Lk} (h:IsPeer w b s) (hx:IsLink w' b.L l) (hk:Keeps b.L.S w w'):IsPeer w' b { s with lk:=l }:=h.part 2 (r':=Res.link b.L l) rfl hk (fun _ h=>h) hx (fun _ h=>h) rfl
theorem setTold {n:Nat} (h:IsPeer w b s) (hx:∃ D,w'.ownsMap Tryz.prog 3 noEl b.tl n D) (hk:Keeps (fun j=>j=b.tl) w w'):IsPeer w' b { s with tn:=n }:=h.part 5 (r':=Res.told b.tl n) rfl hk (fun _ h=>h) hx (fun _ h=>h) rfl
theorem setLive (h:IsPeer w b s) (hx:w'.ownsMap Tryz.prog 43 noKey b.lv 0 (.map [])) (hk:Keeps (fun j=>j=b.lv) w w'):IsPeer w' b s:=h.part 4 (r':=Res.live b.lv) rfl hk (fun _ h=>h) hx (fun _ h=>h) rfl
theorem setOwn {n:Nat} {D:DataW Unit} (h:IsPeer w b s) (hx:w'.ownsMap Tryz.prog 3 (plainElem Tryz.prog 22) b.ow n D) (hk:Keeps (fun j=>j=b.ow) w w'):IsPeer w' b { s with on:=n,D:=D }:=h.part 9 (r':=Res.sums b.ow n D) rfl hk (fun _ h=>h) hx (fun _ h=>h) rfl
theorem setBlk {s':Pe} (h:IsPeer w b s) (hx:w'.heap[b.p]?=some (.cells (peC b s') 114 (0,0))) (hk:Keeps (fun j=>j=b.p) w w') (he:(peL b s).set 0 (Res.blk b.p (peC b s',114))=peL b s'):IsPeer w' b s':=h.part 0 (r':=Res.blk b.p (peC b s',114)) rfl hk (fun _ h=>h) hx (fun _ h=>h) he
theorem setLed {s':Pe} (h:IsPeer w b s) (hx:w'.heap[b.ld]?=some (.cells (ldC b s') 118 (0,0))) (hk:Keeps (fun j=>j=b.ld) w w') (he:(peL b s).set 3 (Res.blk b.ld (ldC b s',118))=peL b s'):IsPeer w' b s':=h.part 3 (r':=Res.blk b.ld (ldC b s',118)) rfl hk (fun _ h=>h) hx (fun _ h=>h) he
theorem setEase (h:IsPeer w b s) (hx:w'.heap[b.ea]?=some (.cells #[.int .i32 0,.int .i32 0,.int .i32 0,.int .i32 0] 278 (0,0))) (hk:Keeps (fun j=>j=b.ea) w w'):IsPeer w' b s:=h.part 8 (r':=Res.blk b.ea (#[.int .i32 0,.int .i32 0,.int .i32 0,.int .i32 0],278)) rfl hk (fun _ h=>h) hx (fun _ h=>h) rfl
theorem setFeel (h:IsPeer w b s) (hx:w'.heap[b.fe]?=some (.cells #[.slice none 0 0] 291 (0,0))) (hk:Keeps (fun j=>j=b.fe) w w'):IsPeer w' b s:=h.part 7 (r':=Res.blk b.fe (#[.slice none 0 0],291)) rfl hk (fun _ h=>h) hx (fun _ h=>h) rfl
theorem far (h:IsPeer w b s) (n:Int):IsPeer (w.setCell ⟨b.p,8,none⟩ (.int .i64 n)) b { s with far:=n }:=
 h.setBlk (by simpa[peC] using blk_set h.blk 8 (.int .i64 n)) (Keeps.setCell (S:=fun j=>j=b.p) (Keeps.refl _ w) (p:=⟨b.p,8,none⟩) rfl _) rfl
theorem subs (b:PeB) (s:Pe) (i:Nat) {r:Res} (hi:(peL b s)[i]?=some r) {j:Nat} (hj:r.S j):b.S s j:=⟨r,List.mem_of_getElem? hi,hj⟩
end IsPeer
theorem peS_same (b:PeB) (s s':Pe):b.S s=b.S s':=by
 funext j
 simp only[PeB.S,peL,List.mem_cons,List.not_mem_nil,or_false,exists_eq_or_imp,exists_eq_left,Res.blk,Res.core,Res.link,Res.live,Res.told,Res.sums,Res.map]
end
section
open Go.RowKit
structure Nm where
 now:Nat
 n0:Nat
 n1:Nat
 fst:Nat
 com:Int
 tn:Nat
 lk:Lk
 on:Nat
 D:DataW Unit
 far:Int
def okM (m:Msg):Bool:=decide (0≤m.nonce∧m.nonce<4294967296)&&decide (0≤m.serial∧m.serial<65536)&&decide (0≤m.ack∧m.ack<65536)&&decide (0≤m.sum∧m.sum<4294967296)&&decide (RightP m)
theorem okM_of {m:Msg} (h:okM m=true):m.wf∧RightP m:=by
 unfold okM at h
 simp only[Bool.and_eq_true,decide_eq_true_eq] at h
 obtain ⟨⟨⟨⟨h1,h2⟩,h3⟩,h4⟩,h5⟩:=h
 have h6:=h5
 unfold RightP at h6
 exact ⟨⟨by omega,h1,h2,h3,h4,by omega⟩,h5⟩
def okL (l:Lk):Bool:=decide (0≤l.ticks∧l.ticks≤1000)&&decide (0≤l.heard∧l.heard≤1000)&&decide (0≤l.acked∧l.acked≤1000)&&decide (0≤l.next∧l.next≤1000)&&decide (0≤l.good∧l.good≤1000)&&decide (0≤l.bad∧l.bad≤1000)&&decide (0≤l.stale∧l.stale≤1000)&&l.out.all (fun m=>m.ins.isEmpty)
structure OkL (l:Lk):Prop where
 ticks:0≤l.ticks∧l.ticks≤1000
 heard:0≤l.heard∧l.heard≤1000
 acked:0≤l.acked∧l.acked≤1000
 next:0≤l.next∧l.next≤1000
 good:0≤l.good∧l.good≤1000
 bad:0≤l.bad∧l.bad≤1000
 stale:0≤l.stale∧l.stale≤1000
 out:∀ m∈l.out,m.ins=[]
theorem okL_of {l:Lk} (h:okL l=true):OkL l:=by
 unfold okL at h
 simp only[Bool.and_eq_true,decide_eq_true_eq,List.all_eq_true,List.isEmpty_iff] at h
 obtain ⟨⟨⟨⟨⟨⟨⟨h1,h2⟩,h3⟩,h4⟩,h5⟩,h6⟩,h7⟩,h8⟩:=h
 exact ⟨h1,h2,h3,h4,h5,h6,h7,h8⟩
def repD (D:DataW Unit) (f:Int) (s:Int):DataW Unit:=(D.put (.int .i64 f) (.lit (.int .u32 s))).del (.int .i64 (f-128))
def reps (com:Int):Bool:=decide ((com+1)%16=0)
structure TickC (a:Nm):Prop where
 ready:¬ (4<(a.now:Int)-a.n1-a.far∧a.lk.ticks%2=1)
 mine:a.n0=a.now+1
 room:(a.now:Int)-(min a.n0 a.n1:Nat)<4
 own:ownE a.lk a.n0 0=0
 com:a.com+1=(min a.n1 (a.now+1):Nat)-1
 pos:1≤a.n1
 nxt:a.n1≤a.n0+1
 now:a.now≤200
 fst:(a.fst:Int)≤a.com+1
 farb:-1000≤a.far∧a.far≤1000
 tn:a.tn≤1000∧a.on≤1000
 win:a.n0+2<a.fst+60
 only:reps (a.com+1)=true→a.com=14
instance (a:Nm):Decidable (TickC a):=
 decidable_of_iff ((¬ (4<(a.now:Int)-a.n1-a.far∧a.lk.ticks%2=1))∧a.n0=a.now+1∧(a.now:Int)-(min a.n0 a.n1:Nat)<4∧ownE a.lk a.n0 0=0∧a.com+1=(min a.n1 (a.now+1):Nat)-1∧1≤a.n1∧a.n1≤a.n0+1∧a.now≤200∧(a.fst:Int)≤a.com+1∧(-1000≤a.far∧a.far≤1000)∧(a.tn≤1000∧a.on≤1000)∧a.n0+2<a.fst+60∧(reps (a.com+1)=true→a.com=14))
  ⟨fun ⟨h1,h2,h3,h4,h5,h6,h7,h8,h9,h10,h11,h12,h13⟩=>⟨h1,h2,h3,h4,h5,h6,h7,h8,h9,h10,h11,h12,h13⟩,fun ⟨h1,h2,h3,h4,h5,h6,h7,h8,h9,h10,h11,h12,h13⟩=>⟨h1,h2,h3,h4,h5,h6,h7,h8,h9,h10,h11,h12,h13⟩⟩
def lkT (S:Nat→Int) (a:Nm):Lk:=if reps (a.com+1) then repL (ownL a.lk a.n0 0) (a.com+2) (S (a.com+2).toNat) else ownL a.lk a.n0 0
def tickA (S:Nat→Int) (a:Nm):Nm:=⟨a.now+1,a.n0+1,a.n1,(a.com+1).toNat,a.com+1,a.tn+1,(tickF (lkT S a) ((a.now:Int)+1-a.n1)).2,
 if reps (a.com+1) then a.on+1 else a.on,if reps (a.com+1) then repD a.D (a.com+2) (S (a.com+2).toNat) else a.D,a.far⟩
def tickN (S:Nat→Int) (a:Nm):Option (List Msg×Nm):=
 if okL a.lk=true∧okL (lkT S a)=true∧a.lk.state=1∧TickC a∧(tickF (lkT S a) ((a.now:Int)+1-a.n1)).2.state=1∧(tickF (lkT S a) ((a.now:Int)+1-a.n1)).1.all okM=true then
  some ((tickF (lkT S a) ((a.now:Int)+1-a.n1)).1,tickA S a)
 else if okL a.lk=true∧a.lk.state=0∧a.now=0∧a.n0=1∧a.n1=1∧a.fst=0∧a.com=-1∧(tickF a.lk (-1)).2.state=0∧(tickF a.lk (-1)).1.all okM=true then
  some ((tickF a.lk (-1)).1,{ a with lk:=(tickF a.lk (-1)).2 })
 else none
def hearM (l:Lk) (m:Msg):Hrd×Int×Lk:=
 if (takesF { l with heard:=l.ticks } m).2.1 then ((takesF { l with heard:=l.ticks } m).1,0,{ (takesF { l with heard:=l.ticks } m).2.2 with good:=(takesF { l with heard:=l.ticks } m).2.2.good+1 })
 else (Hrd.zero,0,{ (takesF { l with heard:=l.ticks } m).2.2 with stale:=(takesF { l with heard:=l.ticks } m).2.2.stale+1 })
theorem hear_of (l:Lk) (m:Msg) (hs:l.state≠2) (hm:m.wf∧RightP m):hearF l (packM m)=hearM l m:=by
 unfold hearF
 rw[if_neg hs,unpM_pack m hm.2 hm.1]
 rfl
def isNum (d:DataW Unit) (s:Int):Bool:=match d with
 | .lit (.int .u32 n)=>n == s
 | _=>false
theorem isNum_eq {d:DataW Unit} {s:Int} (h:isNum d s=true):d=.lit (.int .u32 s):=by
 unfold isNum at h
 split at h
 ·simp at h;rw[h]
 ·cases h
def hearN (a:Nm) (m:Msg):Option Nm:=
 let r:=hearM a.lk m
 if okL a.lk=true∧okM m=true∧a.lk.state≠2∧r.2.2.state≠2∧r.1.ins.all (· == 0)=true∧r.1.ins.length≤64∧(r.1.ins≠[]→r.1.frm=a.n1∧a.n1+r.1.ins.length≤a.fst+60)∧
   (r.1.kind=4→Maps.has a.D (.int .i64 r.1.frame)=true∧isNum (a.D.atKey (.int .i64 r.1.frame) (.lit (.int .u32 0))) r.1.sum=true∧0≤r.1.frame∧r.1.frame≤1000)∧a.n1≤1000 then
  some { a with lk:=r.2.2,n1:=a.n1+r.1.ins.length,far:=if r.1.kind=6 then r.1.lead else a.far }
 else none
structure Aw where
 p:Nm
 q:Nm
 f:List Msg
 g:List Msg
def tick0 (S:Nat→Int) (s:Aw):Option Aw:=match tickN S s.p with
 | some (ms,p')=>if s.g.length+ms.length≤60 then some { s with p:=p',g:=s.g++ms } else none
 | none=>none
def tick1 (S:Nat→Int) (s:Aw):Option Aw:=match tickN S s.q with
 | some (ms,p')=>if s.f.length+ms.length≤60 then some { s with q:=p',f:=s.f++ms } else none
 | none=>none
def hears:Nm→List Msg→Option Nm
 | a,[]=>some a
 | a,m :: l=>match hearN a m with
  | some a'=>hears a' l
  | none=>none
def take0 (s:Aw):Option Aw:=match hears s.p s.f with
 | some p'=>some { s with p:=p',f:=[] }
 | none=>none
def take1 (s:Aw):Option Aw:=match hears s.q s.g with
 | some p'=>some { s with q:=p',g:=[] }
 | none=>none
def roundN (S:Nat→Int) (s:Aw):Option Aw:=(tick0 S s).bind fun s=>(tick1 S s).bind fun s=>(take0 s).bind take1
def runN (S:Nat→Int):Nat→Aw→Option Aw
 | 0,s=>some s
 | n+1,s=>(runN S n s).bind (roundN S)
def Nm.new (k:Nat):Nm:=⟨0,1,1,0,-1,0,Lk.new ((k:Int)+1) 100 1,0,.map [],0⟩
def awk0:Aw:=⟨Nm.new 0,Nm.new 1,[],[]⟩
end
end Go.Proofs.YtalagblioepadaaGreatDoor
