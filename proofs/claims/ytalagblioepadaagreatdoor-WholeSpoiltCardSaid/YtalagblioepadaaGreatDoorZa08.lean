/- The proof, part 8. -/
import Derived.Test.YtalagblioepadaaGreatDoorZa05
import Derived.RangeFuncCalls
import Derived.RangeFuncBound
namespace Go.Proofs.YtalagblioepadaaGreatDoor
section
open Go.RowKit
variable {P:Program}
def YieldsAll {α:Type} (P:Program) (gf:Nat) (lb:Array Value) (encs:α→Array Value) (xs:List α) (Wr Mut:Nat→Prop) (w:World):Prop:=
 ∀ (l:Nat) (J:List α→World→Prop) (W:World),l=w.heap.size+1→Keeps (fun _=>False) w W→W.heap.size=w.heap.size+2→
  (∀ pre A B,J pre A→Keeps Mut A B→J pre B)→
  (∀ pre x rest A,xs=pre++x :: rest→J pre A→YieldAt Fence.wide 0 P l (encs x) A fun e B=>e=.returned (.bool true)∧J (pre++[x]) B∧Keeps (fun k=>Wr k∨k=l) A B)→
  J [] W→CallsIn Fence.wide 0 P gf (#[.func (.yield l) #[] #[]]++lb) W fun e B=>(∃ v,e=.returned v)∧J xs B
theorem wpIn_range {α:Type} {g:Operand} {ps:Array Tmp} {assign body:Code} {Q:Exit→Act→World→Prop} {a:Act} {w:World}
  {gf:Nat} {lb:Array Value} (hg:a.eval g=.func (.func gf) #[] lb) (eg:∀ args w,(callFunc gf args).run P w=.ok (.enter gf args) w)
  {encs:α→Array Value} (hps:∀ x,(encs x).size=ps.size) (xs:List α) (Wr Mut:Nat→Prop)
  (hiter:YieldsAll P gf lb encs xs Wr Mut w)
  (hWr:¬ Wr w.heap.size∧¬ Wr (w.heap.size+1)) (hMut:¬ Mut w.heap.size∧¬ Mut (w.heap.size+1))
  (I:List α→World→Prop)
  (hI:∀ pre A B,I pre A→w.heap.size≤A.heap.size→Keeps (fun k=>Mut k∨k=w.heap.size∨k=w.heap.size+1) A B→I pre B)
  (h0:I [] w) (a₁:α→Act)
  (hassign:∀ (l:Nat) (x:α) (W:World) (K:Act→World→Prop),K (a₁ x) W→
   assign.wpIn (Fence.wide.inRound l) 0 P (Exit.then K (fun _ _ _=>False)) { tmps:=(ps.zip (encs x)).foldl (fun t (p,v)=>t.setIfInBounds p v) a.tmps,defers:=[] } W)
  (hbody:∀ (l:Nat) (pre:List α) (x:α) (rest:List α) (A:World),l=w.heap.size+1→xs=pre++x :: rest→I pre A→w.heap.size+2≤A.heap.size→
   body.wpIn (Fence.wide.inRound l) 0 P (fun ex _ B=>ex=.normal∧Keeps Wr A B∧I (pre++[x]) B) (a₁ x) A)
  (hdone:∀ (W:World),I xs W→W.heap[w.heap.size]?=some (.deferred (some []))→Q .normal { a with defers:={ target:=.collected w.heap.size,args:=#[] } :: a.defers } W) :
  (Code.rangeFunc g ps assign body).wpIn Fence.wide 0 P Q a w:=by
 refine wpIn_rangeFunc fun fn hfn=>?_
 -- the loop's record in its states
 obtain ⟨rec,hrec⟩:∃ rec:LoopState→Loop,rec=fun st=>{ state:=st,pending:=none,fn,tmps:=a.tmps,params:=ps,assign,body,defers:=w.heap.size }:=⟨_,rfl⟩
 obtain ⟨W1,hW1⟩:∃ W1,(w.alloc (.deferred (some []))).alloc (.loop (rec .ready))=W1:=⟨_,rfl⟩
 have hsz:W1.heap.size=w.heap.size+2:=by rw[←hW1];simp
 have hL1:W1.heap[w.heap.size+1]?=some (.loop (rec .ready)):=by
  rw[←hW1];have:=World.alloc_heap_new (w.alloc (.deferred (some []))) (.loop (rec .ready));rwa [World.size_alloc] at this
 have hD1:W1.heap[w.heap.size]?=some (.deferred (some [])):=by
  rw[←hW1];exact (Below.heap_alloc _ _ _ (by simp)).trans (World.alloc_heap_new w _)
 have hK1:Keeps (fun _=>False) w W1:=by rw[←hW1];exact ((Keeps.refl _ w).alloc _).alloc _
 refine ⟨w.heap.size+1,[{ target:=.collected w.heap.size,args:=#[] }],W1,{ target:=.fn (.func gf) lb,args:=#[.func (.yield (w.heap.size+1)) #[] #[]] },W1,gf,
  #[.func (.yield (w.heap.size+1)) #[] #[]]++lb,W1,?_,?_,fun _ _=>trivial,?_,(fun h=>by cases h),?_⟩
 ·have:=run_enterLoop_outer (P:=P) (w:=w) fn a.tmps ps assign body
  rw[←hW1,hrec]
  exact this
 ·simp only[resolve,hg]
  simp[go_sem]
 ·simp[invoke,go_sem,eg]
 -- the iterator,met at the caller's invariant and the two facts of the book-keeping
 have hcall:=hiter (w.heap.size+1)
  (fun pre A=>I pre A∧A.heap[w.heap.size+1]?=some (.loop (rec .ready))∧A.heap[w.heap.size]?=some (.deferred (some []))∧w.heap.size+2≤A.heap.size)
  W1 rfl hK1 hsz
  (fun pre A B ⟨hi,hl,hd,hn⟩ hk=>⟨hI pre A B hi (by omega) (hk.mono fun _ _=>.inl),hk.heap hl hMut.2,hk.heap hd hMut.1,Nat.le_trans hn hk.size⟩)
  ?round ⟨hI [] w W1 h0 (Nat.le_refl _) (hK1.mono fun _ _=>False.elim),hL1,hD1,Nat.le_of_eq hsz.symm⟩
 case round=>
  rintro pre x rest A hx ⟨hi,hl,hd,hn⟩
  have hy:=run_yield (P:=P) (args:=encs x) hl (by rw[hrec];exact hps x)
  rw[hrec] at hy
  refine ⟨fn,_,assign,body,hy,roundIn_of_wpIn hfn (hassign _ x A _ ⟨_,run_beginRound hl (by rw[hrec]),?_⟩)⟩
  have kb:Keeps (fun k=>Mut k∨k=w.heap.size∨k=w.heap.size+1) A (A.putObj (w.heap.size+1) (.loop { rec .ready with state:=.busy })):=(Keeps.refl _ A).putObj (.inr (.inr rfl)) _
  refine wpIn_mono (hbody _ pre x rest _ rfl hx (hI _ _ _ hi (by omega) kb) (by simpa using hn)) ?_
  rintro e a3 B ⟨rfl,hk,hi3⟩
  have hl2:(A.putObj (w.heap.size+1) (.loop { rec .ready with state:=.busy })).heap[w.heap.size+1]?=some (.loop { rec .ready with state:=.busy }):=World.putObj_heap_same (by omega)
  have hl3:=hk.heap hl2 hWr.2
  have hd3:=hk.heap ((World.putObj_heap_other (by omega)).trans hd) hWr.1
  have hend:=run_endRound (P:=P) none hl3
  have hsame:({ ({ rec .ready with state:=.busy }:Loop) with state:=if (none:Option Code).isNone=true then .ready else .done,pending:=none })=rec .ready:=by rw[hrec];rfl
  rw[hsame] at hend
  have ke:Keeps (fun k=>Mut k∨k=w.heap.size∨k=w.heap.size+1) B (B.putObj (w.heap.size+1) (.loop (rec .ready))):=(Keeps.refl _ B).putObj (.inr (.inr rfl)) _
  have hBs:w.heap.size+2≤B.heap.size:=Nat.le_trans (by simpa using hn) hk.size
  refine ⟨_,_,hend,rfl,⟨hI _ _ _ hi3 (by omega) ke,World.putObj_heap_same (by omega),(World.putObj_heap_other (by omega)).trans hd3,by simpa using hBs⟩,?_⟩
  exact ((((Keeps.refl _ A).putObj (S:=fun k=>Wr k∨k=w.heap.size+1) (.inr rfl) _).trans (hk.mono fun _ _=>.inl))).putObj (.inr rfl) _
 refine hcall.mono ?_
 rintro e B ⟨⟨v,rfl⟩,hi,hl,hd,hn⟩
 have hend:=run_endLoop (P:=P) hl (by rw[hrec];simp)
 have hp:(rec .ready).pending=none:=by rw[hrec]
 rw[hp] at hend
 refine ⟨none,_,hend,?_⟩
 exact hdone _ (hI _ _ _ hi (by omega) ((Keeps.refl _ B).putObj (.inr (.inr rfl)) _)) ((World.putObj_heap_other (by omega)).trans hd)
end
section
open Go.RowKit
variable {P:Program}
def YieldsAllF {α:Type} (P:Program) (gf:Nat) (lb:Array Value) (encs:α→Array Value) (xs:List α) (Wr Mut:Nat→Prop) (R:World→Prop) (w:World):Prop:=
 ∀ (l:Nat) (J:List α→World→Prop) (W:World),l=w.heap.size+1→Keeps (fun _=>False) w W→W.heap.size=w.heap.size+2→
  (∀ pre A B,J pre A→Keeps Mut A B→J pre B)→
  (∀ pre x rest A,xs=pre++x :: rest→J pre A→YieldAt Fence.wide 0 P l (encs x) A fun e B=>e=.returned (.bool true)∧J (pre++[x]) B∧Keeps (fun k=>Wr k∨k=l) A B)→
  J [] W→CallsIn Fence.wide 0 P gf (#[.func (.yield l) #[] #[]]++lb) W fun e B=>(∃ v,e=.returned v)∧J xs B∧R B
theorem wpIn_rangeF {α:Type} {g:Operand} {ps:Array Tmp} {assign body:Code} {Q:Exit→Act→World→Prop} {a:Act} {w:World}
  {gf:Nat} {lb:Array Value} (hg:a.eval g=.func (.func gf) #[] lb) (eg:∀ args w,(callFunc gf args).run P w=.ok (.enter gf args) w)
  {encs:α→Array Value} (hps:∀ x,(encs x).size=ps.size) (xs:List α) (Wr Mut:Nat→Prop) (R:World→Prop)
  (hiter:YieldsAllF P gf lb encs xs Wr Mut R w)
  (hR:∀ A B,R A→w.heap.size≤A.heap.size→Keeps (fun k=>k=w.heap.size∨k=w.heap.size+1) A B→R B)
  (hWr:¬ Wr w.heap.size∧¬ Wr (w.heap.size+1)) (hMut:¬ Mut w.heap.size∧¬ Mut (w.heap.size+1))
  (I:List α→World→Prop)
  (hI:∀ pre A B,I pre A→w.heap.size≤A.heap.size→Keeps (fun k=>Mut k∨k=w.heap.size∨k=w.heap.size+1) A B→I pre B)
  (h0:I [] w) (AS:List α→α→Act→World→Prop)
  (hAS:∀ pre x a' A B,AS pre x a' A→w.heap.size≤A.heap.size→Keeps (fun k=>k=w.heap.size∨k=w.heap.size+1) A B→AS pre x a' B)
  (hassign:∀ (l:Nat) (pre:List α) (x:α) (rest:List α) (A:World) (K:Act→World→Prop),l=w.heap.size+1→xs=pre++x :: rest→I pre A→w.heap.size+2≤A.heap.size→(∀ a' A',AS pre x a' A'→Keeps Wr A A'→K a' A')→
   assign.wpIn (Fence.wide.inRound l) 0 P (Exit.then K (fun _ _ _=>False)) { tmps:=(ps.zip (encs x)).foldl (fun t (p,v)=>t.setIfInBounds p v) a.tmps,defers:=[] } A)
  (hbody:∀ (l:Nat) (pre:List α) (x:α) (rest:List α) (a':Act) (A:World),l=w.heap.size+1→xs=pre++x :: rest→AS pre x a' A→w.heap.size+2≤A.heap.size→
   body.wpIn (Fence.wide.inRound l) 0 P (fun ex _ B=>ex=.normal∧Keeps Wr A B∧I (pre++[x]) B) a' A)
  (hdone:∀ (W:World),I xs W→R W→w.heap.size+2≤W.heap.size→W.heap[w.heap.size]?=some (.deferred (some []))→Q .normal { a with defers:={ target:=.collected w.heap.size,args:=#[] } :: a.defers } W) :
  (Code.rangeFunc g ps assign body).wpIn Fence.wide 0 P Q a w:=by
 refine wpIn_rangeFunc fun fn hfn=>?_
 -- the loop's record in its states
 obtain ⟨rec,hrec⟩:∃ rec:LoopState→Loop,rec=fun st=>{ state:=st,pending:=none,fn,tmps:=a.tmps,params:=ps,assign,body,defers:=w.heap.size }:=⟨_,rfl⟩
 obtain ⟨W1,hW1⟩:∃ W1,(w.alloc (.deferred (some []))).alloc (.loop (rec .ready))=W1:=⟨_,rfl⟩
 have hsz:W1.heap.size=w.heap.size+2:=by rw[←hW1];simp
 have hL1:W1.heap[w.heap.size+1]?=some (.loop (rec .ready)):=by
  rw[←hW1];have:=World.alloc_heap_new (w.alloc (.deferred (some []))) (.loop (rec .ready));rwa [World.size_alloc] at this
 have hD1:W1.heap[w.heap.size]?=some (.deferred (some [])):=by
  rw[←hW1];exact (Below.heap_alloc _ _ _ (by simp)).trans (World.alloc_heap_new w _)
 have hK1:Keeps (fun _=>False) w W1:=by rw[←hW1];exact ((Keeps.refl _ w).alloc _).alloc _
 refine ⟨w.heap.size+1,[{ target:=.collected w.heap.size,args:=#[] }],W1,{ target:=.fn (.func gf) lb,args:=#[.func (.yield (w.heap.size+1)) #[] #[]] },W1,gf,
  #[.func (.yield (w.heap.size+1)) #[] #[]]++lb,W1,?_,?_,fun _ _=>trivial,?_,(fun h=>by cases h),?_⟩
 ·have:=run_enterLoop_outer (P:=P) (w:=w) fn a.tmps ps assign body
  rw[←hW1,hrec]
  exact this
 ·simp only[resolve,hg]
  simp[go_sem]
 ·simp[invoke,go_sem,eg]
 -- the iterator,met at the caller's invariant and the two facts of the book-keeping
 have hcall:=hiter (w.heap.size+1)
  (fun pre A=>I pre A∧A.heap[w.heap.size+1]?=some (.loop (rec .ready))∧A.heap[w.heap.size]?=some (.deferred (some []))∧w.heap.size+2≤A.heap.size)
  W1 rfl hK1 hsz
  (fun pre A B ⟨hi,hl,hd,hn⟩ hk=>⟨hI pre A B hi (by omega) (hk.mono fun _ _=>.inl),hk.heap hl hMut.2,hk.heap hd hMut.1,Nat.le_trans hn hk.size⟩)
  ?round ⟨hI [] w W1 h0 (Nat.le_refl _) (hK1.mono fun _ _=>False.elim),hL1,hD1,Nat.le_of_eq hsz.symm⟩
 case round=>
  rintro pre x rest A hx ⟨hi,hl,hd,hn⟩
  have hy:=run_yield (P:=P) (args:=encs x) hl (by rw[hrec];exact hps x)
  rw[hrec] at hy
  refine ⟨fn,_,assign,body,hy,roundIn_of_wpIn hfn (hassign _ pre x rest A _ rfl hx hi hn (fun a' A' has hk'=>⟨_,run_beginRound (hk'.heap hl hWr.2) (by rw[hrec]),?_⟩))⟩
  have hl:=hk'.heap hl hWr.2
  have hd:=hk'.heap hd hWr.1
  have hn:=Nat.le_trans hn hk'.size
  have kb:Keeps (fun k=>k=w.heap.size∨k=w.heap.size+1) A' (A'.putObj (w.heap.size+1) (.loop { rec .ready with state:=.busy })):=(Keeps.refl _ A').putObj (.inr rfl) _
  refine wpIn_mono (hbody _ pre x rest a' _ rfl hx (hAS _ _ _ _ _ has (by omega) kb) (by simpa using hn)) ?_
  rintro e a3 B ⟨rfl,hk,hi3⟩
  have hl2:(A'.putObj (w.heap.size+1) (.loop { rec .ready with state:=.busy })).heap[w.heap.size+1]?=some (.loop { rec .ready with state:=.busy }):=World.putObj_heap_same (by omega)
  have hl3:=hk.heap hl2 hWr.2
  have hd3:=hk.heap ((World.putObj_heap_other (by omega)).trans hd) hWr.1
  have hend:=run_endRound (P:=P) none hl3
  have hsame:({ ({ rec .ready with state:=.busy }:Loop) with state:=if (none:Option Code).isNone=true then .ready else .done,pending:=none })=rec .ready:=by rw[hrec];rfl
  rw[hsame] at hend
  have ke:Keeps (fun k=>Mut k∨k=w.heap.size∨k=w.heap.size+1) B (B.putObj (w.heap.size+1) (.loop (rec .ready))):=(Keeps.refl _ B).putObj (.inr (.inr rfl)) _
  have hBs:w.heap.size+2≤B.heap.size:=Nat.le_trans (by simpa using hn) hk.size
  refine ⟨_,_,hend,rfl,⟨hI _ _ _ hi3 (by omega) ke,World.putObj_heap_same (by omega),(World.putObj_heap_other (by omega)).trans hd3,by simpa using hBs⟩,?_⟩
  exact (((hk'.mono fun _ _=>.inl).putObj (S:=fun k=>Wr k∨k=w.heap.size+1) (.inr rfl) _).trans (hk.mono fun _ _=>.inl)).putObj (.inr rfl) _
 refine hcall.mono ?_
 rintro e B ⟨⟨v,rfl⟩,⟨hi,hl,hd,hn⟩,hr⟩
 have hend:=run_endLoop (P:=P) hl (by rw[hrec];simp)
 have hp:(rec .ready).pending=none:=by rw[hrec]
 rw[hp] at hend
 refine ⟨none,_,hend,?_⟩
 exact hdone _ (hI _ _ _ hi (by omega) ((Keeps.refl _ B).putObj (.inr (.inr rfl)) _)) (hR _ _ hr (by omega) ((Keeps.refl _ B).putObj (.inr rfl) _)) (by simpa using hn) ((World.putObj_heap_other (by omega)).trans hd)
end
end Go.Proofs.YtalagblioepadaaGreatDoor
