/- The proof, part 3. -/
import Derived.Test.YtalagblioepadaaGreatDoorZd01
import Derived.RangeFuncCalls
import Derived.RangeFuncBound
namespace Go.Proofs.YtalagblioepadaaGreatDoor
set_option linter.all false
open List Go.RowKit
set_option maxRecDepth 100000
def N8{p:al}(h:p:=by
 rintro e a3 B ⟨rfl,hk,h2⟩;have l':(cG.putObj (w.heap.size+1) (.loop {rec .ready with state:=.busy})).heap[w.heap.size+1]?=some (.loop {rec .ready with state:=.busy}):=World.putObj_heap_same U;have q:=run_endRound (P:=P) none (hk.heap l' n.2);have m':({({rec .ready with state:=.busy}:Loop)with state:=if (none:b_ Code).isNone=true then .ready else .done,pending:=none})=rec .ready:=by rw[b];rfl
 rw[m']at q;have r':Keeps (λk=>i k\/k=w.heap.size\/k=w.heap.size+1) B (B.putObj (w.heap.size+1) (.loop (rec .ready))):=(Keeps.refl _ B).putObj (.inr (.inr rfl)) _;have g':=ca qQ hk.size;refine⟨_,_,q,rfl,⟨o _ _ _ h2 U r',World.putObj_heap_same U,(World.putObj_heap_other U).trans (hk.heap ((World.putObj_heap_other U).trans hd) n.1),by simpa using g'⟩,?_⟩;exact(((m.mono λ_ _=>.inl).putObj (S:=λk=>d k\/k=w.heap.size+1) (.inr rfl) _).trans (hk.mono λ_ _=>.inl)).putObj (.inr rfl) _
 ):p:=h
def Fc{p:al}(h:p:=by
 rw[<-c];have:=World.alloc_heap_new (w.alloc (.deferred (some []))) (.loop (rec .ready));rwa [fH]at this
 ):p:=h
def ED{p:al}(h:p:=by
 rw[<-c];exact(zR _ _ _ aM).trans (World.alloc_heap_new w _)
 ):p:=h
section
variable{P:Program}
def p0{α:Type}(P:Program)(gf:J)(lb:a7 ay)(encs:α->a7 ay)(xs:List α)(c b:J->al)(w:aj):al:=
 ∀ (l:J) (a:List α->aj->al) (W:aj),l=w.heap.size+1->Keeps aG w W->W.heap.size=w.heap.size+2->
  (∀ pre A B,a pre A->Keeps b A B->a pre B)->
  (∀ pre x rest A,xs=pre++x :: rest->a pre A->YieldAt Fence.wide 0 P l (encs x) A λe B=>e=.returned (.bool true)/\a (pre++[x]) B/\Keeps (λk=>c k\/k=l) A B)->
  a [] W->CallsIn Fence.wide 0 P gf (#[.func (.yield l) #[] #[]]++lb) W λe B=>(∃ v,e=.returned v)/\a xs B
def DF{α:Type}{g:Operand}{ps:a7 Tmp}{assign body:Code}{Q:Exit->Act->aj->al}{a:Act}{w:aj}{gf:J}{lb:a7 ay}(aZ:a.eval g=.func (.func gf) #[] lb)(C:∀ args w,(callFunc gf args).run P w=.ok (.enter gf args) w){encs:α->a7 ay}(X:∀ x,(encs x).size=ps.size)(xs:List α)(m i:J->al)(T:p0 P gf lb encs xs m i w)(u:¬ m w.heap.size/\¬ m (w.heap.size+1))(s:¬ i w.heap.size/\¬ i (w.heap.size+1))(d:List α->aj->al)(n:∀ pre A B,d pre A->w.heap.size<=A.heap.size->Keeps (λk=>i k\/k=w.heap.size\/k=w.heap.size+1) A B->d pre B)(D:d [] w)(q:α->Act)(H:∀ (l:J) (x:α) (W:aj) (K:Act->aj->al),K (q x) W-> assign.wpIn (Fence.wide.inRound l) 0 P (Exit.then K (λ_ _ _=>False)) {tmps:=(ps.zip (encs x)).foldl (λt (p,v)=>t.setIfInBounds p v) a.tmps,defers:=[]} W)(L:∀ (l:J) (pre:List α) (x:α) (rest:List α) (A:aj),l=w.heap.size+1->xs=pre++x :: rest->d pre A->w.heap.size+2<=A.heap.size-> body.wpIn (Fence.wide.inRound l) 0 P (λex _ B=>ex=.normal/\Keeps m A B/\d (pre++[x]) B) (q x) A)(N:∀ (W:aj),d xs W->W.heap[w.heap.size]?=some (.deferred (some []))->Q .normal {a with defers:={target:=.collected w.heap.size,args:=#[]} :: a.defers} W):(Code.rangeFunc g ps assign body).wpIn Fence.wide 0 P Q a w:=by
 refine wpIn_rangeFunc λfn O=>?_
 -- the loop's record in its states
 obtain⟨rec,f⟩:∃ rec:LoopState->Loop,rec=λst=>{state:=st,pending:=none,fn,tmps:=a.tmps,params:=ps,assign,body,defers:=w.heap.size}:=⟨_,rfl⟩;obtain⟨b,c⟩:∃ b,(w.alloc (.deferred (some []))).alloc (.loop (rec .ready))=b:=⟨_,rfl⟩;have y:b.heap.size=w.heap.size+2:=by rw[<-c];simp
 have G:b.heap[w.heap.size+1]?=some (.loop (rec .ready)):=by
  exact Fc
 have F:b.heap[w.heap.size]?=some (.deferred (some [])):=by
  exact ED
 have r:Keeps aG w b:=by rw[<-c];exact((Keeps.refl _ w).alloc _).alloc _
 refine⟨w+1,[{target:=.collected w.heap.size,args:=#[]}],b,{target:=.fn (.func gf) lb,args:=#[.func (.yield (w.heap.size+1)) #[] #[]]},b,gf,
  #[.func (.yield (w.heap.size+1)) #[] #[]]++lb,b,?_,?_,λ_ _=>trivial,?_,(λh=>n1),?_⟩
 .have:=run_enterLoop_outer (P:=P) (w:=w) fn a.tmps ps assign body
  rw[<-c,f];exact this
 .simp only[resolve,aZ];simp[go_sem]
 .simp[invoke,go_sem,C]
 -- the iterator,met at the caller's invariant and the two facts of the book-keeping
 have M:=T (w.heap.size+1)
  (λpre A=>d pre A/\A.heap[w.heap.size+1]?=some (.loop (rec .ready))/\A.heap[w.heap.size]?=some (.deferred (some []))/\w.heap.size+2<=A.heap.size)
  b rfl r y
  (λpre A B ⟨ax,j,hd,av⟩ hk=>⟨n pre A B ax U (hk.mono λ_ _=>.inl),hk.heap j s.2,hk.heap hd s.1,ca av hk.size⟩)
  ?round ⟨n [] w b D bx (r.mono λ_ _=>False.elim),G,F,gD y.symm⟩
 case round=>
  rintro pre x rest A Z ⟨ax,j,hd,av⟩;have z:=run_yield (P:=P) (args:=encs x) j (by rw[f];exact X x);rw[f]at z;refine⟨fn,_,assign,body,z,roundIn_of_wpIn O (H _ x A _ ⟨_,run_beginRound j (by rw[f]),?_⟩)⟩;have eD:Keeps (λk=>i k\/k=w.heap.size\/k=w.heap.size+1) A (A.putObj (w.heap.size+1) (.loop {rec .ready with state:=.busy})):=(Keeps.refl _ A).putObj (.inr (.inr rfl)) _;refine wpIn_mono (L _ pre x rest _ rfl Z (n _ _ _ ax U eD) qQ) ?_;rintro e a3 B ⟨rfl,hk,R⟩;have V:(A.putObj (w.heap.size+1) (.loop {rec .ready with state:=.busy})).heap[w.heap.size+1]?=some (.loop {rec .ready with state:=.busy}):=World.putObj_heap_same U;have o:=run_endRound (P:=P) none (hk.heap V u.2);have Y:({({rec .ready with state:=.busy}:Loop)with state:=if (none:b_ Code).isNone=true then .ready else .done,pending:=none})=rec .ready:=by rw[f];rfl
  rw[Y]at o;have ab:Keeps (λk=>i k\/k=w.heap.size\/k=w.heap.size+1) B (B.putObj (w.heap.size+1) (.loop (rec .ready))):=(Keeps.refl _ B).putObj (.inr (.inr rfl)) _;have E:=ca qQ hk.size;refine⟨_,_,o,rfl,⟨n _ _ _ R U ab,World.putObj_heap_same U,(World.putObj_heap_other U).trans (hk.heap ((World.putObj_heap_other U).trans hd) u.1),by simpa using E⟩,?_⟩;exact((((Keeps.refl _ A).putObj (S:=λk=>m k\/k=w.heap.size+1) (.inr rfl) _).trans (hk.mono λ_ _=>.inl))).putObj (.inr rfl) _
 refine M.mono ?_;rintro e B ⟨⟨v,rfl⟩,ax,j,hd,av⟩;have o:=run_endLoop (P:=P) j (by rw[f];simp);have au:(rec .ready).pending=none:=by rw[f]
 rw[au]at o;refine⟨none,_,o,?_⟩;exact N _ (n _ _ _ ax U ((Keeps.refl _ B).putObj (.inr (.inr rfl)) _)) ((World.putObj_heap_other U).trans hd)
end
section
variable{P:Program}
def F2{α:Type}(P:Program)(gf:J)(lb:a7 ay)(encs:α->a7 ay)(xs:List α)(c b:J->al)(R:aj->al)(w:aj):al:=
 ∀ (l:J) (a:List α->aj->al) (W:aj),l=w.heap.size+1->Keeps aG w W->W.heap.size=w.heap.size+2->
  (∀ pre A B,a pre A->Keeps b A B->a pre B)->
  (∀ pre x rest A,xs=pre++x :: rest->a pre A->YieldAt Fence.wide 0 P l (encs x) A λe B=>e=.returned (.bool true)/\a (pre++[x]) B/\Keeps (λk=>c k\/k=l) A B)->
  a [] W->CallsIn Fence.wide 0 P gf (#[.func (.yield l) #[] #[]]++lb) W λe B=>(∃ v,e=.returned v)/\a xs B/\R B
def ZN{α:Type}{g:Operand}{ps:a7 Tmp}{assign body:Code}{Q:Exit->Act->aj->al}{a:Act}{w:aj}{gf:J}{lb:a7 ay}(aZ:a.eval g=.func (.func gf) #[] lb)(E:∀ args w,(callFunc gf args).run P w=.ok (.enter gf args) w){encs:α->a7 ay}(Y:∀ x,(encs x).size=ps.size)(xs:List α)(d i:J->al)(R:aj->al)(X:F2 P gf lb encs xs d i R w)(M:∀ A B,R A->w.heap.size<=A.heap.size->Keeps (λk=>k=w.heap.size\/k=w.heap.size+1) A B->R B)(n:¬ d w.heap.size/\¬ d (w.heap.size+1))(y:¬ i w.heap.size/\¬ i (w.heap.size+1))(r:List α->aj->al)(o:∀ pre A B,r pre A->w.heap.size<=A.heap.size->Keeps (λk=>i k\/k=w.heap.size\/k=w.heap.size+1) A B->r pre B)(F:r [] w)(s:List α->α->Act->aj->al)(G:∀ pre x a' A B,s pre x a' A->w.heap.size<=A.heap.size->Keeps (λk=>k=w.heap.size\/k=w.heap.size+1) A B->s pre x a' B)(N:∀ (l:J) (pre:List α) (x:α) (rest:List α) (A:aj) (K:Act->aj->al),l=w.heap.size+1->xs=pre++x :: rest->r pre A->w.heap.size+2<=A.heap.size->(∀ a' cG,s pre x a' cG->Keeps d A cG->K a' cG)-> assign.wpIn (Fence.wide.inRound l) 0 P (Exit.then K (λ_ _ _=>False)) {tmps:=(ps.zip (encs x)).foldl (λt (p,v)=>t.setIfInBounds p v) a.tmps,defers:=[]} A)(O:∀ (l:J) (pre:List α) (x:α) (rest:List α) (a':Act) (A:aj),l=w.heap.size+1->xs=pre++x :: rest->s pre x a' A->w.heap.size+2<=A.heap.size-> body.wpIn (Fence.wide.inRound l) 0 P (λex _ B=>ex=.normal/\Keeps d A B/\r (pre++[x]) B) a' A)(T:∀ (W:aj),r xs W->R W->w.heap.size+2<=W.heap.size->W.heap[w.heap.size]?=some (.deferred (some []))->Q .normal {a with defers:={target:=.collected w.heap.size,args:=#[]} :: a.defers} W):(Code.rangeFunc g ps assign body).wpIn Fence.wide 0 P Q a w:=by
 refine wpIn_rangeFunc λfn V=>?_
 -- the loop's record in its states
 obtain⟨rec,b⟩:∃ rec:LoopState->Loop,rec=λst=>{state:=st,pending:=none,fn,tmps:=a.tmps,params:=ps,assign,body,defers:=w.heap.size}:=⟨_,rfl⟩;obtain⟨f,c⟩:∃ f,(w.alloc (.deferred (some []))).alloc (.loop (rec .ready))=f:=⟨_,rfl⟩;have z:f.heap.size=w.heap.size+2:=by rw[<-c];simp
 have L:f.heap[w.heap.size+1]?=some (.loop (rec .ready)):=by
  exact Fc
 have H:f.heap[w.heap.size]?=some (.deferred (some [])):=by
  exact ED
 have u:Keeps aG w f:=by rw[<-c];exact((Keeps.refl _ w).alloc _).alloc _
 refine⟨w+1,[{target:=.collected w.heap.size,args:=#[]}],f,{target:=.fn (.func gf) lb,args:=#[.func (.yield (w.heap.size+1)) #[] #[]]},f,gf,
  #[.func (.yield (w.heap.size+1)) #[] #[]]++lb,f,?_,?_,λ_ _=>trivial,?_,(λh=>n1),?_⟩
 .have:=run_enterLoop_outer (P:=P) (w:=w) fn a.tmps ps assign body
  rw[<-c,b];exact this
 .simp only[resolve,aZ];simp[go_sem]
 .simp[invoke,go_sem,E]
 -- the iterator,met at the caller's invariant and the two facts of the book-keeping
 have S:=X (w.heap.size+1)
  (λpre A=>r pre A/\A.heap[w.heap.size+1]?=some (.loop (rec .ready))/\A.heap[w.heap.size]?=some (.deferred (some []))/\w.heap.size+2<=A.heap.size)
  f rfl u z
  (λpre A B ⟨ax,j,hd,av⟩ hk=>⟨o pre A B ax U (hk.mono λ_ _=>.inl),hk.heap j y.2,hk.heap hd y.1,ca av hk.size⟩)
  ?round ⟨o [] w f F bx (u.mono λ_ _=>False.elim),L,H,gD z.symm⟩
 case round=>
  rintro pre x rest A C ⟨ax,j,hd,av⟩;have D:=run_yield (P:=P) (args:=encs x) j (by rw[b];exact Y x);rw[b]at D;refine⟨fn,_,assign,body,D,roundIn_of_wpIn V (N _ pre x rest A _ rfl C ax av (λa' cG has m=>⟨_,run_beginRound (m.heap j n.2) (by rw[b]),?_⟩))⟩;have j:=m.heap j n.2;have hd:=m.heap hd n.1;have av:=ca av m.size;have eD:Keeps (λk=>k=w.heap.size\/k=w.heap.size+1) cG (cG.putObj (w.heap.size+1) (.loop {rec .ready with state:=.busy})):=(Keeps.refl _ cG).putObj (.inr rfl) _;refine wpIn_mono (O _ pre x rest a' _ rfl C (G _ _ _ _ _ has U eD) qQ) ?_;exact N8
 refine S.mono ?_;rintro e B ⟨⟨v,rfl⟩,⟨ax,j,hd,av⟩,Z⟩;have q:=run_endLoop (P:=P) j (by rw[b];simp);have au:(rec .ready).pending=none:=by rw[b]
 rw[au]at q;refine⟨none,_,q,?_⟩;exact T _ (o _ _ _ ax U ((Keeps.refl _ B).putObj (.inr (.inr rfl)) _)) (M _ _ Z U ((Keeps.refl _ B).putObj (.inr rfl) _)) qQ ((World.putObj_heap_other U).trans hd)
end
section
variable{P:Program}
def tB{α:Type}(P:Program)(gf:J)(lb:a7 ay)(encs:α->a7 ay)(Ok:J->List α->α->aj->al)(Fin:List α->aj->al)(d c:J->al)(w:aj):al:=
 ∀ (l:J) (a:List α->aj->al) (W:aj),l=w.heap.size+1->Keeps aG w W->W.heap.size=w.heap.size+2->
  (∀ pre A B,a pre A->Keeps c A B->a pre B)->
  (∀ pre x b A,a pre b->Keeps c b A->Ok b.heap.size pre x A->YieldAt Fence.wide 0 P l (encs x) A λe B=>e=.returned (.bool true)/\a (pre++[x]) B/\Keeps (λk=>d k\/k=l) A B)->
  a [] W->CallsIn Fence.wide 0 P gf (#[.func (.yield l) #[] #[]]++lb) W λe B=>(∃ v,e=.returned v)/\∃ xs,a xs B/\Fin xs B
def DG{α:Type}{g:Operand}{ps:a7 Tmp}{assign body:Code}{Q:Exit->Act->aj->al}{a:Act}{w:aj}{gf:J}{lb:a7 ay}(aZ:a.eval g=.func (.func gf) #[] lb)(G:∀ args w,(callFunc gf args).run P w=.ok (.enter gf args) w){encs:α->a7 ay}(Z:∀ x,(encs x).size=ps.size)(Ok:J->List α->α->aj->al)(Fin:List α->aj->al)(d i:J->al)(Y:tB P gf lb encs Ok Fin d i w)(O:∀ xs A B,Fin xs A->w.heap.size<=A.heap.size->Keeps (λk=>k=w.heap.size\/k=w.heap.size+1) A B->Fin xs B)(n:¬ d w.heap.size/\¬ d (w.heap.size+1))(y:¬ i w.heap.size/\¬ i (w.heap.size+1))(r:List α->aj->al)(o:∀ pre A B,r pre A->w.heap.size<=A.heap.size->Keeps (λk=>i k\/k=w.heap.size\/k=w.heap.size+1) A B->r pre B)(H:r [] w)(u:List α->α->Act->aj->al)(L:∀ pre x a' A B,u pre x a' A->w.heap.size<=A.heap.size->Keeps (λk=>k=w.heap.size\/k=w.heap.size+1) A B->u pre x a' B)(R:∀ (l:J) (pre:List α) (x:α) (s A:aj) (K:Act->aj->al),l=w.heap.size+1->r pre s->w.heap.size+2<=s.heap.size->Keeps i s A->Ok s.heap.size pre x A->w.heap.size+2<=A.heap.size->(∀ a' cG,u pre x a' cG->Keeps d A cG->K a' cG)-> assign.wpIn (Fence.wide.inRound l) 0 P (Exit.then K (λ_ _ _=>False)) {tmps:=(ps.zip (encs x)).foldl (λt (p,v)=>t.setIfInBounds p v) a.tmps,defers:=[]} A)(S:∀ (l:J) (pre:List α) (x:α) (a':Act) (A:aj),l=w.heap.size+1->u pre x a' A->w.heap.size+2<=A.heap.size-> body.wpIn (Fence.wide.inRound l) 0 P (λex _ B=>ex=.normal/\Keeps d A B/\r (pre++[x]) B) a' A)(V:∀ (xs:List α) (W:aj),r xs W->Fin xs W->w.heap.size+2<=W.heap.size->W.heap[w.heap.size]?=some (.deferred (some []))->Q .normal {a with defers:={target:=.collected w.heap.size,args:=#[]} :: a.defers} W):(Code.rangeFunc g ps assign body).wpIn Fence.wide 0 P Q a w:=by
 refine wpIn_rangeFunc λfn X=>?_
 -- the loop's record in its states
 obtain⟨rec,b⟩:∃ rec:LoopState->Loop,rec=λst=>{state:=st,pending:=none,fn,tmps:=a.tmps,params:=ps,assign,body,defers:=w.heap.size}:=⟨_,rfl⟩;obtain⟨f,c⟩:∃ f,(w.alloc (.deferred (some []))).alloc (.loop (rec .ready))=f:=⟨_,rfl⟩;have E:f.heap.size=w.heap.size+2:=by rw[<-c];simp
 have N:f.heap[w.heap.size+1]?=some (.loop (rec .ready)):=by
  exact Fc
 have M:f.heap[w.heap.size]?=some (.deferred (some [])):=by
  exact ED
 have C:Keeps aG w f:=by rw[<-c];exact((Keeps.refl _ w).alloc _).alloc _
 refine⟨w+1,[{target:=.collected w.heap.size,args:=#[]}],f,{target:=.fn (.func gf) lb,args:=#[.func (.yield (w.heap.size+1)) #[] #[]]},f,gf,
  #[.func (.yield (w.heap.size+1)) #[] #[]]++lb,f,?_,?_,λ_ _=>trivial,?_,(λh=>n1),?_⟩
 .have:=run_enterLoop_outer (P:=P) (w:=w) fn a.tmps ps assign body
  rw[<-c,b];exact this
 .simp only[resolve,aZ];simp[go_sem]
 .simp[invoke,go_sem,G]
 -- the iterator,met at the caller's invariant and the two facts of the book-keeping
 have T:=Y (w.heap.size+1)
  (λpre A=>r pre A/\A.heap[w.heap.size+1]?=some (.loop (rec .ready))/\A.heap[w.heap.size]?=some (.deferred (some []))/\w.heap.size+2<=A.heap.size)
  f rfl C E
  (λpre A B ⟨ax,j,hd,av⟩ hk=>⟨o pre A B ax U (hk.mono λ_ _=>.inl),hk.heap j y.2,hk.heap hd y.1,ca av hk.size⟩)
  ?round ⟨o [] w f H bx (C.mono λ_ _=>False.elim),N,M,gD E.symm⟩
 case round=>
  rintro pre x s A ⟨ax,j,hd,D⟩ z fr;have j:=z.heap j y.2;have hd:=z.heap hd y.1;have av:=ca D z.size;have F:=run_yield (P:=P) (args:=encs x) j (by rw[b];exact Z x);rw[b]at F;refine⟨fn,_,assign,body,F,roundIn_of_wpIn X (R _ pre x s A _ rfl ax D z fr av (λa' cG has m=>⟨_,run_beginRound (m.heap j n.2) (by rw[b]),?_⟩))⟩;have j:=m.heap j n.2;have hd:=m.heap hd n.1;have av:=ca av m.size;have eD:Keeps (λk=>k=w.heap.size\/k=w.heap.size+1) cG (cG.putObj (w.heap.size+1) (.loop {rec .ready with state:=.busy})):=(Keeps.refl _ cG).putObj (.inr rfl) _;refine wpIn_mono (S _ pre x a' _ rfl (L _ _ _ _ _ has U eD) qQ) ?_;exact N8
 refine T.mono ?_;rintro e B ⟨⟨v,rfl⟩,xs,⟨ax,j,hd,av⟩,ab⟩;have q:=run_endLoop (P:=P) j (by rw[b];simp);have au:(rec .ready).pending=none:=by rw[b]
 rw[au]at q;refine⟨none,_,q,?_⟩;exact V xs _ (o _ _ _ ax U ((Keeps.refl _ B).putObj (.inr (.inr rfl)) _)) (O _ _ _ ab U ((Keeps.refl _ B).putObj (.inr rfl) _)) qQ ((World.putObj_heap_other U).trans hd)
end
end Go.Proofs.YtalagblioepadaaGreatDoor
