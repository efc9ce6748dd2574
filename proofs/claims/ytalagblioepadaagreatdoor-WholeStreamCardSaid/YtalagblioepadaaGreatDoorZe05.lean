/- The proof, part 5. -/
import Derived.Test.YtalagblioepadaaGreatDoorZe01
import Derived.RangeFuncCalls
import Derived.RangeFuncBound
namespace Go.Proofs.YtalagblioepadaaGreatDoor
set_option linter.all false
open List Go.RowKit
set_option maxRecDepth 100000
variable{a:Act}{ps:a6 Tmp}{lb:a6 ay}{assign body:Code}{Q:Exit->Act->aj->ae}{gf:J}{g:Operand}{α:Type}{w:aj}
section
variable{P:Program}
def q1{α:Type}(P:Program)(gf:J)(lb:a6 ay)(encs:α->a6 ay)(xs:List α)(c b:J->ae)(w:aj):ae:=
 ∀ (l:J) (a:List α->aj->ae) (W:aj),l=w.heap.size+1->ag aH w W->W.heap.size=w.heap.size+2->
  (∀ pre A B,a pre A->ag b A B->a pre B)->
  (∀ pre x rest A,xs=pre++x :: rest->a pre A->YieldAt Fence.wide 0 P l (encs x) A λe B=>e=.returned (.bool true)/\a (pre++[x]) B/\ag (λk=>c k\/k=l) A B)->
  a [] W->CallsIn Fence.wide 0 P gf (#[.func (.yield l) #[] #[]]++lb) W λe B=>(∃ v,e=.returned v)/\a xs B
def GY(a7:a.eval g=.func (.func gf) #[] lb)(C:∀ args w,(callFunc gf args).run P w=.ok (.enter gf args) w){encs:α->a6 ay}(D:∀ x,(encs x).size=ps.size)(xs:List α)(q d:J->ae)(V:q1 P gf lb encs xs q d w)(o:¬ q w.heap.size/\¬ q (w.heap.size+1))(y:¬ d w.heap.size/\¬ d (w.heap.size+1))(j:List α->aj->ae)(f:∀ pre A B,j pre A->w.heap.size<=A.heap.size->ag (λk=>d k\/k=w.heap.size\/k=w.heap.size+1) A B->j pre B)(E:j [] w)(r:α->Act)(M:∀ (l:J) (x:α) (W:aj) (K:Act->aj->ae),K (r x) W-> assign.wpIn (Fence.wide.inRound l) 0 P (Exit.then K (λ_ _ _=>False)) {tmps:=(ps.zip (encs x)).foldl (λt (p,v)=>t.setIfInBounds p v) a.tmps,defers:=[]} W)(N:∀ (l:J) (pre:List α) (x:α) (rest:List α) (A:aj),l=w.heap.size+1->xs=pre++x :: rest->j pre A->w.heap.size+2<=A.heap.size-> body.wpIn (Fence.wide.inRound l) 0 P (λex _ B=>ex=.normal/\ag q A B/\j (pre++[x]) B) (r x) A)(R:∀ (W:aj),j xs W->W.heap[w.heap.size]?=some (.deferred (some []))->Q .normal {a with defers:={target:=.collected w.heap.size,args:=#[]} :: a.defers} W):(Code.rangeFunc g ps assign body).wpIn Fence.wide 0 P Q a w:=by
 refine wpIn_rangeFunc λfn T=>?_
 -- the loop's record in its states
 obtain⟨rec,c⟩:∃ rec:LoopState->Loop,rec=λst=>{state:=st,pending:=none,fn,tmps:=a.tmps,params:=ps,assign,body,defers:=w.heap.size}:=⟨_,rfl⟩;obtain⟨i,m⟩:∃ i,(w.alloc (.deferred (some []))).alloc (.loop (rec .ready))=i:=⟨_,rfl⟩;have z:i.heap.size=w.heap.size+2:=by rw[<-m];simp
 have L:i.heap[w.heap.size+1]?=some (.loop (rec .ready)):=by
  exact Ib
 have F:i.heap[w.heap.size]?=some (.deferred (some [])):=by
  exact Iz
 have s:ag aH w i:=by rw[<-m];exact((ag.refl _ w).alloc _).alloc _
 refine⟨w+1,[{target:=.collected w.heap.size,args:=#[]}],i,{target:=.fn (.func gf) lb,args:=#[.func (.yield (w.heap.size+1)) #[] #[]]},i,gf,
  #[.func (.yield (w.heap.size+1)) #[] #[]]++lb,i,?_,?_,λ_ _=>trivial,?_,(λh=>o6),?_⟩
 .exact IA
 .exact Jm
 .simp[invoke,go_sem,C]
 -- the iterator,met at the caller's invariant and the two facts of the book-keeping
 have O:=V (w.heap.size+1)
  (λpre A=>j pre A/\A.heap[w.heap.size+1]?=some (.loop (rec .ready))/\A.heap[w.heap.size]?=some (.deferred (some []))/\w.heap.size+2<=A.heap.size)
  i rfl s z
  (λpre A B ⟨av,b,hd,aw⟩ hk=>⟨f pre A B av I (hk.mono λ_ _=>.inl),hk.heap b y.2,hk.heap hd y.1,cu aw hk.size⟩)
  ?round ⟨f [] w i E bu (s.mono λ_ _=>False.elim),L,F,hO z.symm⟩
 case round=>
  refine T7;refine⟨fn,_,assign,body,a8,roundIn_of_wpIn T (M _ x A _ ⟨_,run_beginRound b (by rw[c]),?_⟩)⟩;have fO:ag (λk=>d k\/k=w.heap.size\/k=w.heap.size+1) A (A.putObj (w.heap.size+1) (.loop {rec .ready with state:=.busy})):=(ag.refl _ A).putObj (.inr (.inr rfl)) _;refine wpIn_mono (N _ pre x rest _ rfl ak (f _ _ _ av I fO) tv) ?_;rintro e X B ⟨rfl,hk,G⟩;have H:(A.putObj (w.heap.size+1) (.loop {rec .ready with state:=.busy})).heap[w.heap.size+1]?=some (.loop {rec .ready with state:=.busy}):=World.putObj_heap_same I;refine V8;exact((((ag.refl _ A).putObj (S:=λk=>q k\/k=w.heap.size+1) (.inr rfl) _).trans (hk.mono λ_ _=>.inl))).putObj (.inr rfl) _
 refine O.mono ?_;rintro e B ⟨⟨v,rfl⟩,av,b,hd,aw⟩;have n:=run_endLoop (P:=P) b (by rw[c];simp);have ao:(rec .ready).pending=none:=by rw[c]
 rw[ao]at n;refine⟨none,_,n,?_⟩;exact R _ (f _ _ _ av I ((ag.refl _ B).putObj (.inr (.inr rfl)) _)) ((World.putObj_heap_other I).trans hd)
end
section
variable{P:Program}
def Kk{α:Type}(P:Program)(gf:J)(lb:a6 ay)(encs:α->a6 ay)(xs:List α)(c b:J->ae)(R:aj->ae)(w:aj):ae:=
 ∀ (l:J) (a:List α->aj->ae) (W:aj),l=w.heap.size+1->ag aH w W->W.heap.size=w.heap.size+2->
  (∀ pre A B,a pre A->ag b A B->a pre B)->
  (∀ pre x rest A,xs=pre++x :: rest->a pre A->YieldAt Fence.wide 0 P l (encs x) A λe B=>e=.returned (.bool true)/\a (pre++[x]) B/\ag (λk=>c k\/k=l) A B)->
  a [] W->CallsIn Fence.wide 0 P gf (#[.func (.yield l) #[] #[]]++lb) W λe B=>(∃ v,e=.returned v)/\a xs B/\R B
def ai3(a7:a.eval g=.func (.func gf) #[] lb)(E:∀ args w,(callFunc gf args).run P w=.ok (.enter gf args) w){encs:α->a6 ay}(D:∀ x,(encs x).size=ps.size)(xs:List α)(i d:J->ae)(R:aj->ae)(Z:Kk P gf lb encs xs i d R w)(O:∀ A B,R A->w.heap.size<=A.heap.size->ag (λk=>k=w.heap.size\/k=w.heap.size+1) A B->R B)(o:¬ i w.heap.size/\¬ i (w.heap.size+1))(z:¬ d w.heap.size/\¬ d (w.heap.size+1))(q:List α->aj->ae)(f:∀ pre A B,q pre A->w.heap.size<=A.heap.size->ag (λk=>d k\/k=w.heap.size\/k=w.heap.size+1) A B->q pre B)(F:q [] w)(s:List α->α->Act->aj->ae)(L:∀ pre x a' A B,s pre x a' A->w.heap.size<=A.heap.size->ag (λk=>k=w.heap.size\/k=w.heap.size+1) A B->s pre x a' B)(S:∀ (l:J) (pre:List α) (x:α) (rest:List α) (A:aj) (K:Act->aj->ae),l=w.heap.size+1->xs=pre++x :: rest->q pre A->w.heap.size+2<=A.heap.size->(∀ a' cV,s pre x a' cV->ag i A cV->K a' cV)-> assign.wpIn (Fence.wide.inRound l) 0 P (Exit.then K (λ_ _ _=>False)) {tmps:=(ps.zip (encs x)).foldl (λt (p,v)=>t.setIfInBounds p v) a.tmps,defers:=[]} A)(T:∀ (l:J) (pre:List α) (x:α) (rest:List α) (a':Act) (A:aj),l=w.heap.size+1->xs=pre++x :: rest->s pre x a' A->w.heap.size+2<=A.heap.size-> body.wpIn (Fence.wide.inRound l) 0 P (λex _ B=>ex=.normal/\ag i A B/\q (pre++[x]) B) a' A)(X:∀ (W:aj),q xs W->R W->w.heap.size+2<=W.heap.size->W.heap[w.heap.size]?=some (.deferred (some []))->Q .normal {a with defers:={target:=.collected w.heap.size,args:=#[]} :: a.defers} W):(Code.rangeFunc g ps assign body).wpIn Fence.wide 0 P Q a w:=by
 refine wpIn_rangeFunc λfn Y=>?_
 -- the loop's record in its states
 obtain⟨rec,c⟩:∃ rec:LoopState->Loop,rec=λst=>{state:=st,pending:=none,fn,tmps:=a.tmps,params:=ps,assign,body,defers:=w.heap.size}:=⟨_,rfl⟩;obtain⟨j,m⟩:∃ j,(w.alloc (.deferred (some []))).alloc (.loop (rec .ready))=j:=⟨_,rfl⟩;have C:j.heap.size=w.heap.size+2:=by rw[<-m];simp
 have N:j.heap[w.heap.size+1]?=some (.loop (rec .ready)):=by
  exact Ib
 have M:j.heap[w.heap.size]?=some (.deferred (some [])):=by
  exact Iz
 have y:ag aH w j:=by rw[<-m];exact((ag.refl _ w).alloc _).alloc _
 refine⟨w+1,[{target:=.collected w.heap.size,args:=#[]}],j,{target:=.fn (.func gf) lb,args:=#[.func (.yield (w.heap.size+1)) #[] #[]]},j,gf,
  #[.func (.yield (w.heap.size+1)) #[] #[]]++lb,j,?_,?_,λ_ _=>trivial,?_,(λh=>o6),?_⟩
 .exact IA
 .exact Jm
 .simp[invoke,go_sem,E]
 -- the iterator,met at the caller's invariant and the two facts of the book-keeping
 have V:=Z (w.heap.size+1)
  (λpre A=>q pre A/\A.heap[w.heap.size+1]?=some (.loop (rec .ready))/\A.heap[w.heap.size]?=some (.deferred (some []))/\w.heap.size+2<=A.heap.size)
  j rfl y C
  (λpre A B ⟨av,b,hd,aw⟩ hk=>⟨f pre A B av I (hk.mono λ_ _=>.inl),hk.heap b z.2,hk.heap hd z.1,cu aw hk.size⟩)
  ?round ⟨f [] w j F bu (y.mono λ_ _=>False.elim),N,M,hO C.symm⟩
 case round=>
  refine T7;refine⟨fn,_,assign,body,a8,roundIn_of_wpIn Y (S _ pre x rest A _ rfl ak av aw (λa' cV has r=>⟨_,run_beginRound (r.heap b o.2) (by rw[c]),?_⟩))⟩;refine WW;refine wpIn_mono (T _ pre x rest a' _ rfl ak (L _ _ _ _ _ has I fO) tv) ?_;exact U6
 refine V.mono ?_;rintro e B ⟨⟨v,rfl⟩,⟨av,b,hd,aw⟩,fo⟩;have n:=run_endLoop (P:=P) b (by rw[c];simp);have ao:(rec .ready).pending=none:=by rw[c]
 rw[ao]at n;refine⟨none,_,n,?_⟩;exact X _ (f _ _ _ av I ((ag.refl _ B).putObj (.inr (.inr rfl)) _)) (O _ _ fo I ((ag.refl _ B).putObj (.inr rfl) _)) tv ((World.putObj_heap_other I).trans hd)
end
section
variable{P:Program}
def vN{α:Type}(P:Program)(gf:J)(lb:a6 ay)(encs:α->a6 ay)(Ok:J->List α->α->aj->ae)(Fin:List α->aj->ae)(d c:J->ae)(w:aj):ae:=
 ∀ (l:J) (a:List α->aj->ae) (W:aj),l=w.heap.size+1->ag aH w W->W.heap.size=w.heap.size+2->
  (∀ pre A B,a pre A->ag c A B->a pre B)->
  (∀ pre x b A,a pre b->ag c b A->Ok b.heap.size pre x A->YieldAt Fence.wide 0 P l (encs x) A λe B=>e=.returned (.bool true)/\a (pre++[x]) B/\ag (λk=>d k\/k=l) A B)->
  a [] W->CallsIn Fence.wide 0 P gf (#[.func (.yield l) #[] #[]]++lb) W λe B=>(∃ v,e=.returned v)/\∃ xs,a xs B/\Fin xs B
def GZ(a7:a.eval g=.func (.func gf) #[] lb)(L:∀ args w,(callFunc gf args).run P w=.ok (.enter gf args) w){encs:α->a6 ay}(fr:∀ x,(encs x).size=ps.size)(Ok:J->List α->α->aj->ae)(Fin:List α->aj->ae)(i d:J->ae)(fo:vN P gf lb encs Ok Fin i d w)(S:∀ xs A B,Fin xs A->w.heap.size<=A.heap.size->ag (λk=>k=w.heap.size\/k=w.heap.size+1) A B->Fin xs B)(o:¬ i w.heap.size/\¬ i (w.heap.size+1))(z:¬ d w.heap.size/\¬ d (w.heap.size+1))(q:List α->aj->ae)(f:∀ pre A B,q pre A->w.heap.size<=A.heap.size->ag (λk=>d k\/k=w.heap.size\/k=w.heap.size+1) A B->q pre B)(M:q [] w)(y:List α->α->Act->aj->ae)(N:∀ pre x a' A B,y pre x a' A->w.heap.size<=A.heap.size->ag (λk=>k=w.heap.size\/k=w.heap.size+1) A B->y pre x a' B)(T:∀ (l:J) (pre:List α) (x:α) (s A:aj) (K:Act->aj->ae),l=w.heap.size+1->q pre s->w.heap.size+2<=s.heap.size->ag d s A->Ok s pre x A->w.heap.size+2<=A.heap.size->(∀ a' cV,y pre x a' cV->ag i A cV->K a' cV)-> assign.wpIn (Fence.wide.inRound l) 0 P (Exit.then K (λ_ _ _=>False)) {tmps:=(ps.zip (encs x)).foldl (λt (p,v)=>t.setIfInBounds p v) a.tmps,defers:=[]} A)(V:∀ (l:J) (pre:List α) (x:α) (a':Act) (A:aj),l=w.heap.size+1->y pre x a' A->w.heap.size+2<=A.heap.size-> body.wpIn (Fence.wide.inRound l) 0 P (λex _ B=>ex=.normal/\ag i A B/\q (pre++[x]) B) a' A)(Y:∀ (xs:List α) (W:aj),q xs W->Fin xs W->w.heap.size+2<=W.heap.size->W.heap[w.heap.size]?=some (.deferred (some []))->Q .normal {a with defers:={target:=.collected w.heap.size,args:=#[]} :: a.defers} W):(Code.rangeFunc g ps assign body).wpIn Fence.wide 0 P Q a w:=by
 refine wpIn_rangeFunc λfn Z=>?_
 -- the loop's record in its states
 obtain⟨rec,c⟩:∃ rec:LoopState->Loop,rec=λst=>{state:=st,pending:=none,fn,tmps:=a.tmps,params:=ps,assign,body,defers:=w.heap.size}:=⟨_,rfl⟩;obtain⟨j,m⟩:∃ j,(w.alloc (.deferred (some []))).alloc (.loop (rec .ready))=j:=⟨_,rfl⟩;have F:j.heap.size=w.heap.size+2:=by rw[<-m];simp
 have R:j.heap[w.heap.size+1]?=some (.loop (rec .ready)):=by
  exact Ib
 have O:j.heap[w.heap.size]?=some (.deferred (some [])):=by
  exact Iz
 have D:ag aH w j:=by rw[<-m];exact((ag.refl _ w).alloc _).alloc _
 refine⟨w+1,[{target:=.collected w.heap.size,args:=#[]}],j,{target:=.fn (.func gf) lb,args:=#[.func (.yield (w.heap.size+1)) #[] #[]]},j,gf,
  #[.func (.yield (w.heap.size+1)) #[] #[]]++lb,j,?_,?_,λ_ _=>trivial,?_,(λh=>o6),?_⟩
 .exact IA
 .exact Jm
 .simp[invoke,go_sem,L]
 -- the iterator,met at the caller's invariant and the two facts of the book-keeping
 have X:=fo (w.heap.size+1)
  (λpre A=>q pre A/\A.heap[w.heap.size+1]?=some (.loop (rec .ready))/\A.heap[w.heap.size]?=some (.deferred (some []))/\w.heap.size+2<=A.heap.size)
  j rfl D F
  (λpre A B ⟨av,b,hd,aw⟩ hk=>⟨f pre A B av I (hk.mono λ_ _=>.inl),hk.heap b z.2,hk.heap hd z.1,cu aw hk.size⟩)
  ?round ⟨f [] w j M bu (D.mono λ_ _=>False.elim),R,O,hO F.symm⟩
 case round=>
  rintro pre x s A ⟨av,b,hd,E⟩ C ak;have b:=C.heap b z.2;have hd:=C.heap hd z.1;have aw:=cu E C.size;have a8:=run_yield (P:=P) (args:=encs x) b (by rw[c];exact fr x);rw[c]at a8;refine⟨fn,_,assign,body,a8,roundIn_of_wpIn Z (T _ pre x s A _ rfl av E C ak aw (λa' cV has r=>⟨_,run_beginRound (r.heap b o.2) (by rw[c]),?_⟩))⟩;refine WW;refine wpIn_mono (V _ pre x a' _ rfl (N _ _ _ _ _ has I fO) tv) ?_;exact U6
 refine X.mono ?_;rintro e B ⟨⟨v,rfl⟩,xs,⟨av,b,hd,aw⟩,g'⟩;have n:=run_endLoop (P:=P) b (by rw[c];simp);have ao:(rec .ready).pending=none:=by rw[c]
 rw[ao]at n;refine⟨none,_,n,?_⟩;exact Y xs _ (f _ _ _ av I ((ag.refl _ B).putObj (.inr (.inr rfl)) _)) (S _ _ _ g' I ((ag.refl _ B).putObj (.inr rfl) _)) tv ((World.putObj_heap_other I).trans hd)
end
end Go.Proofs.YtalagblioepadaaGreatDoor
