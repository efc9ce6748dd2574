/- The proof, part 6. -/
import Derived.Test.YtalagblioepadaaGreatDoorZc01
import Derived.StillTail
import Derived.OrdersIn
import Derived.RangeFuncCalls
namespace Go.Proofs.YtalagblioepadaaGreatDoor
set_option linter.all false
open List Go.RowKit
set_option maxRecDepth 100000
def xk{p:ak}(h:p:=by rw[b];simp):p:=h
def Ad{p:ak}(h:p:=by simpa using c):p:=h
def z8{p:ak}(h:p:=by rw[h]at l;cases l):p:=h
def N1{p:ak}(h:p:=by
 rcases DW j n with h|h
 .exact h
 exact absurd m (tail_waits av al ar inv _ i rfl N q j h)
 ):p:=h
section
variable{P:Program}{ops:a6 Oper}{md:Region.Mode}{C:ai->ak}
def sF(P:Program)(md:Region.Mode)(ops:a6 Oper)(C:ai->ak)(n:J)(L:a6 aY->Act->ak):J->a6 aY->Act->ak
 | 0,aM,a=>L aM a
 | f+1,aM,a=>Region.ready md ops aM≠[]/\∀ i∈Region.ready md ops aM,i<n/\qOp P ops C i (sF P md ops C n L f (aM.setIfInBounds i true)) a
def Y2{n i:J}{g:Oper}{v:ax}{L:a6 aY->Act->ak}(aw:ops[i]?=some g)(y:∀ (j:J) (o:Oper) cs b,ops[j]?=some o->o.op≠.select cs b)(av:Region.sinkB md ops n=true)(al:Region.chainB md ops n=true)(ar:n<ops.size)(N:i<n)(B:∀ aM a,L aM a->∀ j∈Region.ready md ops aM,n<=j):∀ (f:J) (aM:a6 aY) (a:Act),HeadInv md ops n aM->
   (∀ j d,ops[j]?=some d->j≠i->aM.getD j true=false->(∀ e∈d.after,Region.binds md e=true->e.on≠i)->g.apart ops d=true)->
   i∈Region.ready md ops aM->YieldsIn P ops C g v a->
   sF P md ops C n L f (aM.setIfInBounds i true) (a.put g.dst v)->sF P md ops C n L (f+1) aM a:=by
 intro f
 induction f with
 | zero=>
  intro aM a inv _ l r H;have q:=(ln.1 l).1;refine⟨λh=>z8,λj m=>?_⟩;have p:j<n:=by
   exact N1
  refine⟨p,?_⟩;by_cases c:j=i
  .subst c;exact r.qOp aw H
  have:=B _ _ H j (uJ m c)
  omega
 | succ f M=>
  intro aM a inv u l r H;have q:=(ln.1 l).1;refine⟨λh=>z8,λj m=>?_⟩;have p:j<n:=by
   exact N1
  refine⟨p,?_⟩;by_cases c:j=i
  .subst c;exact r.qOp aw H
  have h1:=(H.2 j (uJ m c)).2;have⟨x,d,s,A⟩:=ln.1 m;have K:∀ e∈d.after,Region.binds md e=true->e.on≠i:=λe D aj E=>by
   have h1:=A e D aj;rw[E,getD_both q]at h1;cases h1
  have z:∀ k ok,ops[k]?=some ok->k≠i->(aM.setIfInBounds j true).getD k true=false->
    (∀ e∈ok.after,Region.binds md e=true->e.on≠i)->g.apart ops ok=true:=λk ok hk F q G=>by
   refine u k ok hk F ?_ G;by_cases w:j=k
   .subst w;exact x
   rw[Dx true w]at q;exact q
  refine qOp_mono (λa' t=>M (aM.setIfInBounds j true) a' (inv.set m p) z (uJ l (hW c)) t.1 ?_) (qOp_put s (u j d s c x K) (λcs b=>y i g cs b aw) (λcs b=>y j d cs b s) r h1);rw[Lt _ _ c];exact t.2
theorem K8{n g:J}{d:Act->ak}(p:Region.noSelect ops=true)(av:Region.sinkB md ops n=true)(al:Region.chainB md ops n=true)(ar:n<ops.size):∀ (l:ah Oper) (k:J) (aM:a6 aY) (a:Act),(∀ j,j<l.length->l[j]?=ops[k+j]?)->k+l.length=n->HeadInv md ops n aM->
  Region.lexHead md ops g l.length k aM=true->wpQuiet P ops C d l a->
  sF P md ops C n (λf a'=>Region.seqB md ops g n f=true/\d a') l.length aM a
 | [],k,aM,a,_,hk,_,c,h=>by
  have:k=n:=by simpa using hk
  subst this;exact⟨by simpa[Region.lexHead]using c,h⟩
 | o :: l,k,aM,a,m,hk,inv,c,h=>by
  have b:ops[k]?=some o:=by simpa using(m 0 aK).symm
  simp only[ds,Region.lexHead,d']at c;have⟨⟨u,t⟩,q⟩:=c;have i:k<n:=by simp only[ds]at hk;omega
  have e:k∈Region.ready md ops aM:=by simpa using u
  have w:qOp P ops C k (wpQuiet P ops C d l) a:=by unfold qOp;simp only[b];exact h
  have⟨v,x,r⟩:=yieldsIn_of_qOp b w
  exact Y2 b (Ds p) av al ar i (λf a' s=>seqB_ready s.1) l.length aM a inv (Dr b t) e x
   (K8 p av al ar l (k+1) _ _ (λj y=>by have:=m (j+1) bT;simpa[ih,qt 1 j]using this) (by simp only[ds]at hk;omega) (inv.set e i) q r)
def HF{l:ah Oper}{n:J}{a:Act}{c:Act->ak}(d:Region.lexTailB .any l.toArray n=true)(h:wpQuiet P l.toArray C c (l.take n) a):n<l.length/\sF P .any l.toArray C n (λm a'=>Region.seqB .any l.toArray (l.drop n).length n m=true/\c a') n (Array.replicate l.toArray.size false) a:=by
 simp only[Region.lexTailB,d',fZ]at d;have⟨⟨⟨⟨q,ar⟩,av⟩,al⟩,p⟩:=d;have k:n<l.length:=by simpa using ar
 have b:(l.take n).length=n:=bT;have o:(l.drop n).length=l.toArray.size-n:=aK
 have r:HeadInv .any l.toArray n (Array.replicate l.toArray.size false):=
  ⟨aK,λj s _ f=>(by rw[getD_replicate_false]at f;cases f),λt _ aO=>getD_in (by simpa using aO) (getD_replicate_false _ _)⟩
 have H:=K8 (md:=.any) (g:=l.toArray.size-n) q av al ar (l.take n) 0 _ a (λj e=>by
  have i:j<n:=by rw[b]at e;exact e
  simp[i]) (by simpa using b) r (by rw[b];exact p) h
 rw[b]at H;rw[o];exact⟨k,H⟩
theorem Lc{n g:J}{L:a6 aY->Act->ak}{Q':Exit->Act->ai->ak}(c:∀ aM a w,C w->L aM a->wpAny P md ops Q' g aM a w):∀ (f:J) (aM:a6 aY) (a:Act) (w:ai),C w->sF P md ops C n L f aM a->wpAny P md ops Q' (f+g) aM a w
 | 0,aM,a,w,b,h=>by rw[qu];exact c _ _ _ b h
 | f+1,aM,a,w,b,h=>by
  rw[show f+1+g=(f+g)+1 by omega];exact⟨λj=>absurd j h.1,λi aw=>wpOp_of_qOp b (λa' w' e d=>Lc c f _ a' w' e d) (h.2 i aw).2⟩
def Y_{id:J}{Q:Exit->Act->ai->ak}{a:Act}{w:ai}{l:ah Oper}(n:J)(hm:P.follows .mixedOrders=true)(d:Region.lexTailB .any l.toArray n=true)(aT:C {w with drawn:=w.drawn+1})(h:wpQuiet P l.toArray C (λa'=>∀ w',C w'->wpList P l.toArray Q (l.drop n) a' w') (l.take n) a):(Code.region id l.toArray true).wp P Q a w:=by
 have⟨ar,H⟩:=HF d h;refine DF hm ?_
 have:=Lc (Q':=Q) (g:=(l.drop n).length) (λaM a' w' c b=>wpAny_of_seq (md:=.any) (Q':=Q) (l.drop n) n aM a' w' (λj=>by simp[wY]) b.1 (b.2 w' c)) _ _ _ _ aT H
 rw[show n+(l.drop n).length=l.toArray.size by simp;omega]at this;exact this
structure Open(F:Fence)(m:J)(P:Program):ak where
 fn:∀ f,F.fn f
 depth:F.depth=none
 call:∀ {f args w R},Calls P f args w R->CallsIn F (m-1) P f args w R
def Uc(m:J)(P:Program):Open Fence.wide m P:=⟨λ_=>trivial,rfl,λh=>gK.2 h⟩
def BT(l:ah Oper):aY:=l.all λo=>match o.op with|.defer _=>false|_=>true
def T6{l:ah Oper}(h:BT l=true){i:J}{o:Oper}(aw:l.toArray[i]?=some o)(c:Call):o.op≠.defer c:=by
 intro e;have hm:o∈l:=by
  have:l[i]?=some o:=by simpa using aw
  exact kH this
 have:=fg.1 h o hm
 rw[e]at this;cases this
def Y3{F:Fence}{m:J}(g:Open F m P){o:Oper}{a:Act}{K:Act->ak}{j:Act->ai->ak}{Q':Exit->Act->ai->ak}{w:ai}(n:o.semAt F.round a.eval=execOp a.eval o)(i:C w)(h:∀ a w',C w'->K a->j a w')(aJ:o.quiet P a C K):o.wpIn F m P a w j Q':=by
 have⟨v,h1,h2⟩:=aJ;have b:=h1 w i;unfold Oper.quietAt at b;refine⟨λf _=>g.fn f,?_⟩;rw[n];generalize (execOp a.eval o).run P w=r at *;cases r with
 | ok x w'=>
  cases x<;>simp only[Oper.quietUpon]at b<;>simp only[Oper.uponIn]
  case value u=>
   have⟨c,d⟩:=b;rw[c,d];exact h _ _ i h2
  case skip=>
   have⟨c,d⟩:=b;rw[c,<-d];exact h _ _ i h2
  case enter f args=>
   obtain⟨c,al⟩:=b;rw[c];refine⟨(λhd=>by rw[g.depth]at hd;cases hd),CallsIn.mono (g.call al) λe p l=>?_⟩;obtain⟨rfl,k⟩:=l;exact h _ _ k h2
 | halt x w'=>simp only[Oper.quietUpon]at b
def Y7{F:Fence}{m:J}(g:Open F m P){i:J}{a:Act}{K:Act->ak}{e:Act->ai->ak}{Q':Exit->Act->ai->ak}{w:ai}(j:∀ (o:Oper) (c:Call),ops[i]?=some o->o.op≠Op.defer c)(aT:C w)(h:∀ a w',C w'->K a->e a w')(aJ:qOp P ops C i K a):wpOpIn F m P ops Q' i e a w:=by
 unfold qOp at aJ;unfold wpOpIn;split
 .rename_i b;simp only[b]at aJ;exact h _ _ aT aJ
 rename_i o b;simp only[b]at aJ;split
 .rename_i d;simp only[d,if_true]at aJ;exact Y3 g (Oper.semAt_eq _ _ _ λc=>j o c b) aT h aJ
 rename_i d;simp only[d]at aJ;exact⟨λf _=>g.fn f,h _ _ aT aJ⟩
theorem K9{F:Fence}{m:J}(d:Open F m P)(j:∀ (i:J) (o:Oper) (c:Call),ops[i]?=some o->o.op≠Op.defer c){n g:J}{L:a6 aY->Act->ak}{Q':Exit->Act->ai->ak}(e:∀ aM a w,C w->L aM a->wpAnyIn F m P md ops Q' g aM a w):∀ (f:J) (aM:a6 aY) (a:Act) (w:ai),C w->sF P md ops C n L f aM a->wpAnyIn F m P md ops Q' (f+g) aM a w
 | 0,aM,a,w,b,h=>by rw[qu];exact e _ _ _ b h
 | f+1,aM,a,w,b,h=>by
  rw[show f+1+g=(f+g)+1 by omega];exact⟨λp=>absurd p h.1,λi aw=>Y7 d (j i) b (λa' w' l k=>K9 d j e f _ a' w' l k) (h.2 i aw).2⟩
theorem K_{F:Fence}{m:J}{Q':Exit->Act->ai->ak}:∀ (l:ah Oper) (k:J) (aM:a6 aY) (a:Act) (w:ai),(∀ j,l[j]?=ops[k+j]?)->
  Region.seqB md ops l.length k aM=true->wpListIn F m P ops Q' l a w->wpAnyIn F m P md ops Q' l.length aM a w
 | [],_,_,_,_,_,b,h=>⟨by simpa[Region.seqB]using b,h⟩
 | o :: l,k,aM,a,w,c,b,h=>by
  have e:ops[k]?=some o:=by simpa using(c 0).symm
  simp only[ds,Region.seqB,d',fZ]at b;refine⟨λh1=>(by rw[b.1]at h1;cases h1),λi aw=>?_⟩;rw[b.1]at aw;have f:i=k:=by simpa using aw
  subst f;have g:wpOpIn F m P ops Q' i (wpListIn F m P ops Q' l) a w:=by unfold wpOpIn;simp only[e];exact h
  exact wpOpIn_mono (λa' w' d=>K_ l (i+1) _ a' w' (λj=>by have:=c (j+1);simpa[ih,qt 1 j]using this) b.2 d) g
def Y5{F:Fence}{m:J}(k:Open F m P){id:J}{Q:Exit->Act->ai->ak}{a:Act}{w:ai}{l:ah Oper}(n:J)(hm:P.follows .mixedOrders=true)(e:Region.lexTailB .any l.toArray n=true)(f:BT l=true)(aT:C {w with drawn:=w.drawn+1})(h:wpQuiet P l.toArray C (λa'=>∀ w',C w'->wpListIn F m P l.toArray Q (l.drop n) a' w') (l.take n) a):(Code.region id l.toArray true).wpIn F m P Q a w:=by
 have⟨ar,H⟩:=HF e h;refine wpIn_region_any hm ?_
 have:=K9 (Q':=Q) (g:=(l.drop n).length) k (λi o c aw=>T6 f aw c) (λaM a' w' d b=>K_ (md:=.any) (Q':=Q) (l.drop n) n aM a' w' (λj=>by simp[wY]) b.1 (b.2 w' d)) _ _ _ _ aT H
 rw[show n+(l.drop n).length=l.toArray.size by simp;omega]at this;exact this
theorem iR{id:J}{Q:Exit->Act->ai->ak}{a:Act}{w:ai}{l:ah Oper}(n:J)(hm:P.follows .mixedOrders=true)(b:Region.lexTailB .any l.toArray n=true)(h:wpQuiet P l.toArray (λw'=>∃ n,w'=w.drewN n) (λa'=>∀ w',(∃ n,w'=w.drewN n)->wpList P l.toArray Q (l.drop n) a' w') (l.take n) a):(Code.region id l.toArray true).wp P Q a w:=
 Y_ (C:=λw'=>∃ n,w'=w.drewN n) n hm b ⟨1,rfl⟩ h
theorem Y6{F:Fence}{m:J}(d:Open F m P){id:J}{Q:Exit->Act->ai->ak}{a:Act}{w:ai}{l:ah Oper}(n:J)(hm:P.follows .mixedOrders=true)(b:Region.lexTailB .any l.toArray n=true)(c:BT l=true)(h:wpQuiet P l.toArray (λw'=>∃ n,w'=w.drewN n) (λa'=>∀ w',(∃ n,w'=w.drewN n)->wpListIn F m P l.toArray Q (l.drop n) a' w') (l.take n) a):(Code.region id l.toArray true).wpIn F m P Q a w:=
 Y5 (C:=λw'=>∃ n,w'=w.drewN n) d n hm b c ⟨1,rfl⟩ h
theorem iK{f:FuncId}{args:a6 ax}{w:ai}{a k:J}{v:ax}(h:Calls P f args (w.drewN (a+k)) λe w'=>e=.returned v/\∃ m,w'=(w.drewN (a+k)).drewN m):Calls P f args (w.drewN (a+k)) λe b=>e=.returned v/\∃ m,b=w.drewN (a+m):=
 h.mono λ_ _ ⟨c,m,hm⟩=>⟨c,k+m,by rw[hm,Dw,ih]⟩
theorem nc{f:FuncId}{args:a6 ax}{w:ai}{v:ax}(h:Calls P f args w λe w'=>e=.returned v/\w=w'):Calls P f args w λe w'=>e=.returned v/\∃ m,w'=w.drewN m:=
 h.mono λ_ _ ⟨a,hm⟩=>⟨a,0,hm▸rfl⟩
end
section
variable{P:Program}{ops:a6 Oper}{md:Region.Mode}{C:ai->ak}{Q:Exit->Act->ai->ak}
def B6(o:Oper):aY:=match o.op with|.move _|.assign _|.load ..|.fieldAddr ..|.indexAddr ..|.slice ..|.binOp ..|.unOp ..|.convert ..|.extract ..|.index ..|.field ..|.nilCheck _=>true|_=>false
def nP(P:Program)(ops:a6 Oper)(C:ai->ak)(o:Oper)(v:ax)(a:Act):ak:=
 (Region.wanted o (yielded ops a.tmps)=true/\∀ w,C w->(execOp a.eval o).run P w=.ok (.value v) w\/((execOp a.eval o).run P w=.ok .skip w/\v=undef))\/
 (Region.wanted o (yielded ops a.tmps)=false/\v=undef)
theorem nP.wpOp{i:J}{o:Oper}{v:ax}{a:Act}(aw:ops[i]?=some o)(c:nP P ops C o v a){K:Act->ai->ak}{w:ai}(b:C w)(h:K (a.put o.dst v) w):wpOp P ops Q i K a w:=by
 unfold Go.wpOp;simp only[aw];rcases c with⟨h1,h2⟩|⟨h1,rfl⟩
 .simp only[h1,if_true];rcases h2 w b with e|⟨e,rfl⟩
  .exact .inl (by unfold Oper.wp;rw[e];exact h)
  exact .inl (by unfold Oper.wp;rw[e];exact h)
 simp only[h1,wN,if_false];exact h
def nP.of_same{o:Oper}{v:ax}{a a':Act}(d:nP P ops C o v a)(b:execOp a'.eval o=execOp a.eval o)(c:Region.wanted o (yielded ops a'.tmps)=Region.wanted o (yielded ops a.tmps)):nP P ops C o v a':=by
 unfold nP at *;rw[b,c];exact d
def Y8{j:J}{g i:Oper}{v:ax}(y:ops[j]?=some i)(t:g.apart ops i=true)(p:∀ cs b,g.op≠.select cs b)(q:∀ cs b,i.op≠.select cs b)(m:∀ c a w d u,Q (.panic c) (Act.put a d u) w->Q (.panic c) a w){K:Act->ai->ak}{a:Act}{w:ai}(s:nP P ops C g v a)(h:wpOp P ops Q j K (a.put g.dst v) w):wpOp P ops Q j (λa' w'=>nP P ops C g v a'/\K (a'.put g.dst v) w') a w:=by
 have⟨h1,h2,l⟩:=Oper.apart_spec t;have keep:∀ u,nP P ops C g v (a.put i.dst u):=λu=>s.of_same (zy g p a i.dst u l) (wanted_put g a i.dst u l);unfold Go.wpOp at *;simp only[y]at *;rw[wanted_put i a g.dst v h1]at h;by_cases r:Region.wanted i (yielded ops a.tmps)=true
 .rw[aD r]at h⊢;rcases h with h|⟨bd,z⟩
  .left;unfold Oper.wp at *;rw[zy i q a g.dst v h1]at h;cases o:(execOp a.eval i).run P w with
   | ok n w'=>
    rw[o]at h;cases n<;>simp only[Oper.upon]at h⊢
    case value u=>exact⟨keep u,by rw[<-uI a v u h2];exact h⟩
    case skip=>exact⟨keep _,by rw[<-uI a v undef h2];exact h⟩
    case defer d=>
     refine⟨(s.of_same (a':={a with defers:=d :: a.defers}) rfl rfl).of_same (zy g p _ i.dst undef l) (wanted_put g _ i.dst undef l),?_⟩;rw[<-uI _ v undef h2,<-Act.put_defers];exact h
    case enter f args=>
     refine h.mono λe aC k=>?_;cases e with
     | returned u=>exact⟨keep u,by rw[<-uI a v u h2];exact k⟩
     | panicked c=>exact m _ _ _ _ _ k
     | outgrown=>exact k
    case row row args=>exact Rows.mono h λu aC k=>⟨keep u,by rw[<-uI a v u h2];exact k⟩
   | halt x w'=>
    rw[o]at h;cases x<;>simp only[Oper.upon]at h⊢
    case panic u=>exact m _ _ _ _ _ h
  right;exact⟨by unfold Oper.asks at *;rw[zy i q a g.dst v h1]at bd;exact bd,z⟩
 rw[az r]at h⊢;exact⟨keep _,by rw[<-uI a v undef h2];exact h⟩
def IP:Oper:={dst:=none,op:=.move (.tmp 0),type:=0,pos:="",after:=#[],guard:=none}
def eG(ops:a6 Oper)(L:ah J):ah Oper:=L.map λk=>ops[k]?.getD IP
def BX{k:J}{L:ah J}{o:Oper}(h:ops[k]?=some o):eG ops (k :: L)=o :: eG ops L:=by simp[eG,h]
def NE(P:Program)(m:Sem Next):ak:=∀ w f args w',m.run P w≠.ok (.enter f args) w'
theorem NE.value(v:ax):NE P (pure (.value v)):=λ_ _ _ _ e=>by simp only[ig]at e;cases e
def NE.bind{α:Type}{s:Sem α}{g:α->Sem Next}(h:∀ x,NE P (g x)):NE P (s >>= g):=λw f args w' e=>by
 simp only[hG]at e;cases av:s.run P w with
 | ok x aC=>rw[av]at e;exact h x aC f args w' e
 | halt k aC=>rw[av]at e;cases e
def NE.panic(v:ax):NE P (goPanic v:Sem Next):=λw f args w' e=>by cases e
theorem NE.nilDeref:NE P (runtimePanic .nilDeref:Sem Next):=by
 exact NE.bind λp=>NE.panic _
def UK{o:Oper}(h:B6 o=true)(ρ:Operand->ax)(w w':ai)(f:FuncId)(args:a6 ax):(execOp ρ o).run P w≠.ok (.enter f args) w':=by
 suffices H:NE P (execOp ρ o)from H w f args w'
 unfold B6 at h;unfold execOp
 cases b:o.op<;>rw[b]at h<;>first
  | (cases h;done)
  | exact NE.value _
  | exact NE.bind λ_=>NE.value _
  | skip
 simp only[];split
 .exact NE.nilDeref
 .exact NE.nilDeref
 .exact NE.nilDeref
 .split
  .exact NE.nilDeref
  .refine NE.bind λa=>NE.bind λy=>?_;split
   .exact NE.bind λ_=>NE.value _
   exact NE.value _
  exact NE.value _
 exact NE.value _
structure Kept(w:ai) where
 to:ai
 keeps:Keeps aI w to
instance (w:ai):Nonempty (Kept w):=⟨⟨w,Keeps.refl _ w⟩⟩
def kept{w w':ai}(h:Keeps aI w w'):∃ x:Kept w,w'=x.to:=⟨⟨w',h⟩,rfl⟩
end
section
variable{P:Program}{ops:a6 Oper}{md:Region.Mode}{C:ai->ak}{Q:Exit->Act->ai->ak}
def wm(o:Oper):aY:=B6 o || (match o.op with|.call c=>(match c.callee with|.builtin .len=>true|.builtin .min=>true|.builtin .max=>true|_=>false)|.pick ..=>true|.build ..=>true|.lookup ..=>true|_=>false)
def UJ{o:Oper}(h:wm o=true)(ρ:Operand->ax):NE P (execOp ρ o):=by
 unfold wm at h;rw[uH]at h;rcases h with h|h
 .exact λw f args w'=>UK h ρ w w' f args
 unfold execOp
 cases d:o.op<;>rw[d]at h<;>first
  | (cases h;done)
  | exact NE.bind λ_=>NE.value _
  | skip
 rename_i c;obtain⟨callee,args,a⟩:=c;cases callee<;>first|(cases h;done)|skip
 rename_i b;cases b<;>first|(cases h;done)|skip
 all_goals
  simp only[resolve];intro w f g w' e;simp only[hG,ig,hq,invoke,builtin]at e
  first
   | (rcases av:(Builtin.len_ a o.type (args.map ρ)).run P w with _|_<;>(rw[av]at e;cases e))
   | (rcases av:(Builtin.min_ a o.type (args.map ρ)).run P w with _|_<;>(rw[av]at e;cases e))
   | (rcases av:(Builtin.max_ a o.type (args.map ρ)).run P w with _|_<;>(rw[av]at e;cases e))
def Lp{i:J}{o:Oper}{a:Act}{K:Act->ak}(au:wm o=true)(aw:ops[i]?=some o)(h:qOp P ops C i K a):∃ v,nP P ops C o v a/\K (a.put o.dst v):=by
 obtain⟨v,e,hk⟩:=yieldsIn_of_qOp aw h;refine⟨v,?_,hk⟩;rcases e with⟨c,aW⟩|ar
 .refine .inl ⟨c,λw d=>?_⟩;have h1:=aW w d;unfold Oper.quietAt at h1;cases b:(execOp a.eval o).run P w with
  | ok x w'=>
   rw[b]at h1;cases x<;>simp only[Oper.quietUpon]at h1
   case value u=>obtain⟨rfl,rfl⟩:=h1;exact .inl rfl
   case skip=>obtain⟨rfl,rfl⟩:=h1;exact .inr ⟨rfl,rfl⟩
   case enter f args=>exact absurd b ((UJ (P:=P) au a.eval w) f args w')
  | halt x w'=>rw[b]at h1;simp only[Oper.quietUpon]at h1
 exact .inr ar
def nt(P:Program)(md:Region.Mode)(ops:a6 Oper)(C:ai->ak)(Q:Exit->Act->ai->ak)(late:J->aY)(R:a6 aY->Act->ai->ak):J->a6 aY->Act->ai->ak
 | 0,aM,a,w=>R aM a w
 | f+1,aM,a,w=>Region.ready md ops aM≠[]/\∀ i∈Region.ready md ops aM,late i=false/\wpOp P ops Q i (λa' w'=>C w'/\nt P md ops C Q late R f (aM.setIfInBounds i true) a' w') a w
theorem zh{late:J->aY}{R:a6 aY->Act->ai->ak}{g:J}(b:∀ aM a w,R aM a w->wpAny P md ops Q g aM a w):∀ (f:J) (aM:a6 aY) (a:Act) (w:ai),nt P md ops C Q late R f aM a w->wpAny P md ops Q (f+g) aM a w
 | 0,aM,a,w,h=>by rw[qu];exact b _ _ _ h
 | f+1,aM,a,w,h=>by
  rw[show f+1+g=(f+g)+1 by omega];exact⟨λc=>absurd c h.1,λi aw=>wpOp_mono (λa' w' aJ=>zh b f _ a' w' aJ.2) (h.2 i aw).2⟩
structure Reach(md:Region.Mode)(ops:a6 Oper)(late:J->aY)(i:J)(reach:J->aY):ak where
 next:∀ j o,ops[j]?=some o->j≠i->(∀ e∈o.after,Region.binds md e=true->reach e.on=true)->reach j=true
 early:∀ j,reach j=true->late j=false
def K'{late:J->aY}{R:a6 aY->Act->ai->ak}{i:J}{s:Oper}{v:ax}{reach:J->aY}(aw:ops[i]?=some s)(G:∀ (j:J) (o:Oper) cs b,ops[j]?=some o->o.op≠.select cs b)(L:∀ c a w d u,Q (.panic c) (Act.put a d u) w->Q (.panic c) a w)(F:Reach md ops late i reach)(E:late i=false)(M:∀ aM a w,R aM a w->∀ j∈Region.ready md ops aM,late j=true):∀ (f:J) (aM:a6 aY) (a:Act) (w:ai),(∀ j,aM.getD j false=true->reach j=true)->
   (∀ j m,ops[j]?=some m->j≠i->aM.getD j true=false->(∀ e∈m.after,Region.binds md e=true->e.on≠i)->s.apart ops m=true)->
   i∈Region.ready md ops aM->nP P ops C s v a->C w->
   nt P md ops C Q late R f (aM.setIfInBounds i true) (a.put s.dst v) w->nt P md ops C Q late R (f+1) aM a w:=by
 have A:∀ (aM:a6 aY),(∀ j,aM.getD j false=true->reach j=true)->∀ j∈Region.ready md ops aM,j≠i->reach j=true/\late j=false:=by
  intro aM av j n hne;have⟨_,m,q,y⟩:=ln.1 n;have h1:=F.next j m q hne (λe z aj=>av _ (y e z aj));exact⟨h1,F.early j h1⟩
 intro f
 induction f with
 | zero=>
  intro aM a w av _ l x r H;refine⟨λh=>z8,λj n=>?_⟩;by_cases g:j=i
  .subst g;exact⟨E,x.wpOp aw r ⟨r,H⟩⟩
  have h1:=M _ _ _ H j (uJ n g);rw[(A aM av j n g).2]at h1;cases h1
 | succ f X=>
  intro aM a w av B l x r H;refine⟨λh=>z8,λj n=>?_⟩;by_cases g:j=i
  .subst g;exact⟨E,x.wpOp aw r ⟨r,H⟩⟩
  have⟨D,m,q,y⟩:=ln.1 n;have V:∀ e∈m.after,Region.binds md e=true->e.on≠i:=λe z aj N=>by
   have h1:=y e z aj;rw[N,getD_both ((ln.1 l).1)]at h1;cases h1
  have⟨W,S⟩:=A aM av j n g;have h2:=Y8 q (B j m q g D V) (λcs b=>G i s cs b aw) (λcs b=>G j m cs b q) L x ((H.2 j (uJ n g)).2);refine⟨S,wpOp_mono (λa' w' t=>⟨t.2.1,X (aM.setIfInBounds j true) a' w' (λk hk=>?_) (λk ok hk O K T=>?_) (uJ l (hW g)) t.1 t.2.1 ?_⟩) h2⟩
  .by_cases p:j=k
   .subst p;exact W
   rw[Dx false p]at hk;exact av k hk
  .refine B k ok hk O ?_ T;by_cases p:j=k
   .subst p;exact D
   rw[Dx true p]at K;exact K
  rw[Lt _ _ g];exact t.2.2
def Jm(md:Region.Mode)(ops:a6 Oper)(aM:a6 aY)(i:J):a6 aY:=
 (range ops.size).foldl (λa j=>a.push (aM.getD j false || (j != i&&(match ops[j]? with|some o=>o.after.all (λe=>!Region.binds md e || a.getD e.on false)|none=>false)))) #[]
def yP(md:Region.Mode)(ops:a6 Oper)(late:J->aY)(aM:a6 aY)(i:J)(reach:a6 aY):aY:=
 (range ops.size).all (λj=>(j == i || reach.getD j false || (match ops[j]? with|some o=>o.after.any (λe=>Region.binds md e&&!reach.getD e.on false)|none=>true))&&(!reach.getD j false || !late j)&&(!aM.getD j false || reach.getD j false))&&decide (reach.size=ops.size)&&decide (aM.size=ops.size)
def Jn{late:J->aY}{aM:a6 aY}{i:J}{reach:a6 aY}(h:yP md ops late aM i reach=true):Reach md ops late i (λj=>reach.getD j false)/\∀ j,aM.getD j false=true->reach.getD j false=true:=by
 simp only[yP,d',fZ]at h;have⟨⟨h,n⟩,m⟩:=h;rw[fg]at h;have k:∀ j,reach.getD j false=true->j<ops.size:=λj a=>by
  rcases DW j reach.size with b|b
  .omega
  simp[l0 b]at a
 refine⟨⟨λj o d hne f=>?_,λj a=>?_⟩,λj a=>?_⟩
 .have a:=(kf.1 d).1;have h1:=h j (po.2 a);simp only[d',uH,nH,d]at h1;rcases h1.1.1 with(h2|h2)|h2
  .exact absurd h2 hne
  .exact h2
  have⟨e,g,c⟩:=Lq.1 h2;simp only[d',ll]at c
  have:=f e g c.1
  simp only[c.2]at this;cases this
 .have h1:=h j (po.2 (k j a));simp only[d',uH,ll]at h1;rcases h1.1.2 with h2|h2
  .rw[a]at h2;cases h2
  exact h2
 have l:j<ops.size:=by
  rcases DW j aM.size with b|b
  .omega
  simp[l0 b]at a
 have h1:=h j (po.2 l);simp only[d',uH,ll]at h1;rcases h1.2 with h2|h2
 .rw[a]at h2;cases h2
 exact h2
def hF(P:Program)(ops:a6 Oper)(C:ai->ak)(Q:Exit->Act->ai->ak)(R:Act->ai->ak):ah Oper->Act->ai->ak
 | [],a,w=>R a w
 | o :: rest,a,w=>if Region.wanted o (yielded ops a.tmps)then o.wp P a w (λa' w'=>C w'/\hF P ops C Q R rest a' w') Q else hF P ops C Q R rest (a.put o.dst undef) w
def tu(md:Region.Mode)(ops:a6 Oper)(late:J->aY):ah J->a6 aY->aY
 | [],aM=>(Region.ready md ops aM).all late
 | k :: T,aM=>decide (Region.ready md ops aM=[k])&&!late k&&tu md ops late T (aM.setIfInBounds k true)
def uy(md:Region.Mode)(ops:a6 Oper)(late:J->aY)(M:ah J):ah J->a6 aY->aY
 | [],aM=>tu md ops late M aM
 | k :: H,aM=>(Region.ready md ops aM).contains k&&Region.free md ops aM k&&(match ops[k]? with|some o=>wm o|none=>false)&&!late k&&yP md ops late aM k (Jm md ops aM k)&&uy md ops late M H (aM.setIfInBounds k true)
def iH(aM:a6 aY)(L:ah J):a6 aY:=L.foldl (λl k=>l.setIfInBounds k true) aM
def mU(aM:a6 aY)(L:ah J)(j:J):aY:=!(aM.getD j false || L.contains j)
def ux(md:Region.Mode)(ops:a6 Oper)(H M:ah J)(aM:a6 aY):aY:=Region.noSelect ops&&uy md ops (mU aM (H++M)) M H aM
theorem Lb{late:J->aY}{R:Act->ai->ak}(full:a6 aY):∀ (M:ah J) (aM:a6 aY) (a:Act) (w:ai),C w->tu md ops late M aM=true->iH aM M=full->
  hF P ops C Q R (eG ops M) a w->nt P md ops C Q late (λl a w=>l=full/\R a w) M.length aM a w
 | [],aM,a,w,_,_,c,h=>⟨c,h⟩
 | k :: M,aM,a,w,n,f,c,h=>by
  simp only[tu,d',fZ,ll]at f;obtain⟨⟨d,m⟩,j⟩:=f;obtain⟨_,o,g,_⟩:=ln.1 (show k∈Region.ready md ops aM by rw[d];simp);rw[BX g]at h;refine⟨λh1=>(by rw[d]at h1;cases h1),λi aw=>?_⟩;rw[d]at aw;obtain rfl:i=k:=by simpa using aw
  refine⟨m,?_⟩;have key:wpOp P ops Q i (λa' w'=>C w'/\hF P ops C Q R (eG ops M) a' w') a w:=by
   unfold Go.wpOp;unfold hF at h;simp only[g];split
   .rename_i e;rw[if_pos e]at h;exact .inl h
   rename_i e;rw[if_neg e]at h;exact⟨n,h⟩
  exact wpOp_mono (λa' w' b=>⟨b.1,Lb full M _ a' w' b.1 j c b.2⟩) key
theorem FY{late:J->aY}:∀ (M:ah J) (aM:a6 aY),tu md ops late M aM=true->∀ j∈Region.ready md ops (iH aM M),late j=true
 | [],_,h,j,a=>fg.1 h j a
 | k :: M,aM,h,j,a=>by
  simp only[tu,d']at h;exact FY M _ h.2 j a
theorem Kq{late:J->aY}{M:ah J}:∀ (H:ah J) (aM:a6 aY),uy md ops late M H aM=true->∀ j∈Region.ready md ops (iH aM (H++M)),late j=true
 | [],_,h,j,a=>FY M _ h j a
 | k :: H,aM,h,j,a=>by
  simp only[uy,d']at h;exact Kq H _ h.2 j a
theorem La{late:J->aY}{M:ah J}{R:Act->ai->ak}(full:a6 aY)(p:Region.noSelect ops=true)(m:∀ c a w d u,Q (.panic c) (Act.put a d u) w->Q (.panic c) a w){w:ai}(g:C w)(n:∀ j∈Region.ready md ops full,late j=true):∀ (H:ah J) (aM:a6 aY) (a:Act),uy md ops late M H aM=true->iH aM (H++M)=full->
   wpQuiet P ops C (λa'=>hF P ops C Q R (eG ops M) a' w) (eG ops H) a->nt P md ops C Q late (λl a w=>l=full/\R a w) (H.length+M.length) aM a w
 | [],aM,a,e,f,h=>by
  rw[e_,qu];exact Lb full M aM a w g e f (by simpa[eG,wpQuiet]using h)
 | k :: H,aM,a,e,f,h=>by
  simp only[uy,d',ll]at e;have⟨⟨⟨⟨⟨A,s⟩,au⟩,y⟩,B⟩,q⟩:=e;have i:k∈Region.ready md ops aM:=by simpa using A
  have⟨_,o,b,_⟩:=ln.1 i;rw[BX b]at h;rw[b]at au;have z:qOp P ops C k (wpQuiet P ops C (λa'=>hF P ops C Q R (eG ops M) a' w) (eG ops H)) a:=by unfold qOp;simp only[b];exact h
  have⟨v,D,r⟩:=Lp au b z;have⟨h1,h2⟩:=Jn B;rw[show(k :: H).length+M.length=(H.length+M.length)+1 by simp;omega];exact K' b (Ds p) m h1 y (λl a w x j t=>n j (by rw[<-x.1];exact t)) _ aM a w h2 (Dr b s) i D g (La full p m g n H _ _ q f r)
def Kp{aM:a6 aY}{a:Act}{w:ai}{g:J}(H M:ah J)(b:ux md ops H M aM=true)(i:C w)(f:∀ c a w d u,Q (.panic c) (Act.put a d u) w->Q (.panic c) a w)(h:wpQuiet P ops C (λa'=>hF P ops C Q (λa w=>wpAny P md ops Q g (iH aM (H++M)) a w) (eG ops M) a' w) (eG ops H) a):wpAny P md ops Q (H.length+M.length+g) aM a w:=by
 simp only[ux,d']at b;refine zh (C:=C) (late:=mU aM (H++M)) (R:=λl a w=>l=iH aM (H++M)/\wpAny P md ops Q g (iH aM (H++M)) a w) (λl a w e=>by rw[e.1];exact e.2) _ _ _ _ ?_;exact La (iH aM (H++M)) b.1 f i (Kq H aM b.2) H aM a b.2 rfl h
def XC{id:J}{a:Act}{w:ai}{l:ah Oper}(hm:P.follows .mixedOrders=true)(n:J)(ar:l.length=n)(h:wpAny P .any l.toArray Q n (Array.replicate n false) a w.drew):(Code.region id l.toArray true).wp P Q a w:=by
 subst ar;exact DF hm (by rw[gW];exact h)
def CG{aM:a6 aY}{a:Act}{w:ai}(b:(Region.ready md ops aM).isEmpty=true)(h:Q .normal a w):wpAny P md ops Q 0 aM a w:=⟨by simpa using b,h⟩
structure g_(S:J->ak)(w:ai) where
 to:ai
 keeps:Keeps S w to
instance (S:J->ak)(w:ai):Nonempty (g_ S w):=⟨⟨w,Keeps.refl _ w⟩⟩
def c0{S:J->ak}{w w':ai}(h:Keeps S w w'):∃ x:g_ S w,w'=x.to:=⟨⟨w',h⟩,rfl⟩
def j8{S:J->ak}{w:ai}{p:Addr}{v:ax}(h:w.cell? p=some v)(av:¬ S p.block):∀ x:g_ S w,x.to.cell? p=some v:=λx=>x.keeps.cell h av
def XB(S:J->ak){aM:a6 aY}{a:Act}{w:ai}{n:J}(H M:ah J)(g:J)(ar:n=H.length+M.length+g)(b:a6 aY)(i:iH aM (H++M)=b)(e:ux md ops H M aM=true)(f:∀ c a w d u,Q (.panic c) (Act.put a d u) w->Q (.panic c) a w)(h:wpQuiet P ops (λw'=>∃ x:g_ S w,w'=x.to) (λa'=>hF P ops (λw'=>∃ x:g_ S w,w'=x.to) Q (λa w=>wpAny P md ops Q g b a w) (eG ops M) a' w) (eG ops H) a):wpAny P md ops Q n aM a w:=by
 subst ar i;exact Kp H M e (c0 (Keeps.refl _ w)) f h
def hP{R:Act->ai->ak}{a:Act}{w:ai}(h:R a w):hF P ops C Q R [] a w:=h
def Ij{R:Act->ai->ak}{o:Oper}{rest:ah Oper}{a:Act}{w:ai}(b:Region.wanted o (yielded ops a.tmps)=true)(h:∀ K:Act->ai->ak,(∀ a' w',C w'->hF P ops C Q R rest a' w'->K a' w')->o.wp P a w K Q):hF P ops C Q R (o :: rest) a w:=by
 unfold hF;rw[if_pos b];exact h _ λ_ _ h1 h2=>⟨h1,h2⟩
def Ik{R:Act->ai->ak}{o:Oper}{rest:ah Oper}{a:Act}{w:ai}(b:Region.wanted o (yielded ops a.tmps)=false)(h:hF P ops C Q R rest (a.put o.dst undef) w):hF P ops C Q R (o :: rest) a w:=by
 unfold hF;rw[if_neg (by rw[b];exact Bool.false_ne_true)];exact h
end
section
variable{P:Program}{ops:a6 Oper}{md:Region.Mode}{C:ai->ak}{Q:Exit->Act->ai->ak}
def sq(md:Region.Mode)(ops:a6 Oper)(late:J->aY):ah J->a6 aY->aY
 | [],_=>true
 | k :: H,aM=>(Region.ready md ops aM).contains k&&Region.free md ops aM k&&(match ops[k]? with|some o=>wm o|none=>false)&&!late k&&yP md ops late aM k (Jm md ops aM k)&&sq md ops late H (aM.setIfInBounds k true)
theorem C9{late:J->aY}{m:J}{R:Act->ai->ak}(full:a6 aY)(n:Region.noSelect ops=true)(g:∀ c a w d u,Q (.panic c) (Act.put a d u) w->Q (.panic c) a w){w:ai}(p:C w)(i:∀ j∈Region.ready md ops full,late j=true):∀ (H:ah J) (aM:a6 aY) (a:Act),sq md ops late H aM=true->
   wpQuiet P ops C (λa'=>nt P md ops C Q late (λl a w=>l=full/\R a w) m (iH aM H) a' w) (eG ops H) a->nt P md ops C Q late (λl a w=>l=full/\R a w) (H.length+m) aM a w
 | [],aM,a,_,h=>by
  rw[e_,qu];simpa[eG,wpQuiet,iH]using h
 | k :: H,aM,a,f,h=>by
  simp only[sq,d',ll]at f;have⟨⟨⟨⟨⟨A,s⟩,au⟩,y⟩,B⟩,q⟩:=f;have e:k∈Region.ready md ops aM:=by simpa using A
  have⟨_,o,b,_⟩:=ln.1 e;rw[BX b]at h;rw[b]at au;have z:qOp P ops C k (wpQuiet P ops C (λa'=>nt P md ops C Q late (λl a w=>l=full/\R a w) m (iH (aM.setIfInBounds k true) H) a' w) (eG ops H)) a:=by unfold qOp;simp only[b];exact h
  have⟨v,D,r⟩:=Lp au b z;have⟨h1,h2⟩:=Jn B;rw[show(k :: H).length+m=(H.length+m)+1 by simp;omega];exact K' b (Ds n) g h1 y (λl a w x j t=>i j (by rw[<-x.1];exact t)) _ aM a w h2 (Dr b s) e D p (C9 full n g p i H _ _ q r)
def Kr(md:Region.Mode)(ops:a6 Oper)(H M:ah J)(aM full:a6 aY):aY:=
 Region.noSelect ops&&sq md ops (mU aM (H++M)) H aM&&(Region.ready md ops full).all (mU aM (H++M))&&(iH aM (H++M) == full)
def Tree(P:Program)(md:Region.Mode)(ops:a6 Oper)(S:J->ak)(bk:ai)(Q:Exit->Act->ai->ak)(ml:a6 aY)(cF:ah J)(full:a6 aY)(g m:J)(aM:a6 aY)(a:Act)(w:ai):ak:=
 nt P md ops (λw'=>∃ x:g_ S bk,w'=x.to) Q (mU ml cF) (λl a w=>l=full/\wpAny P md ops Q g full a w) m aM a w
def XD(S:J->ak){aM:a6 aY}{a:Act}{w:ai}{n:J}(H M:ah J)(g:J)(ar:n=H.length+M.length+g)(full iI:a6 aY)(hm:iH aM H=iI)(b:Kr md ops H M aM full=true)(i:∀ c a w d u,Q (.panic c) (Act.put a d u) w->Q (.panic c) a w)(h:wpQuiet P ops (λw'=>∃ x:g_ S w,w'=x.to) (λa'=>Tree P md ops S w Q aM (H++M) full g M.length iI a' w) (eG ops H) a):wpAny P md ops Q n aM a w:=by
 subst ar hm;simp only[Kr,d']at b;have⟨⟨⟨o,f⟩,k⟩,p⟩:=b;refine zh (C:=λw'=>∃ x:g_ S w,w'=x.to) (late:=mU aM (H++M)) (R:=λl a w=>l=full/\wpAny P md ops Q g full a w) (λl a w e=>by rw[e.1];exact e.2) _ _ _ _ ?_;exact C9 full o i (c0 (Keeps.refl _ w)) (λj m=>fg.1 k j m) H aM a f h
section
variable{S:J->ak}{bk:ai}{ml full aM:a6 aY}{cF:ah J}{g m:J}{a:Act}{w:ai}
def Yk(c:(aM == full)=true)(h:wpAny P md ops Q g full a w):Tree P md ops S bk Q ml cF full g 0 aM a w:=⟨Ad,h⟩
def dm(ops:a6 Oper)(k:J):Oper:=ops[k]?.getD IP
def BW{k:J}(h:(ops[k]?).isSome=true):ops[k]?=some (dm ops k):=by
 unfold dm;cases hk:ops[k]? with
 | none=>rw[hk]at h;cases h
 | some o=>rfl
def CT{k:J}(b:a6 aY)(c:(ops[k]?).isSome=true)(av:aM.setIfInBounds k true=b)(d:Region.wanted (dm ops k) (yielded ops a.tmps)=true)(h:∀ K:Act->ai->ak,(∀ a' w',Keeps S bk w'->Tree P md ops S bk Q ml cF full g m b a' w'->K a' w')->(dm ops k).wp P a w K Q):wpOp P ops Q k (λa' w'=>(∃ x:g_ S bk,w'=x.to)/\Tree P md ops S bk Q ml cF full g m (aM.setIfInBounds k true) a' w') a w:=by
 unfold Go.wpOp;simp only[BW c];rw[if_pos d,av];exact .inl (h _ λ_ _ h1 h2=>⟨c0 h1,h2⟩)
def sA(k:J)(c:a6 aY)(f:(Region.ready md ops aM == [k])=true)(d:mU ml cF k=false)(e:(ops[k]?).isSome=true)(av:aM.setIfInBounds k true=c)(j:Region.wanted (dm ops k) (yielded ops a.tmps)=true)(h:∀ K:Act->ai->ak,(∀ a' w',Keeps S bk w'->Tree P md ops S bk Q ml cF full g m c a' w'->K a' w')->(dm ops k).wp P a w K Q):Tree P md ops S bk Q ml cF full g (m+1) aM a w:=by
 have b:Region.ready md ops aM=[k]:=by simpa using f
 refine⟨xk,λi aw=>?_⟩;rw[b]at aw;obtain rfl:i=k:=by simpa using aw
 exact⟨d,CT c e av j h⟩
def CU(k j:J)(c d:a6 aY)(n:(Region.ready md ops aM == [k,j])=true)(e:mU ml cF k=false)(f:mU ml cF j=false)(l:(ops[k]?).isSome=true)(au:(ops[j]?).isSome=true)(av:aM.setIfInBounds k true=c)(o:aM.setIfInBounds j true=d)(p:Region.wanted (dm ops k) (yielded ops a.tmps)=true)(q:Region.wanted (dm ops j) (yielded ops a.tmps)=true)(h:∀ K:Act->ai->ak,(∀ a' w',Keeps S bk w'->Tree P md ops S bk Q ml cF full g m c a' w'->K a' w')->(dm ops k).wp P a w K Q)(h2:∀ K:Act->ai->ak,(∀ a' w',Keeps S bk w'->Tree P md ops S bk Q ml cF full g m d a' w'->K a' w')->(dm ops j).wp P a w K Q):Tree P md ops S bk Q ml cF full g (m+1) aM a w:=by
 have b:Region.ready md ops aM=[k,j]:=by simpa using n
 refine⟨xk,λi aw=>?_⟩;rw[b]at aw;rcases e6.1 aw with rfl|aw
 .exact⟨e,CT c l av p h⟩
 obtain rfl:i=j:=by simpa using aw
 exact⟨f,CT d au o q h2⟩
end
end
section
variable{P:Program}{ops:a6 Oper}{md:Region.Mode}{Q:Exit->Act->ai->ak}
structure bp(F:ai->ak) where
 to:ai
 held:F to
def jN{F:ai->ak}{w:ai}(h:F w):∃ x:bp F,w=x.to:=⟨⟨w,h⟩,rfl⟩
def uz(F:ai->ak){aM:a6 aY}{a:Act}{w:ai}{n:J}(j:F w)(H M:ah J)(g:J)(ar:n=H.length+M.length+g)(b:a6 aY)(i:iH aM (H++M)=b)(e:ux md ops H M aM=true)(f:∀ c a w d u,Q (.panic c) (Act.put a d u) w->Q (.panic c) a w)[Nonempty (bp F)](h:wpQuiet P ops (λw'=>∃ x:bp F,w'=x.to) (λa'=>hF P ops (λw'=>∃ x:bp F,w'=x.to) Q (λa w=>wpAny P md ops Q g b a w) (eG ops M) a' w) (eG ops H) a):wpAny P md ops Q n aM a w:=by
 subst ar i;exact Kp H M e (jN j) f h
def eB(P:Program)(md:Region.Mode)(ops:a6 Oper)(F:ai->ak)(Q:Exit->Act->ai->ak)(late:J->aY)(full:a6 aY)(g m:J)(aM:a6 aY)(a:Act)(w:ai):ak:=
 nt P md ops (λw'=>∃ x:bp F,w'=x.to) Q late (λl a w=>l=full/\wpAny P md ops Q g full a w) m aM a w
variable{F:ai->ak}{late:J->aY}{aM full:a6 aY}{g m:J}{a:Act}{w:ai}
def R'(F:ai->ak)(L:ah J)(g:J){n:J}(m:J)(ar:n=m+g)(full:a6 aY)(h:eB P md ops F Q (mU aM L) full g m aM a w):wpAny P md ops Q n aM a w:=by
 subst ar;exact zh (C:=λw'=>∃ x:bp F,w'=x.to) (late:=mU aM L) (R:=λl a w=>l=full/\wpAny P md ops Q g full a w) (λl a w b=>by rw[b.1];exact b.2) _ _ _ _ h
def R9(o:F w)(H:ah J)(k:J)(hk:H.length=k)(iI:a6 aY)(hm:iH aM H=iI)(b:(Region.noSelect ops&&sq md ops late H aM&&(Region.ready md ops full).all late)=true)(f:∀ c a w d u,Q (.panic c) (Act.put a d u) w->Q (.panic c) a w)(h:wpQuiet P ops (λw'=>∃ x:bp F,w'=x.to) (λa'=>eB P md ops F Q late full g m iI a' w) (eG ops H) a):eB P md ops F Q late full g (k+m) aM a w:=by
 subst hm hk;simp only[d']at b;have⟨⟨n,e⟩,i⟩:=b;exact C9 full n f (jN o) (λj l=>fg.1 i j l) H aM a e h
def R_(k:J)(c:a6 aY)(f:(Region.ready md ops aM == [k])=true)(d:late k=false)(e:(ops[k]?).isSome=true)(av:aM.setIfInBounds k true=c)(j:Region.wanted (dm ops k) (yielded ops a.tmps)=true)(h:∀ K:Act->ai->ak,(∀ a' w',F w'->eB P md ops F Q late full g m c a' w'->K a' w')->(dm ops k).wp P a w K Q):eB P md ops F Q late full g (m+1) aM a w:=by
 have b:Region.ready md ops aM=[k]:=by simpa using f
 refine⟨xk,λi aw=>?_⟩;rw[b]at aw;obtain rfl:i=k:=by simpa using aw
 refine⟨d,?_⟩;unfold Go.wpOp;simp only[BW e];rw[aD j,av];exact .inl (h _ λ_ _ h1 h2=>⟨jN h1,h2⟩)
def vS{k:J}(b:a6 aY)(c:late k=false)(d:(ops[k]?).isSome=true)(av:aM.setIfInBounds k true=b)(e:Region.wanted (dm ops k) (yielded ops a.tmps)=true)(h:∀ K:Act->ai->ak,(∀ a' w',F w'->eB P md ops F Q late full g m b a' w'->K a' w')->(dm ops k).wp P a w K Q):late k=false/\wpOp P ops Q k (λa' w'=>(∃ x:bp F,w'=x.to)/\nt P md ops (λw'=>∃ x:bp F,w'=x.to) Q late (λl a w=>l=full/\wpAny P md ops Q g full a w) m (aM.setIfInBounds k true) a' w') a w:=by
 refine⟨c,?_⟩;unfold Go.wpOp;simp only[BW d];rw[aD e,av];exact .inl (h _ λ_ _ h1 h2=>⟨jN h1,h2⟩)
def r3(k j:J)(c d:a6 aY)(n:(Region.ready md ops aM == [k,j])=true)(e:late k=false)(f:late j=false)(l:(ops[k]?).isSome=true)(au:(ops[j]?).isSome=true)(av:aM.setIfInBounds k true=c)(o:aM.setIfInBounds j true=d)(p:Region.wanted (dm ops k) (yielded ops a.tmps)=true)(q:Region.wanted (dm ops j) (yielded ops a.tmps)=true)(h:∀ K:Act->ai->ak,(∀ a' w',F w'->eB P md ops F Q late full g m c a' w'->K a' w')->(dm ops k).wp P a w K Q)(h2:∀ K:Act->ai->ak,(∀ a' w',F w'->eB P md ops F Q late full g m d a' w'->K a' w')->(dm ops j).wp P a w K Q):eB P md ops F Q late full g (m+1) aM a w:=by
 have b:Region.ready md ops aM=[k,j]:=by simpa using n
 refine⟨xk,λi aw=>?_⟩;rw[b]at aw;rcases e6.1 aw with rfl|aw
 .exact vS c e l av p h
 obtain rfl:i=j:=by simpa using aw
 exact vS d f au o q h2
def BC(c:(aM == full)=true)(h:wpAny P md ops Q g full a w):eB P md ops F Q late full g 0 aM a w:=⟨Ad,h⟩
def qi{o:Oper}{a:Act}{K:Act->ai->ak}{w w':ai}{v:ax}{T:TypeId}(b:o.op=.alloc T)(hrun:(Instr.alloc T true (aV #[])).run P w=.ok v w')(h:K (a.put o.dst v) w'):o.wp P a w K Q:=by
 unfold Oper.wp execOp;simp only[b,hG,hrun,hq,ig];exact h
end
section
variable{P:Program}{ops:a6 Oper}{md:Region.Mode}{Q:Exit->Act->ai->ak}{aM:a6 aY}{a:Act}{w:ai}
def cH(n:J){id:J}{l:ah Oper}(h:wpAny P .any l.toArray Q n (Array.replicate n false) a w.drew)(hm:P.follows .mixedOrders=true:=by kernel_rfl)(ar:l.length=n:=by rfl):(Code.region id l.toArray true).wp P Q a w:=XC hm n ar h
def iu(h:Q .normal a w)(b:(Region.ready md ops aM).isEmpty=true:=by kernel_rfl):wpAny P md ops Q 0 aM a w:=CG b h
def o7(S:J->ak)(H M:ah J)(g:J){n:J}{X Y:ah Oper}(h:wpQuiet P ops (λw'=>∃ x:g_ S w,w'=x.to) (λa'=>hF P ops (λw'=>∃ x:g_ S w,w'=x.to) Q (λa w=>wpAny P md ops Q g (iH aM (H++M)) a w) Y a' w) X a)(ar:n=H.length+M.length+g:=by rfl)(b:ux md ops H M aM=true:=by kernel_rfl)(e:∀ c a w d u,Q (.panic c) (Act.put a d u) w->Q (.panic c) a w:=by intro _ _ _ d _ h;first|(cases d<;>exact h)|cases h.1)(f:eG ops H=X:=by simp only[eG,range,range.loop,jz,lo,jW,kG,jV,hX]<;>rfl)(i:eG ops M=Y:=by simp only[eG,range,range.loop,jz,lo,jW,kG,jV,hX]<;>rfl):wpAny P md ops Q n aM a w:=by
 subst f i;exact XB S H M g ar _ rfl b e h
theorem yN{C:ai->ak}{K:Act->ak}{A:Act}(hk:K A):∀ (L:ah Oper) (a:Act),wpQuiet P ops C (λa'=>a'=A) L a->wpQuiet P ops C K L a
 | [],_,h=>by
  have h:_=A:=h;subst h;exact hk
 | o :: L,a,h=>by
  unfold wpQuiet at h⊢;split
  .rename_i b;rw[if_pos b]at h;exact Oper.quiet_mono (λa=>yN hk L a) h
  rename_i b;rw[if_neg b]at h;exact yN hk L _ h
theorem fs(S:J->ak)(H M:ah J)(g:J){n:J}{X Y:ah Oper}{A:Act}(k:hF P ops (λw'=>∃ x:g_ S w,w'=x.to) Q (λa w=>wpAny P md ops Q g (iH aM (H++M)) a w) Y A w)(ar:n=H.length+M.length+g:=by rfl)(b:ux md ops H M aM=true:=by kernel_rfl)(e:∀ c a w d u,Q (.panic c) (Act.put a d u) w->Q (.panic c) a w:=by intro _ _ _ d _ h;first|(cases d<;>exact h)|cases h.1)(f:eG ops H=X:=by simp only[eG,range,range.loop,jz,lo,jW,kG,jV,hX]<;>rfl)(i:eG ops M=Y:=by simp only[eG,range,range.loop,jz,lo,jW,kG,jV,hX]<;>rfl)(j:wpQuiet P ops (λw'=>∃ x:g_ S w,w'=x.to) (λa'=>a'=A) X a:=by(repeat (go_big_quiet_step (fail)));refine wpQuiet_nil ?_;exact rfl):wpAny P md ops Q n aM a w:=
 o7 S H M g (yN k _ _ j) ar b e f i
def gi{C:ai->ak}{R:Act->ai->ak}{o:Oper}{rest:ah Oper}(h:∀ K:Act->ai->ak,(∀ a' w',C w'->hF P ops C Q R rest a' w'->K a' w')->o.wp P a w K Q)(b:Region.wanted o (yielded ops a.tmps)=true:=by first|rfl|simp[go_sem]):hF P ops C Q R (o :: rest) a w:=Ij b h
def kv{C:ai->ak}{R:Act->ai->ak}{o:Oper}(h:∀ K:Act->ai->ak,(∀ a' w',C w'->R a' w'->K a' w')->o.wp P a w K Q)(c:Region.wanted o (yielded ops a.tmps)=true:=by first|rfl|simp[go_sem]):hF P ops C Q R [o] a w:=Ij c λK b=>h K λa' w' h1 h2=>b a' w' h1 (hP h2)
def cI(F:ai->ak)(L:ah J)(g m:J){n:J}(h:eB P md ops F Q (mU aM L) (iH aM L) g m aM a w)(ar:n=m+g:=by rfl):wpAny P md ops Q n aM a w:=R' F L g m ar _ h
variable{F:ai->ak}{late:J->aY}{full:a6 aY}{g m:J}
def p0(b:F w)(H:ah J)(m:J){n:J}{X:ah Oper}(h:Nonempty (bp F)->wpQuiet P ops (λw'=>∃ x:bp F,w'=x.to) (λa'=>eB P md ops F Q late full g m (iH aM H) a' w) X a)(ar:n=H.length+m:=by rfl)(e:(Region.noSelect ops&&sq md ops late H aM&&(Region.ready md ops full).all late)=true:=by kernel_rfl)(f:∀ c a w d u,Q (.panic c) (Act.put a d u) w->Q (.panic c) a w:=by intro _ _ _ d _ h;first|(cases d<;>exact h)|cases h.1)(i:eG ops H=X:=by simp only[eG,range,range.loop,jz,lo,jW,kG,jV,hX]<;>rfl):eB P md ops F Q late full g n aM a w:=by
 subst i ar;exact R9 (m:=m) b H _ rfl _ rfl e f (h ⟨⟨_,b⟩⟩)
theorem dC(e:F w)(H:ah J)(m:J){n:J}{X:ah Oper}{A:Act}(k:eB P md ops F Q late full g m (iH aM H) A w)(ar:n=H.length+m:=by rfl)(b:(Region.noSelect ops&&sq md ops late H aM&&(Region.ready md ops full).all late)=true:=by kernel_rfl)(f:∀ c a w d u,Q (.panic c) (Act.put a d u) w->Q (.panic c) a w:=by intro _ _ _ d _ h;first|(cases d<;>exact h)|cases h.1)(i:eG ops H=X:=by simp only[eG,range,range.loop,jz,lo,jW,kG,jV,hX]<;>rfl)(j:Nonempty (bp F)->wpQuiet P ops (λw'=>∃ x:bp F,w'=x.to) (λa'=>a'=A) X a:=by intro hne;(repeat (go_big_quiet_step (fail)));refine wpQuiet_nil ?_;exact rfl):eB P md ops F Q late full g n aM a w:=
 p0 e H m (λhne=>yN k _ _ (j hne)) ar b f i
def ew(k:J){o:Oper}(h:∀ K:Act->ai->ak,(∀ a' w',F w'->eB P md ops F Q late full g m (aM.setIfInBounds k true) a' w'->K a' w')->o.wp P a w K Q)(d:(Region.ready md ops aM == [k])=true:=by kernel_rfl)(b:late k=false:=by kernel_rfl)(av:(ops[k]?).isSome=true:=by kernel_rfl)(c:dm ops k=o:=by simp only[dm,jW,kG,jV,hX]<;>rfl)(e:Region.wanted o (yielded ops a.tmps)=true:=by first|rfl|simp[go_sem]):eB P md ops F Q late full g (m+1) aM a w:=by
 subst c;exact R_ k _ d b av rfl e h
theorem jq(k:J){o:Oper}(h:∀ K:Act->ai->ak,(∀ a' w',F w'->wpAny P md ops Q g full a' w'->K a' w')->o.wp P a w K Q)(f:(Region.ready md ops aM == [k])=true:=by kernel_rfl)(d:late k=false:=by kernel_rfl)(av:(ops[k]?).isSome=true:=by kernel_rfl)(e:dm ops k=o:=by simp only[dm,jW,kG,jV,hX]<;>rfl)(i:Region.wanted o (yielded ops a.tmps)=true:=by first|rfl|simp[go_sem])(c:(aM.setIfInBounds k true == full)=true:=by kernel_rfl):eB P md ops F Q late full g 1 aM a w:=
 ew k (λK b=>h K λa' w' h1 h2=>b a' w' h1 (BC c h2)) f d av e i
theorem kx(k:J){o:Oper}(h:∀ K:Act->ai->ak,(∀ a' w',F w'->Q .normal a' w'->K a' w')->o.wp P a w K Q)(f:(Region.ready md ops aM == [k])=true:=by kernel_rfl)(d:late k=false:=by kernel_rfl)(av:(ops[k]?).isSome=true:=by kernel_rfl)(e:dm ops k=o:=by simp only[dm,jW,kG,jV,hX]<;>rfl)(g:Region.wanted o (yielded ops a.tmps)=true:=by first|rfl|simp[go_sem])(c:(aM.setIfInBounds k true == full)=true:=by kernel_rfl)(i:(Region.ready md ops full).isEmpty=true:=by kernel_rfl):eB P md ops F Q late full 0 1 aM a w:=
 jq k (λK b=>h K λa' w' h1 h2=>b a' w' h1 (CG i h2)) f d av e g c
def lI(h:wpAny P md ops Q g full a w)(b:(aM == full)=true:=by kernel_rfl):eB P md ops F Q late full g 0 aM a w:=BC b h
def n5(h:Q .normal a w)(b:(aM == full)=true:=by kernel_rfl)(c:(Region.ready md ops full).isEmpty=true:=by kernel_rfl):eB P md ops F Q late full 0 0 aM a w:=BC b (CG c h)
end
def iq{S:J->ak}{w:ai}{b:J}{bQ us:a6 ax}{t:TypeId}(h:w.heap[b]?=some (.cells bQ t (0,0)))(av:¬ S b)(e:bQ=us:=by first|exact(rfl:_=#[_])|exact(rfl:_=#[_,_])|exact(rfl:_=#[_,_,_])|exact(rfl:_=#[_,_,_,_])|exact(rfl:_=#[_,_,_,_,_])|exact(rfl:_=#[_,_,_,_,_,_])|exact(rfl:_=#[_,_,_,_,_,_,_])|exact(rfl:_=#[_,_,_,_,_,_,_,_])|exact(rfl:_=#[_,_,_,_,_,_,_,_,_])|exact(rfl:_=#[_,_,_,_,_,_,_,_,_,_])|exact(rfl:_=#[_,_,_,_,_,_,_,_,_,_,_])|exact(rfl:_=#[_,_,_,_,_,_,_,_,_,_,_,_])|exact(rfl:_=#[_,_,_,_,_,_,_,_,_,_,_,_,_])|exact(rfl:_=#[_,_,_,_,_,_,_,_,_,_,_,_,_,_])|exact(rfl:_=#[_,_,_,_,_,_,_,_,_,_,_,_,_,_,_])|exact(rfl:_=#[_,_,_,_,_,_,_,_,_,_,_,_,_,_,_,_])):∀ x:g_ S w,∀ k,x.to.cell? ⟨b,k,none⟩=us[k]?:=λx=>aS (x.keeps.heap h av) e
section
variable{P:Program}{ops:a6 Oper}{md:Region.Mode}{Q:Exit->Act->ai->ak}{aM:a6 aY}{a A:Act}{w W:ai}{f:FuncId}{rP:a6 ax}{R:ai->ak}{v:Ending}{o:Oper}
section
variable{F:ai->ak}{late:J->aY}{full:a6 aY}{g m:J}(k:J)
theorem hg(b:F W)(h:eB P md ops F Q late full g m (aM.setIfInBounds k true) A W)(f:(Region.ready md ops aM == [k])=true:=by kernel_rfl)(d:late k=false:=by kernel_rfl)(av:(ops[k]?).isSome=true:=by kernel_rfl)(e:dm ops k=o:=by simp only[dm,jW,kG,jV,hX]<;>rfl)(i:Region.wanted o (yielded ops a.tmps)=true:=by first|rfl|simp[go_sem])(j:∀ K:Act->ai->ak,K A W->o.wp P a w K Q:=by intro K h;go_simp;exact h):eB P md ops F Q late full g (m+1) aM a w:=ew k (λK c=>j K (c _ _ b h)) f d av e i
theorem q2(b:F W)(j:∀ {K:Act->ai->ak},K A W->o.wp P a w K Q)(h:eB P md ops F Q late full g m (aM.setIfInBounds k true) A W)(f:(Region.ready md ops aM == [k])=true:=by kernel_rfl)(d:late k=false:=by kernel_rfl)(av:(ops[k]?).isSome=true:=by kernel_rfl)(e:dm ops k=o:=by simp only[dm,jW,kG,jV,hX]<;>rfl)(i:Region.wanted o (yielded ops a.tmps)=true:=by first|rfl|simp[go_sem]):eB P md ops F Q late full g (m+1) aM a w:=ew k (λK c=>j (c _ _ b h)) f d av e i
theorem h_(b:F W)(h:Q .normal A W)(g:(Region.ready md ops aM == [k])=true:=by kernel_rfl)(e:late k=false:=by kernel_rfl)(av:(ops[k]?).isSome=true:=by kernel_rfl)(f:dm ops k=o:=by simp only[dm,jW,kG,jV,hX]<;>rfl)(i:Region.wanted o (yielded ops a.tmps)=true:=by first|rfl|simp[go_sem])(d:(aM.setIfInBounds k true == full)=true:=by kernel_rfl)(l:(Region.ready md ops full).isEmpty=true:=by kernel_rfl)(j:∀ K:Act->ai->ak,K A W->o.wp P a w K Q:=by intro K h;go_simp;exact h):eB P md ops F Q late full 0 1 aM a w:=kx k (λK c=>j K (c _ _ b h)) g e av f i d l
theorem o_(b:F W)(j:∀ {K:Act->ai->ak},K A W->o.wp P a w K Q)(h:Q .normal A W)(g:(Region.ready md ops aM == [k])=true:=by kernel_rfl)(e:late k=false:=by kernel_rfl)(av:(ops[k]?).isSome=true:=by kernel_rfl)(f:dm ops k=o:=by simp only[dm,jW,kG,jV,hX]<;>rfl)(i:Region.wanted o (yielded ops a.tmps)=true:=by first|rfl|simp[go_sem])(d:(aM.setIfInBounds k true == full)=true:=by kernel_rfl)(l:(Region.ready md ops full).isEmpty=true:=by kernel_rfl):eB P md ops F Q late full 0 1 aM a w:=kx k (λK c=>j (c _ _ b h)) g e av f i d l
end
variable{C:ai->ak}{Z:Act->ai->ak}{rest:ah Oper}
def ir(aT:C W)(h:hF P ops C Q Z rest A W)(c:Region.wanted o (yielded ops a.tmps)=true:=by first|rfl|simp[go_sem])(d:∀ K:Act->ai->ak,K A W->o.wp P a w K Q:=by intro K h;go_simp;exact h):hF P ops C Q Z (o :: rest) a w:=gi (λK b=>d K (b _ _ aT h)) c
def n3(aT:C W)(h:Z A W)(b:Region.wanted o (yielded ops a.tmps)=true:=by first|rfl|simp[go_sem])(c:∀ K:Act->ai->ak,K A W->o.wp P a w K Q:=by intro K h;go_simp;exact h):hF P ops C Q Z [o] a w:=ir aT (hP h) b c
end
def jj{p:ak}(h:p:=by first|rfl|simp[results,go_sem]):p:=h
end Go.Proofs.YtalagblioepadaaGreatDoor
