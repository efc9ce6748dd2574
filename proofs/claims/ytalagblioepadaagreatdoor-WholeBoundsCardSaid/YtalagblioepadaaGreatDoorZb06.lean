/- The proof, part 6. -/
import Derived.Test.YtalagblioepadaaGreatDoorZb01
import Derived.StillTail
import Derived.OrdersIn
import Derived.RangeFuncCalls
namespace Go.Proofs.YtalagblioepadaaGreatDoor
set_option linter.all false
open List Go.RowKit
set_option maxRecDepth 100000
def w1{p:ak}(h:p:=by rw[b];simp):p:=h
def zO{p:ak}(h:p:=by simpa using c):p:=h
def zJ{p:ak}(h:p:=by rw[h]at l;cases l):p:=h
def Ns{p:ak}(h:p:=by
 rcases Dw j n with h|h
 .exact h
 exact absurd m (tail_waits ax aq au inv _ i rfl N q j h)
 ):p:=h
section
variable{P:Program}{ops:a6 Oper}{md:Region.Mode}{C:ai->ak}
def ss(P:Program)(md:Region.Mode)(ops:a6 Oper)(C:ai->ak)(n:J)(L:a6 aY->Act->ak):J->a6 aY->Act->ak
 | 0,aL,a=>L aL a
 | f+1,aL,a=>Region.ready md ops aL≠[]/\∀ i∈Region.ready md ops aL,i<n/\qOp P ops C i (ss P md ops C n L f (aL.setIfInBounds i true)) a
def Yo{n i:J}{g:Oper}{v:aw}{L:a6 aY->Act->ak}(av:ops[i]?=some g)(y:∀ (j:J) (o:Oper) cs b,ops[j]?=some o->o.op≠.select cs b)(ax:Region.sinkB md ops n=true)(aq:Region.chainB md ops n=true)(au:n<ops.size)(N:i<n)(B:∀ aL a,L aL a->∀ j∈Region.ready md ops aL,n<=j):∀ (f:J) (aL:a6 aY) (a:Act),HeadInv md ops n aL->
   (∀ j d,ops[j]?=some d->j≠i->aL.getD j true=false->(∀ e∈d.after,Region.binds md e=true->e.on≠i)->g.apart ops d=true)->
   i∈Region.ready md ops aL->YieldsIn P ops C g v a->
   ss P md ops C n L f (aL.setIfInBounds i true) (a.put g.dst v)->ss P md ops C n L (f+1) aL a:=by
 intro f
 induction f with
 | zero=>
  intro aL a inv _ l r H;have q:=(k5.1 l).1;refine⟨λh=>zJ,λj m=>?_⟩;have p:j<n:=by
   exact Ns
  refine⟨p,?_⟩;by_cases c:j=i
  .subst c;exact r.qOp av H
  have:=B _ _ H j (uu m c)
  omega
 | succ f M=>
  intro aL a inv u l r H;have q:=(k5.1 l).1;refine⟨λh=>zJ,λj m=>?_⟩;have p:j<n:=by
   exact Ns
  refine⟨p,?_⟩;by_cases c:j=i
  .subst c;exact r.qOp av H
  have h1:=(H.2 j (uu m c)).2;have⟨x,d,s,A⟩:=k5.1 m;have K:∀ e∈d.after,Region.binds md e=true->e.on≠i:=λe D aj E=>by
   have h1:=A e D aj;rw[E,getD_both q]at h1;cases h1
  have z:∀ k ok,ops[k]?=some ok->k≠i->(aL.setIfInBounds j true).getD k true=false->
    (∀ e∈ok.after,Region.binds md e=true->e.on≠i)->g.apart ops ok=true:=λk ok hk F q G=>by
   refine u k ok hk F ?_ G;by_cases w:j=k
   .subst w;exact x
   rw[C8 true w]at q;exact q
  refine qOp_mono (λa' t=>M (aL.setIfInBounds j true) a' (inv.set m p) z (uu l (hJ c)) t.1 ?_) (qOp_put s (u j d s c x K) (λcs b=>y i g cs b av) (λcs b=>y j d cs b s) r h1);rw[KZ _ _ c];exact t.2
theorem KC{n g:J}{d:Act->ak}(p:Region.noSelect ops=true)(ax:Region.sinkB md ops n=true)(aq:Region.chainB md ops n=true)(au:n<ops.size):∀ (l:ah Oper) (k:J) (aL:a6 aY) (a:Act),(∀ j,j<l.length->l[j]?=ops[k+j]?)->k+l.length=n->HeadInv md ops n aL->
  Region.lexHead md ops g l.length k aL=true->wpQuiet P ops C d l a->
  ss P md ops C n (λf a'=>Region.seqB md ops g n f=true/\d a') l.length aL a
 | [],k,aL,a,_,hk,_,c,h=>by
  have:k=n:=by simpa using hk
  subst this;exact⟨by simpa[Region.lexHead]using c,h⟩
 | o :: l,k,aL,a,m,hk,inv,c,h=>by
  have b:ops[k]?=some o:=by simpa using(m 0 aI).symm
  simp only[dr,Region.lexHead,ee]at c;obtain⟨⟨u,t⟩,q⟩:=c;have i:k<n:=by simp only[dr]at hk;omega
  have e:k∈Region.ready md ops aL:=by simpa using u
  have w:qOp P ops C k (wpQuiet P ops C d l) a:=by unfold qOp;simp only[b];exact h
  obtain⟨v,x,r⟩:=yieldsIn_of_qOp b w
  exact Yo b (C3 p) ax aq au i (λf a' s=>seqB_ready s.1) l.length aL a inv (C2 b t) e x
   (KC p ax aq au l (k+1) _ _ (λj y=>by have:=m (j+1) bU;simpa[iN,qc 1 j]using this) (by simp only[dr]at hk;omega) (inv.set e i) q r)
def Hd{l:ah Oper}{n:J}{a:Act}{c:Act->ak}(d:Region.lexTailB .any l.toArray n=true)(h:wpQuiet P l.toArray C c (l.take n) a):n<l.length/\ss P .any l.toArray C n (λm a'=>Region.seqB .any l.toArray (l.drop n).length n m=true/\c a') n (Array.replicate l.toArray.size false) a:=by
 simp only[Region.lexTailB,ee,gg]at d;have⟨⟨⟨⟨q,au⟩,ax⟩,aq⟩,p⟩:=d;have k:n<l.length:=by simpa using au
 have b:(l.take n).length=n:=bU;have o:(l.drop n).length=l.toArray.size-n:=aI
 have r:HeadInv .any l.toArray n (Array.replicate l.toArray.size false):=
  ⟨aI,λj s _ f=>(by rw[getD_replicate_false]at f;cases f),λt _ aN=>getD_in (by simpa using aN) (getD_replicate_false _ _)⟩
 have H:=KC (md:=.any) (g:=l.toArray.size-n) q ax aq au (l.take n) 0 _ a (λj e=>by
  have i:j<n:=by rw[b]at e;exact e
  simp[i]) (by simpa using b) r (by rw[b];exact p) h
 rw[b]at H;rw[o];exact⟨k,H⟩
theorem KI{n g:J}{L:a6 aY->Act->ak}{Q':Exit->Act->ai->ak}(c:∀ aL a w,C w->L aL a->wpAny P md ops Q' g aL a w):∀ (f:J) (aL:a6 aY) (a:Act) (w:ai),C w->ss P md ops C n L f aL a->wpAny P md ops Q' (f+g) aL a w
 | 0,aL,a,w,b,h=>by rw[sI];exact c _ _ _ b h
 | f+1,aL,a,w,b,h=>by
  rw[show f+1+g=(f+g)+1 by omega];exact⟨λj=>absurd j h.1,λi av=>wpOp_of_qOp b (λa' w' e d=>KI c f _ a' w' e d) (h.2 i av).2⟩
def Yw{id:J}{Q:Exit->Act->ai->ak}{a:Act}{w:ai}{l:ah Oper}(n:J)(hm:P.follows .mixedOrders=true)(d:Region.lexTailB .any l.toArray n=true)(aU:C {w with drawn:=w.drawn+1})(h:wpQuiet P l.toArray C (λa'=>∀ w',C w'->wpList P l.toArray Q (l.drop n) a' w') (l.take n) a):(Code.region id l.toArray true).wp P Q a w:=by
 have⟨au,H⟩:=Hd d h;refine De hm ?_
 have:=KI (Q':=Q) (g:=(l.drop n).length) (λaL a' w' c b=>wpAny_of_seq (md:=.any) (Q':=Q) (l.drop n) n aL a' w' (λj=>by simp[wE]) b.1 (b.2 w' c)) _ _ _ _ aU H
 rw[show n+(l.drop n).length=l.toArray.size by simp;omega]at this;exact this
structure Open(F:Fence)(m:J)(P:Program):ak where
 fn:∀ f,F.fn f
 depth:F.depth=none
 call:∀ {f args w R},Calls P f args w R->CallsIn F (m-1) P f args w R
def TA(m:J)(P:Program):Open Fence.wide m P:=⟨λ_=>trivial,rfl,λh=>gD.2 h⟩
def Bu(l:ah Oper):aY:=l.all λo=>match o.op with|.defer _=>false|_=>true
def Tt{l:ah Oper}(h:Bu l=true){i:J}{o:Oper}(av:l.toArray[i]?=some o)(c:Call):o.op≠.defer c:=by
 intro e;have hm:o∈l:=by
  have:l[i]?=some o:=by simpa using av
  exact ky this
 have:=ff.1 h o hm
 rw[e]at this;cases this
def Yp{F:Fence}{m:J}(g:Open F m P){o:Oper}{a:Act}{K:Act->ak}{j:Act->ai->ak}{Q':Exit->Act->ai->ak}{w:ai}(n:o.semAt F.round a.eval=execOp a.eval o)(i:C w)(h:∀ a w',C w'->K a->j a w')(aR:o.quiet P a C K):o.wpIn F m P a w j Q':=by
 have⟨v,h1,h2⟩:=aR;have b:=h1 w i;unfold Oper.quietAt at b;refine⟨λf _=>g.fn f,?_⟩;rw[n];generalize (execOp a.eval o).run P w=r at *;cases r with
 | ok x w'=>
  cases x<;>simp only[Oper.quietUpon]at b<;>simp only[Oper.uponIn]
  case value u=>
   have⟨c,d⟩:=b;rw[c,d];exact h _ _ i h2
  case skip=>
   have⟨c,d⟩:=b;rw[c,<-d];exact h _ _ i h2
  case enter f args=>
   obtain⟨c,aq⟩:=b;rw[c];refine⟨(λhd=>by rw[g.depth]at hd;cases hd),CallsIn.mono (g.call aq) λe p l=>?_⟩;obtain⟨rfl,k⟩:=l;exact h _ _ k h2
 | halt x w'=>simp only[Oper.quietUpon]at b
def Yt{F:Fence}{m:J}(g:Open F m P){i:J}{a:Act}{K:Act->ak}{e:Act->ai->ak}{Q':Exit->Act->ai->ak}{w:ai}(j:∀ (o:Oper) (c:Call),ops[i]?=some o->o.op≠Op.defer c)(aU:C w)(h:∀ a w',C w'->K a->e a w')(aR:qOp P ops C i K a):wpOpIn F m P ops Q' i e a w:=by
 unfold qOp at aR;unfold wpOpIn;split
 .rename_i b;simp only[b]at aR;exact h _ _ aU aR
 rename_i o b;simp only[b]at aR;split
 .rename_i d;simp only[d,if_true]at aR;exact Yp g (Oper.semAt_eq _ _ _ λc=>j o c b) aU h aR
 rename_i d;simp only[d]at aR;exact⟨λf _=>g.fn f,h _ _ aU aR⟩
theorem KD{F:Fence}{m:J}(d:Open F m P)(j:∀ (i:J) (o:Oper) (c:Call),ops[i]?=some o->o.op≠Op.defer c){n g:J}{L:a6 aY->Act->ak}{Q':Exit->Act->ai->ak}(e:∀ aL a w,C w->L aL a->wpAnyIn F m P md ops Q' g aL a w):∀ (f:J) (aL:a6 aY) (a:Act) (w:ai),C w->ss P md ops C n L f aL a->wpAnyIn F m P md ops Q' (f+g) aL a w
 | 0,aL,a,w,b,h=>by rw[sI];exact e _ _ _ b h
 | f+1,aL,a,w,b,h=>by
  rw[show f+1+g=(f+g)+1 by omega];exact⟨λp=>absurd p h.1,λi av=>Yt d (j i) b (λa' w' l k=>KD d j e f _ a' w' l k) (h.2 i av).2⟩
theorem KE{F:Fence}{m:J}{Q':Exit->Act->ai->ak}:∀ (l:ah Oper) (k:J) (aL:a6 aY) (a:Act) (w:ai),(∀ j,l[j]?=ops[k+j]?)->
  Region.seqB md ops l.length k aL=true->wpListIn F m P ops Q' l a w->wpAnyIn F m P md ops Q' l.length aL a w
 | [],_,_,_,_,_,b,h=>⟨by simpa[Region.seqB]using b,h⟩
 | o :: l,k,aL,a,w,c,b,h=>by
  have e:ops[k]?=some o:=by simpa using(c 0).symm
  simp only[dr,Region.seqB,ee,gg]at b;refine⟨λh1=>(by rw[b.1]at h1;cases h1),λi av=>?_⟩;rw[b.1]at av;have f:i=k:=by simpa using av
  subst f;have g:wpOpIn F m P ops Q' i (wpListIn F m P ops Q' l) a w:=by unfold wpOpIn;simp only[e];exact h
  exact wpOpIn_mono (λa' w' d=>KE l (i+1) _ a' w' (λj=>by have:=c (j+1);simpa[iN,qc 1 j]using this) b.2 d) g
def Yr{F:Fence}{m:J}(k:Open F m P){id:J}{Q:Exit->Act->ai->ak}{a:Act}{w:ai}{l:ah Oper}(n:J)(hm:P.follows .mixedOrders=true)(e:Region.lexTailB .any l.toArray n=true)(f:Bu l=true)(aU:C {w with drawn:=w.drawn+1})(h:wpQuiet P l.toArray C (λa'=>∀ w',C w'->wpListIn F m P l.toArray Q (l.drop n) a' w') (l.take n) a):(Code.region id l.toArray true).wpIn F m P Q a w:=by
 have⟨au,H⟩:=Hd e h;refine wpIn_region_any hm ?_
 have:=KD (Q':=Q) (g:=(l.drop n).length) k (λi o c av=>Tt f av c) (λaL a' w' d b=>KE (md:=.any) (Q':=Q) (l.drop n) n aL a' w' (λj=>by simp[wE]) b.1 (b.2 w' d)) _ _ _ _ aU H
 rw[show n+(l.drop n).length=l.toArray.size by simp;omega]at this;exact this
theorem iK{id:J}{Q:Exit->Act->ai->ak}{a:Act}{w:ai}{l:ah Oper}(n:J)(hm:P.follows .mixedOrders=true)(b:Region.lexTailB .any l.toArray n=true)(h:wpQuiet P l.toArray (λw'=>∃ n,w'=w.drewN n) (λa'=>∀ w',(∃ n,w'=w.drewN n)->wpList P l.toArray Q (l.drop n) a' w') (l.take n) a):(Code.region id l.toArray true).wp P Q a w:=
 Yw (C:=λw'=>∃ n,w'=w.drewN n) n hm b ⟨1,rfl⟩ h
theorem Ys{F:Fence}{m:J}(d:Open F m P){id:J}{Q:Exit->Act->ai->ak}{a:Act}{w:ai}{l:ah Oper}(n:J)(hm:P.follows .mixedOrders=true)(b:Region.lexTailB .any l.toArray n=true)(c:Bu l=true)(h:wpQuiet P l.toArray (λw'=>∃ n,w'=w.drewN n) (λa'=>∀ w',(∃ n,w'=w.drewN n)->wpListIn F m P l.toArray Q (l.drop n) a' w') (l.take n) a):(Code.region id l.toArray true).wpIn F m P Q a w:=
 Yr (C:=λw'=>∃ n,w'=w.drewN n) d n hm b c ⟨1,rfl⟩ h
theorem iF{f:FuncId}{args:a6 aw}{w:ai}{a k:J}{v:aw}(h:Calls P f args (w.drewN (a+k)) λe w'=>e=.returned v/\∃ m,w'=(w.drewN (a+k)).drewN m):Calls P f args (w.drewN (a+k)) λe b=>e=.returned v/\∃ m,b=w.drewN (a+m):=
 h.mono λ_ _ ⟨c,m,hm⟩=>⟨c,k+m,by rw[hm,C7,iN]⟩
theorem mP{f:FuncId}{args:a6 aw}{w:ai}{v:aw}(h:Calls P f args w λe w'=>e=.returned v/\w=w'):Calls P f args w λe w'=>e=.returned v/\∃ m,w'=w.drewN m:=
 h.mono λ_ _ ⟨a,hm⟩=>⟨a,0,hm▸rfl⟩
end
section
variable{P:Program}{ops:a6 Oper}{md:Region.Mode}{C:ai->ak}{Q:Exit->Act->ai->ak}
def BI(o:Oper):aY:=match o.op with|.move _|.assign _|.load ..|.fieldAddr ..|.indexAddr ..|.slice ..|.binOp ..|.unOp ..|.convert ..|.extract ..|.index ..|.field ..|.nilCheck _=>true|_=>false
def nz(P:Program)(ops:a6 Oper)(C:ai->ak)(o:Oper)(v:aw)(a:Act):ak:=
 (Region.wanted o (yielded ops a.tmps)=true/\∀ w,C w->(execOp a.eval o).run P w=.ok (.value v) w\/((execOp a.eval o).run P w=.ok .skip w/\v=undef))\/
 (Region.wanted o (yielded ops a.tmps)=false/\v=undef)
theorem nz.wpOp{i:J}{o:Oper}{v:aw}{a:Act}(av:ops[i]?=some o)(c:nz P ops C o v a){K:Act->ai->ak}{w:ai}(b:C w)(h:K (a.put o.dst v) w):wpOp P ops Q i K a w:=by
 unfold Go.wpOp;simp only[av];rcases c with⟨h1,h2⟩|⟨h1,rfl⟩
 .simp only[h1,if_true];rcases h2 w b with e|⟨e,rfl⟩
  .exact .inl (by unfold Oper.wp;rw[e];exact h)
  exact .inl (by unfold Oper.wp;rw[e];exact h)
 simp only[h1,wq,if_false];exact h
def nz.of_same{o:Oper}{v:aw}{a a':Act}(d:nz P ops C o v a)(b:execOp a'.eval o=execOp a.eval o)(c:Region.wanted o (yielded ops a'.tmps)=Region.wanted o (yielded ops a.tmps)):nz P ops C o v a':=by
 unfold nz at *;rw[b,c];exact d
def Yu{j:J}{g i:Oper}{v:aw}(y:ops[j]?=some i)(t:g.apart ops i=true)(p:∀ cs b,g.op≠.select cs b)(q:∀ cs b,i.op≠.select cs b)(m:∀ c a w d u,Q (.panic c) (Act.put a d u) w->Q (.panic c) a w){K:Act->ai->ak}{a:Act}{w:ai}(s:nz P ops C g v a)(h:wpOp P ops Q j K (a.put g.dst v) w):wpOp P ops Q j (λa' w'=>nz P ops C g v a'/\K (a'.put g.dst v) w') a w:=by
 have⟨h1,h2,l⟩:=Oper.apart_spec t;have keep:∀ u,nz P ops C g v (a.put i.dst u):=λu=>s.of_same (za g p a i.dst u l) (wanted_put g a i.dst u l);unfold Go.wpOp at *;simp only[y]at *;rw[wanted_put i a g.dst v h1]at h;by_cases r:Region.wanted i (yielded ops a.tmps)=true
 .rw[aD r]at h⊢;rcases h with h|⟨bj,z⟩
  .left;unfold Oper.wp at *;rw[za i q a g.dst v h1]at h;cases o:(execOp a.eval i).run P w with
   | ok n w'=>
    rw[o]at h;cases n<;>simp only[Oper.upon]at h⊢
    case value u=>exact⟨keep u,by rw[<-ur a v u h2];exact h⟩
    case skip=>exact⟨keep _,by rw[<-ur a v undef h2];exact h⟩
    case defer d=>
     refine⟨(s.of_same (a':={a with defers:=d :: a.defers}) rfl rfl).of_same (za g p _ i.dst undef l) (wanted_put g _ i.dst undef l),?_⟩;rw[<-ur _ v undef h2,<-Act.put_defers];exact h
    case enter f args=>
     refine h.mono λe aB k=>?_;cases e with
     | returned u=>exact⟨keep u,by rw[<-ur a v u h2];exact k⟩
     | panicked c=>exact m _ _ _ _ _ k
     | outgrown=>exact k
    case row row args=>exact Rows.mono h λu aB k=>⟨keep u,by rw[<-ur a v u h2];exact k⟩
   | halt x w'=>
    rw[o]at h;cases x<;>simp only[Oper.upon]at h⊢
    case panic u=>exact m _ _ _ _ _ h
  right;exact⟨by unfold Oper.asks at *;rw[za i q a g.dst v h1]at bj;exact bj,z⟩
 rw[aA r]at h⊢;exact⟨keep _,by rw[<-ur a v undef h2];exact h⟩
def Io:Oper:={dst:=none,op:=.move (.tmp 0),type:=0,pos:="",after:=#[],guard:=none}
def eE(ops:a6 Oper)(L:ah J):ah Oper:=L.map λk=>ops[k]?.getD Io
def By{k:J}{L:ah J}{o:Oper}(h:ops[k]?=some o):eE ops (k :: L)=o :: eE ops L:=by simp[eE,h]
def NE(P:Program)(m:Sem Next):ak:=∀ w f args w',m.run P w≠.ok (.enter f args) w'
theorem NE.value(v:aw):NE P (pure (.value v)):=λ_ _ _ _ e=>by simp only[h5]at e;cases e
def NE.bind{α:Type}{s:Sem α}{g:α->Sem Next}(h:∀ x,NE P (g x)):NE P (s >>= g):=λw f args w' e=>by
 simp only[hz]at e;cases ax:s.run P w with
 | ok x aB=>rw[ax]at e;exact h x aB f args w' e
 | halt k aB=>rw[ax]at e;cases e
def NE.panic(v:aw):NE P (goPanic v:Sem Next):=λw f args w' e=>by cases e
theorem NE.nilDeref:NE P (runtimePanic .nilDeref:Sem Next):=by
 exact NE.bind λp=>NE.panic _
def T9{o:Oper}(h:BI o=true)(ρ:Operand->aw)(w w':ai)(f:FuncId)(args:a6 aw):(execOp ρ o).run P w≠.ok (.enter f args) w':=by
 suffices H:NE P (execOp ρ o)from H w f args w'
 unfold BI at h;unfold execOp
 cases b:o.op<;>rw[b]at h<;>first
  | (cases h;done)
  | exact NE.value _
  | exact NE.bind λ_=>NE.value _
  | skip
 simp only[];split
 .exact NE.nilDeref
 .exact NE.nilDeref
 .exact NE.nilDeref
 .split
  .exact NE.nilDeref
  .refine NE.bind λa=>NE.bind λy=>?_;split
   .exact NE.bind λ_=>NE.value _
   exact NE.value _
  exact NE.value _
 exact NE.value _
structure Kept(w:ai) where
 to:ai
 keeps:Keeps aG w to
instance (w:ai):Nonempty (Kept w):=⟨⟨w,Keeps.refl _ w⟩⟩
def kept{w w':ai}(h:Keeps aG w w'):∃ x:Kept w,w'=x.to:=⟨⟨w',h⟩,rfl⟩
end
section
variable{P:Program}{ops:a6 Oper}{md:Region.Mode}{C:ai->ak}{Q:Exit->Act->ai->ak}
def vV(o:Oper):aY:=BI o || (match o.op with|.call c=>(match c.callee with|.builtin .len=>true|.builtin .min=>true|.builtin .max=>true|_=>false)|.pick ..=>true|.build ..=>true|.lookup ..=>true|_=>false)
def T8{o:Oper}(h:vV o=true)(ρ:Operand->aw):NE P (execOp ρ o):=by
 unfold vV at h;rw[uq]at h;rcases h with h|h
 .exact λw f args w'=>T9 h ρ w w' f args
 unfold execOp
 cases d:o.op<;>rw[d]at h<;>first
  | (cases h;done)
  | exact NE.bind λ_=>NE.value _
  | skip
 rename_i c;obtain⟨callee,args,a⟩:=c;cases callee<;>first|(cases h;done)|skip
 rename_i b;cases b<;>first|(cases h;done)|skip
 all_goals
  simp only[resolve];intro w f g w' e;simp only[hz,h5,hg,invoke,builtin]at e
  first
   | (rcases ax:(Builtin.len_ a o.type (args.map ρ)).run P w with _|_<;>(rw[ax]at e;cases e))
   | (rcases ax:(Builtin.min_ a o.type (args.map ρ)).run P w with _|_<;>(rw[ax]at e;cases e))
   | (rcases ax:(Builtin.max_ a o.type (args.map ρ)).run P w with _|_<;>(rw[ax]at e;cases e))
def KV{i:J}{o:Oper}{a:Act}{K:Act->ak}(ar:vV o=true)(av:ops[i]?=some o)(h:qOp P ops C i K a):∃ v,nz P ops C o v a/\K (a.put o.dst v):=by
 obtain⟨v,e,hk⟩:=yieldsIn_of_qOp av h;refine⟨v,?_,hk⟩;rcases e with⟨c,aX⟩|au
 .refine .inl ⟨c,λw d=>?_⟩;have h1:=aX w d;unfold Oper.quietAt at h1;cases b:(execOp a.eval o).run P w with
  | ok x w'=>
   rw[b]at h1;cases x<;>simp only[Oper.quietUpon]at h1
   case value u=>obtain⟨rfl,rfl⟩:=h1;exact .inl rfl
   case skip=>obtain⟨rfl,rfl⟩:=h1;exact .inr ⟨rfl,rfl⟩
   case enter f args=>exact absurd b ((T8 (P:=P) ar a.eval w) f args w')
  | halt x w'=>rw[b]at h1;simp only[Oper.quietUpon]at h1
 exact .inr au
def m_(P:Program)(md:Region.Mode)(ops:a6 Oper)(C:ai->ak)(Q:Exit->Act->ai->ak)(late:J->aY)(R:a6 aY->Act->ai->ak):J->a6 aY->Act->ai->ak
 | 0,aL,a,w=>R aL a w
 | f+1,aL,a,w=>Region.ready md ops aL≠[]/\∀ i∈Region.ready md ops aL,late i=false/\wpOp P ops Q i (λa' w'=>C w'/\m_ P md ops C Q late R f (aL.setIfInBounds i true) a' w') a w
theorem yX{late:J->aY}{R:a6 aY->Act->ai->ak}{g:J}(b:∀ aL a w,R aL a w->wpAny P md ops Q g aL a w):∀ (f:J) (aL:a6 aY) (a:Act) (w:ai),m_ P md ops C Q late R f aL a w->wpAny P md ops Q (f+g) aL a w
 | 0,aL,a,w,h=>by rw[sI];exact b _ _ _ h
 | f+1,aL,a,w,h=>by
  rw[show f+1+g=(f+g)+1 by omega];exact⟨λc=>absurd c h.1,λi av=>wpOp_mono (λa' w' aR=>yX b f _ a' w' aR.2) (h.2 i av).2⟩
structure Reach(md:Region.Mode)(ops:a6 Oper)(late:J->aY)(i:J)(reach:J->aY):ak where
 next:∀ j o,ops[j]?=some o->j≠i->(∀ e∈o.after,Region.binds md e=true->reach e.on=true)->reach j=true
 early:∀ j,reach j=true->late j=false
def KF{late:J->aY}{R:a6 aY->Act->ai->ak}{i:J}{s:Oper}{v:aw}{reach:J->aY}(av:ops[i]?=some s)(G:∀ (j:J) (o:Oper) cs b,ops[j]?=some o->o.op≠.select cs b)(L:∀ c a w d u,Q (.panic c) (Act.put a d u) w->Q (.panic c) a w)(F:Reach md ops late i reach)(E:late i=false)(M:∀ aL a w,R aL a w->∀ j∈Region.ready md ops aL,late j=true):∀ (f:J) (aL:a6 aY) (a:Act) (w:ai),(∀ j,aL.getD j false=true->reach j=true)->
   (∀ j m,ops[j]?=some m->j≠i->aL.getD j true=false->(∀ e∈m.after,Region.binds md e=true->e.on≠i)->s.apart ops m=true)->
   i∈Region.ready md ops aL->nz P ops C s v a->C w->
   m_ P md ops C Q late R f (aL.setIfInBounds i true) (a.put s.dst v) w->m_ P md ops C Q late R (f+1) aL a w:=by
 have A:∀ (aL:a6 aY),(∀ j,aL.getD j false=true->reach j=true)->∀ j∈Region.ready md ops aL,j≠i->reach j=true/\late j=false:=by
  intro aL ax j n hne;have⟨_,m,q,y⟩:=k5.1 n;have h1:=F.next j m q hne (λe z aj=>ax _ (y e z aj));exact⟨h1,F.early j h1⟩
 intro f
 induction f with
 | zero=>
  intro aL a w ax _ l x r H;refine⟨λh=>zJ,λj n=>?_⟩;by_cases g:j=i
  .subst g;exact⟨E,x.wpOp av r ⟨r,H⟩⟩
  have h1:=M _ _ _ H j (uu n g);rw[(A aL ax j n g).2]at h1;cases h1
 | succ f X=>
  intro aL a w ax B l x r H;refine⟨λh=>zJ,λj n=>?_⟩;by_cases g:j=i
  .subst g;exact⟨E,x.wpOp av r ⟨r,H⟩⟩
  have⟨D,m,q,y⟩:=k5.1 n;have V:∀ e∈m.after,Region.binds md e=true->e.on≠i:=λe z aj N=>by
   have h1:=y e z aj;rw[N,getD_both ((k5.1 l).1)]at h1;cases h1
  have⟨W,S⟩:=A aL ax j n g;have h2:=Yu q (B j m q g D V) (λcs b=>G i s cs b av) (λcs b=>G j m cs b q) L x ((H.2 j (uu n g)).2);refine⟨S,wpOp_mono (λa' w' t=>⟨t.2.1,X (aL.setIfInBounds j true) a' w' (λk hk=>?_) (λk ok hk O K T=>?_) (uu l (hJ g)) t.1 t.2.1 ?_⟩) h2⟩
  .by_cases p:j=k
   .subst p;exact W
   rw[C8 false p]at hk;exact ax k hk
  .refine B k ok hk O ?_ T;by_cases p:j=k
   .subst p;exact D
   rw[C8 true p]at K;exact K
  rw[KZ _ _ g];exact t.2.2
def IY(md:Region.Mode)(ops:a6 Oper)(aL:a6 aY)(i:J):a6 aY:=
 (range ops.size).foldl (λa j=>a.push (aL.getD j false || (j != i&&(match ops[j]? with|some o=>o.after.all (λe=>!Region.binds md e || a.getD e.on false)|none=>false)))) #[]
def yt(md:Region.Mode)(ops:a6 Oper)(late:J->aY)(aL:a6 aY)(i:J)(reach:a6 aY):aY:=
 (range ops.size).all (λj=>(j == i || reach.getD j false || (match ops[j]? with|some o=>o.after.any (λe=>Region.binds md e&&!reach.getD e.on false)|none=>true))&&(!reach.getD j false || !late j)&&(!aL.getD j false || reach.getD j false))&&decide (reach.size=ops.size)&&decide (aL.size=ops.size)
def IZ{late:J->aY}{aL:a6 aY}{i:J}{reach:a6 aY}(h:yt md ops late aL i reach=true):Reach md ops late i (λj=>reach.getD j false)/\∀ j,aL.getD j false=true->reach.getD j false=true:=by
 simp only[yt,ee,gg]at h;have⟨⟨h,n⟩,m⟩:=h;rw[ff]at h;have k:∀ j,reach.getD j false=true->j<ops.size:=λj a=>by
  rcases Dw j reach.size with b|b
  .omega
  simp[lO b]at a
 refine⟨⟨λj o d hne f=>?_,λj a=>?_⟩,λj a=>?_⟩
 .have a:=(j8.1 d).1;have h1:=h j (ph.2 a);simp only[ee,uq,np,d]at h1;rcases h1.1.1 with(h2|h2)|h2
  .exact absurd h2 hne
  .exact h2
  have⟨e,g,c⟩:=KW.1 h2;simp only[ee,nd]at c
  have:=f e g c.1
  simp only[c.2]at this;cases this
 .have h1:=h j (ph.2 (k j a));simp only[ee,uq,nd]at h1;rcases h1.1.2 with h2|h2
  .rw[a]at h2;cases h2
  exact h2
 have l:j<ops.size:=by
  rcases Dw j aL.size with b|b
  .omega
  simp[lO b]at a
 have h1:=h j (ph.2 l);simp only[ee,uq,nd]at h1;rcases h1.2 with h2|h2
 .rw[a]at h2;cases h2
 exact h2
def hy(P:Program)(ops:a6 Oper)(C:ai->ak)(Q:Exit->Act->ai->ak)(R:Act->ai->ak):ah Oper->Act->ai->ak
 | [],a,w=>R a w
 | o :: rest,a,w=>if Region.wanted o (yielded ops a.tmps)then o.wp P a w (λa' w'=>C w'/\hy P ops C Q R rest a' w') Q else hy P ops C Q R rest (a.put o.dst undef) w
def tg(md:Region.Mode)(ops:a6 Oper)(late:J->aY):ah J->a6 aY->aY
 | [],aL=>(Region.ready md ops aL).all late
 | k :: T,aL=>decide (Region.ready md ops aL=[k])&&!late k&&tg md ops late T (aL.setIfInBounds k true)
def ud(md:Region.Mode)(ops:a6 Oper)(late:J->aY)(M:ah J):ah J->a6 aY->aY
 | [],aL=>tg md ops late M aL
 | k :: H,aL=>(Region.ready md ops aL).contains k&&Region.free md ops aL k&&(match ops[k]? with|some o=>vV o|none=>false)&&!late k&&yt md ops late aL k (IY md ops aL k)&&ud md ops late M H (aL.setIfInBounds k true)
def iC(aL:a6 aY)(L:ah J):a6 aY:=L.foldl (λl k=>l.setIfInBounds k true) aL
def mH(aL:a6 aY)(L:ah J)(j:J):aY:=!(aL.getD j false || L.contains j)
def uc(md:Region.Mode)(ops:a6 Oper)(H M:ah J)(aL:a6 aY):aY:=Region.noSelect ops&&ud md ops (mH aL (H++M)) M H aL
theorem KH{late:J->aY}{R:Act->ai->ak}(full:a6 aY):∀ (M:ah J) (aL:a6 aY) (a:Act) (w:ai),C w->tg md ops late M aL=true->iC aL M=full->
  hy P ops C Q R (eE ops M) a w->m_ P md ops C Q late (λl a w=>l=full/\R a w) M.length aL a w
 | [],aL,a,w,_,_,c,h=>⟨c,h⟩
 | k :: M,aL,a,w,n,f,c,h=>by
  simp only[tg,ee,gg,nd]at f;obtain⟨⟨d,m⟩,j⟩:=f;obtain⟨_,o,g,_⟩:=k5.1 (show k∈Region.ready md ops aL by rw[d];simp);rw[By g]at h;refine⟨λh1=>(by rw[d]at h1;cases h1),λi av=>?_⟩;rw[d]at av;obtain rfl:i=k:=by simpa using av
  refine⟨m,?_⟩;have key:wpOp P ops Q i (λa' w'=>C w'/\hy P ops C Q R (eE ops M) a' w') a w:=by
   unfold Go.wpOp;unfold hy at h;simp only[g];split
   .rename_i e;rw[if_pos e]at h;exact .inl h
   rename_i e;rw[if_neg e]at h;exact⟨n,h⟩
  exact wpOp_mono (λa' w' b=>⟨b.1,KH full M _ a' w' b.1 j c b.2⟩) key
theorem Fw{late:J->aY}:∀ (M:ah J) (aL:a6 aY),tg md ops late M aL=true->∀ j∈Region.ready md ops (iC aL M),late j=true
 | [],_,h,j,a=>ff.1 h j a
 | k :: M,aL,h,j,a=>by
  simp only[tg,ee]at h;exact Fw M _ h.2 j a
theorem JY{late:J->aY}{M:ah J}:∀ (H:ah J) (aL:a6 aY),ud md ops late M H aL=true->∀ j∈Region.ready md ops (iC aL (H++M)),late j=true
 | [],_,h,j,a=>Fw M _ h j a
 | k :: H,aL,h,j,a=>by
  simp only[ud,ee]at h;exact JY H _ h.2 j a
theorem KG{late:J->aY}{M:ah J}{R:Act->ai->ak}(full:a6 aY)(p:Region.noSelect ops=true)(m:∀ c a w d u,Q (.panic c) (Act.put a d u) w->Q (.panic c) a w){w:ai}(g:C w)(n:∀ j∈Region.ready md ops full,late j=true):∀ (H:ah J) (aL:a6 aY) (a:Act),ud md ops late M H aL=true->iC aL (H++M)=full->
   wpQuiet P ops C (λa'=>hy P ops C Q R (eE ops M) a' w) (eE ops H) a->m_ P md ops C Q late (λl a w=>l=full/\R a w) (H.length+M.length) aL a w
 | [],aL,a,e,f,h=>by
  rw[e2,sI];exact KH full M aL a w g e f (by simpa[eE,wpQuiet]using h)
 | k :: H,aL,a,e,f,h=>by
  simp only[ud,ee,nd]at e;obtain⟨⟨⟨⟨⟨A,s⟩,ar⟩,y⟩,B⟩,q⟩:=e;have i:k∈Region.ready md ops aL:=by simpa using A
  obtain⟨_,o,b,_⟩:=k5.1 i;rw[By b]at h;rw[b]at ar;have z:qOp P ops C k (wpQuiet P ops C (λa'=>hy P ops C Q R (eE ops M) a' w) (eE ops H)) a:=by unfold qOp;simp only[b];exact h
  obtain⟨v,D,r⟩:=KV ar b z;obtain⟨h1,h2⟩:=IZ B;rw[show(k :: H).length+M.length=(H.length+M.length)+1 by simp;omega];exact KF b (C3 p) m h1 y (λl a w x j t=>n j (by rw[<-x.1];exact t)) _ aL a w h2 (C2 b s) i D g (KG full p m g n H _ _ q f r)
def JX{aL:a6 aY}{a:Act}{w:ai}{g:J}(H M:ah J)(b:uc md ops H M aL=true)(i:C w)(f:∀ c a w d u,Q (.panic c) (Act.put a d u) w->Q (.panic c) a w)(h:wpQuiet P ops C (λa'=>hy P ops C Q (λa w=>wpAny P md ops Q g (iC aL (H++M)) a w) (eE ops M) a' w) (eE ops H) a):wpAny P md ops Q (H.length+M.length+g) aL a w:=by
 simp only[uc,ee]at b;refine yX (C:=C) (late:=mH aL (H++M)) (R:=λl a w=>l=iC aL (H++M)/\wpAny P md ops Q g (iC aL (H++M)) a w) (λl a w e=>by rw[e.1];exact e.2) _ _ _ _ ?_;exact KG (iC aL (H++M)) b.1 f i (JY H aL b.2) H aL a b.2 rfl h
def W2{id:J}{a:Act}{w:ai}{l:ah Oper}(hm:P.follows .mixedOrders=true)(n:J)(au:l.length=n)(h:wpAny P .any l.toArray Q n (Array.replicate n false) a w.drew):(Code.region id l.toArray true).wp P Q a w:=by
 subst au;exact De hm (by rw[gR];exact h)
def Ch{aL:a6 aY}{a:Act}{w:ai}(b:(Region.ready md ops aL).isEmpty=true)(h:Q .normal a w):wpAny P md ops Q 0 aL a w:=⟨by simpa using b,h⟩
structure gU(S:J->ak)(w:ai) where
 to:ai
 keeps:Keeps S w to
instance (S:J->ak)(w:ai):Nonempty (gU S w):=⟨⟨w,Keeps.refl _ w⟩⟩
def cX{S:J->ak}{w w':ai}(h:Keeps S w w'):∃ x:gU S w,w'=x.to:=⟨⟨w',h⟩,rfl⟩
def j0{S:J->ak}{w:ai}{p:Addr}{v:aw}(h:w.cell? p=some v)(ax:¬ S p.block):∀ x:gU S w,x.to.cell? p=some v:=λx=>x.keeps.cell h ax
def W1(S:J->ak){aL:a6 aY}{a:Act}{w:ai}{n:J}(H M:ah J)(g:J)(au:n=H.length+M.length+g)(b:a6 aY)(i:iC aL (H++M)=b)(e:uc md ops H M aL=true)(f:∀ c a w d u,Q (.panic c) (Act.put a d u) w->Q (.panic c) a w)(h:wpQuiet P ops (λw'=>∃ x:gU S w,w'=x.to) (λa'=>hy P ops (λw'=>∃ x:gU S w,w'=x.to) Q (λa w=>wpAny P md ops Q g b a w) (eE ops M) a' w) (eE ops H) a):wpAny P md ops Q n aL a w:=by
 subst au i;exact JX H M e (cX (Keeps.refl _ w)) f h
def hC{R:Act->ai->ak}{a:Act}{w:ai}(h:R a w):hy P ops C Q R [] a w:=h
def HQ{R:Act->ai->ak}{o:Oper}{rest:ah Oper}{a:Act}{w:ai}(b:Region.wanted o (yielded ops a.tmps)=true)(h:∀ K:Act->ai->ak,(∀ a' w',C w'->hy P ops C Q R rest a' w'->K a' w')->o.wp P a w K Q):hy P ops C Q R (o :: rest) a w:=by
 unfold hy;rw[if_pos b];exact h _ λ_ _ h1 h2=>⟨h1,h2⟩
def HR{R:Act->ai->ak}{o:Oper}{rest:ah Oper}{a:Act}{w:ai}(b:Region.wanted o (yielded ops a.tmps)=false)(h:hy P ops C Q R rest (a.put o.dst undef) w):hy P ops C Q R (o :: rest) a w:=by
 unfold hy;rw[if_neg (by rw[b];exact Bool.false_ne_true)];exact h
end
section
variable{P:Program}{ops:a6 Oper}{md:Region.Mode}{C:ai->ak}{Q:Exit->Act->ai->ak}
def sc(md:Region.Mode)(ops:a6 Oper)(late:J->aY):ah J->a6 aY->aY
 | [],_=>true
 | k :: H,aL=>(Region.ready md ops aL).contains k&&Region.free md ops aL k&&(match ops[k]? with|some o=>vV o|none=>false)&&!late k&&yt md ops late aL k (IY md ops aL k)&&sc md ops late H (aL.setIfInBounds k true)
theorem CH{late:J->aY}{m:J}{R:Act->ai->ak}(full:a6 aY)(n:Region.noSelect ops=true)(g:∀ c a w d u,Q (.panic c) (Act.put a d u) w->Q (.panic c) a w){w:ai}(p:C w)(i:∀ j∈Region.ready md ops full,late j=true):∀ (H:ah J) (aL:a6 aY) (a:Act),sc md ops late H aL=true->
   wpQuiet P ops C (λa'=>m_ P md ops C Q late (λl a w=>l=full/\R a w) m (iC aL H) a' w) (eE ops H) a->m_ P md ops C Q late (λl a w=>l=full/\R a w) (H.length+m) aL a w
 | [],aL,a,_,h=>by
  rw[e2,sI];simpa[eE,wpQuiet,iC]using h
 | k :: H,aL,a,f,h=>by
  simp only[sc,ee,nd]at f;obtain⟨⟨⟨⟨⟨A,s⟩,ar⟩,y⟩,B⟩,q⟩:=f;have e:k∈Region.ready md ops aL:=by simpa using A
  obtain⟨_,o,b,_⟩:=k5.1 e;rw[By b]at h;rw[b]at ar;have z:qOp P ops C k (wpQuiet P ops C (λa'=>m_ P md ops C Q late (λl a w=>l=full/\R a w) m (iC (aL.setIfInBounds k true) H) a' w) (eE ops H)) a:=by unfold qOp;simp only[b];exact h
  obtain⟨v,D,r⟩:=KV ar b z;obtain⟨h1,h2⟩:=IZ B;rw[show(k :: H).length+m=(H.length+m)+1 by simp;omega];exact KF b (C3 n) g h1 y (λl a w x j t=>i j (by rw[<-x.1];exact t)) _ aL a w h2 (C2 b s) e D p (CH full n g p i H _ _ q r)
def JZ(md:Region.Mode)(ops:a6 Oper)(H M:ah J)(aL full:a6 aY):aY:=
 Region.noSelect ops&&sc md ops (mH aL (H++M)) H aL&&(Region.ready md ops full).all (mH aL (H++M))&&(iC aL (H++M) == full)
def Tree(P:Program)(md:Region.Mode)(ops:a6 Oper)(S:J->ak)(bl:ai)(Q:Exit->Act->ai->ak)(l9:a6 aY)(cE:ah J)(full:a6 aY)(g m:J)(aL:a6 aY)(a:Act)(w:ai):ak:=
 m_ P md ops (λw'=>∃ x:gU S bl,w'=x.to) Q (mH l9 cE) (λl a w=>l=full/\wpAny P md ops Q g full a w) m aL a w
def W3(S:J->ak){aL:a6 aY}{a:Act}{w:ai}{n:J}(H M:ah J)(g:J)(au:n=H.length+M.length+g)(full iD:a6 aY)(hm:iC aL H=iD)(b:JZ md ops H M aL full=true)(i:∀ c a w d u,Q (.panic c) (Act.put a d u) w->Q (.panic c) a w)(h:wpQuiet P ops (λw'=>∃ x:gU S w,w'=x.to) (λa'=>Tree P md ops S w Q aL (H++M) full g M.length iD a' w) (eE ops H) a):wpAny P md ops Q n aL a w:=by
 subst au hm;simp only[JZ,ee]at b;have⟨⟨⟨o,f⟩,k⟩,p⟩:=b;refine yX (C:=λw'=>∃ x:gU S w,w'=x.to) (late:=mH aL (H++M)) (R:=λl a w=>l=full/\wpAny P md ops Q g full a w) (λl a w e=>by rw[e.1];exact e.2) _ _ _ _ ?_;exact CH full o i (cX (Keeps.refl _ w)) (λj m=>ff.1 k j m) H aL a f h
section
variable{S:J->ak}{bl:ai}{l9 full aL:a6 aY}{cE:ah J}{g m:J}{a:Act}{w:ai}
def XI(c:(aL == full)=true)(h:wpAny P md ops Q g full a w):Tree P md ops S bl Q l9 cE full g 0 aL a w:=⟨zO,h⟩
def dj(ops:a6 Oper)(k:J):Oper:=ops[k]?.getD Io
def Bx{k:J}(h:(ops[k]?).isSome=true):ops[k]?=some (dj ops k):=by
 unfold dj;cases hk:ops[k]? with
 | none=>rw[hk]at h;cases h
 | some o=>rfl
def Ct{k:J}(b:a6 aY)(c:(ops[k]?).isSome=true)(ax:aL.setIfInBounds k true=b)(d:Region.wanted (dj ops k) (yielded ops a.tmps)=true)(h:∀ K:Act->ai->ak,(∀ a' w',Keeps S bl w'->Tree P md ops S bl Q l9 cE full g m b a' w'->K a' w')->(dj ops k).wp P a w K Q):wpOp P ops Q k (λa' w'=>(∃ x:gU S bl,w'=x.to)/\Tree P md ops S bl Q l9 cE full g m (aL.setIfInBounds k true) a' w') a w:=by
 unfold Go.wpOp;simp only[Bx c];rw[if_pos d,ax];exact .inl (h _ λ_ _ h1 h2=>⟨cX h1,h2⟩)
def sl(k:J)(c:a6 aY)(f:(Region.ready md ops aL == [k])=true)(d:mH l9 cE k=false)(e:(ops[k]?).isSome=true)(ax:aL.setIfInBounds k true=c)(j:Region.wanted (dj ops k) (yielded ops a.tmps)=true)(h:∀ K:Act->ai->ak,(∀ a' w',Keeps S bl w'->Tree P md ops S bl Q l9 cE full g m c a' w'->K a' w')->(dj ops k).wp P a w K Q):Tree P md ops S bl Q l9 cE full g (m+1) aL a w:=by
 have b:Region.ready md ops aL=[k]:=by simpa using f
 refine⟨w1,λi av=>?_⟩;rw[b]at av;obtain rfl:i=k:=by simpa using av
 exact⟨d,Ct c e ax j h⟩
def Cu(k j:J)(c d:a6 aY)(n:(Region.ready md ops aL == [k,j])=true)(e:mH l9 cE k=false)(f:mH l9 cE j=false)(l:(ops[k]?).isSome=true)(ar:(ops[j]?).isSome=true)(ax:aL.setIfInBounds k true=c)(o:aL.setIfInBounds j true=d)(p:Region.wanted (dj ops k) (yielded ops a.tmps)=true)(q:Region.wanted (dj ops j) (yielded ops a.tmps)=true)(h:∀ K:Act->ai->ak,(∀ a' w',Keeps S bl w'->Tree P md ops S bl Q l9 cE full g m c a' w'->K a' w')->(dj ops k).wp P a w K Q)(h2:∀ K:Act->ai->ak,(∀ a' w',Keeps S bl w'->Tree P md ops S bl Q l9 cE full g m d a' w'->K a' w')->(dj ops j).wp P a w K Q):Tree P md ops S bl Q l9 cE full g (m+1) aL a w:=by
 have b:Region.ready md ops aL=[k,j]:=by simpa using n
 refine⟨w1,λi av=>?_⟩;rw[b]at av;rcases e3.1 av with rfl|av
 .exact⟨e,Ct c l ax p h⟩
 obtain rfl:i=j:=by simpa using av
 exact⟨f,Ct d ar o q h2⟩
end
end
section
variable{P:Program}{ops:a6 Oper}{md:Region.Mode}{Q:Exit->Act->ai->ak}
structure bp(F:ai->ak) where
 to:ai
 held:F to
def jD{F:ai->ak}{w:ai}(h:F w):∃ x:bp F,w=x.to:=⟨⟨w,h⟩,rfl⟩
def ue(F:ai->ak){aL:a6 aY}{a:Act}{w:ai}{n:J}(j:F w)(H M:ah J)(g:J)(au:n=H.length+M.length+g)(b:a6 aY)(i:iC aL (H++M)=b)(e:uc md ops H M aL=true)(f:∀ c a w d u,Q (.panic c) (Act.put a d u) w->Q (.panic c) a w)[Nonempty (bp F)](h:wpQuiet P ops (λw'=>∃ x:bp F,w'=x.to) (λa'=>hy P ops (λw'=>∃ x:bp F,w'=x.to) Q (λa w=>wpAny P md ops Q g b a w) (eE ops M) a' w) (eE ops H) a):wpAny P md ops Q n aL a w:=by
 subst au i;exact JX H M e (jD j) f h
def ew(P:Program)(md:Region.Mode)(ops:a6 Oper)(F:ai->ak)(Q:Exit->Act->ai->ak)(late:J->aY)(full:a6 aY)(g m:J)(aL:a6 aY)(a:Act)(w:ai):ak:=
 m_ P md ops (λw'=>∃ x:bp F,w'=x.to) Q late (λl a w=>l=full/\wpAny P md ops Q g full a w) m aL a w
variable{F:ai->ak}{late:J->aY}{aL full:a6 aY}{g m:J}{a:Act}{w:ai}
def Ry(F:ai->ak)(L:ah J)(g:J){n:J}(m:J)(au:n=m+g)(full:a6 aY)(h:ew P md ops F Q (mH aL L) full g m aL a w):wpAny P md ops Q n aL a w:=by
 subst au;exact yX (C:=λw'=>∃ x:bp F,w'=x.to) (late:=mH aL L) (R:=λl a w=>l=full/\wpAny P md ops Q g full a w) (λl a w b=>by rw[b.1];exact b.2) _ _ _ _ h
def Rw(o:F w)(H:ah J)(k:J)(hk:H.length=k)(iD:a6 aY)(hm:iC aL H=iD)(b:(Region.noSelect ops&&sc md ops late H aL&&(Region.ready md ops full).all late)=true)(f:∀ c a w d u,Q (.panic c) (Act.put a d u) w->Q (.panic c) a w)(h:wpQuiet P ops (λw'=>∃ x:bp F,w'=x.to) (λa'=>ew P md ops F Q late full g m iD a' w) (eE ops H) a):ew P md ops F Q late full g (k+m) aL a w:=by
 subst hm hk;simp only[ee]at b;have⟨⟨n,e⟩,i⟩:=b;exact CH full n f (jD o) (λj l=>ff.1 i j l) H aL a e h
def Rx(k:J)(c:a6 aY)(f:(Region.ready md ops aL == [k])=true)(d:late k=false)(e:(ops[k]?).isSome=true)(ax:aL.setIfInBounds k true=c)(j:Region.wanted (dj ops k) (yielded ops a.tmps)=true)(h:∀ K:Act->ai->ak,(∀ a' w',F w'->ew P md ops F Q late full g m c a' w'->K a' w')->(dj ops k).wp P a w K Q):ew P md ops F Q late full g (m+1) aL a w:=by
 have b:Region.ready md ops aL=[k]:=by simpa using f
 refine⟨w1,λi av=>?_⟩;rw[b]at av;obtain rfl:i=k:=by simpa using av
 refine⟨d,?_⟩;unfold Go.wpOp;simp only[Bx e];rw[aD j,ax];exact .inl (h _ λ_ _ h1 h2=>⟨jD h1,h2⟩)
def vE{k:J}(b:a6 aY)(c:late k=false)(d:(ops[k]?).isSome=true)(ax:aL.setIfInBounds k true=b)(e:Region.wanted (dj ops k) (yielded ops a.tmps)=true)(h:∀ K:Act->ai->ak,(∀ a' w',F w'->ew P md ops F Q late full g m b a' w'->K a' w')->(dj ops k).wp P a w K Q):late k=false/\wpOp P ops Q k (λa' w'=>(∃ x:bp F,w'=x.to)/\m_ P md ops (λw'=>∃ x:bp F,w'=x.to) Q late (λl a w=>l=full/\wpAny P md ops Q g full a w) m (aL.setIfInBounds k true) a' w') a w:=by
 refine⟨c,?_⟩;unfold Go.wpOp;simp only[Bx d];rw[aD e,ax];exact .inl (h _ λ_ _ h1 h2=>⟨jD h1,h2⟩)
def rQ(k j:J)(c d:a6 aY)(n:(Region.ready md ops aL == [k,j])=true)(e:late k=false)(f:late j=false)(l:(ops[k]?).isSome=true)(ar:(ops[j]?).isSome=true)(ax:aL.setIfInBounds k true=c)(o:aL.setIfInBounds j true=d)(p:Region.wanted (dj ops k) (yielded ops a.tmps)=true)(q:Region.wanted (dj ops j) (yielded ops a.tmps)=true)(h:∀ K:Act->ai->ak,(∀ a' w',F w'->ew P md ops F Q late full g m c a' w'->K a' w')->(dj ops k).wp P a w K Q)(h2:∀ K:Act->ai->ak,(∀ a' w',F w'->ew P md ops F Q late full g m d a' w'->K a' w')->(dj ops j).wp P a w K Q):ew P md ops F Q late full g (m+1) aL a w:=by
 have b:Region.ready md ops aL=[k,j]:=by simpa using n
 refine⟨w1,λi av=>?_⟩;rw[b]at av;rcases e3.1 av with rfl|av
 .exact vE c e l ax p h
 obtain rfl:i=j:=by simpa using av
 exact vE d f ar o q h2
def Bf(c:(aL == full)=true)(h:wpAny P md ops Q g full a w):ew P md ops F Q late full g 0 aL a w:=⟨zO,h⟩
def p5{o:Oper}{a:Act}{K:Act->ai->ak}{w w':ai}{v:aw}{T:TypeId}(b:o.op=.alloc T)(hrun:(Instr.alloc T true (aV #[])).run P w=.ok v w')(h:K (a.put o.dst v) w'):o.wp P a w K Q:=by
 unfold Oper.wp execOp;simp only[b,hz,hrun,hg,h5];exact h
end
section
variable{P:Program}{ops:a6 Oper}{md:Region.Mode}{Q:Exit->Act->ai->ak}{aL:a6 aY}{a:Act}{w:ai}
def cB(n:J){id:J}{l:ah Oper}(h:wpAny P .any l.toArray Q n (Array.replicate n false) a w.drew)(hm:P.follows .mixedOrders=true:=by kernel_rfl)(au:l.length=n:=by rfl):(Code.region id l.toArray true).wp P Q a w:=W2 hm n au h
def ih(h:Q .normal a w)(b:(Region.ready md ops aL).isEmpty=true:=by kernel_rfl):wpAny P md ops Q 0 aL a w:=Ch b h
def oS(S:J->ak)(H M:ah J)(g:J){n:J}{X Y:ah Oper}(h:wpQuiet P ops (λw'=>∃ x:gU S w,w'=x.to) (λa'=>hy P ops (λw'=>∃ x:gU S w,w'=x.to) Q (λa w=>wpAny P md ops Q g (iC aL (H++M)) a w) Y a' w) X a)(au:n=H.length+M.length+g:=by rfl)(b:uc md ops H M aL=true:=by kernel_rfl)(e:∀ c a w d u,Q (.panic c) (Act.put a d u) w->Q (.panic c) a w:=by intro _ _ _ d _ h;first|(cases d<;>exact h)|cases h.1)(f:eE ops H=X:=by simp only[eE,range,range.loop,jo,k6,jN,kv,jM,hK]<;>rfl)(i:eE ops M=Y:=by simp only[eE,range,range.loop,jo,k6,jN,kv,jM,hK]<;>rfl):wpAny P md ops Q n aL a w:=by
 subst f i;exact W1 S H M g au _ rfl b e h
theorem yq{C:ai->ak}{K:Act->ak}{A:Act}(hk:K A):∀ (L:ah Oper) (a:Act),wpQuiet P ops C (λa'=>a'=A) L a->wpQuiet P ops C K L a
 | [],_,h=>by
  have h:_=A:=h;subst h;exact hk
 | o :: L,a,h=>by
  unfold wpQuiet at h⊢;split
  .rename_i b;rw[if_pos b]at h;exact Oper.quiet_mono (λa=>yq hk L a) h
  rename_i b;rw[if_neg b]at h;exact yq hk L _ h
theorem fk(S:J->ak)(H M:ah J)(g:J){n:J}{X Y:ah Oper}{A:Act}(k:hy P ops (λw'=>∃ x:gU S w,w'=x.to) Q (λa w=>wpAny P md ops Q g (iC aL (H++M)) a w) Y A w)(au:n=H.length+M.length+g:=by rfl)(b:uc md ops H M aL=true:=by kernel_rfl)(e:∀ c a w d u,Q (.panic c) (Act.put a d u) w->Q (.panic c) a w:=by intro _ _ _ d _ h;first|(cases d<;>exact h)|cases h.1)(f:eE ops H=X:=by simp only[eE,range,range.loop,jo,k6,jN,kv,jM,hK]<;>rfl)(i:eE ops M=Y:=by simp only[eE,range,range.loop,jo,k6,jN,kv,jM,hK]<;>rfl)(j:wpQuiet P ops (λw'=>∃ x:gU S w,w'=x.to) (λa'=>a'=A) X a:=by(repeat (go_big_quiet_step (fail)));refine wpQuiet_nil ?_;exact rfl):wpAny P md ops Q n aL a w:=
 oS S H M g (yq k _ _ j) au b e f i
def f_{C:ai->ak}{R:Act->ai->ak}{o:Oper}{rest:ah Oper}(h:∀ K:Act->ai->ak,(∀ a' w',C w'->hy P ops C Q R rest a' w'->K a' w')->o.wp P a w K Q)(b:Region.wanted o (yielded ops a.tmps)=true:=by first|rfl|simp[go_sem]):hy P ops C Q R (o :: rest) a w:=HQ b h
def km{C:ai->ak}{R:Act->ai->ak}{o:Oper}(h:∀ K:Act->ai->ak,(∀ a' w',C w'->R a' w'->K a' w')->o.wp P a w K Q)(c:Region.wanted o (yielded ops a.tmps)=true:=by first|rfl|simp[go_sem]):hy P ops C Q R [o] a w:=HQ c λK b=>h K λa' w' h1 h2=>b a' w' h1 (hC h2)
def cC(F:ai->ak)(L:ah J)(g m:J){n:J}(h:ew P md ops F Q (mH aL L) (iC aL L) g m aL a w)(au:n=m+g:=by rfl):wpAny P md ops Q n aL a w:=Ry F L g m au _ h
variable{F:ai->ak}{late:J->aY}{full:a6 aY}{g m:J}
def pM(b:F w)(H:ah J)(m:J){n:J}{X:ah Oper}(h:Nonempty (bp F)->wpQuiet P ops (λw'=>∃ x:bp F,w'=x.to) (λa'=>ew P md ops F Q late full g m (iC aL H) a' w) X a)(au:n=H.length+m:=by rfl)(e:(Region.noSelect ops&&sc md ops late H aL&&(Region.ready md ops full).all late)=true:=by kernel_rfl)(f:∀ c a w d u,Q (.panic c) (Act.put a d u) w->Q (.panic c) a w:=by intro _ _ _ d _ h;first|(cases d<;>exact h)|cases h.1)(i:eE ops H=X:=by simp only[eE,range,range.loop,jo,k6,jN,kv,jM,hK]<;>rfl):ew P md ops F Q late full g n aL a w:=by
 subst i au;exact Rw (m:=m) b H _ rfl _ rfl e f (h ⟨⟨_,b⟩⟩)
theorem de(e:F w)(H:ah J)(m:J){n:J}{X:ah Oper}{A:Act}(k:ew P md ops F Q late full g m (iC aL H) A w)(au:n=H.length+m:=by rfl)(b:(Region.noSelect ops&&sc md ops late H aL&&(Region.ready md ops full).all late)=true:=by kernel_rfl)(f:∀ c a w d u,Q (.panic c) (Act.put a d u) w->Q (.panic c) a w:=by intro _ _ _ d _ h;first|(cases d<;>exact h)|cases h.1)(i:eE ops H=X:=by simp only[eE,range,range.loop,jo,k6,jN,kv,jM,hK]<;>rfl)(j:Nonempty (bp F)->wpQuiet P ops (λw'=>∃ x:bp F,w'=x.to) (λa'=>a'=A) X a:=by intro hne;(repeat (go_big_quiet_step (fail)));refine wpQuiet_nil ?_;exact rfl):ew P md ops F Q late full g n aL a w:=
 pM e H m (λhne=>yq k _ _ (j hne)) au b f i
def dC(k:J){o:Oper}(h:∀ K:Act->ai->ak,(∀ a' w',F w'->ew P md ops F Q late full g m (aL.setIfInBounds k true) a' w'->K a' w')->o.wp P a w K Q)(d:(Region.ready md ops aL == [k])=true:=by kernel_rfl)(b:late k=false:=by kernel_rfl)(ax:(ops[k]?).isSome=true:=by kernel_rfl)(c:dj ops k=o:=by simp only[dj,jN,kv,jM,hK]<;>rfl)(e:Region.wanted o (yielded ops a.tmps)=true:=by first|rfl|simp[go_sem]):ew P md ops F Q late full g (m+1) aL a w:=by
 subst c;exact Rx k _ d b ax rfl e h
theorem jg(k:J){o:Oper}(h:∀ K:Act->ai->ak,(∀ a' w',F w'->wpAny P md ops Q g full a' w'->K a' w')->o.wp P a w K Q)(f:(Region.ready md ops aL == [k])=true:=by kernel_rfl)(d:late k=false:=by kernel_rfl)(ax:(ops[k]?).isSome=true:=by kernel_rfl)(e:dj ops k=o:=by simp only[dj,jN,kv,jM,hK]<;>rfl)(i:Region.wanted o (yielded ops a.tmps)=true:=by first|rfl|simp[go_sem])(c:(aL.setIfInBounds k true == full)=true:=by kernel_rfl):ew P md ops F Q late full g 1 aL a w:=
 dC k (λK b=>h K λa' w' h1 h2=>b a' w' h1 (Bf c h2)) f d ax e i
theorem kn(k:J){o:Oper}(h:∀ K:Act->ai->ak,(∀ a' w',F w'->Q .normal a' w'->K a' w')->o.wp P a w K Q)(f:(Region.ready md ops aL == [k])=true:=by kernel_rfl)(d:late k=false:=by kernel_rfl)(ax:(ops[k]?).isSome=true:=by kernel_rfl)(e:dj ops k=o:=by simp only[dj,jN,kv,jM,hK]<;>rfl)(g:Region.wanted o (yielded ops a.tmps)=true:=by first|rfl|simp[go_sem])(c:(aL.setIfInBounds k true == full)=true:=by kernel_rfl)(i:(Region.ready md ops full).isEmpty=true:=by kernel_rfl):ew P md ops F Q late full 0 1 aL a w:=
 jg k (λK b=>h K λa' w' h1 h2=>b a' w' h1 (Ch i h2)) f d ax e g c
def lq(h:wpAny P md ops Q g full a w)(b:(aL == full)=true:=by kernel_rfl):ew P md ops F Q late full g 0 aL a w:=Bf b h
def mL(h:Q .normal a w)(b:(aL == full)=true:=by kernel_rfl)(c:(Region.ready md ops full).isEmpty=true:=by kernel_rfl):ew P md ops F Q late full 0 0 aL a w:=Bf b (Ch c h)
end
def ie{S:J->ak}{w:ai}{b:J}{bQ us:a6 aw}{t:TypeId}(h:w.heap[b]?=some (.cells bQ t (0,0)))(ax:¬ S b)(e:bQ=us:=by first|exact(rfl:_=#[_])|exact(rfl:_=#[_,_])|exact(rfl:_=#[_,_,_])|exact(rfl:_=#[_,_,_,_])|exact(rfl:_=#[_,_,_,_,_])|exact(rfl:_=#[_,_,_,_,_,_])|exact(rfl:_=#[_,_,_,_,_,_,_])|exact(rfl:_=#[_,_,_,_,_,_,_,_])|exact(rfl:_=#[_,_,_,_,_,_,_,_,_])|exact(rfl:_=#[_,_,_,_,_,_,_,_,_,_])|exact(rfl:_=#[_,_,_,_,_,_,_,_,_,_,_])|exact(rfl:_=#[_,_,_,_,_,_,_,_,_,_,_,_])|exact(rfl:_=#[_,_,_,_,_,_,_,_,_,_,_,_,_])|exact(rfl:_=#[_,_,_,_,_,_,_,_,_,_,_,_,_,_])|exact(rfl:_=#[_,_,_,_,_,_,_,_,_,_,_,_,_,_,_])|exact(rfl:_=#[_,_,_,_,_,_,_,_,_,_,_,_,_,_,_,_])):∀ x:gU S w,∀ k,x.to.cell? ⟨b,k,none⟩=us[k]?:=λx=>aP (x.keeps.heap h ax) e
section
variable{P:Program}{ops:a6 Oper}{md:Region.Mode}{Q:Exit->Act->ai->ak}{aL:a6 aY}{a A:Act}{w W:ai}{f:FuncId}{rv:a6 aw}{R:ai->ak}{v:Ending}{o:Oper}
section
variable{F:ai->ak}{late:J->aY}{full:a6 aY}{g m:J}(k:J)
theorem gZ(b:F W)(h:ew P md ops F Q late full g m (aL.setIfInBounds k true) A W)(f:(Region.ready md ops aL == [k])=true:=by kernel_rfl)(d:late k=false:=by kernel_rfl)(ax:(ops[k]?).isSome=true:=by kernel_rfl)(e:dj ops k=o:=by simp only[dj,jN,kv,jM,hK]<;>rfl)(i:Region.wanted o (yielded ops a.tmps)=true:=by first|rfl|simp[go_sem])(j:∀ K:Act->ai->ak,K A W->o.wp P a w K Q:=by intro K h;go_simp;exact h):ew P md ops F Q late full g (m+1) aL a w:=dC k (λK c=>j K (c _ _ b h)) f d ax e i
theorem qL(b:F W)(j:∀ {K:Act->ai->ak},K A W->o.wp P a w K Q)(h:ew P md ops F Q late full g m (aL.setIfInBounds k true) A W)(f:(Region.ready md ops aL == [k])=true:=by kernel_rfl)(d:late k=false:=by kernel_rfl)(ax:(ops[k]?).isSome=true:=by kernel_rfl)(e:dj ops k=o:=by simp only[dj,jN,kv,jM,hK]<;>rfl)(i:Region.wanted o (yielded ops a.tmps)=true:=by first|rfl|simp[go_sem]):ew P md ops F Q late full g (m+1) aL a w:=dC k (λK c=>j (c _ _ b h)) f d ax e i
theorem hX(b:F W)(h:Q .normal A W)(g:(Region.ready md ops aL == [k])=true:=by kernel_rfl)(e:late k=false:=by kernel_rfl)(ax:(ops[k]?).isSome=true:=by kernel_rfl)(f:dj ops k=o:=by simp only[dj,jN,kv,jM,hK]<;>rfl)(i:Region.wanted o (yielded ops a.tmps)=true:=by first|rfl|simp[go_sem])(d:(aL.setIfInBounds k true == full)=true:=by kernel_rfl)(l:(Region.ready md ops full).isEmpty=true:=by kernel_rfl)(j:∀ K:Act->ai->ak,K A W->o.wp P a w K Q:=by intro K h;go_simp;exact h):ew P md ops F Q late full 0 1 aL a w:=kn k (λK c=>j K (c _ _ b h)) g e ax f i d l
theorem oW(b:F W)(j:∀ {K:Act->ai->ak},K A W->o.wp P a w K Q)(h:Q .normal A W)(g:(Region.ready md ops aL == [k])=true:=by kernel_rfl)(e:late k=false:=by kernel_rfl)(ax:(ops[k]?).isSome=true:=by kernel_rfl)(f:dj ops k=o:=by simp only[dj,jN,kv,jM,hK]<;>rfl)(i:Region.wanted o (yielded ops a.tmps)=true:=by first|rfl|simp[go_sem])(d:(aL.setIfInBounds k true == full)=true:=by kernel_rfl)(l:(Region.ready md ops full).isEmpty=true:=by kernel_rfl):ew P md ops F Q late full 0 1 aL a w:=kn k (λK c=>j (c _ _ b h)) g e ax f i d l
end
variable{C:ai->ak}{Z:Act->ai->ak}{rest:ah Oper}
def ig(aU:C W)(h:hy P ops C Q Z rest A W)(c:Region.wanted o (yielded ops a.tmps)=true:=by first|rfl|simp[go_sem])(d:∀ K:Act->ai->ak,K A W->o.wp P a w K Q:=by intro K h;go_simp;exact h):hy P ops C Q Z (o :: rest) a w:=f_ (λK b=>d K (b _ _ aU h)) c
def nM(aU:C W)(h:Z A W)(b:Region.wanted o (yielded ops a.tmps)=true:=by first|rfl|simp[go_sem])(c:∀ K:Act->ai->ak,K A W->o.wp P a w K Q:=by intro K h;go_simp;exact h):hy P ops C Q Z [o] a w:=ig aU (hC h) b c
end
def jc{p:ak}(h:p:=by first|rfl|simp[results,go_sem]):p:=h
end Go.Proofs.YtalagblioepadaaGreatDoor
