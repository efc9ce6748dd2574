/- The proof, part 8. -/
import Derived.Test.YtalagblioepadaaGreatDoorZe01
import Derived.StillTail
import Derived.OrdersIn
import Derived.RangeFuncCalls
namespace Go.Proofs.YtalagblioepadaaGreatDoor
set_option linter.all false
open List Go.RowKit
set_option maxRecDepth 100000
variable{ww:Prop}
def zI(h:ww:=by rw[b];simp):=h
def C7(h:ww:=by simpa using c):=h
variable{K:Act->ae}{la:Act->aj->ae}{args:a6 ay}{Q':Exit->Act->aj->ae}{X Y l:ai Oper}{i id n:J}{iH:Oper}{w':aj}
section
variable{P:Program}{ops:a6 Oper}{md:Region.Mode}{C:aj->ae}
def uN(P:Program)(md:Region.Mode)(ops:a6 Oper)(C:aj->ae)(n:J)(L:a6 aY->Act->ae):J->a6 aY->Act->ae
 | 0,aI,a=>L aI a
 | f+1,aI,a=>Region.ready md ops aI≠[]/\∀ i∈Region.ready md ops aI,i<n/\qOp P ops C i (uN P md ops C n L f (aI.setIfInBounds i true)) a
def ai1{v:ay}{L:a6 aY->Act->ae}(av:ops[i]?=some iH)(u:∀ (j:J) (o:Oper) cs b,ops[j]?=some o->o.op≠.select cs b)(aA:Region.sinkB md ops n=true)(an:Region.chainB md ops n=true)(aw:n<ops.size)(K:i<n)(z:∀ aI a,L aI a->∀ j∈Region.ready md ops aI,n<=j):∀ (f:J) (aI:a6 aY) (a:Act),HeadInv md ops n aI->
   (∀ j d,ops[j]?=some d->j≠i->aI.getD j true=false->(∀ e∈d.after,Region.binds md e=true->e.on≠i)->iH.apart ops d=true)->
   i∈Region.ready md ops aI->YieldsIn P ops C iH v a->
   uN P md ops C n L f (aI.setIfInBounds i true) (a.put iH.dst v)->uN P md ops C n L (f+1) aI a:=by
 intro f
 induction f with
 | zero=>
  intro aI a inv _ l a8 H;refine Ry;by_cases c:j=i
  .subst c;exact a8.qOp av H
  have:=z _ _ H j (xb g c)
  omega
 | succ f G=>
  intro aI a inv q l a8 H;refine Ry;by_cases c:j=i
  .subst c;exact a8.qOp av H
  have h1:=(H.2 j (xb g c)).2;have⟨s,d,h,y⟩:=n4.1 g;have F:∀ e∈d.after,Region.binds md e=true->e.on≠i:=λe A al B=>by
   have h1:=y e A al;rw[B,getD_both m]at h1;cases h1
  have x:∀ k ok,ops[k]?=some ok->k≠i->(aI.setIfInBounds j true).getD k true=false->
    (∀ e∈ok.after,Region.binds md e=true->e.on≠i)->iH.apart ops ok=true:=λk ok hk D m E=>by
   refine q k ok hk D ?_ E;by_cases r:j=k
   .subst r;exact s
   rw[Hn true r]at m;exact m
  refine qOp_mono (λa' p=>G (aI.setIfInBounds j true) a' (inv.set g w) x (xb l (h4 c)) p.1 ?_) (qOp_put h (q j d h c s F) (λcs b=>u i iH cs b av) (λcs b=>u j d cs b h) a8 h1);rw[Qm _ _ c];exact p.2
theorem P2{n g:J}{d:Act->ae}(p:Region.noSelect ops=true)(aA:Region.sinkB md ops n=true)(an:Region.chainB md ops n=true)(aw:n<ops.size):∀ (l:ai Oper) (k:J) (aI:a6 aY) (a:Act),(∀ j,j<l.length->l[j]?=ops[k+j]?)->k+l.length=n->HeadInv md ops n aI->
  Region.lexHead md ops g l.length k aI=true->wpQuiet P ops C d l a->
  uN P md ops C n (λf a'=>Region.seqB md ops g n f=true/\d a') l.length aI a
 | [],k,aI,a,_,hk,_,c,h=>by
  have:k=n:=by simpa using hk
  subst this;exact⟨by simpa[Region.lexHead]using c,h⟩
 | o :: l,k,aI,a,m,hk,inv,c,h=>by
  have b:ops[k]?=some o:=by simpa using(m 0 aM).symm
  simp only[eA,Region.lexHead,e9]at c;obtain⟨⟨u,t⟩,q⟩:=c;have i:k<n:=by simp only[eA]at hk;omega
  have e:k∈Region.ready md ops aI:=by simpa using u
  have w:qOp P ops C k (wpQuiet P ops C d l) a:=by unfold qOp;simp only[b];exact h
  obtain⟨v,a8,r⟩:=yieldsIn_of_qOp b w
  exact ai1 b (Hi p) aA an aw i (λf a' s=>seqB_ready s.1) l.length aI a inv (Hh b t) e a8
   (P2 p aA an aw l (k+1) _ _ (λj x=>by have:=m (j+1) b_;simpa[jZ,r4 1 j]using this) (by simp only[eA]at hk;omega) (inv.set e i) q r)
def Mp{a:Act}{c:Act->ae}(d:Region.lexTailB .any l.toArray n=true)(h:wpQuiet P l.toArray C c (l.take n) a):n<l.length/\uN P .any l.toArray C n (λm a'=>Region.seqB .any l.toArray (l.drop n).length n m=true/\c a') n (Array.replicate l.toArray.size false) a:=by
 simp only[Region.lexTailB,e9,hf]at d;have⟨⟨⟨⟨q,aw⟩,aA⟩,an⟩,p⟩:=d;have k:n<l.length:=by simpa using aw
 have b:(l.take n).length=n:=b_;have o:(l.drop n).length=l.toArray.size-n:=aM
 have r:HeadInv .any l.toArray n (Array.replicate l.toArray.size false):=
  ⟨aM,λj s _ f=>(by rw[getD_replicate_false]at f;cases f),λt _ aW=>getD_in (by simpa using aW) (getD_replicate_false _ _)⟩
 have H:=P2 (md:=.any) (g:=l.toArray.size-n) q aA an aw (l.take n) 0 _ a (λj e=>by
  have i:j<n:=by rw[b]at e;exact e
  simp[i]) (by simpa using b) r (by rw[b];exact p) h
 rw[b]at H;rw[o];exact⟨k,H⟩
theorem P8{n g:J}{L:a6 aY->Act->ae}{Q':Exit->Act->aj->ae}(c:∀ aI a w,C w->L aI a->wpAny P md ops Q' g aI a w):∀ (f:J) (aI:a6 aY) (a:Act) (w:aj),C w->uN P md ops C n L f aI a->wpAny P md ops Q' (f+g) aI a w
 | 0,aI,a,w,b,h=>by rw[vc];exact c _ _ _ b h
 | f+1,aI,a,w,b,h=>by
  rw[show f+1+g=(f+g)+1 by omega];exact⟨λj=>absurd j h.1,λi av=>wpOp_of_qOp b (λa' w' e d=>P8 c f _ a' w' e d) (h.2 i av).2⟩
def ai_{Q:Exit->Act->aj->ae}{a:Act}{w:aj}(n:J)(hm:P.follows .mixedOrders=true)(d:Region.lexTailB .any l.toArray n=true)(aU:C {w with drawn:=w.drawn+1})(h:wpQuiet P l.toArray C (λa'=>∀ w',C w'->wpList P l.toArray Q (l.drop n) a' w') (l.take n) a):(Code.region id l.toArray true).wp P Q a w:=by
 have⟨aw,H⟩:=Mp d h;refine Hu hm ?_
 have:=P8 (Q':=Q) (g:=(l.drop n).length) (λaI a' w' c b=>wpAny_of_seq (md:=.any) (Q':=Q) (l.drop n) n aI a' w' (λj=>by simp[zm]) b.1 (b.2 w' c)) _ _ _ _ aU H
 rw[show n+(l.drop n).length=l.toArray.size by simp;omega]at this;exact this
structure Open(F:Fence)(m:J)(P:Program):ae where
 fn:∀ f,F.fn f
 depth:F.depth=none
 call:∀ {f args w R},Calls P f args w R->CallsIn F (m-1) P f args w R
def adz(m:J)(P:Program):Open Fence.wide m P:=⟨λ_=>trivial,rfl,λh=>h0.2 h⟩
def FB(l:ai Oper):aY:=l.all λo=>match o.op with|.defer _=>false|_=>true
def ads(h:FB l=true){o:Oper}(av:l.toArray[i]?=some o)(c:Call):o.op≠.defer c:=by
 intro e;have hm:o∈l:=by
  have:l[i]?=some o:=by simpa using av
  exact mK this
 have:=fJ.1 h o hm
 rw[e]at this;cases this
def ai2{F:Fence}{m:J}(g:Open F m P){o:Oper}{a:Act}{w:aj}(l:o.semAt F.round a.eval=execOp a.eval o)(i:C w)(h:∀ a w',C w'->K a->la a w')(aT:o.quiet P a C K):o.wpIn F m P a w la Q':=by
 have⟨v,h1,h2⟩:=aT;have b:=h1 w i;unfold Oper.quietAt at b;refine⟨λf _=>g.fn f,?_⟩;rw[l];generalize (execOp a.eval o).run P w=r at *;cases r with
 | ok x w'=>
  cases x<;>simp only[Oper.quietUpon]at b<;>simp only[Oper.uponIn]
  case value u=>
   have⟨c,d⟩:=b;rw[c,d];exact h _ _ i h2
  case skip=>
   have⟨c,d⟩:=b;rw[c,<-d];exact h _ _ i h2
  case enter f args=>
   obtain⟨c,an⟩:=b;rw[c];refine⟨(λhd=>by rw[g.depth]at hd;cases hd),CallsIn.mono (g.call an) λe n k=>?_⟩;obtain⟨rfl,j⟩:=k;exact h _ _ j h2
 | halt x w'=>simp only[Oper.quietUpon]at b
def ai6{F:Fence}{m:J}(d:Open F m P){a:Act}{w:aj}(e:∀ (o:Oper) (c:Call),ops[i]?=some o->o.op≠Op.defer c)(aU:C w)(h:∀ a w',C w'->K a->la a w')(aT:qOp P ops C i K a):wpOpIn F m P ops Q' i la a w:=by
 unfold qOp at aT;unfold wpOpIn;split
 .rename_i ar;simp only[ar]at aT;exact h _ _ aU aT
 rename_i o ar;simp only[ar]at aT;split
 .rename_i b;simp only[b,if_true]at aT;exact ai2 d (Oper.semAt_eq _ _ _ λc=>e o c ar) aU h aT
 rename_i b;simp only[b]at aT;exact⟨λf _=>d.fn f,h _ _ aU aT⟩
theorem P3{F:Fence}{m:J}(d:Open F m P)(j:∀ (i:J) (o:Oper) (c:Call),ops[i]?=some o->o.op≠Op.defer c){n g:J}{L:a6 aY->Act->ae}{Q':Exit->Act->aj->ae}(e:∀ aI a w,C w->L aI a->wpAnyIn F m P md ops Q' g aI a w):∀ (f:J) (aI:a6 aY) (a:Act) (w:aj),C w->uN P md ops C n L f aI a->wpAnyIn F m P md ops Q' (f+g) aI a w
 | 0,aI,a,w,b,h=>by rw[vc];exact e _ _ _ b h
 | f+1,aI,a,w,b,h=>by
  rw[show f+1+g=(f+g)+1 by omega];exact⟨λp=>absurd p h.1,λi av=>ai6 d (j i) b (λa' w' l k=>P3 d j e f _ a' w' l k) (h.2 i av).2⟩
theorem P4{F:Fence}{m:J}{Q':Exit->Act->aj->ae}:∀ (l:ai Oper) (k:J) (aI:a6 aY) (a:Act) (w:aj),(∀ j,l[j]?=ops[k+j]?)->
  Region.seqB md ops l.length k aI=true->wpListIn F m P ops Q' l a w->wpAnyIn F m P md ops Q' l.length aI a w
 | [],_,_,_,_,_,b,h=>⟨by simpa[Region.seqB]using b,h⟩
 | o :: l,k,aI,a,w,c,b,h=>by
  have e:ops[k]?=some o:=by simpa using(c 0).symm
  simp only[eA,Region.seqB,e9,hf]at b;refine⟨λh1=>(by rw[b.1]at h1;cases h1),λi av=>?_⟩;rw[b.1]at av;have f:i=k:=by simpa using av
  subst f;have g:wpOpIn F m P ops Q' i (wpListIn F m P ops Q' l) a w:=by unfold wpOpIn;simp only[e];exact h
  exact wpOpIn_mono (λa' w' d=>P4 l (i+1) _ a' w' (λj=>by have:=c (j+1);simpa[jZ,r4 1 j]using this) b.2 d) g
def ai4{F:Fence}{m:J}(k:Open F m P){Q:Exit->Act->aj->ae}{a:Act}{w:aj}(n:J)(hm:P.follows .mixedOrders=true)(e:Region.lexTailB .any l.toArray n=true)(f:FB l=true)(aU:C {w with drawn:=w.drawn+1})(h:wpQuiet P l.toArray C (λa'=>∀ w',C w'->wpListIn F m P l.toArray Q (l.drop n) a' w') (l.take n) a):(Code.region id l.toArray true).wpIn F m P Q a w:=by
 have⟨aw,H⟩:=Mp e h;refine wpIn_region_any hm ?_
 have:=P3 (Q':=Q) (g:=(l.drop n).length) k (λi o c av=>ads f av c) (λaI a' w' d b=>P4 (md:=.any) (Q':=Q) (l.drop n) n aI a' w' (λj=>by simp[zm]) b.1 (b.2 w' d)) _ _ _ _ aU H
 rw[show n+(l.drop n).length=l.toArray.size by simp;omega]at this;exact this
theorem jE{Q:Exit->Act->aj->ae}{a:Act}{w:aj}(n:J)(hm:P.follows .mixedOrders=true)(b:Region.lexTailB .any l.toArray n=true)(h:wpQuiet P l.toArray (λw'=>∃ n,w'=w.drewN n) (λa'=>∀ w',(∃ n,w'=w.drewN n)->wpList P l.toArray Q (l.drop n) a' w') (l.take n) a):(Code.region id l.toArray true).wp P Q a w:=
 ai_ (C:=λw'=>∃ n,w'=w.drewN n) n hm b ⟨1,rfl⟩ h
theorem ai5{F:Fence}{m:J}(d:Open F m P){Q:Exit->Act->aj->ae}{a:Act}{w:aj}(n:J)(hm:P.follows .mixedOrders=true)(b:Region.lexTailB .any l.toArray n=true)(c:FB l=true)(h:wpQuiet P l.toArray (λw'=>∃ n,w'=w.drewN n) (λa'=>∀ w',(∃ n,w'=w.drewN n)->wpListIn F m P l.toArray Q (l.drop n) a' w') (l.take n) a):(Code.region id l.toArray true).wpIn F m P Q a w:=
 ai4 (C:=λw'=>∃ n,w'=w.drewN n) d n hm b c ⟨1,rfl⟩ h
theorem ke{f:FuncId}{w:aj}{a k:J}{v:ay}(h:Calls P f args (w.drewN (a+k)) λe w'=>e=.returned v/\∃ m,w'=(w.drewN (a+k)).drewN m):Calls P f args (w.drewN (a+k)) λe b=>e=.returned v/\∃ m,b=w.drewN (a+m):=
 h.mono λ_ _ ⟨c,m,hm⟩=>⟨c,k+m,by rw[hm,Hm,jZ]⟩
theorem oJ{f:FuncId}{w:aj}{v:ay}(h:Calls P f args w λe w'=>e=.returned v/\w=w'):Calls P f args w λe w'=>e=.returned v/\∃ m,w'=w.drewN m:=
 h.mono λ_ _ ⟨a,hm⟩=>⟨a,0,hm▸rfl⟩
end
section
variable{P:Program}{ops:a6 Oper}{md:Region.Mode}{C:aj->ae}{Q:Exit->Act->aj->ae}
def FO(o:Oper):aY:=match o.op with|.move _|.assign _|.load ..|.fieldAddr ..|.indexAddr ..|.slice ..|.binOp ..|.unOp ..|.convert ..|.extract ..|.index ..|.field ..|.nilCheck _=>true|_=>false
def pg(P:Program)(ops:a6 Oper)(C:aj->ae)(o:Oper)(v:ay)(a:Act):ae:=
 (Region.wanted o (yielded ops a.tmps)=true/\∀ w,C w->(execOp a.eval o).run P w=.ok (.value v) w\/((execOp a.eval o).run P w=.ok .skip w/\v=undef))\/
 (Region.wanted o (yielded ops a.tmps)=false/\v=undef)
theorem pg.wpOp{i:J}{o:Oper}{v:ay}{a:Act}(av:ops[i]?=some o)(a8:pg P ops C o v a){K:Act->aj->ae}{w:aj}(b:C w)(h:K (a.put o.dst v) w):wpOp P ops Q i K a w:=by
 unfold Go.wpOp;simp only[av];rcases a8 with⟨h1,h2⟩|⟨h1,rfl⟩
 .simp only[h1,if_true];rcases h2 w b with e|⟨e,rfl⟩
  .exact .inl (by unfold Oper.wp;rw[e];exact h)
  exact .inl (by unfold Oper.wp;rw[e];exact h)
 simp only[h1,za,if_false];exact h
def pg.of_same{o:Oper}{v:ay}{a a':Act}(a8:pg P ops C o v a)(b:execOp a'.eval o=execOp a.eval o)(c:Region.wanted o (yielded ops a'.tmps)=Region.wanted o (yielded ops a.tmps)):pg P ops C o v a':=by
 unfold pg at *;rw[b,c];exact a8
def ai7{j:J}{g:Oper}{v:ay}(s:ops[j]?=some g)(r:iH.apart ops g=true)(o:∀ cs b,iH.op≠.select cs b)(p:∀ cs b,g.op≠.select cs b)(l:∀ c a w d u,Q (.panic c) (Act.put a d u) w->Q (.panic c) a w){K:Act->aj->ae}{a:Act}{w:aj}(a8:pg P ops C iH v a)(h:wpOp P ops Q j K (a.put iH.dst v) w):wpOp P ops Q j (λa' w'=>pg P ops C iH v a'/\K (a'.put iH.dst v) w') a w:=by
 have⟨h1,h2,k⟩:=Oper.apart_spec r;have keep:∀ u,pg P ops C iH v (a.put g.dst u):=λu=>a8.of_same (Cl iH o a g.dst u k) (wanted_put iH a g.dst u k);unfold Go.wpOp at *;simp only[s]at *;rw[wanted_put g a iH.dst v h1]at h;by_cases q:Region.wanted g (yielded ops a.tmps)=true
 .rw[aD q]at h⊢;rcases h with h|⟨bg,t⟩
  .left;unfold Oper.wp at *;rw[Cl g p a iH.dst v h1]at h;cases m:(execOp a.eval g).run P w with
   | ok n w'=>
    rw[m]at h;cases n<;>simp only[Oper.upon]at h⊢
    case value u=>exact⟨keep u,by rw[<-xa a v u h2];exact h⟩
    case skip=>exact⟨keep _,by rw[<-xa a v undef h2];exact h⟩
    case defer d=>
     refine⟨(a8.of_same (a':={a with defers:=d :: a.defers}) rfl rfl).of_same (Cl iH o _ g.dst undef k) (wanted_put iH _ g.dst undef k),?_⟩;rw[<-xa _ v undef h2,<-Act.put_defers];exact h
    case enter f args=>
     refine h.mono λe aF i=>?_;cases e with
     | returned u=>exact⟨keep u,by rw[<-xa a v u h2];exact i⟩
     | panicked c=>exact l _ _ _ _ _ i
     | outgrown=>exact i
    case row row args=>exact Rows.mono h λu aF i=>⟨keep u,by rw[<-xa a v u h2];exact i⟩
   | halt x w'=>
    rw[m]at h;cases x<;>simp only[Oper.upon]at h⊢
    case panic u=>exact l _ _ _ _ _ h
  right;exact⟨by unfold Oper.asks at *;rw[Cl g p a iH.dst v h1]at bg;exact bg,t⟩
 rw[az q]at h⊢;exact⟨keep _,by rw[<-xa a v undef h2];exact h⟩
def Nv:Oper:={dst:=none,op:=.move (.tmp 0),type:=0,pos:="",after:=#[],guard:=none}
def gC(ops:a6 Oper)(L:ai J):ai Oper:=L.map λk=>ops[k]?.getD Nv
def Nx{k:J}{L:ai J}{o:Oper}(h:ops[k]?=some o):gC ops (k :: L)=o :: gC ops L:=by simp[gC,h]
def NE(P:Program)(m:Sem Next):ae:=∀ w f args w',m.run P w≠.ok (.enter f args) w'
theorem NE.value(v:ay):NE P (pure (.value v)):=λ_ _ _ _ e=>by simp only[jm]at e;cases e
def NE.bind{α:Type}{s:Sem α}{g:α->Sem Next}(h:∀ x,NE P (g x)):NE P (s >>= g):=λw f args w' e=>by
 simp only[iO]at e;cases aA:s.run P w with
 | ok x aF=>rw[aA]at e;exact h x aF f args w' e
 | halt k aF=>rw[aA]at e;cases e
def NE.panic(v:ay):NE P (goPanic v:Sem Next):=λw f args w' e=>by cases e
theorem NE.nilDeref:NE P (runtimePanic .nilDeref:Sem Next):=by
 exact NE.bind λp=>NE.panic _
def ad9{o:Oper}(h:FO o=true)(ρ:Operand->ay)(w w':aj)(f:FuncId)(args:a6 ay):(execOp ρ o).run P w≠.ok (.enter f args) w':=by
 suffices H:NE P (execOp ρ o)from H w f args w'
 unfold FO at h;unfold execOp
 cases ar:o.op<;>rw[ar]at h<;>first
  | (cases h;done)
  | exact NE.value _
  | exact NE.bind λ_=>NE.value _
  | skip
 simp only[];split
 .exact NE.nilDeref
 .exact NE.nilDeref
 .exact NE.nilDeref
 .split
  .exact NE.nilDeref
  .refine NE.bind λa=>NE.bind λy=>?_;split
   .exact NE.bind λ_=>NE.value _
   exact NE.value _
  exact NE.value _
 exact NE.value _
structure Kept(w:aj) where
 to:aj
 keeps:ag aH w to
instance (w:aj):Nonempty (Kept w):=⟨⟨w,ag.refl _ w⟩⟩
def kept{w:aj}(h:ag aH w w'):∃ x:Kept w,w'=x.to:=⟨⟨w',h⟩,rfl⟩
end
section
variable{P:Program}{ops:a6 Oper}{md:Region.Mode}{C:aj->ae}{Q:Exit->Act->aj->ae}
def yL(o:Oper):aY:=FO o || (match o.op with|.call c=>(match c.callee with|.builtin .len=>true|.builtin .min=>true|.builtin .max=>true|_=>false)|.pick ..=>true|.build ..=>true|.lookup ..=>true|_=>false)
def ad8{o:Oper}(h:yL o=true)(ρ:Operand->ay):NE P (execOp ρ o):=by
 unfold yL at h;rw[w_]at h;rcases h with h|h
 .exact λw f args w'=>ad9 h ρ w w' f args
 unfold execOp
 cases ar:o.op<;>rw[ar]at h<;>first
  | (cases h;done)
  | exact NE.bind λ_=>NE.value _
  | skip
 rename_i c;obtain⟨callee,args,a⟩:=c;cases callee<;>first|(cases h;done)|skip
 rename_i b;cases b<;>first|(cases h;done)|skip
 all_goals
  simp only[resolve];intro w f d w' e;simp only[iO,jm,iu,invoke,builtin]at e
  first
   | (rcases aA:(Builtin.len_ a o.type (args.map ρ)).run P w with _|_<;>(rw[aA]at e;cases e))
   | (rcases aA:(Builtin.min_ a o.type (args.map ρ)).run P w with _|_<;>(rw[aA]at e;cases e))
   | (rcases aA:(Builtin.max_ a o.type (args.map ρ)).run P w with _|_<;>(rw[aA]at e;cases e))
def Qi{o:Oper}{a:Act}(ao:yL o=true)(av:ops[i]?=some o)(h:qOp P ops C i K a):∃ v,pg P ops C o v a/\K (a.put o.dst v):=by
 obtain⟨v,a8,hk⟩:=yieldsIn_of_qOp av h;refine⟨v,?_,hk⟩;rcases a8 with⟨b,a_⟩|aw
 .refine .inl ⟨b,λw c=>?_⟩;have N:=a_ w c;unfold Oper.quietAt at N;cases D:(execOp a.eval o).run P w with
  | ok x w'=>
   refine ed;cases x<;>simp only[Oper.quietUpon]at N
   case value u=>obtain⟨rfl,rfl⟩:=N;exact .inl rfl
   case skip=>obtain⟨rfl,rfl⟩:=N;exact .inr ⟨rfl,rfl⟩
   case enter f args=>exact absurd D ((ad8 (P:=P) ao a.eval w) f args w')
  | halt x w'=>rw[D]at N;simp only[Oper.quietUpon]at N
 exact .inr aw
def oQ(P:Program)(md:Region.Mode)(ops:a6 Oper)(C:aj->ae)(Q:Exit->Act->aj->ae)(late:J->aY)(R:a6 aY->Act->aj->ae):J->a6 aY->Act->aj->ae
 | 0,aI,a,w=>R aI a w
 | f+1,aI,a,w=>Region.ready md ops aI≠[]/\∀ i∈Region.ready md ops aI,late i=false/\wpOp P ops Q i (λa' w'=>C w'/\oQ P md ops C Q late R f (aI.setIfInBounds i true) a' w') a w
theorem B9{late:J->aY}{R:a6 aY->Act->aj->ae}{g:J}(b:∀ aI a w,R aI a w->wpAny P md ops Q g aI a w):∀ (f:J) (aI:a6 aY) (a:Act) (w:aj),oQ P md ops C Q late R f aI a w->wpAny P md ops Q (f+g) aI a w
 | 0,aI,a,w,h=>by rw[vc];exact b _ _ _ h
 | f+1,aI,a,w,h=>by
  rw[show f+1+g=(f+g)+1 by omega];exact⟨λc=>absurd c h.1,λi av=>wpOp_mono (λa' w' aT=>B9 b f _ a' w' aT.2) (h.2 i av).2⟩
structure Reach(md:Region.Mode)(ops:a6 Oper)(late:J->aY)(i:J)(reach:J->aY):ae where
 next:∀ j o,ops[j]?=some o->j≠i->(∀ e∈o.after,Region.binds md e=true->reach e.on=true)->reach j=true
 early:∀ j,reach j=true->late j=false
def P5{late:J->aY}{R:a6 aY->Act->aj->ae}{v:ay}{reach:J->aY}(av:ops[i]?=some iH)(D:∀ (j:J) (o:Oper) cs b,ops[j]?=some o->o.op≠.select cs b)(F:∀ c a w d u,Q (.panic c) (Act.put a d u) w->Q (.panic c) a w)(B:Reach md ops late i reach)(V:late i=false)(G:∀ aI a w,R aI a w->∀ j∈Region.ready md ops aI,late j=true):∀ (f:J) (aI:a6 aY) (a:Act) (w:aj),(∀ j,aI.getD j false=true->reach j=true)->
   (∀ j h,ops[j]?=some h->j≠i->aI.getD j true=false->(∀ e∈h.after,Region.binds md e=true->e.on≠i)->iH.apart ops h=true)->
   i∈Region.ready md ops aI->pg P ops C iH v a->C w->
   oQ P md ops C Q late R f (aI.setIfInBounds i true) (a.put iH.dst v) w->oQ P md ops C Q late R (f+1) aI a w:=by
 have y:∀ (aI:a6 aY),(∀ j,aI.getD j false=true->reach j=true)->∀ j∈Region.ready md ops aI,j≠i->reach j=true/\late j=false:=by
  intro aI aA j g hne;have⟨_,h,p,r⟩:=n4.1 g;have h1:=B.next j h p hne (λe s al=>aA _ (r e s al));exact⟨h1,B.early j h1⟩
 intro f
 induction f with
 | zero=>
  intro aI a w aA _ l a8 x H;refine IS;by_cases m:j=i
  .exact Wp
  have h1:=G _ _ _ H j (xb g m);rw[(y aI aA j g m).2]at h1;cases h1
 | succ f T=>
  intro aI a w aA z l a8 x H;refine IS;by_cases m:j=i
  .exact Wp
  have⟨A,h,p,r⟩:=n4.1 g;have O:∀ e∈h.after,Region.binds md e=true->e.on≠i:=λe s al K=>by
   have h1:=r e s al;rw[K,getD_both ((n4.1 l).1)]at h1;cases h1
  have⟨S,M⟩:=y aI aA j g m;have h2:=ai7 p (z j h p m A O) (λcs b=>D i iH cs b av) (λcs b=>D j h cs b p) F a8 ((H.2 j (xb g m)).2);refine⟨M,wpOp_mono (λa' w' q=>⟨q.2.1,T (aI.setIfInBounds j true) a' w' (λk hk=>?_) (λk ok hk L E N=>?_) (xb l (h4 m)) q.1 q.2.1 ?_⟩) h2⟩
  .by_cases n:j=k
   .subst n;exact S
   rw[Hn false n]at hk;exact aA k hk
  .refine z k ok hk L ?_ N;by_cases n:j=k
   .subst n;exact A
   rw[Hn true n]at E;exact E
  rw[Qm _ _ m];exact q.2.2
def N8(md:Region.Mode)(ops:a6 Oper)(aI:a6 aY)(i:J):a6 aY:=
 (range ops.size).foldl (λa j=>a.push (aI.getD j false || (j != i&&(match ops[j]? with|some o=>o.after.all (λe=>!Region.binds md e || a.getD e.on false)|none=>false)))) #[]
def BB(md:Region.Mode)(ops:a6 Oper)(late:J->aY)(aI:a6 aY)(i:J)(reach:a6 aY):aY:=
 (range ops.size).all (λj=>(j == i || reach.getD j false || (match ops[j]? with|some o=>o.after.any (λe=>Region.binds md e&&!reach.getD e.on false)|none=>true))&&(!reach.getD j false || !late j)&&(!aI.getD j false || reach.getD j false))&&decide (reach.size=ops.size)&&decide (aI.size=ops.size)
def N9{late:J->aY}{aI:a6 aY}{reach:a6 aY}(h:BB md ops late aI i reach=true):Reach md ops late i (λj=>reach.getD j false)/\∀ j,aI.getD j false=true->reach.getD j false=true:=by
 simp only[BB,e9,hf]at h;have⟨⟨h,n⟩,m⟩:=h;rw[fJ]at h;have k:∀ j,reach.getD j false=true->j<ops.size:=λj d=>by
  rcases CJ j reach.size with a|a
  .omega
  simp[l4 a]at d
 refine⟨⟨λj o f hne c=>?_,λj d=>?_⟩,λj d=>?_⟩
 .refine zY;have h1:=h j (p1.2 d);simp only[e9,w_,iY,f]at h1;rcases h1.1.1 with(h2|h2)|h2
  .exact absurd h2 hne
  .exact h2
  have⟨e,g,b⟩:=Qj.1 h2;simp only[e9,oS]at b
  have:=c e g b.1
  simp only[b.2]at this;cases this
 .have h1:=h j (p1.2 (k j d));simp only[e9,w_,oS]at h1;rcases h1.1.2 with h2|h2
  .rw[d]at h2;cases h2
  exact h2
 have l:j<ops.size:=by
  rcases CJ j aI.size with a|a
  .omega
  simp[l4 a]at d
 have h1:=h j (p1.2 l);simp only[e9,w_,oS]at h1;rcases h1.2 with h2|h2
 .rw[d]at h2;cases h2
 exact h2
def iN(P:Program)(ops:a6 Oper)(C:aj->ae)(Q:Exit->Act->aj->ae)(R:Act->aj->ae):ai Oper->Act->aj->ae
 | [],a,w=>R a w
 | o :: rest,a,w=>if Region.wanted o (yielded ops a.tmps)then o.wp P a w (λa' w'=>C w'/\iN P ops C Q R rest a' w') Q else iN P ops C Q R rest (a.put o.dst undef) w
def vT(md:Region.Mode)(ops:a6 Oper)(late:J->aY):ai J->a6 aY->aY
 | [],aI=>(Region.ready md ops aI).all late
 | k :: T,aI=>decide (Region.ready md ops aI=[k])&&!late k&&vT md ops late T (aI.setIfInBounds k true)
def w1(md:Region.Mode)(ops:a6 Oper)(late:J->aY)(M:ai J):ai J->a6 aY->aY
 | [],aI=>vT md ops late M aI
 | k :: H,aI=>(Region.ready md ops aI).contains k&&Region.free md ops aI k&&(match ops[k]? with|some o=>yL o|none=>false)&&!late k&&BB md ops late aI k (N8 md ops aI k)&&w1 md ops late M H (aI.setIfInBounds k true)
def jQ(aI:a6 aY)(L:ai J):a6 aY:=L.foldl (λl k=>l.setIfInBounds k true) aI
def mu(aI:a6 aY)(L:ai J)(j:J):aY:=!(aI.getD j false || L.contains j)
def w0(md:Region.Mode)(ops:a6 Oper)(H M:ai J)(aI:a6 aY):aY:=Region.noSelect ops&&w1 md ops (mu aI (H++M)) M H aI
theorem P7{late:J->aY}{R:Act->aj->ae}(full:a6 aY):∀ (M:ai J) (aI:a6 aY) (a:Act) (w:aj),C w->vT md ops late M aI=true->jQ aI M=full->
  iN P ops C Q R (gC ops M) a w->oQ P md ops C Q late (λl a w=>l=full/\R a w) M.length aI a w
 | [],aI,a,w,_,_,c,h=>⟨c,h⟩
 | k :: M,aI,a,w,j,e,c,h=>by
  simp only[vT,e9,hf,oS]at e;obtain⟨⟨D,g⟩,f⟩:=e;obtain⟨_,o,ar,_⟩:=n4.1 (show k∈Region.ready md ops aI by rw[D];simp);rw[Nx ar]at h;refine⟨λh1=>(by rw[D]at h1;cases h1),λi N=>?_⟩;refine ed;obtain rfl:i=k:=by simpa using N
  refine⟨g,?_⟩;have key:wpOp P ops Q i (λa' w'=>C w'/\iN P ops C Q R (gC ops M) a' w') a w:=by
   unfold Go.wpOp;unfold iN at h;simp only[ar];split
   .rename_i d;rw[if_pos d]at h;exact .inl h
   rename_i d;rw[if_neg d]at h;exact⟨j,h⟩
  exact wpOp_mono (λa' w' b=>⟨b.1,P7 full M _ a' w' b.1 f c b.2⟩) key
theorem KP{late:J->aY}:∀ (M:ai J) (aI:a6 aY),vT md ops late M aI=true->∀ j∈Region.ready md ops (jQ aI M),late j=true
 | [],_,h,j,a=>fJ.1 h j a
 | k :: M,aI,h,j,a=>by
  simp only[vT,e9]at h;exact KP M _ h.2 j a
theorem Pk{late:J->aY}{M:ai J}:∀ (H:ai J) (aI:a6 aY),w1 md ops late M H aI=true->∀ j∈Region.ready md ops (jQ aI (H++M)),late j=true
 | [],_,h,j,a=>KP M _ h j a
 | k :: H,aI,h,j,a=>by
  simp only[w1,e9]at h;exact Pk H _ h.2 j a
theorem P6{late:J->aY}{M:ai J}{R:Act->aj->ae}(full:a6 aY)(n:Region.noSelect ops=true)(i:∀ c a w d u,Q (.panic c) (Act.put a d u) w->Q (.panic c) a w){w:aj}(f:C w)(m:∀ j∈Region.ready md ops full,late j=true):∀ (H:ai J) (aI:a6 aY) (a:Act),w1 md ops late M H aI=true->jQ aI (H++M)=full->
   wpQuiet P ops C (λa'=>iN P ops C Q R (gC ops M) a' w) (gC ops H) a->oQ P md ops C Q late (λl a w=>l=full/\R a w) (H.length+M.length) aI a w
 | [],aI,a,b,e,h=>by
  rw[gN,vc];exact P7 full M aI a w f b e (by simpa[gC,wpQuiet]using h)
 | k :: H,aI,a,b,e,h=>by
  simp only[w1,e9,oS]at b;refine Rg;have x:qOp P ops C k (wpQuiet P ops C (λa'=>iN P ops C Q R (gC ops M) a' w) (gC ops H)) a:=by unfold qOp;simp only[D];exact h
  obtain⟨v,a8,o⟩:=Qi N D x;obtain⟨h1,h2⟩:=N9 s;rw[show(k :: H).length+M.length=(H.length+M.length)+1 by simp;omega];exact P5 D (Hi n) i h1 ao (λl a w t j p=>m j (by rw[<-t.1];exact p)) _ aI a w h2 (Hh D r) g a8 f (P6 full n i f m H _ _ q e o)
def Pj{aI:a6 aY}{a:Act}{w:aj}{g:J}(H M:ai J)(b:w0 md ops H M aI=true)(i:C w)(f:∀ c a w d u,Q (.panic c) (Act.put a d u) w->Q (.panic c) a w)(h:wpQuiet P ops C (λa'=>iN P ops C Q (λa w=>wpAny P md ops Q g (jQ aI (H++M)) a w) (gC ops M) a' w) (gC ops H) a):wpAny P md ops Q (H.length+M.length+g) aI a w:=by
 simp only[w0,e9]at b;refine B9 (C:=C) (late:=mu aI (H++M)) (R:=λl a w=>l=jQ aI (H++M)/\wpAny P md ops Q g (jQ aI (H++M)) a w) (λl a w e=>by rw[e.1];exact e.2) _ _ _ _ ?_;exact P6 (jQ aI (H++M)) b.1 f i (Pk H aI b.2) H aI a b.2 rfl h
def ahv{a:Act}{w:aj}(hm:P.follows .mixedOrders=true)(n:J)(aw:l.length=n)(h:wpAny P .any l.toArray Q n (Array.replicate n false) a w.drew):(Code.region id l.toArray true).wp P Q a w:=by
 subst aw;exact Hu hm (by rw[iw];exact h)
def Gv{aI:a6 aY}{a:Act}{w:aj}(b:(Region.ready md ops aI).isEmpty=true)(h:Q .normal a w):wpAny P md ops Q 0 aI a w:=⟨by simpa using b,h⟩
structure ie(S:J->ae)(w:aj) where
 to:aj
 keeps:ag S w to
instance (S:J->ae)(w:aj):Nonempty (ie S w):=⟨⟨w,ag.refl _ w⟩⟩
def dB{S:J->ae}{w:aj}(h:ag S w w'):∃ x:ie S w,w'=x.to:=⟨⟨w',h⟩,rfl⟩
def lQ{S:J->ae}{w:aj}{p:Addr}{v:ay}(h:w.cell? p=some v)(aA:¬ S p.block):∀ x:ie S w,x.to.cell? p=some v:=λx=>x.keeps.cell h aA
def ahu(S:J->ae){aI:a6 aY}{a:Act}{w:aj}(H M:ai J)(g:J)(aw:n=H.length+M.length+g)(b:a6 aY)(i:jQ aI (H++M)=b)(e:w0 md ops H M aI=true)(f:∀ c a w d u,Q (.panic c) (Act.put a d u) w->Q (.panic c) a w)(h:wpQuiet P ops (λw'=>∃ x:ie S w,w'=x.to) (λa'=>iN P ops (λw'=>∃ x:ie S w,w'=x.to) Q (λa w=>wpAny P md ops Q g b a w) (gC ops M) a' w) (gC ops H) a):wpAny P md ops Q n aI a w:=by
 subst aw i;exact Pj H M e (dB (ag.refl _ w)) f h
def mx{R:Act->aj->ae}{a:Act}{w:aj}(h:R a w):iN P ops C Q R [] a w:=h
def M1{R:Act->aj->ae}{o:Oper}{rest:ai Oper}{a:Act}{w:aj}(b:Region.wanted o (yielded ops a.tmps)=true)(h:∀ K:Act->aj->ae,(∀ a' w',C w'->iN P ops C Q R rest a' w'->K a' w')->o.wp P a w K Q):iN P ops C Q R (o :: rest) a w:=by
 unfold iN;rw[if_pos b];exact h _ λ_ _ h1 h2=>⟨h1,h2⟩
def M3{R:Act->aj->ae}{o:Oper}{rest:ai Oper}{a:Act}{w:aj}(b:Region.wanted o (yielded ops a.tmps)=false)(h:iN P ops C Q R rest (a.put o.dst undef) w):iN P ops C Q R (o :: rest) a w:=by
 unfold iN;rw[if_neg (by rw[b];exact Ch)];exact h
end
section
variable{P:Program}{ops:a6 Oper}{md:Region.Mode}{C:aj->ae}{Q:Exit->Act->aj->ae}
def uz(md:Region.Mode)(ops:a6 Oper)(late:J->aY):ai J->a6 aY->aY
 | [],_=>true
 | k :: H,aI=>(Region.ready md ops aI).contains k&&Region.free md ops aI k&&(match ops[k]? with|some o=>yL o|none=>false)&&!late k&&BB md ops late aI k (N8 md ops aI k)&&uz md ops late H (aI.setIfInBounds k true)
theorem GX{late:J->aY}{m:J}{R:Act->aj->ae}(full:a6 aY)(i:Region.noSelect ops=true)(e:∀ c a w d u,Q (.panic c) (Act.put a d u) w->Q (.panic c) a w){w:aj}(n:C w)(f:∀ j∈Region.ready md ops full,late j=true):∀ (H:ai J) (aI:a6 aY) (a:Act),uz md ops late H aI=true->
   wpQuiet P ops C (λa'=>oQ P md ops C Q late (λl a w=>l=full/\R a w) m (jQ aI H) a' w) (gC ops H) a->oQ P md ops C Q late (λl a w=>l=full/\R a w) (H.length+m) aI a w
 | [],aI,a,_,h=>by
  rw[gN,vc];simpa[gC,wpQuiet,jQ]using h
 | k :: H,aI,a,b,h=>by
  simp only[uz,e9,oS]at b;refine Rg;have x:qOp P ops C k (wpQuiet P ops C (λa'=>oQ P md ops C Q late (λl a w=>l=full/\R a w) m (jQ (aI.setIfInBounds k true) H) a' w) (gC ops H)) a:=by unfold qOp;simp only[D];exact h
  obtain⟨v,a8,o⟩:=Qi N D x;obtain⟨h1,h2⟩:=N9 s;rw[show(k :: H).length+m=(H.length+m)+1 by simp;omega];exact P5 D (Hi i) e h1 ao (λl a w t j p=>f j (by rw[<-t.1];exact p)) _ aI a w h2 (Hh D r) g a8 n (GX full i e n f H _ _ q o)
def Pl(md:Region.Mode)(ops:a6 Oper)(H M:ai J)(aI full:a6 aY):aY:=
 Region.noSelect ops&&uz md ops (mu aI (H++M)) H aI&&(Region.ready md ops full).all (mu aI (H++M))&&(jQ aI (H++M) == full)
def Tree(P:Program)(md:Region.Mode)(ops:a6 Oper)(S:J->ae)(bo:aj)(Q:Exit->Act->aj->ae)(jR:a6 aY)(b5:ai J)(full:a6 aY)(g m:J)(aI:a6 aY)(a:Act)(w:aj):ae:=
 oQ P md ops (λw'=>∃ x:ie S bo,w'=x.to) Q (mu jR b5) (λl a w=>l=full/\wpAny P md ops Q g full a w) m aI a w
def ahw(S:J->ae){aI:a6 aY}{a:Act}{w:aj}(H M:ai J)(g:J)(aw:n=H.length+M.length+g)(full jS:a6 aY)(hm:jQ aI H=jS)(b:Pl md ops H M aI full=true)(i:∀ c a w d u,Q (.panic c) (Act.put a d u) w->Q (.panic c) a w)(h:wpQuiet P ops (λw'=>∃ x:ie S w,w'=x.to) (λa'=>Tree P md ops S w Q aI (H++M) full g M.length jS a' w) (gC ops H) a):wpAny P md ops Q n aI a w:=by
 subst aw hm;simp only[Pl,e9]at b;have⟨⟨⟨o,f⟩,k⟩,p⟩:=b;refine B9 (C:=λw'=>∃ x:ie S w,w'=x.to) (late:=mu aI (H++M)) (R:=λl a w=>l=full/\wpAny P md ops Q g full a w) (λl a w e=>by rw[e.1];exact e.2) _ _ _ _ ?_;exact GX full o i (dB (ag.refl _ w)) (λj m=>fJ.1 k j m) H aI a f h
section
variable{S:J->ae}{bo:aj}{jR full aI:a6 aY}{b5:ai J}{g m:J}{a:Act}{w:aj}
def aid(c:(aI == full)=true)(h:wpAny P md ops Q g full a w):Tree P md ops S bo Q jR b5 full g 0 aI a w:=⟨C7,h⟩
def cD(ops:a6 Oper)(k:J):Oper:=ops[k]?.getD Nv
def FF{k:J}(h:(ops[k]?).isSome=true):ops[k]?=some (cD ops k):=by
 unfold cD;cases hk:ops[k]? with
 | none=>rw[hk]at h;cases h
 | some o=>rfl
def GK{k:J}(b:a6 aY)(ar:(ops[k]?).isSome=true)(aA:aI.setIfInBounds k true=b)(c:Region.wanted (cD ops k) (yielded ops a.tmps)=true)(h:∀ K:Act->aj->ae,(∀ a' w',ag S bo w'->Tree P md ops S bo Q jR b5 full g m b a' w'->K a' w')->(cD ops k).wp P a w K Q):wpOp P ops Q k (λa' w'=>(∃ x:ie S bo,w'=x.to)/\Tree P md ops S bo Q jR b5 full g m (aI.setIfInBounds k true) a' w') a w:=by
 unfold Go.wpOp;simp only[FF ar];rw[if_pos c,aA];exact .inl (h _ λ_ _ h1 h2=>⟨dB h1,h2⟩)
def aie(k:J)(c:a6 aY)(e:(Region.ready md ops aI == [k])=true)(d:mu jR b5 k=false)(ar:(ops[k]?).isSome=true)(aA:aI.setIfInBounds k true=c)(f:Region.wanted (cD ops k) (yielded ops a.tmps)=true)(h:∀ K:Act->aj->ae,(∀ a' w',ag S bo w'->Tree P md ops S bo Q jR b5 full g m c a' w'->K a' w')->(cD ops k).wp P a w K Q):Tree P md ops S bo Q jR b5 full g (m+1) aI a w:=by
 have b:Region.ready md ops aI=[k]:=by simpa using e
 refine⟨zI,λi av=>?_⟩;rw[b]at av;obtain rfl:i=k:=by simpa using av
 exact⟨d,GK c ar aA f h⟩
def aif(k j:J)(c d:a6 aY)(l:(Region.ready md ops aI == [k,j])=true)(e:mu jR b5 k=false)(f:mu jR b5 j=false)(ar:(ops[k]?).isSome=true)(ao:(ops[j]?).isSome=true)(aA:aI.setIfInBounds k true=c)(n:aI.setIfInBounds j true=d)(o:Region.wanted (cD ops k) (yielded ops a.tmps)=true)(p:Region.wanted (cD ops j) (yielded ops a.tmps)=true)(h:∀ K:Act->aj->ae,(∀ a' w',ag S bo w'->Tree P md ops S bo Q jR b5 full g m c a' w'->K a' w')->(cD ops k).wp P a w K Q)(h2:∀ K:Act->aj->ae,(∀ a' w',ag S bo w'->Tree P md ops S bo Q jR b5 full g m d a' w'->K a' w')->(cD ops j).wp P a w K Q):Tree P md ops S bo Q jR b5 full g (m+1) aI a w:=by
 have b:Region.ready md ops aI=[k,j]:=by simpa using l
 refine⟨zI,λi av=>?_⟩;rw[b]at av;rcases fW.1 av with rfl|av
 .exact⟨e,GK c ar aA o h⟩
 obtain rfl:i=j:=by simpa using av
 exact⟨f,GK d ao n p h2⟩
def uH(k:J)(h:∀ K:Act->aj->ae,(∀ a' w',ag S bo w'->Tree P md ops S bo Q jR b5 full g m (aI.setIfInBounds k true) a' w'->K a' w')->(cD ops k).wp P a w K Q)(c:(Region.ready md ops aI == [k])=true:=by kernel_rfl)(b:mu jR b5 k=false:=by kernel_rfl)(ar:(ops[k]?).isSome=true:=by kernel_rfl)(d:Region.wanted (cD ops k) (yielded ops a.tmps)=true:=by simp only[cD,gS];first|rfl|simp[go_sem]):Tree P md ops S bo Q jR b5 full g (m+1) aI a w:=aie k _ c b ar rfl d h
def GJ(k j:J)(h:∀ K:Act->aj->ae,(∀ a' w',ag S bo w'->Tree P md ops S bo Q jR b5 full g m (aI.setIfInBounds k true) a' w'->K a' w')->(cD ops k).wp P a w K Q)(h2:∀ K:Act->aj->ae,(∀ a' w',ag S bo w'->Tree P md ops S bo Q jR b5 full g m (aI.setIfInBounds j true) a' w'->K a' w')->(cD ops j).wp P a w K Q)(d:(Region.ready md ops aI == [k,j])=true:=by kernel_rfl)(b:mu jR b5 k=false:=by kernel_rfl)(c:mu jR b5 j=false:=by kernel_rfl)(ar:(ops[k]?).isSome=true:=by kernel_rfl)(ao:(ops[j]?).isSome=true:=by kernel_rfl)(e:Region.wanted (cD ops k) (yielded ops a.tmps)=true:=by simp only[cD,gS];first|rfl|simp[go_sem])(f:Region.wanted (cD ops j) (yielded ops a.tmps)=true:=by simp only[cD,gS];first|rfl|simp[go_sem]):Tree P md ops S bo Q jR b5 full g (m+1) aI a w:=aif k j _ _ d b c ar ao rfl rfl e f h h2
end
end
section
variable{P:Program}{ops:a6 Oper}{md:Region.Mode}{Q:Exit->Act->aj->ae}
structure bA(F:aj->ae) where
 to:aj
 held:F to
def oy{F:aj->ae}{w:aj}(h:F w):∃ x:bA F,w=x.to:=⟨⟨w,h⟩,rfl⟩
def B1(F:aj->ae){aI:a6 aY}{a:Act}{w:aj}(j:F w)(H M:ai J)(g:J)(aw:n=H.length+M.length+g)(b:a6 aY)(i:jQ aI (H++M)=b)(e:w0 md ops H M aI=true)(f:∀ c a w d u,Q (.panic c) (Act.put a d u) w->Q (.panic c) a w)[Nonempty (bA F)](h:wpQuiet P ops (λw'=>∃ x:bA F,w'=x.to) (λa'=>iN P ops (λw'=>∃ x:bA F,w'=x.to) Q (λa w=>wpAny P md ops Q g b a w) (gC ops M) a' w) (gC ops H) a):wpAny P md ops Q n aI a w:=by
 subst aw i;exact Pj H M e (oy j) f h
def dr(P:Program)(md:Region.Mode)(ops:a6 Oper)(F:aj->ae)(Q:Exit->Act->aj->ae)(late:J->aY)(full:a6 aY)(g m:J)(aI:a6 aY)(a:Act)(w:aj):ae:=
 oQ P md ops (λw'=>∃ x:bA F,w'=x.to) Q late (λl a w=>l=full/\wpAny P md ops Q g full a w) m aI a w
variable{F:aj->ae}{late:J->aY}{aI full:a6 aY}{g m:J}{a:Act}{w:aj}
def abp(F:aj->ae)(L:ai J)(g:J)(m:J)(aw:n=m+g)(full:a6 aY)(h:dr P md ops F Q (mu aI L) full g m aI a w):wpAny P md ops Q n aI a w:=by
 subst aw;exact B9 (C:=λw'=>∃ x:bA F,w'=x.to) (late:=mu aI L) (R:=λl a w=>l=full/\wpAny P md ops Q g full a w) (λl a w b=>by rw[b.1];exact b.2) _ _ _ _ h
def abo(o:F w)(H:ai J)(k:J)(hk:H.length=k)(jS:a6 aY)(hm:jQ aI H=jS)(b:(Region.noSelect ops&&uz md ops late H aI&&(Region.ready md ops full).all late)=true)(f:∀ c a w d u,Q (.panic c) (Act.put a d u) w->Q (.panic c) a w)(h:wpQuiet P ops (λw'=>∃ x:bA F,w'=x.to) (λa'=>dr P md ops F Q late full g m jS a' w) (gC ops H) a):dr P md ops F Q late full g (k+m) aI a w:=by
 subst hm hk;simp only[e9]at b;have⟨⟨n,e⟩,i⟩:=b;exact GX full n f (oy o) (λj l=>fJ.1 i j l) H aI a e h
def Mw(k:J)(c:a6 aY)(e:(Region.ready md ops aI == [k])=true)(d:late k=false)(ar:(ops[k]?).isSome=true)(aA:aI.setIfInBounds k true=c)(f:Region.wanted (cD ops k) (yielded ops a.tmps)=true)(h:∀ K:Act->aj->ae,(∀ a' w',F w'->dr P md ops F Q late full g m c a' w'->K a' w')->(cD ops k).wp P a w K Q):dr P md ops F Q late full g (m+1) aI a w:=by
 have b:Region.ready md ops aI=[k]:=by simpa using e
 refine⟨zI,λi av=>?_⟩;rw[b]at av;obtain rfl:i=k:=by simpa using av
 refine⟨d,?_⟩;unfold Go.wpOp;simp only[FF ar];rw[aD f,aA];exact .inl (h _ λ_ _ h1 h2=>⟨oy h1,h2⟩)
def ym{k:J}(b:a6 aY)(c:late k=false)(ar:(ops[k]?).isSome=true)(aA:aI.setIfInBounds k true=b)(d:Region.wanted (cD ops k) (yielded ops a.tmps)=true)(h:∀ K:Act->aj->ae,(∀ a' w',F w'->dr P md ops F Q late full g m b a' w'->K a' w')->(cD ops k).wp P a w K Q):late k=false/\wpOp P ops Q k (λa' w'=>(∃ x:bA F,w'=x.to)/\oQ P md ops (λw'=>∃ x:bA F,w'=x.to) Q late (λl a w=>l=full/\wpAny P md ops Q g full a w) m (aI.setIfInBounds k true) a' w') a w:=by
 refine⟨c,?_⟩;unfold Go.wpOp;simp only[FF ar];rw[aD d,aA];exact .inl (h _ λ_ _ h1 h2=>⟨oy h1,h2⟩)
def abr(k j:J)(c d:a6 aY)(l:(Region.ready md ops aI == [k,j])=true)(e:late k=false)(f:late j=false)(ar:(ops[k]?).isSome=true)(ao:(ops[j]?).isSome=true)(aA:aI.setIfInBounds k true=c)(n:aI.setIfInBounds j true=d)(o:Region.wanted (cD ops k) (yielded ops a.tmps)=true)(p:Region.wanted (cD ops j) (yielded ops a.tmps)=true)(h:∀ K:Act->aj->ae,(∀ a' w',F w'->dr P md ops F Q late full g m c a' w'->K a' w')->(cD ops k).wp P a w K Q)(h2:∀ K:Act->aj->ae,(∀ a' w',F w'->dr P md ops F Q late full g m d a' w'->K a' w')->(cD ops j).wp P a w K Q):dr P md ops F Q late full g (m+1) aI a w:=by
 have b:Region.ready md ops aI=[k,j]:=by simpa using l
 refine⟨zI,λi av=>?_⟩;rw[b]at av;rcases fW.1 av with rfl|av
 .exact ym c e ar aA o h
 obtain rfl:i=j:=by simpa using av
 exact ym d f ao n p h2
def abq(k j l:J)(c d e:a6 aY)(r:(Region.ready md ops aI == [k,j,l])=true)(n:late k=false)(o:late j=false)(p:late l=false)(ar:(ops[k]?).isSome=true)(ao:(ops[j]?).isSome=true)(q:(ops[l]?).isSome=true)(aA:aI.setIfInBounds k true=c)(s:aI.setIfInBounds j true=d)(t:aI.setIfInBounds l true=e)(u:Region.wanted (cD ops k) (yielded ops a.tmps)=true)(v:Region.wanted (cD ops j) (yielded ops a.tmps)=true)(x:Region.wanted (cD ops l) (yielded ops a.tmps)=true)(h:∀ K:Act->aj->ae,(∀ a' w',F w'->dr P md ops F Q late full g m c a' w'->K a' w')->(cD ops k).wp P a w K Q)(h2:∀ K:Act->aj->ae,(∀ a' w',F w'->dr P md ops F Q late full g m d a' w'->K a' w')->(cD ops j).wp P a w K Q)(f:∀ K:Act->aj->ae,(∀ a' w',F w'->dr P md ops F Q late full g m e a' w'->K a' w')->(cD ops l).wp P a w K Q):dr P md ops F Q late full g (m+1) aI a w:=by
 have b:Region.ready md ops aI=[k,j,l]:=by simpa using r
 refine⟨zI,λi av=>?_⟩;rw[b]at av;rcases fW.1 av with rfl|av
 .exact ym c n ar aA u h
 rcases fW.1 av with rfl|av
 .exact ym d o ao s v h2
 obtain rfl:i=l:=by simpa using av
 exact ym e p q t x f
theorem Fj(k j l:J)(h:∀ K:Act->aj->ae,(∀ a' w',F w'->dr P md ops F Q late full g m (aI.setIfInBounds k true) a' w'->K a' w')->(cD ops k).wp P a w K Q)(h2:∀ K:Act->aj->ae,(∀ a' w',F w'->dr P md ops F Q late full g m (aI.setIfInBounds j true) a' w'->K a' w')->(cD ops j).wp P a w K Q)(b:∀ K:Act->aj->ae,(∀ a' w',F w'->dr P md ops F Q late full g m (aI.setIfInBounds l true) a' w'->K a' w')->(cD ops l).wp P a w K Q)(i:(Region.ready md ops aI == [k,j,l])=true:=by decide +kernel)(c:late k=false:=by kernel_rfl)(d:late j=false:=by kernel_rfl)(e:late l=false:=by kernel_rfl)(ar:(ops[k]?).isSome=true:=by kernel_rfl)(ao:(ops[j]?).isSome=true:=by kernel_rfl)(f:(ops[l]?).isSome=true:=by kernel_rfl)(n:Region.wanted (cD ops k) (yielded ops a.tmps)=true:=by simp only[cD,gS];first|rfl|simp[go_sem])(o:Region.wanted (cD ops j) (yielded ops a.tmps)=true:=by simp only[cD,gS];first|rfl|simp[go_sem])(p:Region.wanted (cD ops l) (yielded ops a.tmps)=true:=by simp only[cD,gS];first|rfl|simp[go_sem]):dr P md ops F Q late full g (m+1) aI a w:=
 abq k j l _ _ _ i c d e ar ao f rfl rfl rfl n o p h h2 b
theorem mo(k j:J)(h:∀ K:Act->aj->ae,(∀ a' w',F w'->dr P md ops F Q late full g m (aI.setIfInBounds k true) a' w'->K a' w')->(cD ops k).wp P a w K Q)(h2:∀ K:Act->aj->ae,(∀ a' w',F w'->dr P md ops F Q late full g m (aI.setIfInBounds j true) a' w'->K a' w')->(cD ops j).wp P a w K Q)(d:(Region.ready md ops aI == [k,j])=true:=by decide +kernel)(b:late k=false:=by kernel_rfl)(c:late j=false:=by kernel_rfl)(ar:(ops[k]?).isSome=true:=by kernel_rfl)(ao:(ops[j]?).isSome=true:=by kernel_rfl)(e:Region.wanted (cD ops k) (yielded ops a.tmps)=true:=by simp only[cD,gS];first|rfl|simp[go_sem])(f:Region.wanted (cD ops j) (yielded ops a.tmps)=true:=by simp only[cD,gS];first|rfl|simp[go_sem]):dr P md ops F Q late full g (m+1) aI a w:=
 abr k j _ _ d b c ar ao rfl rfl e f h h2
theorem wo(k:J)(h:∀ K:Act->aj->ae,(∀ a' w',F w'->dr P md ops F Q late full g m (aI.setIfInBounds k true) a' w'->K a' w')->(cD ops k).wp P a w K Q)(c:(Region.ready md ops aI == [k])=true:=by decide +kernel)(b:late k=false:=by kernel_rfl)(ar:(ops[k]?).isSome=true:=by kernel_rfl)(d:Region.wanted (cD ops k) (yielded ops a.tmps)=true:=by simp only[cD,gS];first|rfl|simp[go_sem]):dr P md ops F Q late full g (m+1) aI a w:=
 Mw k _ c b ar rfl d h
def Fk(c:(aI == full)=true)(h:wpAny P md ops Q g full a w):dr P md ops F Q late full g 0 aI a w:=⟨C7,h⟩
def ta{o:Oper}{a:Act}{K:Act->aj->ae}{w:aj}{v:ay}{T:TypeId}(ar:o.op=.alloc T)(hrun:(Instr.alloc T true (aV #[])).run P w=.ok v w')(h:K (a.put o.dst v) w'):o.wp P a w K Q:=by
 unfold Oper.wp execOp;exact Vu
end
section
variable{P:Program}{ops:a6 Oper}{md:Region.Mode}{Q:Exit->Act->aj->ae}{aI:a6 aY}{a:Act}{w:aj}
def cS(n:J)(h:wpAny P .any l.toArray Q n (Array.replicate n false) a w.drew)(hm:P.follows .mixedOrders=true:=by kernel_rfl)(aw:l.length=n:=by rfl):(Code.region id l.toArray true).wp P Q a w:=ahv hm n aw h
def kt(h:Q .normal a w)(b:(Region.ready md ops aI).isEmpty=true:=by kernel_rfl):wpAny P md ops Q 0 aI a w:=Gv b h
def rq(S:J->ae)(H M:ai J)(g:J)(h:wpQuiet P ops (λw'=>∃ x:ie S w,w'=x.to) (λa'=>iN P ops (λw'=>∃ x:ie S w,w'=x.to) Q (λa w=>wpAny P md ops Q g (jQ aI (H++M)) a w) Y a' w) X a)(aw:n=H.length+M.length+g:=by rfl)(b:w0 md ops H M aI=true:=by kernel_rfl)(e:∀ c a w d u,Q (.panic c) (Act.put a d u) w->Q (.panic c) a w:=by intro _ _ _ d _ h;first|(cases d<;>exact h)|cases h.1)(f:gC ops H=X:=by simp only[gC,range,range.loop,nz,qQ,kC,lA,kB,jH]<;>rfl)(i:gC ops M=Y:=by simp only[gC,range,range.loop,nz,qQ,kC,lA,kB,jH]<;>rfl):wpAny P md ops Q n aI a w:=by
 subst f i;exact ahu S H M g aw _ rfl b e h
theorem Bz{C:aj->ae}{K:Act->ae}{A:Act}(hk:K A):∀ (L:ai Oper) (a:Act),wpQuiet P ops C (λa'=>a'=A) L a->wpQuiet P ops C K L a
 | [],_,h=>by
  have h:_=A:=h;subst h;exact hk
 | o :: L,a,h=>by
  unfold wpQuiet at h⊢;split
  .rename_i b;rw[if_pos b]at h;exact Oper.quiet_mono (λa=>Bz hk L a) h
  rename_i b;rw[if_neg b]at h;exact Bz hk L _ h
theorem hU(S:J->ae)(H M:ai J)(g:J){A:Act}(k:iN P ops (λw'=>∃ x:ie S w,w'=x.to) Q (λa w=>wpAny P md ops Q g (jQ aI (H++M)) a w) Y A w)(aw:n=H.length+M.length+g:=by rfl)(b:w0 md ops H M aI=true:=by kernel_rfl)(e:∀ c a w d u,Q (.panic c) (Act.put a d u) w->Q (.panic c) a w:=by intro _ _ _ d _ h;first|(cases d<;>exact h)|cases h.1)(f:gC ops H=X:=by simp only[gC,range,range.loop,nz,qQ,kC,lA,kB,jH]<;>rfl)(i:gC ops M=Y:=by simp only[gC,range,range.loop,nz,qQ,kC,lA,kB,jH]<;>rfl)(j:wpQuiet P ops (λw'=>∃ x:ie S w,w'=x.to) (λa'=>a'=A) X a:=by(repeat (go_big_quiet_step (fail)));refine wpQuiet_nil ?_;exact rfl):wpAny P md ops Q n aI a w:=
 rq S H M g (Bz k _ _ j) aw b e f i
def iU{C:aj->ae}{R:Act->aj->ae}{o:Oper}{rest:ai Oper}(h:∀ K:Act->aj->ae,(∀ a' w',C w'->iN P ops C Q R rest a' w'->K a' w')->o.wp P a w K Q)(b:Region.wanted o (yielded ops a.tmps)=true:=by first|rfl|simp[go_sem]):iN P ops C Q R (o :: rest) a w:=M1 b h
def lU{C:aj->ae}{R:Act->aj->ae}{o:Oper}(h:∀ K:Act->aj->ae,(∀ a' w',C w'->R a' w'->K a' w')->o.wp P a w K Q)(c:Region.wanted o (yielded ops a.tmps)=true:=by first|rfl|simp[go_sem]):iN P ops C Q R [o] a w:=M1 c λK b=>h K λa' w' h1 h2=>b a' w' h1 (mx h2)
def cJ(F:aj->ae)(L:ai J)(g m:J)(h:dr P md ops F Q (mu aI L) (jQ aI L) g m aI a w)(aw:n=m+g:=by rfl):wpAny P md ops Q n aI a w:=abp F L g m aw _ h
variable{F:aj->ae}{late:J->aY}{full:a6 aY}{g m:J}
def pz(b:F w)(H:ai J)(m:J)(h:Nonempty (bA F)->wpQuiet P ops (λw'=>∃ x:bA F,w'=x.to) (λa'=>dr P md ops F Q late full g m (jQ aI H) a' w) X a)(aw:n=H.length+m:=by rfl)(e:(Region.noSelect ops&&uz md ops late H aI&&(Region.ready md ops full).all late)=true:=by kernel_rfl)(f:∀ c a w d u,Q (.panic c) (Act.put a d u) w->Q (.panic c) a w:=by intro _ _ _ d _ h;first|(cases d<;>exact h)|cases h.1)(i:gC ops H=X:=by simp only[gC,range,range.loop,nz,qQ,kC,lA,kB,jH]<;>rfl):dr P md ops F Q late full g n aI a w:=by
 subst i aw;exact abo (m:=m) b H _ rfl _ rfl e f (h ⟨⟨_,b⟩⟩)
theorem dN(e:F w)(H:ai J)(m:J){A:Act}(k:dr P md ops F Q late full g m (jQ aI H) A w)(aw:n=H.length+m:=by rfl)(b:(Region.noSelect ops&&uz md ops late H aI&&(Region.ready md ops full).all late)=true:=by kernel_rfl)(f:∀ c a w d u,Q (.panic c) (Act.put a d u) w->Q (.panic c) a w:=by intro _ _ _ d _ h;first|(cases d<;>exact h)|cases h.1)(i:gC ops H=X:=by simp only[gC,range,range.loop,nz,qQ,kC,lA,kB,jH]<;>rfl)(j:Nonempty (bA F)->wpQuiet P ops (λw'=>∃ x:bA F,w'=x.to) (λa'=>a'=A) X a:=by intro hne;(repeat (go_big_quiet_step (fail)));refine wpQuiet_nil ?_;exact rfl):dr P md ops F Q late full g n aI a w:=
 pz e H m (λhne=>Bz k _ _ (j hne)) aw b f i
def eK(k:J){o:Oper}(h:∀ K:Act->aj->ae,(∀ a' w',F w'->dr P md ops F Q late full g m (aI.setIfInBounds k true) a' w'->K a' w')->o.wp P a w K Q)(c:(Region.ready md ops aI == [k])=true:=by kernel_rfl)(b:late k=false:=by kernel_rfl)(aA:(ops[k]?).isSome=true:=by kernel_rfl)(ar:cD ops k=o:=by simp only[cD,kC,lA,kB,jH]<;>rfl)(d:Region.wanted o (yielded ops a.tmps)=true:=by first|rfl|simp[go_sem]):dr P md ops F Q late full g (m+1) aI a w:=by
 subst ar;exact Mw k _ c b aA rfl d h
theorem jh(k:J){o:Oper}(h:∀ K:Act->aj->ae,(∀ a' w',F w'->wpAny P md ops Q g full a' w'->K a' w')->o.wp P a w K Q)(e:(Region.ready md ops aI == [k])=true:=by kernel_rfl)(d:late k=false:=by kernel_rfl)(aA:(ops[k]?).isSome=true:=by kernel_rfl)(ar:cD ops k=o:=by simp only[cD,kC,lA,kB,jH]<;>rfl)(f:Region.wanted o (yielded ops a.tmps)=true:=by first|rfl|simp[go_sem])(c:(aI.setIfInBounds k true == full)=true:=by kernel_rfl):dr P md ops F Q late full g 1 aI a w:=
 eK k (λK b=>h K λa' w' h1 h2=>b a' w' h1 (Fk c h2)) e d aA ar f
theorem mz(k:J){o:Oper}(h:∀ K:Act->aj->ae,(∀ a' w',F w'->Q .normal a' w'->K a' w')->o.wp P a w K Q)(e:(Region.ready md ops aI == [k])=true:=by kernel_rfl)(d:late k=false:=by kernel_rfl)(aA:(ops[k]?).isSome=true:=by kernel_rfl)(ar:cD ops k=o:=by simp only[cD,kC,lA,kB,jH]<;>rfl)(f:Region.wanted o (yielded ops a.tmps)=true:=by first|rfl|simp[go_sem])(c:(aI.setIfInBounds k true == full)=true:=by kernel_rfl)(g:(Region.ready md ops full).isEmpty=true:=by kernel_rfl):dr P md ops F Q late full 0 1 aI a w:=
 jh k (λK b=>h K λa' w' h1 h2=>b a' w' h1 (Gv g h2)) e d aA ar f c
def nf(h:wpAny P md ops Q g full a w)(b:(aI == full)=true:=by kernel_rfl):dr P md ops F Q late full g 0 aI a w:=Fk b h
def pA(h:Q .normal a w)(b:(aI == full)=true:=by kernel_rfl)(c:(Region.ready md ops full).isEmpty=true:=by kernel_rfl):dr P md ops F Q late full 0 0 aI a w:=Fk b (Gv c h)
end
def jP{S:J->ae}{w:aj}{b:J}{vs us:a6 ay}{t:TypeId}(h:w.heap[b]?=some (.cells vs t (0,0)))(aA:¬ S b)(e:vs=us:=by first|exact(rfl:_=#[_])|exact(rfl:_=#[_,_])|exact(rfl:_=#[_,_,_])|exact(rfl:_=#[_,_,_,_])|exact(rfl:_=#[_,_,_,_,_])|exact(rfl:_=#[_,_,_,_,_,_])|exact(rfl:_=#[_,_,_,_,_,_,_])|exact(rfl:_=#[_,_,_,_,_,_,_,_])|exact(rfl:_=#[_,_,_,_,_,_,_,_,_])|exact(rfl:_=#[_,_,_,_,_,_,_,_,_,_])|exact(rfl:_=#[_,_,_,_,_,_,_,_,_,_,_])|exact(rfl:_=#[_,_,_,_,_,_,_,_,_,_,_,_])|exact(rfl:_=#[_,_,_,_,_,_,_,_,_,_,_,_,_])|exact(rfl:_=#[_,_,_,_,_,_,_,_,_,_,_,_,_,_])|exact(rfl:_=#[_,_,_,_,_,_,_,_,_,_,_,_,_,_,_])|exact(rfl:_=#[_,_,_,_,_,_,_,_,_,_,_,_,_,_,_,_])):∀ x:ie S w,∀ k,x.to.cell? ⟨b,k,none⟩=us[k]?:=λx=>aX (x.keeps.heap h aA) e
section
variable{P:Program}{ops:a6 Oper}{md:Region.Mode}{Q:Exit->Act->aj->ae}{aI:a6 aY}{a A:Act}{w W:aj}{f:FuncId}{q2:a6 ay}{R:aj->ae}{v:Ending}{o:Oper}
section
variable{F:aj->ae}{late:J->aY}{full:a6 aY}{g m:J}(k:J)
theorem hG(b:F W)(h:dr P md ops F Q late full g m (aI.setIfInBounds k true) A W)(e:(Region.ready md ops aI == [k])=true:=by kernel_rfl)(d:late k=false:=by kernel_rfl)(aA:(ops[k]?).isSome=true:=by kernel_rfl)(ar:cD ops k=o:=by simp only[cD,kC,lA,kB,jH]<;>rfl)(f:Region.wanted o (yielded ops a.tmps)=true:=by first|rfl|simp[go_sem])(ak:∀ K:Act->aj->ae,K A W->o.wp P a w K Q:=by intro K h;go_simp;exact h):dr P md ops F Q late full g (m+1) aI a w:=eK k (λK c=>ak K (c _ _ b h)) e d aA ar f
theorem wI(c:Calls P f q2 w λe w'=>e=v/\R w')(h:∀ w',R w'->F w'/\dr P md ops F Q late full g m (aI.setIfInBounds k true) A w')(i:(Region.ready md ops aI == [k])=true:=by kernel_rfl)(d:late k=false:=by kernel_rfl)(aA:(ops[k]?).isSome=true:=by kernel_rfl)(ar:cD ops k=o:=by simp only[cD,kC,lA,kB,jH]<;>rfl)(j:Region.wanted o (yielded ops a.tmps)=true:=by first|rfl|simp[go_sem])(ak:Hid (Calls P f q2 w λe w'=>e=v/\R w')->∀ K:Act->aj->ae,(∀ w',R w'->K A w')->o.wp P a w K Q:=by intro c K h;go_simp;exact aS c.out h):dr P md ops F Q late full g (m+1) aI a w:=eK k (λK b=>ak c K λw' x=>b _ _ (h w' x).1 (h w' x).2) i d aA ar j
theorem sT(b:F W)(ak:∀ {K:Act->aj->ae},K A W->o.wp P a w K Q)(h:dr P md ops F Q late full g m (aI.setIfInBounds k true) A W)(e:(Region.ready md ops aI == [k])=true:=by kernel_rfl)(d:late k=false:=by kernel_rfl)(aA:(ops[k]?).isSome=true:=by kernel_rfl)(ar:cD ops k=o:=by simp only[cD,kC,lA,kB,jH]<;>rfl)(f:Region.wanted o (yielded ops a.tmps)=true:=by first|rfl|simp[go_sem]):dr P md ops F Q late full g (m+1) aI a w:=eK k (λK c=>ak (c _ _ b h)) e d aA ar f
theorem iV(b:F W)(h:Q .normal A W)(f:(Region.ready md ops aI == [k])=true:=by kernel_rfl)(e:late k=false:=by kernel_rfl)(aA:(ops[k]?).isSome=true:=by kernel_rfl)(ar:cD ops k=o:=by simp only[cD,kC,lA,kB,jH]<;>rfl)(g:Region.wanted o (yielded ops a.tmps)=true:=by first|rfl|simp[go_sem])(d:(aI.setIfInBounds k true == full)=true:=by kernel_rfl)(i:(Region.ready md ops full).isEmpty=true:=by kernel_rfl)(ak:∀ K:Act->aj->ae,K A W->o.wp P a w K Q:=by intro K h;go_simp;exact h):dr P md ops F Q late full 0 1 aI a w:=mz k (λK c=>ak K (c _ _ b h)) f e aA ar g d i
theorem pE(b:F W)(ak:∀ {K:Act->aj->ae},K A W->o.wp P a w K Q)(h:Q .normal A W)(f:(Region.ready md ops aI == [k])=true:=by kernel_rfl)(e:late k=false:=by kernel_rfl)(aA:(ops[k]?).isSome=true:=by kernel_rfl)(ar:cD ops k=o:=by simp only[cD,kC,lA,kB,jH]<;>rfl)(g:Region.wanted o (yielded ops a.tmps)=true:=by first|rfl|simp[go_sem])(d:(aI.setIfInBounds k true == full)=true:=by kernel_rfl)(i:(Region.ready md ops full).isEmpty=true:=by kernel_rfl):dr P md ops F Q late full 0 1 aI a w:=mz k (λK c=>ak (c _ _ b h)) f e aA ar g d i
end
variable{C:aj->ae}{Z:Act->aj->ae}{rest:ai Oper}
def kr(aU:C W)(h:iN P ops C Q Z rest A W)(c:Region.wanted o (yielded ops a.tmps)=true:=by first|rfl|simp[go_sem])(ak:∀ K:Act->aj->ae,K A W->o.wp P a w K Q:=by intro K h;go_simp;exact h):iN P ops C Q Z (o :: rest) a w:=iU (λK b=>ak K (b _ _ aU h)) c
def qq(aU:C W)(h:Z A W)(b:Region.wanted o (yielded ops a.tmps)=true:=by first|rfl|simp[go_sem])(ak:∀ K:Act->aj->ae,K A W->o.wp P a w K Q:=by intro K h;go_simp;exact h):iN P ops C Q Z [o] a w:=kr aU (mx h) b ak
end
def zG(h:ww:=by simpa using d):=h
end Go.Proofs.YtalagblioepadaaGreatDoor
