/- The proof, part 6. -/
import Derived.Test.YtalagblioepadaaGreatDoorZd01
import Derived.StillTail
import Derived.OrdersIn
import Derived.RangeFuncCalls
namespace Go.Proofs.YtalagblioepadaaGreatDoor
set_option linter.all false
open List Go.RowKit
set_option maxRecDepth 100000
def xD{p:al}(h:p:=by rw[b];simp):p:=h
def xA{p:al}(h:p:=by simpa using d):p:=h
def AA{p:al}(h:p:=by rw[h]at l;cases l):p:=h
def ON{p:al}(h:p:=by
 rcases Et j n with h|h
 .exact h
 exact absurd m (tail_waits aw an av inv _ i rfl N q j h)
 ):p:=h
section
variable{P:Program}{ops:a7 Oper}{md:Region.Mode}{C:aj->al}
def sZ(P:Program)(md:Region.Mode)(ops:a7 Oper)(C:aj->al)(n:J)(L:a7 a1->Act->al):J->a7 a1->Act->al
 | 0,aQ,a=>L aQ a
 | f+1,aQ,a=>Region.ready md ops aQ≠[]/\∀ i∈Region.ready md ops aQ,i<n/\qOp P ops C i (sZ P md ops C n L f (aQ.setIfInBounds i true)) a
def ZL{n i:J}{g:Oper}{v:ay}{L:a7 a1->Act->al}(ax:ops[i]?=some g)(y:∀ (j:J) (o:Oper) cs b,ops[j]?=some o->o.op≠.select cs b)(aw:Region.sinkB md ops n=true)(an:Region.chainB md ops n=true)(av:n<ops.size)(N:i<n)(B:∀ aQ a,L aQ a->∀ j∈Region.ready md ops aQ,n<=j):∀ (f:J) (aQ:a7 a1) (a:Act),HeadInv md ops n aQ->
   (∀ j d,ops[j]?=some d->j≠i->aQ.getD j true=false->(∀ e∈d.after,Region.binds md e=true->e.on≠i)->g.apart ops d=true)->
   i∈Region.ready md ops aQ->YieldsIn P ops C g v a->
   sZ P md ops C n L f (aQ.setIfInBounds i true) (a.put g.dst v)->sZ P md ops C n L (f+1) aQ a:=by
 intro f
 induction f with
 | zero=>
  intro aQ a inv _ l r H;have q:=(lE.1 l).1;refine⟨λh=>AA,λj m=>?_⟩;have p:j<n:=by
   exact ON
  refine⟨p,?_⟩;by_cases c:j=i
  .subst c;exact r.qOp ax H
  have:=B _ _ H j (uY m c)
  omega
 | succ f M=>
  intro aQ a inv u l r H;have q:=(lE.1 l).1;refine⟨λh=>AA,λj m=>?_⟩;have p:j<n:=by
   exact ON
  refine⟨p,?_⟩;by_cases c:j=i
  .subst c;exact r.qOp ax H
  have h1:=(H.2 j (uY m c)).2;have⟨x,d,s,A⟩:=lE.1 m;have K:∀ e∈d.after,Region.binds md e=true->e.on≠i:=λe D ak E=>by
   have h1:=A e D ak;rw[E,getD_both q]at h1;cases h1
  have z:∀ k ok,ops[k]?=some ok->k≠i->(aQ.setIfInBounds j true).getD k true=false->
    (∀ e∈ok.after,Region.binds md e=true->e.on≠i)->g.apart ops ok=true:=λk ok hk F q G=>by
   refine u k ok hk F ?_ G;by_cases w:j=k
   .subst w;exact x
   rw[D2 true w]at q;exact q
  refine qOp_mono (λa' t=>M (aQ.setIfInBounds j true) a' (inv.set m p) z (uY l (gE c)) t.1 ?_) (qOp_put s (u j d s c x K) (λcs b=>y i g cs b ax) (λcs b=>y j d cs b s) r h1);rw[L8 _ _ c];exact t.2
theorem LL{n g:J}{d:Act->al}(p:Region.noSelect ops=true)(aw:Region.sinkB md ops n=true)(an:Region.chainB md ops n=true)(av:n<ops.size):∀ (l:ah Oper) (k:J) (aQ:a7 a1) (a:Act),(∀ j,j<l.length->l[j]?=ops[k+j]?)->k+l.length=n->HeadInv md ops n aQ->
  Region.lexHead md ops g l.length k aQ=true->wpQuiet P ops C d l a->
  sZ P md ops C n (λf a'=>Region.seqB md ops g n f=true/\d a') l.length aQ a
 | [],k,aQ,a,_,hk,_,c,h=>by
  have:k=n:=by simpa using hk
  subst this;exact⟨by simpa[Region.lexHead]using c,h⟩
 | o :: l,k,aQ,a,m,hk,inv,c,h=>by
  have b:ops[k]?=some o:=by simpa using(m 0 aM).symm
  simp only[dy,Region.lexHead,ep]at c;obtain⟨⟨u,t⟩,q⟩:=c;have i:k<n:=by simp only[dy]at hk;omega
  have e:k∈Region.ready md ops aQ:=by simpa using u
  have w:qOp P ops C k (wpQuiet P ops C d l) a:=by unfold qOp;simp only[b];exact h
  obtain⟨v,x,r⟩:=yieldsIn_of_qOp b w
  exact ZL b (DX p) aw an av i (λf a' s=>seqB_ready s.1) l.length aQ a inv (DW b t) e x
   (LL p aw an av l (k+1) _ _ (λj y=>by have:=m (j+1) b1;simpa[hZ,qL 1 j]using this) (by simp only[dy]at hk;omega) (inv.set e i) q r)
def Ij{l:ah Oper}{n:J}{a:Act}{c:Act->al}(d:Region.lexTailB .any l.toArray n=true)(h:wpQuiet P l.toArray C c (l.take n) a):n<l.length/\sZ P .any l.toArray C n (λm a'=>Region.seqB .any l.toArray (l.drop n).length n m=true/\c a') n (Array.replicate l.toArray.size false) a:=by
 simp only[Region.lexTailB,ep,gh]at d;have⟨⟨⟨⟨q,av⟩,aw⟩,an⟩,p⟩:=d;have k:n<l.length:=by simpa using av
 have b:(l.take n).length=n:=b1;have o:(l.drop n).length=l.toArray.size-n:=aM
 have r:HeadInv .any l.toArray n (Array.replicate l.toArray.size false):=
  ⟨aM,λj s _ f=>(by rw[getD_replicate_false]at f;cases f),λt _ aK=>getD_in (by simpa using aK) (getD_replicate_false _ _)⟩
 have H:=LL (md:=.any) (g:=l.toArray.size-n) q aw an av (l.take n) 0 _ a (λj e=>by
  have i:j<n:=by rw[b]at e;exact e
  simp[i]) (by simpa using b) r (by rw[b];exact p) h
 rw[b]at H;rw[o];exact⟨k,H⟩
theorem LR{n g:J}{L:a7 a1->Act->al}{Q':Exit->Act->aj->al}(c:∀ aQ a w,C w->L aQ a->wpAny P md ops Q' g aQ a w):∀ (f:J) (aQ:a7 a1) (a:Act) (w:aj),C w->sZ P md ops C n L f aQ a->wpAny P md ops Q' (f+g) aQ a w
 | 0,aQ,a,w,b,h=>by rw[rY];exact c _ _ _ b h
 | f+1,aQ,a,w,b,h=>by
  rw[show f+1+g=(f+g)+1 by omega];exact⟨λj=>absurd j h.1,λi ax=>wpOp_of_qOp b (λa' w' e d=>LR c f _ a' w' e d) (h.2 i ax).2⟩
def ZT{id:J}{Q:Exit->Act->aj->al}{a:Act}{w:aj}{l:ah Oper}(n:J)(hm:P.follows .mixedOrders=true)(d:Region.lexTailB .any l.toArray n=true)(aV:C {w with drawn:=w.drawn+1})(h:wpQuiet P l.toArray C (λa'=>∀ w',C w'->wpList P l.toArray Q (l.drop n) a' w') (l.take n) a):(Code.region id l.toArray true).wp P Q a w:=by
 have⟨av,H⟩:=Ij d h;refine D_ hm ?_
 have:=LR (Q':=Q) (g:=(l.drop n).length) (λaQ a' w' c b=>wpAny_of_seq (md:=.any) (Q':=Q) (l.drop n) n aQ a' w' (λj=>by simp[xe]) b.1 (b.2 w' c)) _ _ _ _ aV H
 rw[show n+(l.drop n).length=l.toArray.size by simp;omega]at this;exact this
structure Open(F:Fence)(m:J)(P:Program):al where
 fn:∀ f,F.fn f
 depth:F.depth=none
 call:∀ {f args w R},Calls P f args w R->CallsIn F (m-1) P f args w R
def UQ(m:J)(P:Program):Open Fence.wide m P:=⟨λ_=>trivial,rfl,λh=>gU.2 h⟩
def Cn(l:ah Oper):a1:=l.all λo=>match o.op with|.defer _=>false|_=>true
def UJ{l:ah Oper}(h:Cn l=true){i:J}{o:Oper}(ax:l.toArray[i]?=some o)(c:Call):o.op≠.defer c:=by
 intro e;have hm:o∈l:=by
  have:l[i]?=some o:=by simpa using ax
  exact kX this
 have:=fw.1 h o hm
 rw[e]at this;cases this
def ZM{F:Fence}{m:J}(g:Open F m P){o:Oper}{a:Act}{K:Act->al}{j:Act->aj->al}{Q':Exit->Act->aj->al}{w:aj}(n:o.semAt F.round a.eval=execOp a.eval o)(i:C w)(h:∀ a w',C w'->K a->j a w')(aS:o.quiet P a C K):o.wpIn F m P a w j Q':=by
 have⟨v,h1,h2⟩:=aS;have b:=h1 w i;unfold Oper.quietAt at b;refine⟨λf _=>g.fn f,?_⟩;rw[n];generalize (execOp a.eval o).run P w=r at *;cases r with
 | ok x w'=>
  cases x<;>simp only[Oper.quietUpon]at b<;>simp only[Oper.uponIn]
  case value u=>
   have⟨c,d⟩:=b;rw[c,d];exact h _ _ i h2
  case skip=>
   have⟨c,d⟩:=b;rw[c,<-d];exact h _ _ i h2
  case enter f args=>
   obtain⟨c,an⟩:=b;rw[c];refine⟨(λhd=>by rw[g.depth]at hd;cases hd),CallsIn.mono (g.call an) λe p l=>?_⟩;obtain⟨rfl,k⟩:=l;exact h _ _ k h2
 | halt x w'=>simp only[Oper.quietUpon]at b
def ZQ{F:Fence}{m:J}(g:Open F m P){i:J}{a:Act}{K:Act->al}{e:Act->aj->al}{Q':Exit->Act->aj->al}{w:aj}(j:∀ (o:Oper) (c:Call),ops[i]?=some o->o.op≠Op.defer c)(aV:C w)(h:∀ a w',C w'->K a->e a w')(aS:qOp P ops C i K a):wpOpIn F m P ops Q' i e a w:=by
 unfold qOp at aS;unfold wpOpIn;split
 .rename_i b;simp only[b]at aS;exact h _ _ aV aS
 rename_i o b;simp only[b]at aS;split
 .rename_i d;simp only[d,if_true]at aS;exact ZM g (Oper.semAt_eq _ _ _ λc=>j o c b) aV h aS
 rename_i d;simp only[d]at aS;exact⟨λf _=>g.fn f,h _ _ aV aS⟩
theorem LM{F:Fence}{m:J}(d:Open F m P)(j:∀ (i:J) (o:Oper) (c:Call),ops[i]?=some o->o.op≠Op.defer c){n g:J}{L:a7 a1->Act->al}{Q':Exit->Act->aj->al}(e:∀ aQ a w,C w->L aQ a->wpAnyIn F m P md ops Q' g aQ a w):∀ (f:J) (aQ:a7 a1) (a:Act) (w:aj),C w->sZ P md ops C n L f aQ a->wpAnyIn F m P md ops Q' (f+g) aQ a w
 | 0,aQ,a,w,b,h=>by rw[rY];exact e _ _ _ b h
 | f+1,aQ,a,w,b,h=>by
  rw[show f+1+g=(f+g)+1 by omega];exact⟨λp=>absurd p h.1,λi ax=>ZQ d (j i) b (λa' w' l k=>LM d j e f _ a' w' l k) (h.2 i ax).2⟩
theorem LN{F:Fence}{m:J}{Q':Exit->Act->aj->al}:∀ (l:ah Oper) (k:J) (aQ:a7 a1) (a:Act) (w:aj),(∀ j,l[j]?=ops[k+j]?)->
  Region.seqB md ops l.length k aQ=true->wpListIn F m P ops Q' l a w->wpAnyIn F m P md ops Q' l.length aQ a w
 | [],_,_,_,_,_,b,h=>⟨by simpa[Region.seqB]using b,h⟩
 | o :: l,k,aQ,a,w,c,b,h=>by
  have e:ops[k]?=some o:=by simpa using(c 0).symm
  simp only[dy,Region.seqB,ep,gh]at b;refine⟨λh1=>(by rw[b.1]at h1;cases h1),λi ax=>?_⟩;rw[b.1]at ax;have f:i=k:=by simpa using ax
  subst f;have g:wpOpIn F m P ops Q' i (wpListIn F m P ops Q' l) a w:=by unfold wpOpIn;simp only[e];exact h
  exact wpOpIn_mono (λa' w' d=>LN l (i+1) _ a' w' (λj=>by have:=c (j+1);simpa[hZ,qL 1 j]using this) b.2 d) g
def ZO{F:Fence}{m:J}(k:Open F m P){id:J}{Q:Exit->Act->aj->al}{a:Act}{w:aj}{l:ah Oper}(n:J)(hm:P.follows .mixedOrders=true)(e:Region.lexTailB .any l.toArray n=true)(f:Cn l=true)(aV:C {w with drawn:=w.drawn+1})(h:wpQuiet P l.toArray C (λa'=>∀ w',C w'->wpListIn F m P l.toArray Q (l.drop n) a' w') (l.take n) a):(Code.region id l.toArray true).wpIn F m P Q a w:=by
 have⟨av,H⟩:=Ij e h;refine wpIn_region_any hm ?_
 have:=LM (Q':=Q) (g:=(l.drop n).length) k (λi o c ax=>UJ f ax c) (λaQ a' w' d b=>LN (md:=.any) (Q':=Q) (l.drop n) n aQ a' w' (λj=>by simp[xe]) b.1 (b.2 w' d)) _ _ _ _ aV H
 rw[show n+(l.drop n).length=l.toArray.size by simp;omega]at this;exact this
theorem iN{id:J}{Q:Exit->Act->aj->al}{a:Act}{w:aj}{l:ah Oper}(n:J)(hm:P.follows .mixedOrders=true)(b:Region.lexTailB .any l.toArray n=true)(h:wpQuiet P l.toArray (λw'=>∃ n,w'=w.drewN n) (λa'=>∀ w',(∃ n,w'=w.drewN n)->wpList P l.toArray Q (l.drop n) a' w') (l.take n) a):(Code.region id l.toArray true).wp P Q a w:=
 ZT (C:=λw'=>∃ n,w'=w.drewN n) n hm b ⟨1,rfl⟩ h
theorem ZP{F:Fence}{m:J}(d:Open F m P){id:J}{Q:Exit->Act->aj->al}{a:Act}{w:aj}{l:ah Oper}(n:J)(hm:P.follows .mixedOrders=true)(b:Region.lexTailB .any l.toArray n=true)(c:Cn l=true)(h:wpQuiet P l.toArray (λw'=>∃ n,w'=w.drewN n) (λa'=>∀ w',(∃ n,w'=w.drewN n)->wpListIn F m P l.toArray Q (l.drop n) a' w') (l.take n) a):(Code.region id l.toArray true).wpIn F m P Q a w:=
 ZO (C:=λw'=>∃ n,w'=w.drewN n) d n hm b c ⟨1,rfl⟩ h
theorem hv{f:FuncId}{args:a7 ay}{w:aj}{a k:J}{v:ay}(h:Calls P f args (w.drewN (a+k)) λe w'=>e=.returned v/\∃ m,w'=(w.drewN (a+k)).drewN m):Calls P f args (w.drewN (a+k)) λe b=>e=.returned v/\∃ m,b=w.drewN (a+m):=
 h.mono λ_ _ ⟨c,m,hm⟩=>⟨c,k+m,by rw[hm,D1,hZ]⟩
theorem jo{f:FuncId}{args:a7 ay}{w:aj}{v:ay}(h:Calls P f args w λe w'=>e=.returned v/\w=w'):Calls P f args w λe w'=>e=.returned v/\∃ m,w'=w.drewN m:=
 h.mono λ_ _ ⟨a,hm⟩=>⟨a,0,hm▸rfl⟩
end
section
variable{P:Program}{ops:a7 Oper}{md:Region.Mode}{C:aj->al}{Q:Exit->Act->aj->al}
def CA(o:Oper):a1:=match o.op with|.move _|.assign _|.load ..|.fieldAddr ..|.indexAddr ..|.slice ..|.binOp ..|.unOp ..|.convert ..|.extract ..|.index ..|.field ..|.nilCheck _=>true|_=>false
def n'(P:Program)(ops:a7 Oper)(C:aj->al)(o:Oper)(v:ay)(a:Act):al:=
 (Region.wanted o (yielded ops a.tmps)=true/\∀ w,C w->(execOp a.eval o).run P w=.ok (.value v) w\/((execOp a.eval o).run P w=.ok .skip w/\v=undef))\/
 (Region.wanted o (yielded ops a.tmps)=false/\v=undef)
theorem n'.wpOp{i:J}{o:Oper}{v:ay}{a:Act}(ax:ops[i]?=some o)(c:n' P ops C o v a){K:Act->aj->al}{w:aj}(b:C w)(h:K (a.put o.dst v) w):wpOp P ops Q i K a w:=by
 unfold Go.wpOp;simp only[ax];rcases c with⟨h1,h2⟩|⟨h1,rfl⟩
 .simp only[h1,if_true];rcases h2 w b with e|⟨e,rfl⟩
  .exact .inl (by unfold Oper.wp;rw[e];exact h)
  exact .inl (by unfold Oper.wp;rw[e];exact h)
 simp only[h1,w3,if_false];exact h
def n'.of_same{o:Oper}{v:ay}{a a':Act}(d:n' P ops C o v a)(b:execOp a'.eval o=execOp a.eval o)(c:Region.wanted o (yielded ops a'.tmps)=Region.wanted o (yielded ops a.tmps)):n' P ops C o v a':=by
 unfold n' at *;rw[b,c];exact d
def ZR{j:J}{g i:Oper}{v:ay}(y:ops[j]?=some i)(t:g.apart ops i=true)(p:∀ cs b,g.op≠.select cs b)(q:∀ cs b,i.op≠.select cs b)(m:∀ c a w d u,Q (.panic c) (Act.put a d u) w->Q (.panic c) a w){K:Act->aj->al}{a:Act}{w:aj}(s:n' P ops C g v a)(h:wpOp P ops Q j K (a.put g.dst v) w):wpOp P ops Q j (λa' w'=>n' P ops C g v a'/\K (a'.put g.dst v) w') a w:=by
 have⟨h1,h2,l⟩:=Oper.apart_spec t;have keep:∀ u,n' P ops C g v (a.put i.dst u):=λu=>s.of_same (zU g p a i.dst u l) (wanted_put g a i.dst u l);unfold Go.wpOp at *;simp only[y]at *;rw[wanted_put i a g.dst v h1]at h;by_cases r:Region.wanted i (yielded ops a.tmps)=true
 .rw[aE r]at h⊢;rcases h with h|⟨bh,z⟩
  .left;unfold Oper.wp at *;rw[zU i q a g.dst v h1]at h;cases o:(execOp a.eval i).run P w with
   | ok n w'=>
    rw[o]at h;cases n<;>simp only[Oper.upon]at h⊢
    case value u=>exact⟨keep u,by rw[<-uX a v u h2];exact h⟩
    case skip=>exact⟨keep _,by rw[<-uX a v undef h2];exact h⟩
    case defer d=>
     refine⟨(s.of_same (a':={a with defers:=d :: a.defers}) rfl rfl).of_same (zU g p _ i.dst undef l) (wanted_put g _ i.dst undef l),?_⟩;rw[<-uX _ v undef h2,<-Act.put_defers];exact h
    case enter f args=>
     refine h.mono λe aD k=>?_;cases e with
     | returned u=>exact⟨keep u,by rw[<-uX a v u h2];exact k⟩
     | panicked c=>exact m _ _ _ _ _ k
     | outgrown=>exact k
    case row row args=>exact Rows.mono h λu aD k=>⟨keep u,by rw[<-uX a v u h2];exact k⟩
   | halt x w'=>
    rw[o]at h;cases x<;>simp only[Oper.upon]at h⊢
    case panic u=>exact m _ _ _ _ _ h
  right;exact⟨by unfold Oper.asks at *;rw[zU i q a g.dst v h1]at bh;exact bh,z⟩
 rw[aB r]at h⊢;exact⟨keep _,by rw[<-uX a v undef h2];exact h⟩
def Jt:Oper:={dst:=none,op:=.move (.tmp 0),type:=0,pos:="",after:=#[],guard:=none}
def eQ(ops:a7 Oper)(L:ah J):ah Oper:=L.map λk=>ops[k]?.getD Jt
def Cr{k:J}{L:ah J}{o:Oper}(h:ops[k]?=some o):eQ ops (k :: L)=o :: eQ ops L:=by simp[eQ,h]
def NE(P:Program)(m:Sem Next):al:=∀ w f args w',m.run P w≠.ok (.enter f args) w'
theorem NE.value(v:ay):NE P (pure (.value v)):=λ_ _ _ _ e=>by simp only[iD]at e;cases e
def NE.bind{α:Type}{s:Sem α}{g:α->Sem Next}(h:∀ x,NE P (g x)):NE P (s >>= g):=λw f args w' e=>by
 simp only[hW]at e;cases aw:s.run P w with
 | ok x aD=>rw[aw]at e;exact h x aD f args w' e
 | halt k aD=>rw[aw]at e;cases e
def NE.panic(v:ay):NE P (goPanic v:Sem Next):=λw f args w' e=>by cases e
theorem NE.nilDeref:NE P (runtimePanic .nilDeref:Sem Next):=by
 exact NE.bind λp=>NE.panic _
def Vo{o:Oper}(h:CA o=true)(ρ:Operand->ay)(w w':aj)(f:FuncId)(args:a7 ay):(execOp ρ o).run P w≠.ok (.enter f args) w':=by
 suffices H:NE P (execOp ρ o)from H w f args w'
 unfold CA at h;unfold execOp
 cases b:o.op<;>rw[b]at h<;>first
  | (cases h;done)
  | exact NE.value _
  | exact NE.bind λ_=>NE.value _
  | skip
 simp only[];split
 .exact NE.nilDeref
 .exact NE.nilDeref
 .exact NE.nilDeref
 .split
  .exact NE.nilDeref
  .refine NE.bind λa=>NE.bind λy=>?_;split
   .exact NE.bind λ_=>NE.value _
   exact NE.value _
  exact NE.value _
 exact NE.value _
structure Kept(w:aj) where
 to:aj
 keeps:Keeps aG w to
instance (w:aj):Nonempty (Kept w):=⟨⟨w,Keeps.refl _ w⟩⟩
def kept{w w':aj}(h:Keeps aG w w'):∃ x:Kept w,w'=x.to:=⟨⟨w',h⟩,rfl⟩
end
section
variable{P:Program}{ops:a7 Oper}{md:Region.Mode}{C:aj->al}{Q:Exit->Act->aj->al}
def wH(o:Oper):a1:=CA o || (match o.op with|.call c=>(match c.callee with|.builtin .len=>true|.builtin .min=>true|.builtin .max=>true|_=>false)|.pick ..=>true|.build ..=>true|.lookup ..=>true|_=>false)
def Vn{o:Oper}(h:wH o=true)(ρ:Operand->ay):NE P (execOp ρ o):=by
 unfold wH at h;rw[uW]at h;rcases h with h|h
 .exact λw f args w'=>Vo h ρ w w' f args
 unfold execOp
 cases d:o.op<;>rw[d]at h<;>first
  | (cases h;done)
  | exact NE.bind λ_=>NE.value _
  | skip
 rename_i c;obtain⟨callee,args,a⟩:=c;cases callee<;>first|(cases h;done)|skip
 rename_i b;cases b<;>first|(cases h;done)|skip
 all_goals
  simp only[resolve];intro w f g w' e;simp only[hW,iD,hE,invoke,builtin]at e
  first
   | (rcases aw:(Builtin.len_ a o.type (args.map ρ)).run P w with _|_<;>(rw[aw]at e;cases e))
   | (rcases aw:(Builtin.min_ a o.type (args.map ρ)).run P w with _|_<;>(rw[aw]at e;cases e))
   | (rcases aw:(Builtin.max_ a o.type (args.map ρ)).run P w with _|_<;>(rw[aw]at e;cases e))
def L4{i:J}{o:Oper}{a:Act}{K:Act->al}(au:wH o=true)(ax:ops[i]?=some o)(h:qOp P ops C i K a):∃ v,n' P ops C o v a/\K (a.put o.dst v):=by
 obtain⟨v,e,hk⟩:=yieldsIn_of_qOp ax h;refine⟨v,?_,hk⟩;rcases e with⟨c,aU⟩|av
 .refine .inl ⟨c,λw d=>?_⟩;have h1:=aU w d;unfold Oper.quietAt at h1;cases b:(execOp a.eval o).run P w with
  | ok x w'=>
   rw[b]at h1;cases x<;>simp only[Oper.quietUpon]at h1
   case value u=>obtain⟨rfl,rfl⟩:=h1;exact .inl rfl
   case skip=>obtain⟨rfl,rfl⟩:=h1;exact .inr ⟨rfl,rfl⟩
   case enter f args=>exact absurd b ((Vn (P:=P) au a.eval w) f args w')
  | halt x w'=>rw[b]at h1;simp only[Oper.quietUpon]at h1
 exact .inr av
def nL(P:Program)(md:Region.Mode)(ops:a7 Oper)(C:aj->al)(Q:Exit->Act->aj->al)(late:J->a1)(R:a7 a1->Act->aj->al):J->a7 a1->Act->aj->al
 | 0,aQ,a,w=>R aQ a w
 | f+1,aQ,a,w=>Region.ready md ops aQ≠[]/\∀ i∈Region.ready md ops aQ,late i=false/\wpOp P ops Q i (λa' w'=>C w'/\nL P md ops C Q late R f (aQ.setIfInBounds i true) a' w') a w
theorem zE{late:J->a1}{R:a7 a1->Act->aj->al}{g:J}(b:∀ aQ a w,R aQ a w->wpAny P md ops Q g aQ a w):∀ (f:J) (aQ:a7 a1) (a:Act) (w:aj),nL P md ops C Q late R f aQ a w->wpAny P md ops Q (f+g) aQ a w
 | 0,aQ,a,w,h=>by rw[rY];exact b _ _ _ h
 | f+1,aQ,a,w,h=>by
  rw[show f+1+g=(f+g)+1 by omega];exact⟨λc=>absurd c h.1,λi ax=>wpOp_mono (λa' w' aS=>zE b f _ a' w' aS.2) (h.2 i ax).2⟩
structure Reach(md:Region.Mode)(ops:a7 Oper)(late:J->a1)(i:J)(reach:J->a1):al where
 next:∀ j o,ops[j]?=some o->j≠i->(∀ e∈o.after,Region.binds md e=true->reach e.on=true)->reach j=true
 early:∀ j,reach j=true->late j=false
def LO{late:J->a1}{R:a7 a1->Act->aj->al}{i:J}{s:Oper}{v:ay}{reach:J->a1}(ax:ops[i]?=some s)(G:∀ (j:J) (o:Oper) cs b,ops[j]?=some o->o.op≠.select cs b)(L:∀ c a w d u,Q (.panic c) (Act.put a d u) w->Q (.panic c) a w)(F:Reach md ops late i reach)(E:late i=false)(M:∀ aQ a w,R aQ a w->∀ j∈Region.ready md ops aQ,late j=true):∀ (f:J) (aQ:a7 a1) (a:Act) (w:aj),(∀ j,aQ.getD j false=true->reach j=true)->
   (∀ j m,ops[j]?=some m->j≠i->aQ.getD j true=false->(∀ e∈m.after,Region.binds md e=true->e.on≠i)->s.apart ops m=true)->
   i∈Region.ready md ops aQ->n' P ops C s v a->C w->
   nL P md ops C Q late R f (aQ.setIfInBounds i true) (a.put s.dst v) w->nL P md ops C Q late R (f+1) aQ a w:=by
 have A:∀ (aQ:a7 a1),(∀ j,aQ.getD j false=true->reach j=true)->∀ j∈Region.ready md ops aQ,j≠i->reach j=true/\late j=false:=by
  intro aQ aw j n hne;have⟨_,m,q,y⟩:=lE.1 n;have h1:=F.next j m q hne (λe z ak=>aw _ (y e z ak));exact⟨h1,F.early j h1⟩
 intro f
 induction f with
 | zero=>
  intro aQ a w aw _ l x r H;refine⟨λh=>AA,λj n=>?_⟩;by_cases g:j=i
  .subst g;exact⟨E,x.wpOp ax r ⟨r,H⟩⟩
  have h1:=M _ _ _ H j (uY n g);rw[(A aQ aw j n g).2]at h1;cases h1
 | succ f X=>
  intro aQ a w aw B l x r H;refine⟨λh=>AA,λj n=>?_⟩;by_cases g:j=i
  .subst g;exact⟨E,x.wpOp ax r ⟨r,H⟩⟩
  have⟨D,m,q,y⟩:=lE.1 n;have V:∀ e∈m.after,Region.binds md e=true->e.on≠i:=λe z ak N=>by
   have h1:=y e z ak;rw[N,getD_both ((lE.1 l).1)]at h1;cases h1
  have⟨W,S⟩:=A aQ aw j n g;have h2:=ZR q (B j m q g D V) (λcs b=>G i s cs b ax) (λcs b=>G j m cs b q) L x ((H.2 j (uY n g)).2);refine⟨S,wpOp_mono (λa' w' t=>⟨t.2.1,X (aQ.setIfInBounds j true) a' w' (λk hk=>?_) (λk ok hk O K T=>?_) (uY l (gE g)) t.1 t.2.1 ?_⟩) h2⟩
  .by_cases p:j=k
   .subst p;exact W
   rw[D2 false p]at hk;exact aw k hk
  .refine B k ok hk O ?_ T;by_cases p:j=k
   .subst p;exact D
   rw[D2 true p]at K;exact K
  rw[L8 _ _ g];exact t.2.2
def J2(md:Region.Mode)(ops:a7 Oper)(aQ:a7 a1)(i:J):a7 a1:=
 (range ops.size).foldl (λa j=>a.push (aQ.getD j false || (j != i&&(match ops[j]? with|some o=>o.after.all (λe=>!Region.binds md e || a.getD e.on false)|none=>false)))) #[]
def y7(md:Region.Mode)(ops:a7 Oper)(late:J->a1)(aQ:a7 a1)(i:J)(reach:a7 a1):a1:=
 (range ops.size).all (λj=>(j == i || reach.getD j false || (match ops[j]? with|some o=>o.after.any (λe=>Region.binds md e&&!reach.getD e.on false)|none=>true))&&(!reach.getD j false || !late j)&&(!aQ.getD j false || reach.getD j false))&&decide (reach.size=ops.size)&&decide (aQ.size=ops.size)
def J3{late:J->a1}{aQ:a7 a1}{i:J}{reach:a7 a1}(h:y7 md ops late aQ i reach=true):Reach md ops late i (λj=>reach.getD j false)/\∀ j,aQ.getD j false=true->reach.getD j false=true:=by
 simp only[y7,ep,gh]at h;have⟨⟨h,n⟩,m⟩:=h;rw[fw]at h;have k:∀ j,reach.getD j false=true->j<ops.size:=λj a=>by
  rcases Et j reach.size with b|b
  .omega
  simp[mg b]at a
 refine⟨⟨λj o d hne f=>?_,λj a=>?_⟩,λj a=>?_⟩
 .have a:=(jv.1 d).1;have h1:=h j (pI.2 a);simp only[ep,uW,nY,d]at h1;rcases h1.1.1 with(h2|h2)|h2
  .exact absurd h2 hne
  .exact h2
  have⟨e,g,c⟩:=L5.1 h2;simp only[ep,lD]at c
  have:=f e g c.1
  simp only[c.2]at this;cases this
 .have h1:=h j (pI.2 (k j a));simp only[ep,uW,lD]at h1;rcases h1.1.2 with h2|h2
  .rw[a]at h2;cases h2
  exact h2
 have l:j<ops.size:=by
  rcases Et j aQ.size with b|b
  .omega
  simp[mg b]at a
 have h1:=h j (pI.2 l);simp only[ep,uW,lD]at h1;rcases h1.2 with h2|h2
 .rw[a]at h2;cases h2
 exact h2
def hV(P:Program)(ops:a7 Oper)(C:aj->al)(Q:Exit->Act->aj->al)(R:Act->aj->al):ah Oper->Act->aj->al
 | [],a,w=>R a w
 | o :: rest,a,w=>if Region.wanted o (yielded ops a.tmps)then o.wp P a w (λa' w'=>C w'/\hV P ops C Q R rest a' w') Q else hV P ops C Q R rest (a.put o.dst undef) w
def tJ(md:Region.Mode)(ops:a7 Oper)(late:J->a1):ah J->a7 a1->a1
 | [],aQ=>(Region.ready md ops aQ).all late
 | k :: T,aQ=>decide (Region.ready md ops aQ=[k])&&!late k&&tJ md ops late T (aQ.setIfInBounds k true)
def uM(md:Region.Mode)(ops:a7 Oper)(late:J->a1)(M:ah J):ah J->a7 a1->a1
 | [],aQ=>tJ md ops late M aQ
 | k :: H,aQ=>(Region.ready md ops aQ).contains k&&Region.free md ops aQ k&&(match ops[k]? with|some o=>wH o|none=>false)&&!late k&&y7 md ops late aQ k (J2 md ops aQ k)&&uM md ops late M H (aQ.setIfInBounds k true)
def iX(aQ:a7 a1)(L:ah J):a7 a1:=L.foldl (λl k=>l.setIfInBounds k true) aQ
def nn(aQ:a7 a1)(L:ah J)(j:J):a1:=!(aQ.getD j false || L.contains j)
def uL(md:Region.Mode)(ops:a7 Oper)(H M:ah J)(aQ:a7 a1):a1:=Region.noSelect ops&&uM md ops (nn aQ (H++M)) M H aQ
theorem LQ{late:J->a1}{R:Act->aj->al}(full:a7 a1):∀ (M:ah J) (aQ:a7 a1) (a:Act) (w:aj),C w->tJ md ops late M aQ=true->iX aQ M=full->
  hV P ops C Q R (eQ ops M) a w->nL P md ops C Q late (λl a w=>l=full/\R a w) M.length aQ a w
 | [],aQ,a,w,_,_,c,h=>⟨c,h⟩
 | k :: M,aQ,a,w,n,f,c,h=>by
  simp only[tJ,ep,gh,lD]at f;obtain⟨⟨d,m⟩,j⟩:=f;obtain⟨_,o,g,_⟩:=lE.1 (show k∈Region.ready md ops aQ by rw[d];simp);rw[Cr g]at h;refine⟨λh1=>(by rw[d]at h1;cases h1),λi ax=>?_⟩;rw[d]at ax;obtain rfl:i=k:=by simpa using ax
  refine⟨m,?_⟩;have key:wpOp P ops Q i (λa' w'=>C w'/\hV P ops C Q R (eQ ops M) a' w') a w:=by
   unfold Go.wpOp;unfold hV at h;simp only[g];split
   .rename_i e;rw[if_pos e]at h;exact .inl h
   rename_i e;rw[if_neg e]at h;exact⟨n,h⟩
  exact wpOp_mono (λa' w' b=>⟨b.1,LQ full M _ a' w' b.1 j c b.2⟩) key
theorem Gz{late:J->a1}:∀ (M:ah J) (aQ:a7 a1),tJ md ops late M aQ=true->∀ j∈Region.ready md ops (iX aQ M),late j=true
 | [],_,h,j,a=>fw.1 h j a
 | k :: M,aQ,h,j,a=>by
  simp only[tJ,ep]at h;exact Gz M _ h.2 j a
theorem K3{late:J->a1}{M:ah J}:∀ (H:ah J) (aQ:a7 a1),uM md ops late M H aQ=true->∀ j∈Region.ready md ops (iX aQ (H++M)),late j=true
 | [],_,h,j,a=>Gz M _ h j a
 | k :: H,aQ,h,j,a=>by
  simp only[uM,ep]at h;exact K3 H _ h.2 j a
theorem LP{late:J->a1}{M:ah J}{R:Act->aj->al}(full:a7 a1)(p:Region.noSelect ops=true)(m:∀ c a w d u,Q (.panic c) (Act.put a d u) w->Q (.panic c) a w){w:aj}(g:C w)(n:∀ j∈Region.ready md ops full,late j=true):∀ (H:ah J) (aQ:a7 a1) (a:Act),uM md ops late M H aQ=true->iX aQ (H++M)=full->
   wpQuiet P ops C (λa'=>hV P ops C Q R (eQ ops M) a' w) (eQ ops H) a->nL P md ops C Q late (λl a w=>l=full/\R a w) (H.length+M.length) aQ a w
 | [],aQ,a,e,f,h=>by
  rw[fg,rY];exact LQ full M aQ a w g e f (by simpa[eQ,wpQuiet]using h)
 | k :: H,aQ,a,e,f,h=>by
  simp only[uM,ep,lD]at e;obtain⟨⟨⟨⟨⟨A,s⟩,au⟩,y⟩,B⟩,q⟩:=e;have i:k∈Region.ready md ops aQ:=by simpa using A
  obtain⟨_,o,b,_⟩:=lE.1 i;rw[Cr b]at h;rw[b]at au;have z:qOp P ops C k (wpQuiet P ops C (λa'=>hV P ops C Q R (eQ ops M) a' w) (eQ ops H)) a:=by unfold qOp;simp only[b];exact h
  obtain⟨v,D,r⟩:=L4 au b z;obtain⟨h1,h2⟩:=J3 B;rw[show(k :: H).length+M.length=(H.length+M.length)+1 by simp;omega];exact LO b (DX p) m h1 y (λl a w x j t=>n j (by rw[<-x.1];exact t)) _ aQ a w h2 (DW b s) i D g (LP full p m g n H _ _ q f r)
def K2{aQ:a7 a1}{a:Act}{w:aj}{g:J}(H M:ah J)(b:uL md ops H M aQ=true)(i:C w)(f:∀ c a w d u,Q (.panic c) (Act.put a d u) w->Q (.panic c) a w)(h:wpQuiet P ops C (λa'=>hV P ops C Q (λa w=>wpAny P md ops Q g (iX aQ (H++M)) a w) (eQ ops M) a' w) (eQ ops H) a):wpAny P md ops Q (H.length+M.length+g) aQ a w:=by
 simp only[uL,ep]at b;refine zE (C:=C) (late:=nn aQ (H++M)) (R:=λl a w=>l=iX aQ (H++M)/\wpAny P md ops Q g (iX aQ (H++M)) a w) (λl a w e=>by rw[e.1];exact e.2) _ _ _ _ ?_;exact LP (iX aQ (H++M)) b.1 f i (K3 H aQ b.2) H aQ a b.2 rfl h
def Yo{id:J}{a:Act}{w:aj}{l:ah Oper}(hm:P.follows .mixedOrders=true)(n:J)(av:l.length=n)(h:wpAny P .any l.toArray Q n (Array.replicate n false) a w.drew):(Code.region id l.toArray true).wp P Q a w:=by
 subst av;exact D_ hm (by rw[hh];exact h)
def Db{aQ:a7 a1}{a:Act}{w:aj}(b:(Region.ready md ops aQ).isEmpty=true)(h:Q .normal a w):wpAny P md ops Q 0 aQ a w:=⟨by simpa using b,h⟩
structure gQ(S:J->al)(w:aj) where
 to:aj
 keeps:Keeps S w to
instance (S:J->al)(w:aj):Nonempty (gQ S w):=⟨⟨w,Keeps.refl _ w⟩⟩
def c6{S:J->al}{w w':aj}(h:Keeps S w w'):∃ x:gQ S w,w'=x.to:=⟨⟨w',h⟩,rfl⟩
def jE{S:J->al}{w:aj}{p:Addr}{v:ay}(h:w.cell? p=some v)(aw:¬ S p.block):∀ x:gQ S w,x.to.cell? p=some v:=λx=>x.keeps.cell h aw
def Yn(S:J->al){aQ:a7 a1}{a:Act}{w:aj}{n:J}(H M:ah J)(g:J)(av:n=H.length+M.length+g)(b:a7 a1)(i:iX aQ (H++M)=b)(e:uL md ops H M aQ=true)(f:∀ c a w d u,Q (.panic c) (Act.put a d u) w->Q (.panic c) a w)(h:wpQuiet P ops (λw'=>∃ x:gQ S w,w'=x.to) (λa'=>hV P ops (λw'=>∃ x:gQ S w,w'=x.to) Q (λa w=>wpAny P md ops Q g b a w) (eQ ops M) a' w) (eQ ops H) a):wpAny P md ops Q n aQ a w:=by
 subst av i;exact K2 H M e (c6 (Keeps.refl _ w)) f h
def hQ{R:Act->aj->al}{a:Act}{w:aj}(h:R a w):hV P ops C Q R [] a w:=h
def IY{R:Act->aj->al}{o:Oper}{rest:ah Oper}{a:Act}{w:aj}(b:Region.wanted o (yielded ops a.tmps)=true)(h:∀ K:Act->aj->al,(∀ a' w',C w'->hV P ops C Q R rest a' w'->K a' w')->o.wp P a w K Q):hV P ops C Q R (o :: rest) a w:=by
 unfold hV;rw[if_pos b];exact h _ λ_ _ h1 h2=>⟨h1,h2⟩
def IZ{R:Act->aj->al}{o:Oper}{rest:ah Oper}{a:Act}{w:aj}(b:Region.wanted o (yielded ops a.tmps)=false)(h:hV P ops C Q R rest (a.put o.dst undef) w):hV P ops C Q R (o :: rest) a w:=by
 unfold hV;rw[if_neg (by rw[b];exact Bool.false_ne_true)];exact h
end
section
variable{P:Program}{ops:a7 Oper}{md:Region.Mode}{C:aj->al}{Q:Exit->Act->aj->al}
def sN(md:Region.Mode)(ops:a7 Oper)(late:J->a1):ah J->a7 a1->a1
 | [],_=>true
 | k :: H,aQ=>(Region.ready md ops aQ).contains k&&Region.free md ops aQ k&&(match ops[k]? with|some o=>wH o|none=>false)&&!late k&&y7 md ops late aQ k (J2 md ops aQ k)&&sN md ops late H (aQ.setIfInBounds k true)
theorem DE{late:J->a1}{m:J}{R:Act->aj->al}(full:a7 a1)(n:Region.noSelect ops=true)(g:∀ c a w d u,Q (.panic c) (Act.put a d u) w->Q (.panic c) a w){w:aj}(p:C w)(i:∀ j∈Region.ready md ops full,late j=true):∀ (H:ah J) (aQ:a7 a1) (a:Act),sN md ops late H aQ=true->
   wpQuiet P ops C (λa'=>nL P md ops C Q late (λl a w=>l=full/\R a w) m (iX aQ H) a' w) (eQ ops H) a->nL P md ops C Q late (λl a w=>l=full/\R a w) (H.length+m) aQ a w
 | [],aQ,a,_,h=>by
  rw[fg,rY];simpa[eQ,wpQuiet,iX]using h
 | k :: H,aQ,a,f,h=>by
  simp only[sN,ep,lD]at f;obtain⟨⟨⟨⟨⟨A,s⟩,au⟩,y⟩,B⟩,q⟩:=f;have e:k∈Region.ready md ops aQ:=by simpa using A
  obtain⟨_,o,b,_⟩:=lE.1 e;rw[Cr b]at h;rw[b]at au;have z:qOp P ops C k (wpQuiet P ops C (λa'=>nL P md ops C Q late (λl a w=>l=full/\R a w) m (iX (aQ.setIfInBounds k true) H) a' w) (eQ ops H)) a:=by unfold qOp;simp only[b];exact h
  obtain⟨v,D,r⟩:=L4 au b z;obtain⟨h1,h2⟩:=J3 B;rw[show(k :: H).length+m=(H.length+m)+1 by simp;omega];exact LO b (DX n) g h1 y (λl a w x j t=>i j (by rw[<-x.1];exact t)) _ aQ a w h2 (DW b s) e D p (DE full n g p i H _ _ q r)
def K4(md:Region.Mode)(ops:a7 Oper)(H M:ah J)(aQ full:a7 a1):a1:=
 Region.noSelect ops&&sN md ops (nn aQ (H++M)) H aQ&&(Region.ready md ops full).all (nn aQ (H++M))&&(iX aQ (H++M) == full)
def Tree(P:Program)(md:Region.Mode)(ops:a7 Oper)(S:J->al)(bn:aj)(Q:Exit->Act->aj->al)(mD:a7 a1)(cI:ah J)(full:a7 a1)(g m:J)(aQ:a7 a1)(a:Act)(w:aj):al:=
 nL P md ops (λw'=>∃ x:gQ S bn,w'=x.to) Q (nn mD cI) (λl a w=>l=full/\wpAny P md ops Q g full a w) m aQ a w
def Yp(S:J->al){aQ:a7 a1}{a:Act}{w:aj}{n:J}(H M:ah J)(g:J)(av:n=H.length+M.length+g)(full iY:a7 a1)(hm:iX aQ H=iY)(b:K4 md ops H M aQ full=true)(i:∀ c a w d u,Q (.panic c) (Act.put a d u) w->Q (.panic c) a w)(h:wpQuiet P ops (λw'=>∃ x:gQ S w,w'=x.to) (λa'=>Tree P md ops S w Q aQ (H++M) full g M.length iY a' w) (eQ ops H) a):wpAny P md ops Q n aQ a w:=by
 subst av hm;simp only[K4,ep]at b;have⟨⟨⟨o,f⟩,k⟩,p⟩:=b;refine zE (C:=λw'=>∃ x:gQ S w,w'=x.to) (late:=nn aQ (H++M)) (R:=λl a w=>l=full/\wpAny P md ops Q g full a w) (λl a w e=>by rw[e.1];exact e.2) _ _ _ _ ?_;exact DE full o i (c6 (Keeps.refl _ w)) (λj m=>fw.1 k j m) H aQ a f h
section
variable{S:J->al}{bn:aj}{mD full aQ:a7 a1}{cI:ah J}{g m:J}{a:Act}{w:aj}
def Y4(d:(aQ == full)=true)(h:wpAny P md ops Q g full a w):Tree P md ops S bn Q mD cI full g 0 aQ a w:=⟨xA,h⟩
def du(ops:a7 Oper)(k:J):Oper:=ops[k]?.getD Jt
def Cq{k:J}(h:(ops[k]?).isSome=true):ops[k]?=some (du ops k):=by
 unfold du;cases hk:ops[k]? with
 | none=>rw[hk]at h;cases h
 | some o=>rfl
def Dp{k:J}(b:a7 a1)(c:(ops[k]?).isSome=true)(aw:aQ.setIfInBounds k true=b)(d:Region.wanted (du ops k) (yielded ops a.tmps)=true)(h:∀ K:Act->aj->al,(∀ a' w',Keeps S bn w'->Tree P md ops S bn Q mD cI full g m b a' w'->K a' w')->(du ops k).wp P a w K Q):wpOp P ops Q k (λa' w'=>(∃ x:gQ S bn,w'=x.to)/\Tree P md ops S bn Q mD cI full g m (aQ.setIfInBounds k true) a' w') a w:=by
 unfold Go.wpOp;simp only[Cq c];rw[if_pos d,aw];exact .inl (h _ λ_ _ h1 h2=>⟨c6 h1,h2⟩)
def sU(k:J)(c:a7 a1)(f:(Region.ready md ops aQ == [k])=true)(d:nn mD cI k=false)(e:(ops[k]?).isSome=true)(aw:aQ.setIfInBounds k true=c)(j:Region.wanted (du ops k) (yielded ops a.tmps)=true)(h:∀ K:Act->aj->al,(∀ a' w',Keeps S bn w'->Tree P md ops S bn Q mD cI full g m c a' w'->K a' w')->(du ops k).wp P a w K Q):Tree P md ops S bn Q mD cI full g (m+1) aQ a w:=by
 have b:Region.ready md ops aQ=[k]:=by simpa using f
 refine⟨xD,λi ax=>?_⟩;rw[b]at ax;obtain rfl:i=k:=by simpa using ax
 exact⟨d,Dp c e aw j h⟩
def Dq(k j:J)(c d:a7 a1)(n:(Region.ready md ops aQ == [k,j])=true)(e:nn mD cI k=false)(f:nn mD cI j=false)(l:(ops[k]?).isSome=true)(au:(ops[j]?).isSome=true)(aw:aQ.setIfInBounds k true=c)(o:aQ.setIfInBounds j true=d)(p:Region.wanted (du ops k) (yielded ops a.tmps)=true)(q:Region.wanted (du ops j) (yielded ops a.tmps)=true)(h:∀ K:Act->aj->al,(∀ a' w',Keeps S bn w'->Tree P md ops S bn Q mD cI full g m c a' w'->K a' w')->(du ops k).wp P a w K Q)(h2:∀ K:Act->aj->al,(∀ a' w',Keeps S bn w'->Tree P md ops S bn Q mD cI full g m d a' w'->K a' w')->(du ops j).wp P a w K Q):Tree P md ops S bn Q mD cI full g (m+1) aQ a w:=by
 have b:Region.ready md ops aQ=[k,j]:=by simpa using n
 refine⟨xD,λi ax=>?_⟩;rw[b]at ax;rcases ff.1 ax with rfl|ax
 .exact⟨e,Dp c l aw p h⟩
 obtain rfl:i=j:=by simpa using ax
 exact⟨f,Dp d au o q h2⟩
end
end
section
variable{P:Program}{ops:a7 Oper}{md:Region.Mode}{Q:Exit->Act->aj->al}
structure bs(F:aj->al) where
 to:aj
 held:F to
def j2{F:aj->al}{w:aj}(h:F w):∃ x:bs F,w=x.to:=⟨⟨w,h⟩,rfl⟩
def uN(F:aj->al){aQ:a7 a1}{a:Act}{w:aj}{n:J}(j:F w)(H M:ah J)(g:J)(av:n=H.length+M.length+g)(b:a7 a1)(i:iX aQ (H++M)=b)(e:uL md ops H M aQ=true)(f:∀ c a w d u,Q (.panic c) (Act.put a d u) w->Q (.panic c) a w)[Nonempty (bs F)](h:wpQuiet P ops (λw'=>∃ x:bs F,w'=x.to) (λa'=>hV P ops (λw'=>∃ x:bs F,w'=x.to) Q (λa w=>wpAny P md ops Q g b a w) (eQ ops M) a' w) (eQ ops H) a):wpAny P md ops Q n aQ a w:=by
 subst av i;exact K2 H M e (j2 j) f h
def ew(P:Program)(md:Region.Mode)(ops:a7 Oper)(F:aj->al)(Q:Exit->Act->aj->al)(late:J->a1)(full:a7 a1)(g m:J)(aQ:a7 a1)(a:Act)(w:aj):al:=
 nL P md ops (λw'=>∃ x:bs F,w'=x.to) Q late (λl a w=>l=full/\wpAny P md ops Q g full a w) m aQ a w
variable{F:aj->al}{late:J->a1}{aQ full:a7 a1}{g m:J}{a:Act}{w:aj}
def SS(F:aj->al)(L:ah J)(g:J){n:J}(m:J)(av:n=m+g)(full:a7 a1)(h:ew P md ops F Q (nn aQ L) full g m aQ a w):wpAny P md ops Q n aQ a w:=by
 subst av;exact zE (C:=λw'=>∃ x:bs F,w'=x.to) (late:=nn aQ L) (R:=λl a w=>l=full/\wpAny P md ops Q g full a w) (λl a w b=>by rw[b.1];exact b.2) _ _ _ _ h
def SQ(o:F w)(H:ah J)(k:J)(hk:H.length=k)(iY:a7 a1)(hm:iX aQ H=iY)(b:(Region.noSelect ops&&sN md ops late H aQ&&(Region.ready md ops full).all late)=true)(f:∀ c a w d u,Q (.panic c) (Act.put a d u) w->Q (.panic c) a w)(h:wpQuiet P ops (λw'=>∃ x:bs F,w'=x.to) (λa'=>ew P md ops F Q late full g m iY a' w) (eQ ops H) a):ew P md ops F Q late full g (k+m) aQ a w:=by
 subst hm hk;simp only[ep]at b;have⟨⟨n,e⟩,i⟩:=b;exact DE full n f (j2 o) (λj l=>fw.1 i j l) H aQ a e h
def SR(k:J)(c:a7 a1)(f:(Region.ready md ops aQ == [k])=true)(d:late k=false)(e:(ops[k]?).isSome=true)(aw:aQ.setIfInBounds k true=c)(j:Region.wanted (du ops k) (yielded ops a.tmps)=true)(h:∀ K:Act->aj->al,(∀ a' w',F w'->ew P md ops F Q late full g m c a' w'->K a' w')->(du ops k).wp P a w K Q):ew P md ops F Q late full g (m+1) aQ a w:=by
 have b:Region.ready md ops aQ=[k]:=by simpa using f
 refine⟨xD,λi ax=>?_⟩;rw[b]at ax;obtain rfl:i=k:=by simpa using ax
 refine⟨d,?_⟩;unfold Go.wpOp;simp only[Cq e];rw[aE j,aw];exact .inl (h _ λ_ _ h1 h2=>⟨j2 h1,h2⟩)
def wi{k:J}(b:a7 a1)(c:late k=false)(d:(ops[k]?).isSome=true)(aw:aQ.setIfInBounds k true=b)(e:Region.wanted (du ops k) (yielded ops a.tmps)=true)(h:∀ K:Act->aj->al,(∀ a' w',F w'->ew P md ops F Q late full g m b a' w'->K a' w')->(du ops k).wp P a w K Q):late k=false/\wpOp P ops Q k (λa' w'=>(∃ x:bs F,w'=x.to)/\nL P md ops (λw'=>∃ x:bs F,w'=x.to) Q late (λl a w=>l=full/\wpAny P md ops Q g full a w) m (aQ.setIfInBounds k true) a' w') a w:=by
 refine⟨c,?_⟩;unfold Go.wpOp;simp only[Cq d];rw[aE e,aw];exact .inl (h _ λ_ _ h1 h2=>⟨j2 h1,h2⟩)
def so(k j:J)(c d:a7 a1)(n:(Region.ready md ops aQ == [k,j])=true)(e:late k=false)(f:late j=false)(l:(ops[k]?).isSome=true)(au:(ops[j]?).isSome=true)(aw:aQ.setIfInBounds k true=c)(o:aQ.setIfInBounds j true=d)(p:Region.wanted (du ops k) (yielded ops a.tmps)=true)(q:Region.wanted (du ops j) (yielded ops a.tmps)=true)(h:∀ K:Act->aj->al,(∀ a' w',F w'->ew P md ops F Q late full g m c a' w'->K a' w')->(du ops k).wp P a w K Q)(h2:∀ K:Act->aj->al,(∀ a' w',F w'->ew P md ops F Q late full g m d a' w'->K a' w')->(du ops j).wp P a w K Q):ew P md ops F Q late full g (m+1) aQ a w:=by
 have b:Region.ready md ops aQ=[k,j]:=by simpa using n
 refine⟨xD,λi ax=>?_⟩;rw[b]at ax;rcases ff.1 ax with rfl|ax
 .exact wi c e l aw p h
 obtain rfl:i=j:=by simpa using ax
 exact wi d f au o q h2
def B8(d:(aQ == full)=true)(h:wpAny P md ops Q g full a w):ew P md ops F Q late full g 0 aQ a w:=⟨xA,h⟩
def qB{o:Oper}{a:Act}{K:Act->aj->al}{w w':aj}{v:ay}{T:TypeId}(b:o.op=.alloc T)(hrun:(Instr.alloc T true (aY #[])).run P w=.ok v w')(h:K (a.put o.dst v) w'):o.wp P a w K Q:=by
 unfold Oper.wp execOp;simp only[b,hW,hrun,hE,iD];exact h
end
section
variable{P:Program}{ops:a7 Oper}{md:Region.Mode}{Q:Exit->Act->aj->al}{aQ:a7 a1}{a:Act}{w:aj}
def cJ(n:J){id:J}{l:ah Oper}(h:wpAny P .any l.toArray Q n (Array.replicate n false) a w.drew)(hm:P.follows .mixedOrders=true:=by kernel_rfl)(av:l.length=n:=by rfl):(Code.region id l.toArray true).wp P Q a w:=Yo hm n av h
def iI(h:Q .normal a w)(b:(Region.ready md ops aQ).isEmpty=true:=by kernel_rfl):wpAny P md ops Q 0 aQ a w:=Db b h
def ow(S:J->al)(H M:ah J)(g:J){n:J}{X Y:ah Oper}(h:wpQuiet P ops (λw'=>∃ x:gQ S w,w'=x.to) (λa'=>hV P ops (λw'=>∃ x:gQ S w,w'=x.to) Q (λa w=>wpAny P md ops Q g (iX aQ (H++M)) a w) Y a' w) X a)(av:n=H.length+M.length+g:=by rfl)(b:uL md ops H M aQ=true:=by kernel_rfl)(e:∀ c a w d u,Q (.panic c) (Act.put a d u) w->Q (.panic c) a w:=by intro _ _ _ d _ h;first|(cases d<;>exact h)|cases h.1)(f:eQ ops H=X:=by simp only[eQ,range,range.loop,jQ,lG,ka,kW,j',ib]<;>rfl)(i:eQ ops M=Y:=by simp only[eQ,range,range.loop,jQ,lG,ka,kW,j',ib]<;>rfl):wpAny P md ops Q n aQ a w:=by
 subst f i;exact Yn S H M g av _ rfl b e h
theorem y5{C:aj->al}{K:Act->al}{A:Act}(hk:K A):∀ (L:ah Oper) (a:Act),wpQuiet P ops C (λa'=>a'=A) L a->wpQuiet P ops C K L a
 | [],_,h=>by
  have h:_=A:=h;subst h;exact hk
 | o :: L,a,h=>by
  unfold wpQuiet at h⊢;split
  .rename_i b;rw[if_pos b]at h;exact Oper.quiet_mono (λa=>y5 hk L a) h
  rename_i b;rw[if_neg b]at h;exact y5 hk L _ h
theorem fu(S:J->al)(H M:ah J)(g:J){n:J}{X Y:ah Oper}{A:Act}(k:hV P ops (λw'=>∃ x:gQ S w,w'=x.to) Q (λa w=>wpAny P md ops Q g (iX aQ (H++M)) a w) Y A w)(av:n=H.length+M.length+g:=by rfl)(b:uL md ops H M aQ=true:=by kernel_rfl)(e:∀ c a w d u,Q (.panic c) (Act.put a d u) w->Q (.panic c) a w:=by intro _ _ _ d _ h;first|(cases d<;>exact h)|cases h.1)(f:eQ ops H=X:=by simp only[eQ,range,range.loop,jQ,lG,ka,kW,j',ib]<;>rfl)(i:eQ ops M=Y:=by simp only[eQ,range,range.loop,jQ,lG,ka,kW,j',ib]<;>rfl)(j:wpQuiet P ops (λw'=>∃ x:gQ S w,w'=x.to) (λa'=>a'=A) X a:=by(repeat (go_big_quiet_step (fail)));refine wpQuiet_nil ?_;exact rfl):wpAny P md ops Q n aQ a w:=
 ow S H M g (y5 k _ _ j) av b e f i
def gu{C:aj->al}{R:Act->aj->al}{o:Oper}{rest:ah Oper}(h:∀ K:Act->aj->al,(∀ a' w',C w'->hV P ops C Q R rest a' w'->K a' w')->o.wp P a w K Q)(b:Region.wanted o (yielded ops a.tmps)=true:=by first|rfl|simp[go_sem]):hV P ops C Q R (o :: rest) a w:=IY b h
def ko{C:aj->al}{R:Act->aj->al}{o:Oper}(h:∀ K:Act->aj->al,(∀ a' w',C w'->R a' w'->K a' w')->o.wp P a w K Q)(c:Region.wanted o (yielded ops a.tmps)=true:=by first|rfl|simp[go_sem]):hV P ops C Q R [o] a w:=IY c λK b=>h K λa' w' h1 h2=>b a' w' h1 (hQ h2)
def cK(F:aj->al)(L:ah J)(g m:J){n:J}(h:ew P md ops F Q (nn aQ L) (iX aQ L) g m aQ a w)(av:n=m+g:=by rfl):wpAny P md ops Q n aQ a w:=SS F L g m av _ h
variable{F:aj->al}{late:J->a1}{full:a7 a1}{g m:J}
def qg(b:F w)(H:ah J)(m:J){n:J}{X:ah Oper}(h:Nonempty (bs F)->wpQuiet P ops (λw'=>∃ x:bs F,w'=x.to) (λa'=>ew P md ops F Q late full g m (iX aQ H) a' w) X a)(av:n=H.length+m:=by rfl)(e:(Region.noSelect ops&&sN md ops late H aQ&&(Region.ready md ops full).all late)=true:=by kernel_rfl)(f:∀ c a w d u,Q (.panic c) (Act.put a d u) w->Q (.panic c) a w:=by intro _ _ _ d _ h;first|(cases d<;>exact h)|cases h.1)(i:eQ ops H=X:=by simp only[eQ,range,range.loop,jQ,lG,ka,kW,j',ib]<;>rfl):ew P md ops F Q late full g n aQ a w:=by
 subst i av;exact SQ (m:=m) b H _ rfl _ rfl e f (h ⟨⟨_,b⟩⟩)
theorem dK(e:F w)(H:ah J)(m:J){n:J}{X:ah Oper}{A:Act}(k:ew P md ops F Q late full g m (iX aQ H) A w)(av:n=H.length+m:=by rfl)(b:(Region.noSelect ops&&sN md ops late H aQ&&(Region.ready md ops full).all late)=true:=by kernel_rfl)(f:∀ c a w d u,Q (.panic c) (Act.put a d u) w->Q (.panic c) a w:=by intro _ _ _ d _ h;first|(cases d<;>exact h)|cases h.1)(i:eQ ops H=X:=by simp only[eQ,range,range.loop,jQ,lG,ka,kW,j',ib]<;>rfl)(j:Nonempty (bs F)->wpQuiet P ops (λw'=>∃ x:bs F,w'=x.to) (λa'=>a'=A) X a:=by intro hne;(repeat (go_big_quiet_step (fail)));refine wpQuiet_nil ?_;exact rfl):ew P md ops F Q late full g n aQ a w:=
 qg e H m (λhne=>y5 k _ _ (j hne)) av b f i
def eH(k:J){o:Oper}(h:∀ K:Act->aj->al,(∀ a' w',F w'->ew P md ops F Q late full g m (aQ.setIfInBounds k true) a' w'->K a' w')->o.wp P a w K Q)(d:(Region.ready md ops aQ == [k])=true:=by kernel_rfl)(b:late k=false:=by kernel_rfl)(aw:(ops[k]?).isSome=true:=by kernel_rfl)(c:du ops k=o:=by simp only[du,ka,kW,j',ib]<;>rfl)(e:Region.wanted o (yielded ops a.tmps)=true:=by first|rfl|simp[go_sem]):ew P md ops F Q late full g (m+1) aQ a w:=by
 subst c;exact SR k _ d b aw rfl e h
theorem jG(k:J){o:Oper}(h:∀ K:Act->aj->al,(∀ a' w',F w'->wpAny P md ops Q g full a' w'->K a' w')->o.wp P a w K Q)(f:(Region.ready md ops aQ == [k])=true:=by kernel_rfl)(d:late k=false:=by kernel_rfl)(aw:(ops[k]?).isSome=true:=by kernel_rfl)(e:du ops k=o:=by simp only[du,ka,kW,j',ib]<;>rfl)(i:Region.wanted o (yielded ops a.tmps)=true:=by first|rfl|simp[go_sem])(c:(aQ.setIfInBounds k true == full)=true:=by kernel_rfl):ew P md ops F Q late full g 1 aQ a w:=
 eH k (λK b=>h K λa' w' h1 h2=>b a' w' h1 (B8 c h2)) f d aw e i
theorem kM(k:J){o:Oper}(h:∀ K:Act->aj->al,(∀ a' w',F w'->Q .normal a' w'->K a' w')->o.wp P a w K Q)(f:(Region.ready md ops aQ == [k])=true:=by kernel_rfl)(d:late k=false:=by kernel_rfl)(aw:(ops[k]?).isSome=true:=by kernel_rfl)(e:du ops k=o:=by simp only[du,ka,kW,j',ib]<;>rfl)(g:Region.wanted o (yielded ops a.tmps)=true:=by first|rfl|simp[go_sem])(c:(aQ.setIfInBounds k true == full)=true:=by kernel_rfl)(i:(Region.ready md ops full).isEmpty=true:=by kernel_rfl):ew P md ops F Q late full 0 1 aQ a w:=
 jG k (λK b=>h K λa' w' h1 h2=>b a' w' h1 (Db i h2)) f d aw e g c
def lZ(h:wpAny P md ops Q g full a w)(b:(aQ == full)=true:=by kernel_rfl):ew P md ops F Q late full g 0 aQ a w:=B8 b h
def ox(h:Q .normal a w)(b:(aQ == full)=true:=by kernel_rfl)(c:(Region.ready md ops full).isEmpty=true:=by kernel_rfl):ew P md ops F Q late full 0 0 aQ a w:=B8 b (Db c h)
end
def iG{S:J->al}{w:aj}{b:J}{bV us:a7 ay}{t:TypeId}(h:w.heap[b]?=some (.cells bV t (0,0)))(aw:¬ S b)(e:bV=us:=by first|exact(rfl:_=#[_])|exact(rfl:_=#[_,_])|exact(rfl:_=#[_,_,_])|exact(rfl:_=#[_,_,_,_])|exact(rfl:_=#[_,_,_,_,_])|exact(rfl:_=#[_,_,_,_,_,_])|exact(rfl:_=#[_,_,_,_,_,_,_])|exact(rfl:_=#[_,_,_,_,_,_,_,_])|exact(rfl:_=#[_,_,_,_,_,_,_,_,_])|exact(rfl:_=#[_,_,_,_,_,_,_,_,_,_])|exact(rfl:_=#[_,_,_,_,_,_,_,_,_,_,_])|exact(rfl:_=#[_,_,_,_,_,_,_,_,_,_,_,_])|exact(rfl:_=#[_,_,_,_,_,_,_,_,_,_,_,_,_])|exact(rfl:_=#[_,_,_,_,_,_,_,_,_,_,_,_,_,_])|exact(rfl:_=#[_,_,_,_,_,_,_,_,_,_,_,_,_,_,_])|exact(rfl:_=#[_,_,_,_,_,_,_,_,_,_,_,_,_,_,_,_])):∀ x:gQ S w,∀ k,x.to.cell? ⟨b,k,none⟩=us[k]?:=λx=>aO (x.keeps.heap h aw) e
section
variable{P:Program}{ops:a7 Oper}{md:Region.Mode}{Q:Exit->Act->aj->al}{aQ:a7 a1}{a A:Act}{w W:aj}{f:FuncId}{r7:a7 ay}{R:aj->al}{v:Ending}{o:Oper}
section
variable{F:aj->al}{late:J->a1}{full:a7 a1}{g m:J}(k:J)
theorem hs(b:F W)(h:ew P md ops F Q late full g m (aQ.setIfInBounds k true) A W)(f:(Region.ready md ops aQ == [k])=true:=by kernel_rfl)(d:late k=false:=by kernel_rfl)(aw:(ops[k]?).isSome=true:=by kernel_rfl)(e:du ops k=o:=by simp only[du,ka,kW,j',ib]<;>rfl)(i:Region.wanted o (yielded ops a.tmps)=true:=by first|rfl|simp[go_sem])(j:∀ K:Act->aj->al,K A W->o.wp P a w K Q:=by intro K h;go_simp;exact h):ew P md ops F Q late full g (m+1) aQ a w:=eH k (λK c=>j K (c _ _ b h)) f d aw e i
theorem rl(b:F W)(j:∀ {K:Act->aj->al},K A W->o.wp P a w K Q)(h:ew P md ops F Q late full g m (aQ.setIfInBounds k true) A W)(f:(Region.ready md ops aQ == [k])=true:=by kernel_rfl)(d:late k=false:=by kernel_rfl)(aw:(ops[k]?).isSome=true:=by kernel_rfl)(e:du ops k=o:=by simp only[du,ka,kW,j',ib]<;>rfl)(i:Region.wanted o (yielded ops a.tmps)=true:=by first|rfl|simp[go_sem]):ew P md ops F Q late full g (m+1) aQ a w:=eH k (λK c=>j (c _ _ b h)) f d aw e i
theorem h9(b:F W)(h:Q .normal A W)(g:(Region.ready md ops aQ == [k])=true:=by kernel_rfl)(e:late k=false:=by kernel_rfl)(aw:(ops[k]?).isSome=true:=by kernel_rfl)(f:du ops k=o:=by simp only[du,ka,kW,j',ib]<;>rfl)(i:Region.wanted o (yielded ops a.tmps)=true:=by first|rfl|simp[go_sem])(d:(aQ.setIfInBounds k true == full)=true:=by kernel_rfl)(l:(Region.ready md ops full).isEmpty=true:=by kernel_rfl)(j:∀ K:Act->aj->al,K A W->o.wp P a w K Q:=by intro K h;go_simp;exact h):ew P md ops F Q late full 0 1 aQ a w:=kM k (λK c=>j K (c _ _ b h)) g e aw f i d l
theorem pv(b:F W)(j:∀ {K:Act->aj->al},K A W->o.wp P a w K Q)(h:Q .normal A W)(g:(Region.ready md ops aQ == [k])=true:=by kernel_rfl)(e:late k=false:=by kernel_rfl)(aw:(ops[k]?).isSome=true:=by kernel_rfl)(f:du ops k=o:=by simp only[du,ka,kW,j',ib]<;>rfl)(i:Region.wanted o (yielded ops a.tmps)=true:=by first|rfl|simp[go_sem])(d:(aQ.setIfInBounds k true == full)=true:=by kernel_rfl)(l:(Region.ready md ops full).isEmpty=true:=by kernel_rfl):ew P md ops F Q late full 0 1 aQ a w:=kM k (λK c=>j (c _ _ b h)) g e aw f i d l
end
variable{C:aj->al}{Z:Act->aj->al}{rest:ah Oper}
def iH(aV:C W)(h:hV P ops C Q Z rest A W)(c:Region.wanted o (yielded ops a.tmps)=true:=by first|rfl|simp[go_sem])(d:∀ K:Act->aj->al,K A W->o.wp P a w K Q:=by intro K h;go_simp;exact h):hV P ops C Q Z (o :: rest) a w:=gu (λK b=>d K (b _ _ aV h)) c
def ou(aV:C W)(h:Z A W)(b:Region.wanted o (yielded ops a.tmps)=true:=by first|rfl|simp[go_sem])(c:∀ K:Act->aj->al,K A W->o.wp P a w K Q:=by intro K h;go_simp;exact h):hV P ops C Q Z [o] a w:=iH aV (hQ h) b c
end
def jA{p:al}(h:p:=by first|rfl|simp[results,go_sem]):p:=h
end Go.Proofs.YtalagblioepadaaGreatDoor
