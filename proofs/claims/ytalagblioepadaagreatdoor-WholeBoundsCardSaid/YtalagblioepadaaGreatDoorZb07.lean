/- The proof, part 7. -/
import Derived.Test.YtalagblioepadaaGreatDoorZb01
import Derived.Deep.AppendLies
namespace Go.Proofs.YtalagblioepadaaGreatDoor
set_option linter.all false
open List Go.RowKit
set_option maxRecDepth 100000
def dQ(w:ai)(cD:J)(A:b4 Addr)(n cap:J)(xs:ah aw):ak:=
 xs.length=n*cD/\n<=cap/\cap<=maxLen/\(0<n->∃ b o,A=some (ad b o ab)/\∀ j u,xs[j]?=some u->w.cell? (ad b (o+j) ab)=some u)
section
variable{w w':ai}{cD n cap:J}{A:b4 Addr}{xs:ah aw}
def dQ.nil(w:ai)(cD:J):dQ w cD none 0 0 []:=⟨aI,c9 _,c' _,λh=>absurd h (qd _)⟩
def dQ.at'(h:dQ w cD A n cap xs)(au:0<n):∃ b o,A=some (ad b o ab)/\∀ j u,xs[j]?=some u->w.cell? (ad b (o+j) ab)=some u:=h.2.2.2 au
def dQ.lt(h:dQ w cD A n cap xs)(ax:0<cD)(au:0<n){x:Addr}(a:A=some x):x.block<w.heap.size:=by
 have⟨b,o,e,aq⟩:=h.at' au;rw[a]at e;cases e;have c:0<xs.length:=by rw[h.1];exact Nat.mul_pos au ax
 exact mq w (ad b (o+0) ab) (aq 0 xs[0] aI)
theorem dQ.keeps{S:J->ak}(h:dQ w cD A n cap xs)(hk:Keeps S w w')(ax:0<n->∀ x,A=some x->¬ S x.block):dQ w' cD A n cap xs:=
 ⟨h.1,h.2.1,h.2.2.1,λau=>by
  obtain⟨b,o,rfl,aq⟩:=h.at' au;exact⟨b,o,rfl,λj u a=>hk.cell (p:=ad b (o+j) ab) (aq j u a) (ax au (ad b o ab) rfl)⟩⟩
theorem dQ.below(h:dQ w cD A n cap xs){B:J}(aj:Below B w w')(a:0<n->∀ x,A=some x->x.block<B):dQ w' cD A n cap xs:=
 ⟨h.1,h.2.1,h.2.2.1,λau=>by
  obtain⟨b,o,rfl,aq⟩:=h.at' au;exact⟨b,o,rfl,λj u c=>aj.cell (p:=ad b (o+j) ab) (a au (ad b o ab) rfl) |>.trans (aq j u c)⟩⟩
def cP{base:J}{e:TypeId}{v:aw}(h:w.ownsRow base e cD v n xs):∃ A cap,v=ao A n cap/\dQ w cD A n cap xs/\(∀ x,A=some x->base<=x.block/\x.block<w.heap.size/\v.ownBlock=some x.block):=by
 rcases h.2 with⟨rfl,rfl⟩|⟨g,cap,c,rfl,a1,aR,au,hm,ax,aN⟩
 .exact⟨none,0,rfl,⟨h.1,c9 _,c' _,λh=>absurd h (qd _)⟩,λx h=>nt⟩
 refine⟨_,cap,rfl,⟨h.1,au,hm,λ_=>⟨g,0,rfl,λj u a=>?_⟩⟩,λx b=>by cases b;exact⟨a1,bR aR,rfl⟩⟩;rw[gv];refine bb aR ?_;rw[<-aN,ux]at a;split at a
 .simpa using a
 cases a
def b3{base:J}{e:TypeId}{v:aw}{S:J->ak}(h:w.ownsRow base e cD v n xs)(hk:Keeps S w w')(ax:∀ b,v.ownBlock=some b->¬ S b):w'.ownsRow base e cD v n xs:=by
 refine⟨h.1,?_⟩;rcases h.2 with h2|⟨g,cap,a,rfl,a1,aR,r⟩
 .exact .inl h2
 exact .inr ⟨g,cap,a,rfl,a1,hk.heap aR (ax g rfl),r⟩
def gB(w:ai)(base:J)(e:TypeId)(cD:J):w.ownsRow base e cD (ao none 0 0) 0 []:=y' w base e cD
end
theorem Ko(w:ai)(u:aw)(t:TypeId):dQ (w.alloc (ae #[u] t)) 1 (some (ad w 0 ab)) 1 1 [u]:=
 ⟨rfl,c9 _,by simp[maxLen],λ_=>⟨_,_,rfl,λj v aX=>by
  match j,aX with
  | 0,aX=>
   rw[h7 (show some u=some v from aX)];exact nB _ _ _
  | j+1,aX=>simp at aX⟩⟩
section
variable{P:Program}(w:ai)
theorem Vm(base:J)(t ty e:TypeId)(i:TypeInfo)(z:aw)(cD bytes:J)(aN:P.underlying t=some (.slice e))(av:P.info? e=some i)(G:i.zero=some z)(E:i.size=cD)(y:i.bytes=bytes)(H:z.cells.size=cD)(F:0<cD)(v:aw)(n:J)(xs:ah aw)(k:w.ownsRow base e cD v n xs)(A:b4 Addr)(m c:J)(d:ah aw)(f:dQ w cD A m c d)(h1:∀ u∈d,u.oneCell'=true)(s:n+m<=maxLen)(B:(n+m)*bytes<=140737488355328)(x:base<=w.heap.size):∃ v' w',(Builtin.append_ #[t,t] ty #[v,ao A m c]).run P w=.ok v' w'/\w'.ownsRow base e cD v' (n+m) (xs++d)/\w.grownBy w' v.ownBlock/\
   (v'.ownBlock=v.ownBlock\/v'.ownBlock=some w.heap.size):=by
 cases A with
 | none=>
  obtain rfl:m=0:=by
   rcases rf m with a|a
   .exact a
   have⟨b,o,h,_⟩:=f.at' a;cases h
  obtain rfl:d=[]:=uv (by simpa using f.1);refine⟨v,w,?_,by simpa using k,World.grownBy.refl w _,.inl rfl⟩;rcases k.2 with⟨rfl,rfl⟩|⟨g,cap,K,rfl,_,_,D,_⟩
  .simp[Builtin.append_,q3 aN,sizeOf,typeInfo,av,Builtin.lenOf,Builtin.firstCells]
  simp[Builtin.append_,q3 aN,sizeOf,typeInfo,av,Builtin.lenOf,Builtin.firstCells,D,storeCells]
 | some l=>
  have C:∀ j u,d[j]?=some u->w.cell? (l.add j)=some u:=by
   intro j u p;rcases rf m with a|a
   .subst a;obtain rfl:d=[]:=uv (by simpa using f.1);simp at p
   have⟨b,o,h,aq⟩:=f.at' a;cases h;rw[hN];exact aq j u p
  have⟨v',w',hrun,h2,q,_,r⟩:=wA (P:=P) w base t ty e i z cD bytes aN av G E y H F v n xs k l m c d f.1 C h1 s B x;exact⟨v',w',hrun,h2,q,r⟩
theorem CP{o:Oper}{a:Act}{K:Act->ai->ak}{Q:Exit->Act->ai->ak}(s x:Operand)(t:TypeId)(p:o.op=.call {callee:=.builtin .append,args:=#[s,x],argTypes:=#[t,t]})(base:J)(e:TypeId)(i:TypeInfo)(z:aw)(cD bytes:J)(aN:P.underlying t=some (.slice e))(av:P.info? e=some i)(D:i.zero=some z)(y:i.size=cD)(k:i.bytes=bytes)(E:z.cells.size=cD)(B:0<cD)(v:aw)(n:J)(xs:ah aw)(ax:a.eval s=v)(q:w.ownsRow base e cD v n xs)(A:b4 Addr)(m c:J)(b:ah aw)(C:a.eval x=ao A m c)(r:dQ w cD A m c b)(h1:∀ u∈b,u.oneCell'=true)(g:n+m<=maxLen)(l:(n+m)*bytes<=140737488355328)(j:base<=w.heap.size)(h:∀ v' w',w'.ownsRow base e cD v' (n+m) (xs++b)->w.grownBy w' v.ownBlock->(v'.ownBlock=v.ownBlock\/v'.ownBlock=some w.heap.size)->K (a.put o.dst v') w'):o.wp P a w K Q:=by
 have⟨v',w',hrun,h2,d,f⟩:=Vm (P:=P) w base t o.type e i z cD bytes aN av D y k E B v n xs q A m c b r h1 g l j;unfold Oper.wp execOp;simp only[p,resolve,invoke,builtin,hz,h5,hg,map_toArray,jo,k6,ax,C,hrun];exact h v' w' h2 d f
theorem CL{ops:a6 Oper}{rest:ah Oper}{o:Oper}{a:Act}{Q:Exit->Act->ai->ak}(q:o.guard=none)(s x:Operand)(t:TypeId)(r:o.op=.call {callee:=.builtin .append,args:=#[s,x],argTypes:=#[t,t]})(base:J)(e:TypeId)(i:TypeInfo)(z:aw)(cD bytes:J)(aN:P.underlying t=some (.slice e))(av:P.info? e=some i)(F:i.zero=some z)(C:i.size=cD)(l:i.bytes=bytes)(G:z.cells.size=cD)(D:0<cD)(v:aw)(n:J)(xs:ah aw)(ax:a.eval s=v)(y:w.ownsRow base e cD v n xs)(A:b4 Addr)(m c:J)(b:ah aw)(E:a.eval x=ao A m c)(B:dQ w cD A m c b)(h1:∀ u∈b,u.oneCell'=true)(g:n+m<=maxLen)(p:(n+m)*bytes<=140737488355328)(k:base<=w.heap.size)(h:∀ v' w',w'.ownsRow base e cD v' (n+m) (xs++b)->w.grownBy w' v.ownBlock->(v'.ownBlock=v.ownBlock\/v'.ownBlock=some w.heap.size)->wpList P ops Q rest (a.put o.dst v') w'):wpList P ops Q (o :: rest) a w:=
 nh q λ_ j=>CP w s x t r base e i z cD bytes aN av F C l G D v n xs ax y A m c b E B h1 g p k λv' w' h2 d f=>j _ _ (h v' w' h2 d f)
end
def E3{w:ai}{b o:J}{s:b4 J}{v:aw}(h:w.cell? ⟨b,o,s⟩=some v):s=none:=by
 cases s with
 | none=>rfl
 | some x=>
  exfalso;simp only[World.cell?]at h;split at h
  .simp at h
  cases h
def X1{k:IntKind}{w:ai}{a:b4 Addr}{len cap:J}{ch:ah aa}(h:(a=none/\len=0/\cap=0/\ch=[])\/∃ x,a=some x/\len<=cap/\cap<=maxLen/\ch.length=cap/\(∀ i,i<ch.length->w.cell? (x.add i)=some (.int k (ch.getD i 0)))/\∀ n∈ch,(Lit.int k n).wf=true):∃ L:ah aa,L.length=len/\dQ w 1 a len cap (L.map λx=>.int k x)/\∀ n∈L,(Lit.int k n).wf=true:=by
 rcases h with⟨rfl,rfl,rfl,rfl⟩|⟨x,rfl,e,hm,g,aq,f⟩
 .exact⟨[],rfl,dQ.nil w 1,λ_ h=>nt⟩
 refine⟨ch.take len,bU,⟨bU,e,hm,λau=>?_⟩,λn au=>f n (zr au)⟩;obtain⟨b,o,s⟩:=x;have ax:=E3 (by simpa[Addr.add]using(aq 0 U));subst ax;refine⟨b,o,rfl,λj u c=>?_⟩;rw[getElem?_map,ux]at c;split at c
 .have d:j<ch.length:=U;have h1:=aq j d;rw[hN]at h1;rw[h1];simp[d]at c;simp[d,c]
 simp at c
def wf_u8{n:aa}(h:(Lit.int .u8 n).wf=true):0<=n/\n<=255:=by
 simp only[Lit.wf]at h;simpa[IntKind.min,IntKind.max,IntKind.signed,IntKind.bits]using h
end Go.Proofs.YtalagblioepadaaGreatDoor
