/- The proof, part 7. -/
import Derived.Test.YtalagblioepadaaGreatDoorZc01
import Derived.Deep.AppendLies
namespace Go.Proofs.YtalagblioepadaaGreatDoor
set_option linter.all false
open List Go.RowKit
set_option maxRecDepth 100000
def dR(w:ai)(cE:J)(A:b5 Addr)(n cap:J)(xs:ah ax):ak:=
 xs.length=n*cE/\n<=cap/\cap<=maxLen/\(0<n->∃ b o,A=some (ad b o ab)/\∀ j u,xs[j]?=some u->w.cell? (ad b (o+j) ab)=some u)
section
variable{w w':ai}{cE n cap:J}{A:b5 Addr}{xs:ah ax}
def dR.nil(w:ai)(cE:J):dR w cE none 0 0 []:=⟨aK,c9 _,c' _,λh=>absurd h (oF _)⟩
def dR.at'(h:dR w cE A n cap xs)(ar:0<n):∃ b o,A=some (ad b o ab)/\∀ j u,xs[j]?=some u->w.cell? (ad b (o+j) ab)=some u:=h.2.2.2 ar
def dR.lt(h:dR w cE A n cap xs)(av:0<cE)(ar:0<n){x:Addr}(a:A=some x):x.block<w.heap.size:=by
 have⟨b,o,e,al⟩:=h.at' ar;rw[a]at e;cases e;have c:0<xs.length:=by rw[h.1];exact Nat.mul_pos ar av
 exact mE w (ad b (o+0) ab) (al 0 xs[0] aK)
theorem dR.keeps{S:J->ak}(h:dR w cE A n cap xs)(hk:Keeps S w w')(av:0<n->∀ x,A=some x->¬ S x.block):dR w' cE A n cap xs:=
 ⟨h.1,h.2.1,h.2.2.1,λar=>by
  obtain⟨b,o,rfl,al⟩:=h.at' ar;exact⟨b,o,rfl,λj u a=>hk.cell (p:=ad b (o+j) ab) (al j u a) (av ar (ad b o ab) rfl)⟩⟩
theorem dR.below(h:dR w cE A n cap xs){B:J}(aj:Below B w w')(a:0<n->∀ x,A=some x->x.block<B):dR w' cE A n cap xs:=
 ⟨h.1,h.2.1,h.2.2.1,λar=>by
  obtain⟨b,o,rfl,al⟩:=h.at' ar;exact⟨b,o,rfl,λj u c=>aj.cell (p:=ad b (o+j) ab) (a ar (ad b o ab) rfl) |>.trans (al j u c)⟩⟩
def cS{base:J}{e:TypeId}{v:ax}(h:w.ownsRow base e cE v n xs):∃ A cap,v=aq A n cap/\dR w cE A n cap xs/\(∀ x,A=some x->base<=x.block/\x.block<w.heap.size/\v.ownBlock=some x.block):=by
 rcases h.2 with⟨rfl,rfl⟩|⟨g,cap,c,rfl,aZ,aJ,ar,hm,av,aO⟩
 .exact⟨none,0,rfl,⟨h.1,c9 _,c' _,λh=>absurd h (oF _)⟩,λx h=>nK⟩
 refine⟨_,cap,rfl,⟨h.1,ar,hm,λ_=>⟨g,0,rfl,λj u a=>?_⟩⟩,λx b=>by cases b;exact⟨aZ,bP aJ,rfl⟩⟩;rw[gC];refine bb aJ ?_;rw[<-aO,uM]at a;split at a
 .simpa using a
 cases a
def b4{base:J}{e:TypeId}{v:ax}{S:J->ak}(h:w.ownsRow base e cE v n xs)(hk:Keeps S w w')(av:∀ b,v.ownBlock=some b->¬ S b):w'.ownsRow base e cE v n xs:=by
 refine⟨h.1,?_⟩;rcases h.2 with h2|⟨g,cap,a,rfl,aZ,aJ,r⟩
 .exact .inl h2
 exact .inr ⟨g,cap,a,rfl,aZ,hk.heap aJ (av g rfl),r⟩
def gI(w:ai)(base:J)(e:TypeId)(cE:J):w.ownsRow base e cE (aq none 0 0) 0 []:=zx w base e cE
end
theorem KU(w:ai)(u:ax)(t:TypeId):dR (w.alloc (ae #[u] t)) 1 (some (ad w 0 ab)) 1 1 [u]:=
 ⟨rfl,c9 _,by simp[maxLen],λ_=>⟨_,_,rfl,λj v aW=>by
  match j,aW with
  | 0,aW=>
   rw[ij (show some u=some v from aW)];exact nS _ _ _
  | j+1,aW=>simp at aW⟩⟩
section
variable{P:Program}(w:ai)
theorem VW(base:J)(t ty e:TypeId)(i:TypeInfo)(z:ax)(cE bytes:J)(aO:P.underlying t=some (.slice e))(aw:P.info? e=some i)(G:i.zero=some z)(E:i.size=cE)(y:i.bytes=bytes)(H:z.cells.size=cE)(F:0<cE)(v:ax)(n:J)(xs:ah ax)(k:w.ownsRow base e cE v n xs)(A:b5 Addr)(m c:J)(d:ah ax)(f:dR w cE A m c d)(h1:∀ u∈d,u.oneCell'=true)(s:n+m<=maxLen)(B:(n+m)*bytes<=140737488355328)(x:base<=w.heap.size):∃ v' w',(Builtin.append_ #[t,t] ty #[v,aq A m c]).run P w=.ok v' w'/\w'.ownsRow base e cE v' (n+m) (xs++d)/\w.grownBy w' v.ownBlock/\
   (v'.ownBlock=v.ownBlock\/v'.ownBlock=some w.heap.size):=by
 cases A with
 | none=>
  obtain rfl:m=0:=by
   rcases rD m with a|a
   .exact a
   have⟨b,o,h,_⟩:=f.at' a;cases h
  obtain rfl:d=[]:=uK (by simpa using f.1);refine⟨v,w,?_,by simpa using k,World.grownBy.refl w _,.inl rfl⟩;rcases k.2 with⟨rfl,rfl⟩|⟨g,cap,K,rfl,_,_,D,_⟩
  .simp[Builtin.append_,rp aO,sizeOf,typeInfo,aw,Builtin.lenOf,Builtin.firstCells]
  simp[Builtin.append_,rp aO,sizeOf,typeInfo,aw,Builtin.lenOf,Builtin.firstCells,D,storeCells]
 | some l=>
  have C:∀ j u,d[j]?=some u->w.cell? (l.add j)=some u:=by
   intro j u p;rcases rD m with a|a
   .subst a;obtain rfl:d=[]:=uK (by simpa using f.1);simp at p
   have⟨b,o,h,al⟩:=f.at' a;cases h;rw[h3];exact al j u p
  have⟨v',w',hrun,h2,q,_,r⟩:=wT (P:=P) w base t ty e i z cE bytes aO aw G E y H F v n xs k l m c d f.1 C h1 s B x;exact⟨v',w',hrun,h2,q,r⟩
theorem Df{o:Oper}{a:Act}{K:Act->ai->ak}{Q:Exit->Act->ai->ak}(s x:Operand)(t:TypeId)(p:o.op=.call {callee:=.builtin .append,args:=#[s,x],argTypes:=#[t,t]})(base:J)(e:TypeId)(i:TypeInfo)(z:ax)(cE bytes:J)(aO:P.underlying t=some (.slice e))(aw:P.info? e=some i)(D:i.zero=some z)(y:i.size=cE)(k:i.bytes=bytes)(E:z.cells.size=cE)(B:0<cE)(v:ax)(n:J)(xs:ah ax)(av:a.eval s=v)(q:w.ownsRow base e cE v n xs)(A:b5 Addr)(m c:J)(b:ah ax)(C:a.eval x=aq A m c)(r:dR w cE A m c b)(h1:∀ u∈b,u.oneCell'=true)(g:n+m<=maxLen)(l:(n+m)*bytes<=140737488355328)(j:base<=w.heap.size)(h:∀ v' w',w'.ownsRow base e cE v' (n+m) (xs++b)->w.grownBy w' v.ownBlock->(v'.ownBlock=v.ownBlock\/v'.ownBlock=some w.heap.size)->K (a.put o.dst v') w'):o.wp P a w K Q:=by
 have⟨v',w',hrun,h2,d,f⟩:=VW (P:=P) w base t o.type e i z cE bytes aO aw D y k E B v n xs q A m c b r h1 g l j;unfold Oper.wp execOp;simp only[p,resolve,invoke,builtin,hG,ig,hq,map_toArray,jz,lo,av,C,hrun];exact h v' w' h2 d f
theorem Db{ops:a6 Oper}{rest:ah Oper}{o:Oper}{a:Act}{Q:Exit->Act->ai->ak}(q:o.guard=none)(s x:Operand)(t:TypeId)(r:o.op=.call {callee:=.builtin .append,args:=#[s,x],argTypes:=#[t,t]})(base:J)(e:TypeId)(i:TypeInfo)(z:ax)(cE bytes:J)(aO:P.underlying t=some (.slice e))(aw:P.info? e=some i)(F:i.zero=some z)(C:i.size=cE)(l:i.bytes=bytes)(G:z.cells.size=cE)(D:0<cE)(v:ax)(n:J)(xs:ah ax)(av:a.eval s=v)(y:w.ownsRow base e cE v n xs)(A:b5 Addr)(m c:J)(b:ah ax)(E:a.eval x=aq A m c)(B:dR w cE A m c b)(h1:∀ u∈b,u.oneCell'=true)(g:n+m<=maxLen)(p:(n+m)*bytes<=140737488355328)(k:base<=w.heap.size)(h:∀ v' w',w'.ownsRow base e cE v' (n+m) (xs++b)->w.grownBy w' v.ownBlock->(v'.ownBlock=v.ownBlock\/v'.ownBlock=some w.heap.size)->wpList P ops Q rest (a.put o.dst v') w'):wpList P ops Q (o :: rest) a w:=
 nz q λ_ j=>Df w s x t r base e i z cE bytes aO aw F C l G D v n xs av y A m c b E B h1 g p k λv' w' h2 d f=>j _ _ (h v' w' h2 d f)
end
def Fv{w:ai}{b o:J}{s:b5 J}{v:ax}(h:w.cell? ⟨b,o,s⟩=some v):s=none:=by
 cases s with
 | none=>rfl
 | some x=>
  exfalso;simp only[World.cell?]at h;split at h
  .simp at h
  cases h
def YD{k:IntKind}{w:ai}{a:b5 Addr}{len cap:J}{cg:ah aa}(h:(a=none/\len=0/\cap=0/\cg=[])\/∃ x,a=some x/\len<=cap/\cap<=maxLen/\cg.length=cap/\(∀ i,i<cg.length->w.cell? (x.add i)=some (.int k (cg.getD i 0)))/\∀ n∈cg,(Lit.int k n).wf=true):∃ L:ah aa,L.length=len/\dR w 1 a len cap (L.map λx=>.int k x)/\∀ n∈L,(Lit.int k n).wf=true:=by
 rcases h with⟨rfl,rfl,rfl,rfl⟩|⟨x,rfl,e,hm,g,al,f⟩
 .exact⟨[],rfl,dR.nil w 1,λ_ h=>nK⟩
 refine⟨cg.take len,bT,⟨bT,e,hm,λar=>?_⟩,λn ar=>f n (zL ar)⟩;obtain⟨b,o,s⟩:=x;have av:=Fv (by simpa[Addr.add]using(al 0 U));subst av;refine⟨b,o,rfl,λj u c=>?_⟩;rw[getElem?_map,uM]at c;split at c
 .have d:j<cg.length:=U;have h1:=al j d;rw[h3]at h1;rw[h1];simp[d]at c;simp[d,c]
 simp at c
def wf_u8{n:aa}(h:(Lit.int .u8 n).wf=true):0<=n/\n<=255:=by
 simp only[Lit.wf]at h;simpa[IntKind.min,IntKind.max,IntKind.signed,IntKind.bits]using h
end Go.Proofs.YtalagblioepadaaGreatDoor
