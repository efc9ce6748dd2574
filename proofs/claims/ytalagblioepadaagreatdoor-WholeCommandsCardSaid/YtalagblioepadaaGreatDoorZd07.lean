/- The proof, part 7. -/
import Derived.Test.YtalagblioepadaaGreatDoorZd01
import Derived.Deep.AppendLies
namespace Go.Proofs.YtalagblioepadaaGreatDoor
set_option linter.all false
open List Go.RowKit
set_option maxRecDepth 100000
def eb(w:aj)(cM:J)(A:b_ Addr)(n cap:J)(xs:ah ay):al:=
 xs.length=n*cM/\n<=cap/\cap<=maxLen/\(0<n->∃ b o,A=some (ae b o ad)/\∀ j u,xs[j]?=some u->w.cell? (ae b (o+j) ad)=some u)
section
variable{w w':aj}{cM n cap:J}{A:b_ Addr}{xs:ah ay}
def eb.nil(w:aj)(cM:J):eb w cM none 0 0 []:=⟨aM,df _,de _,λh=>absurd h (nW _)⟩
def eb.at'(h:eb w cM A n cap xs)(av:0<n):∃ b o,A=some (ae b o ad)/\∀ j u,xs[j]?=some u->w.cell? (ae b (o+j) ad)=some u:=h.2.2.2 av
def eb.lt(h:eb w cM A n cap xs)(aw:0<cM)(av:0<n){x:Addr}(a:A=some x):x.block<w.heap.size:=by
 have⟨b,o,e,an⟩:=h.at' av;rw[a]at e;cases e;have c:0<xs.length:=by rw[h.1];exact Nat.mul_pos av aw
 exact mU w (ae b (o+0) ad) (an 0 xs[0] aM)
theorem eb.keeps{S:J->al}(h:eb w cM A n cap xs)(hk:Keeps S w w')(aw:0<n->∀ x,A=some x->¬ S x.block):eb w' cM A n cap xs:=
 ⟨h.1,h.2.1,h.2.2.1,λav=>by
  obtain⟨b,o,rfl,an⟩:=h.at' av;exact⟨b,o,rfl,λj u a=>hk.cell (p:=ae b (o+j) ad) (an j u a) (aw av (ae b o ad) rfl)⟩⟩
theorem eb.below(h:eb w cM A n cap xs){B:J}(ak:Below B w w')(a:0<n->∀ x,A=some x->x.block<B):eb w' cM A n cap xs:=
 ⟨h.1,h.2.1,h.2.2.1,λav=>by
  obtain⟨b,o,rfl,an⟩:=h.at' av;exact⟨b,o,rfl,λj u c=>ak.cell (p:=ae b (o+j) ad) (a av (ae b o ad) rfl) |>.trans (an j u c)⟩⟩
def cS{base:J}{e:TypeId}{v:ay}(h:w.ownsRow base e cM v n xs):∃ A cap,v=aq A n cap/\eb w cM A n cap xs/\(∀ x,A=some x->base<=x.block/\x.block<w.heap.size/\v.ownBlock=some x.block):=by
 rcases h.2 with⟨rfl,rfl⟩|⟨g,cap,c,rfl,aZ,aS,av,hm,aw,aK⟩
 .exact⟨none,0,rfl,⟨h.1,df _,de _,λh=>absurd h (nW _)⟩,λx h=>n1⟩
 refine⟨_,cap,rfl,⟨h.1,av,hm,λ_=>⟨g,0,rfl,λj u a=>?_⟩⟩,λx b=>by cases b;exact⟨aZ,bT aS,rfl⟩⟩;rw[gP];refine bf aS ?_;rw[<-aK,u']at a;split at a
 .simpa using a
 cases a
def b5{base:J}{e:TypeId}{v:ay}{S:J->al}(h:w.ownsRow base e cM v n xs)(hk:Keeps S w w')(aw:∀ b,v.ownBlock=some b->¬ S b):w'.ownsRow base e cM v n xs:=by
 refine⟨h.1,?_⟩;rcases h.2 with h2|⟨g,cap,a,rfl,aZ,aS,r⟩
 .exact .inl h2
 exact .inr ⟨g,cap,a,rfl,aZ,hk.heap aS (aw g rfl),r⟩
def gx(w:aj)(base:J)(e:TypeId)(cM:J):w.ownsRow base e cM (aq none 0 0) 0 []:=zT w base e cM
end
theorem Lv(w:aj)(u:ay)(t:TypeId):eb (w.alloc (af #[u] t)) 1 (some (ae w 0 ad)) 1 1 [u]:=
 ⟨rfl,df _,by simp[maxLen],λ_=>⟨_,_,rfl,λj v aU=>by
  match j,aU with
  | 0,aU=>
   rw[hi (show some u=some v from aU)];exact oc _ _ _
  | j+1,aU=>simp at aU⟩⟩
section
variable{P:Program}(w:aj)
theorem WD(base:J)(t ty e:TypeId)(i:TypeInfo)(z:ay)(cM bytes:J)(aK:P.underlying t=some (.slice e))(ax:P.info? e=some i)(G:i.zero=some z)(E:i.size=cM)(y:i.bytes=bytes)(H:z.cells.size=cM)(F:0<cM)(v:ay)(n:J)(xs:ah ay)(k:w.ownsRow base e cM v n xs)(A:b_ Addr)(m c:J)(d:ah ay)(f:eb w cM A m c d)(h1:∀ u∈d,u.oneCell'=true)(s:n+m<=maxLen)(B:(n+m)*bytes<=140737488355328)(x:base<=w.heap.size):∃ v' w',(Builtin.append_ #[t,t] ty #[v,aq A m c]).run P w=.ok v' w'/\w'.ownsRow base e cM v' (n+m) (xs++d)/\w.grownBy w' v.ownBlock/\
   (v'.ownBlock=v.ownBlock\/v'.ownBlock=some w.heap.size):=by
 cases A with
 | none=>
  obtain rfl:m=0:=by
   rcases rW m with a|a
   .exact a
   have⟨b,o,h,_⟩:=f.at' a;cases h
  obtain rfl:d=[]:=uZ (by simpa using f.1);refine⟨v,w,?_,by simpa using k,World.grownBy.refl w _,.inl rfl⟩;rcases k.2 with⟨rfl,rfl⟩|⟨g,cap,K,rfl,_,_,D,_⟩
  .simp[Builtin.append_,rM aK,sizeOf,typeInfo,ax,Builtin.lenOf,Builtin.firstCells]
  simp[Builtin.append_,rM aK,sizeOf,typeInfo,ax,Builtin.lenOf,Builtin.firstCells,D,storeCells]
 | some l=>
  have C:∀ j u,d[j]?=some u->w.cell? (l.add j)=some u:=by
   intro j u p;rcases rW m with a|a
   .subst a;obtain rfl:d=[]:=uZ (by simpa using f.1);simp at p
   have⟨b,o,h,an⟩:=f.at' a;cases h;rw[ij];exact an j u p
  have⟨v',w',hrun,h2,q,_,r⟩:=w9 (P:=P) w base t ty e i z cM bytes aK ax G E y H F v n xs k l m c d f.1 C h1 s B x;exact⟨v',w',hrun,h2,q,r⟩
theorem DL{o:Oper}{a:Act}{K:Act->aj->al}{Q:Exit->Act->aj->al}(s x:Operand)(t:TypeId)(p:o.op=.call {callee:=.builtin .append,args:=#[s,x],argTypes:=#[t,t]})(base:J)(e:TypeId)(i:TypeInfo)(z:ay)(cM bytes:J)(aK:P.underlying t=some (.slice e))(ax:P.info? e=some i)(D:i.zero=some z)(y:i.size=cM)(k:i.bytes=bytes)(E:z.cells.size=cM)(B:0<cM)(v:ay)(n:J)(xs:ah ay)(aw:a.eval s=v)(q:w.ownsRow base e cM v n xs)(A:b_ Addr)(m c:J)(b:ah ay)(C:a.eval x=aq A m c)(r:eb w cM A m c b)(h1:∀ u∈b,u.oneCell'=true)(g:n+m<=maxLen)(l:(n+m)*bytes<=140737488355328)(j:base<=w.heap.size)(h:∀ v' w',w'.ownsRow base e cM v' (n+m) (xs++b)->w.grownBy w' v.ownBlock->(v'.ownBlock=v.ownBlock\/v'.ownBlock=some w.heap.size)->K (a.put o.dst v') w'):o.wp P a w K Q:=by
 have⟨v',w',hrun,h2,d,f⟩:=WD (P:=P) w base t o.type e i z cM bytes aK ax D y k E B v n xs q A m c b r h1 g l j;unfold Oper.wp execOp;simp only[p,resolve,invoke,builtin,hW,iD,hE,map_toArray,jQ,lG,aw,C,hrun];exact h v' w' h2 d f
theorem DI{ops:a7 Oper}{rest:ah Oper}{o:Oper}{a:Act}{Q:Exit->Act->aj->al}(q:o.guard=none)(s x:Operand)(t:TypeId)(r:o.op=.call {callee:=.builtin .append,args:=#[s,x],argTypes:=#[t,t]})(base:J)(e:TypeId)(i:TypeInfo)(z:ay)(cM bytes:J)(aK:P.underlying t=some (.slice e))(ax:P.info? e=some i)(F:i.zero=some z)(C:i.size=cM)(l:i.bytes=bytes)(G:z.cells.size=cM)(D:0<cM)(v:ay)(n:J)(xs:ah ay)(aw:a.eval s=v)(y:w.ownsRow base e cM v n xs)(A:b_ Addr)(m c:J)(b:ah ay)(E:a.eval x=aq A m c)(B:eb w cM A m c b)(h1:∀ u∈b,u.oneCell'=true)(g:n+m<=maxLen)(p:(n+m)*bytes<=140737488355328)(k:base<=w.heap.size)(h:∀ v' w',w'.ownsRow base e cM v' (n+m) (xs++b)->w.grownBy w' v.ownBlock->(v'.ownBlock=v.ownBlock\/v'.ownBlock=some w.heap.size)->wpList P ops Q rest (a.put o.dst v') w'):wpList P ops Q (o :: rest) a w:=
 nQ q λ_ j=>DL w s x t r base e i z cM bytes aK ax F C l G D v n xs aw y A m c b E B h1 g p k λv' w' h2 d f=>j _ _ (h v' w' h2 d f)
end
def F4{w:aj}{b o:J}{s:b_ J}{v:ay}(h:w.cell? ⟨b,o,s⟩=some v):s=none:=by
 cases s with
 | none=>rfl
 | some x=>
  exfalso;simp only[World.cell?]at h;split at h
  .simp at h
  cases h
def Zm{k:IntKind}{w:aj}{a:b_ Addr}{len cap:J}{cn:ah aa}(h:(a=none/\len=0/\cap=0/\cn=[])\/∃ x,a=some x/\len<=cap/\cap<=maxLen/\cn.length=cap/\(∀ i,i<cn.length->w.cell? (x.add i)=some (.int k (cn.getD i 0)))/\∀ n∈cn,(Lit.int k n).wf=true):∃ L:ah aa,L.length=len/\eb w 1 a len cap (L.map λx=>.int k x)/\∀ n∈L,(Lit.int k n).wf=true:=by
 rcases h with⟨rfl,rfl,rfl,rfl⟩|⟨x,rfl,e,hm,g,an,f⟩
 .exact⟨[],rfl,eb.nil w 1,λ_ h=>n1⟩
 refine⟨cn.take len,b1,⟨b1,e,hm,λav=>?_⟩,λn av=>f n (Ad av)⟩;obtain⟨b,o,s⟩:=x;have aw:=F4 (by simpa[Addr.add]using(an 0 U));subst aw;refine⟨b,o,rfl,λj u c=>?_⟩;rw[getElem?_map,u']at c;split at c
 .have d:j<cn.length:=U;have h1:=an j d;rw[ij]at h1;rw[h1];simp[d]at c;simp[d,c]
 simp at c
def wf_u8{n:aa}(h:(Lit.int .u8 n).wf=true):0<=n/\n<=255:=by
 simp only[Lit.wf]at h;simpa[IntKind.min,IntKind.max,IntKind.signed,IntKind.bits]using h
end Go.Proofs.YtalagblioepadaaGreatDoor
