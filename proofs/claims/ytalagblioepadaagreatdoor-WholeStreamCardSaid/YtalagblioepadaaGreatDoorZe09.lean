/- The proof, part 9. -/
import Derived.Test.YtalagblioepadaaGreatDoorZe01
import Derived.Deep.AppendLies
namespace Go.Proofs.YtalagblioepadaaGreatDoor
set_option linter.all false
open List Go.RowKit
set_option maxRecDepth 100000
variable{a:Act}{Q:Exit->Act->aj->ae}{b base:J}{S:J->ae}{o:Oper}{e:TypeId}{v:ay}
def ey(w:aj)(cK:J)(A:cr Addr)(n cap:J)(xs:ai ay):ae:=
 xs.length=n*cK/\n<=cap/\cap<=maxLen/\(0<n->∃ b o,A=some (eo b o db)/\∀ j u,xs[j]?=some u->w.cell? (ah b (o+j))=some u)
section
variable{w w':aj}{cK n cap:J}{A:cr Addr}{xs:ai ay}
def ey.nil(w:aj)(cK:J):ey w cK none 0 0 []:=⟨aM,dm _,c3 _,λh=>absurd h (p5 _)⟩
def ey.at'(h:ey w cK A n cap xs)(aw:0<n):∃ b o,A=some (eo b o db)/\∀ j u,xs[j]?=some u->w.cell? (ah b (o+j))=some u:=h.2.2.2 aw
def ey.lt(h:ey w cK A n cap xs)(aA:0<cK)(aw:0<n){x:Addr}(ak:A=some x):x.block<w.heap.size:=by
 have⟨b,o,e,an⟩:=h.at' aw;rw[ak]at e;cases e;have a:0<xs.length:=by rw[h.1];exact Nat.mul_pos aw aA
 exact oT w (ah b (o+0)) (an 0 xs[0] aM)
theorem ey.keeps(h:ey w cK A n cap xs)(hk:ag S w w')(aA:0<n->∀ x,A=some x->¬ S x.block):ey w' cK A n cap xs:=
 ⟨h.1,h.2.1,h.2.2.1,λaw=>by
  obtain⟨b,o,rfl,an⟩:=h.at' aw;exact⟨b,o,rfl,λj u a=>hk.cell (p:=ah b (o+j)) (an j u a) (aA aw (ah b o) rfl)⟩⟩
theorem ey.below(h:ey w cK A n cap xs){B:J}(al:Below B w w')(a:0<n->∀ x,A=some x->x.block<B):ey w' cK A n cap xs:=
 ⟨h.1,h.2.1,h.2.2.1,λaw=>by
  obtain⟨b,o,rfl,an⟩:=h.at' aw;exact⟨b,o,rfl,λj u c=>al.cell (p:=ah b (o+j)) (a aw (ah b o) rfl) |>.trans (an j u c)⟩⟩
def dA(h:w.ownsRow base e cK v n xs):∃ A cap,v=au A n cap/\ey w cK A n cap xs/\(∀ x,A=some x->base<=x.block/\x.block<w.heap.size/\v.ownBlock=some x.block):=by
 rcases h.2 with⟨rfl,rfl⟩|⟨g,cap,b,rfl,a7,aT,aw,hm,aA,aW⟩
 .exact⟨none,0,rfl,⟨h.1,dm _,c3 _,λh=>absurd h (p5 _)⟩,λx h=>o6⟩
 refine⟨_,cap,rfl,⟨h.1,aw,hm,λ_=>⟨g,0,rfl,λj u a=>?_⟩⟩,λx ak=>by cases ak;exact⟨a7,bZ aT,rfl⟩⟩;rw[gM];refine bb aT ?_;rw[<-aW,xf]at a;split at a
 .simpa using a
 cases a
def b7(h:w.ownsRow base e cK v n xs)(hk:ag S w w')(aA:∀ b,v.ownBlock=some b->¬ S b):w'.ownsRow base e cK v n xs:=by
 refine⟨h.1,?_⟩;rcases h.2 with h2|⟨g,cap,a,rfl,a7,aT,r⟩
 .exact .inl h2
 exact .inr ⟨g,cap,a,rfl,a7,hk.heap aT (aA g rfl),r⟩
def il(w:aj)(base:J)(e:TypeId)(cK:J):w.ownsRow base e cK (au none 0 0) 0 []:=Ck w base e cK
theorem FH{cK:J}(al:base<=b)(h:w.heap[b]?=some (ab #[] e (0,0))):w.ownsRow base e cK (au (bT b) 0 0) 0 []:=
 ⟨aM,.inr ⟨b,0,#[],rfl,al,h,dm _,c3 _,aM,aM⟩⟩
end
theorem PN(w:aj)(u:ay)(t:TypeId):ey (w.alloc (ab #[u] t)) 1 (bT w) 1 1 [u]:=
 ⟨rfl,dm _,by simp[maxLen],λ_=>⟨_,_,rfl,λj v a_=>by
  match j,a_ with
  | 0,a_=>
   rw[l8 (show some u=some v from a_)];exact pn _ _ _
  | j+1,a_=>simp at a_⟩⟩
section
variable{P:Program}(w:aj)
theorem afL(base:J)(t ty e:TypeId)(i:TypeInfo)(z:ay)(cK bytes:J)(aW:P.underlying t=some (.slice e))(av:P.info? e=some i)(G:i.zero=some z)(E:i.size=cK)(y:i.bytes=bytes)(H:z.cells.size=cK)(F:0<cK)(v:ay)(n:J)(xs:ai ay)(k:w.ownsRow base e cK v n xs)(A:cr Addr)(m c:J)(d:ai ay)(f:ey w cK A m c d)(h1:∀ u∈d,u.oneCell'=true)(s:n+m<=maxLen)(B:(n+m)*bytes<=140737488355328)(x:base<=w.heap.size):∃ v' w',(Builtin.append_ #[t,t] ty #[v,au A m c]).run P w=.ok v' w'/\w'.ownsRow base e cK v' (n+m) (xs++d)/\w.grownBy w' v.ownBlock/\
   (v'.ownBlock=v.ownBlock\/v'.ownBlock=some w):=by
 cases A with
 | none=>
  obtain rfl:m=0:=by
   rcases tk m with a|a
   .exact a
   have⟨b,o,h,_⟩:=f.at' a;cases h
  obtain rfl:d=[]:=xc (by simpa using f.1);refine⟨v,w,?_,by simpa using k,World.grownBy.refl w _,.inl rfl⟩;rcases k.2 with⟨rfl,rfl⟩|⟨g,cap,K,rfl,_,_,D,_⟩
  .simp[Builtin.append_,tb aW,sizeOf,typeInfo,av,Builtin.lenOf,Builtin.firstCells]
  simp[Builtin.append_,tb aW,sizeOf,typeInfo,av,Builtin.lenOf,Builtin.firstCells,D,storeCells]
 | some l=>
  have C:∀ j u,d[j]?=some u->w.cell? (l.add j)=some u:=by
   intro j u p;rcases tk m with a|a
   .subst a;obtain rfl:d=[]:=xc (by simpa using f.1);simp at p
   have⟨b,o,h,an⟩:=f.at' a;cases h;rw[iB];exact an j u p
  have⟨v',w',hrun,h2,q,_,r⟩:=uU (P:=P) w base t ty e i z cK bytes aW av G E y H F v n xs k l m c d f.1 C h1 s B x;exact⟨v',w',hrun,h2,q,r⟩
theorem G6{K:Act->aj->ae}(s x:Operand)(t:TypeId)(ar:o.op=.call {callee:=.builtin .append,args:=#[s,x],argTypes:=#[t,t]})(base:J)(e:TypeId)(i:TypeInfo)(z:ay)(cK bytes:J)(aW:P.underlying t=some (.slice e))(av:P.info? e=some i)(B:i.zero=some z)(r:i.size=cK)(k:i.bytes=bytes)(C:z.cells.size=cK)(y:0<cK)(v:ay)(n:J)(xs:ai ay)(aA:a.eval s=v)(p:w.ownsRow base e cK v n xs)(A:cr Addr)(m c:J)(b:ai ay)(ak:a.eval x=au A m c)(q:ey w cK A m c b)(h1:∀ u∈b,u.oneCell'=true)(g:n+m<=maxLen)(l:(n+m)*bytes<=140737488355328)(j:base<=w.heap.size)(h:∀ v' w',w'.ownsRow base e cK v' (n+m) (xs++b)->w.grownBy w' v.ownBlock->(v'.ownBlock=v.ownBlock\/v'.ownBlock=some w.heap.size)->K (a.put o.dst v') w'):o.wp P a w K Q:=by
 have⟨v',w',hrun,h2,d,f⟩:=afL (P:=P) w base t o.type e i z cK bytes aW av B r k C y v n xs p A m c b q h1 g l j;unfold Oper.wp execOp;simp only[ar,resolve,invoke,builtin,iO,jm,iu,map_toArray,nz,qQ,aA,ak,hrun];exact h v' w' h2 d f
theorem G1{ops:a6 Oper}{rest:ai Oper}(q:o.guard=none)(s x:Operand)(t:TypeId)(ar:o.op=.call {callee:=.builtin .append,args:=#[s,x],argTypes:=#[t,t]})(base:J)(e:TypeId)(i:TypeInfo)(z:ay)(cK bytes:J)(aW:P.underlying t=some (.slice e))(av:P.info? e=some i)(D:i.zero=some z)(B:i.size=cK)(l:i.bytes=bytes)(E:z.cells.size=cK)(C:0<cK)(v:ay)(n:J)(xs:ai ay)(aA:a.eval s=v)(r:w.ownsRow base e cK v n xs)(A:cr Addr)(m c:J)(b:ai ay)(ak:a.eval x=au A m c)(y:ey w cK A m c b)(h1:∀ u∈b,u.oneCell'=true)(g:n+m<=maxLen)(p:(n+m)*bytes<=140737488355328)(k:base<=w.heap.size)(h:∀ v' w',w'.ownsRow base e cK v' (n+m) (xs++b)->w.grownBy w' v.ownBlock->(v'.ownBlock=v.ownBlock\/v'.ownBlock=some w.heap.size)->wpList P ops Q rest (a.put o.dst v') w'):wpList P ops Q (o :: rest) a w:=
 oV q λ_ j=>G6 w s x t ar base e i z cK bytes aW av D B l E C v n xs aA r A m c b ak y h1 g p k λv' w' h2 d f=>j _ _ (h v' w' h2 d f)
end
def Km{w:aj}{o:J}{s:cr J}(h:w.cell? ⟨b,o,s⟩=some v):s=none:=by
 cases s with
 | none=>rfl
 | some x=>
  exfalso;simp only[World.cell?]at h;split at h
  .simp at h
  cases h
def aiA{k:IntKind}{w:aj}{a:cr Addr}{len cap:J}{cb:ai U}(h:(a=none/\len=0/\cap=0/\cb=[])\/∃ x,a=some x/\len<=cap/\cap<=maxLen/\cb.length=cap/\(∀ i,i<cb.length->w.cell? (x.add i)=some (.int k (cb.getD i 0)))/\∀ n∈cb,(Lit.int k n).wf=true):∃ L:ai U,L.length=len/\ey w 1 a len cap (L.map λx=>.int k x)/\∀ n∈L,(Lit.int k n).wf=true:=by
 rcases h with⟨rfl,rfl,rfl,rfl⟩|⟨x,rfl,e,hm,g,an,f⟩
 .exact⟨[],rfl,ey.nil w 1,λ_ h=>o6⟩
 refine⟨cb.take len,b_,⟨b_,e,hm,λaw=>?_⟩,λn aw=>f n (CD aw)⟩;obtain⟨b,o,s⟩:=x;have aA:=Km (by simpa[Addr.add]using(an 0 I));subst aA;refine⟨b,o,rfl,λj u c=>?_⟩;rw[HE,xf]at c;split at c
 .have d:j<cb.length:=I;have h1:=an j d;rw[iB]at h1;rw[h1];simp[d]at c;simp[d,c]
 simp at c
def wf_u8{n:U}(h:(Lit.int .u8 n).wf=true):0<=n/\n<=255:=by
 simp only[Lit.wf]at h;simpa[IntKind.min,IntKind.max,IntKind.signed,IntKind.bits]using h
end Go.Proofs.YtalagblioepadaaGreatDoor
