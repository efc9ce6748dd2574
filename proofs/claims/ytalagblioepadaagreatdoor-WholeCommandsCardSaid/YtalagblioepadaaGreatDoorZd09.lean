/- The proof, part 9. -/
import Derived.Test.YtalagblioepadaaGreatDoorZd07
import Derived.Deep.Fields
namespace Go.Proofs.YtalagblioepadaaGreatDoor
set_option linter.all false
open List Go.RowKit Go.ChangeShapes Go.WideShapes Go.Deep
set_option maxRecDepth 100000
inductive n5
 | int (k:IntKind)
 | bool
 | str
 | ints (k:IntKind)
def AM(w:aj):n5->ay->al
 | .int k,v=>∃ n,v=.int k n/\(Lit.int k n).wf=true
 | .bool,v=>∃ b,v=.bool b
 | .str,v=>∃ s:ch,v=.string s/\s.size<=maxLen
 | .ints k,v=>∃ (a:b_ Addr) (L:ah aa) (cap:J),v=.slice a L.length cap/\eb w 1 a L.length cap (L.map λx=>.int k x)/\∀ n∈L,(Lit.int k n).wf=true
def n9(w:aj)(ls:ah n5)(cs:ah ay):al:=ls.length=cs.length/\∀ (j:J) (l:n5) (v:ay),ls[j]?=some l->cs[j]?=some v->AM w l v
def yg(P:Program)(rec:TypeId->b_ (ah n5)):J->ah Field->b_ (ah n5)
 | _,[]=>some []
 | off,fd :: r=>match rec fd.type with
  | none=>none
  | some l=>match yg P rec (off+P.cellsOf fd.type) r with
   | none=>none
   | some m=>if fd.offset=off/\l.length=P.cellsOf fd.type then some (l++m)else none
def leaves(P:Program):J->TypeId->b_ (ah n5)
 | 0,_=>none
 | f+1,t=>match P.underlying t with
  | some (.int k)=>some [.int k]
  | some .bool=>some [.bool]
  | some .string=>some [.str]
  | some (.slice e)=>match P.underlying e with
   | some (.int k)=>if P.cellsOf e=1 then some [.ints k]else none
   | _=>none
  | some (.struct a)=>match yg P (leaves P f) 0 a.toList with
   | some m=>if m.length=P.cellsOf t then some m else none
   | none=>none
  | some (.array n e)=>match leaves P f e with
   | some l=>if l.length=P.cellsOf e/\n*P.cellsOf e=P.cellsOf t then some (replicate n l).flatten else none
   | none=>none
  | _=>none
section
variable{H:Type}{enc:TypeId×ay->H}{P:Program}{w:aj}{base:J}{held:a1}
def yK{l:n5}{v:ay}(h:AM w l v):n9 w [l] [v]:=by
 refine⟨rfl,λj l' v' h1 h2=>?_⟩
 match j,h1,h2 with
 | 0,h1,h2=>simp at h1 h2;subst h1 h2;exact h
 | j+1,h1,_=>simp at h1
def IS{l m:ah n5}{cs a:ah ay}(h:n9 w l cs)(k:n9 w m a):n9 w (l++m) (cs++a):=by
 refine⟨by simp[h.1,k.1],λj x v h1 h2=>?_⟩;by_cases b:j<l.length
 .rw[jO b]at h1;rw[jO (by rw[<-h.1];exact b)]at h2;exact h.2 j x v h1 h2
 rw[lF U]at h1;rw[lF (by rw[<-h.1];omega),<-h.1]at h2;exact k.2 _ x v h1 h2
def Ta{k:IntKind}{t e:TypeId}{b:J}{cs:ah ay}{x:DataW H×ah MemPlace}(aK:P.underlying t=some (.slice e))(f:P.underlying e=some (.int k))(an:P.cellsOf e=1)(h:DataW.trod enc P w base (λ_=>true) held b t cs=some x):∃ v,cs=[v]/\AM w (.ints k) v:=by
 rcases open_ints aK f an h with⟨rfl,_⟩|⟨a,l,c,cn,rfl,_,g,hm,m,_,d,j⟩
 .exact⟨_,rfl,none,[],0,rfl,eb.nil w 1,λ_ h=>n1⟩
 obtain⟨L,rfl,aU,i⟩:=Zm (.inr ⟨a,rfl,g,hm,by simpa using m,d,j⟩);exact⟨_,rfl,some a,L,c,rfl,aU,i⟩
def Tw:∀ (f:J) (t:TypeId) (ls:ah n5) (d:J) (cs:ah ay) (x:DataW H×ah MemPlace),leaves P f t=some ls->DataW.trod enc P w base (λ_=>true) held d t cs=some x->n9 w ls cs:=by
 intro f
 induction f with
 | zero=>intro t ls d cs x h;cases h
 | succ f z=>
  intro t ls d cs x a h;unfold leaves at a;split at a
  .rename_i k c;obtain⟨n,rfl,_,D⟩:=DataW.trod_int c h;cases a;exact yK ⟨n,rfl,D⟩
  .rename_i c;obtain⟨b,rfl,_⟩:=DataW.trod_bool c h;cases a;exact yK ⟨b,rfl⟩
  .rename_i c;obtain⟨s,rfl,_,aw⟩:=DataW.trod_string c h;cases a;exact yK ⟨s,rfl,aw⟩
  .rename_i e c;split at a
   .rename_i k hk;split at a
    .rename_i an;cases a;obtain⟨v,rfl,aU⟩:=Ta c hk an h;exact yK aU
    cases a
   cases a
  .rename_i p c;obtain⟨xs,n,rfl,_,B,E,g⟩:=DataW.trod_struct c h;have key:∀ (r:ah Field) (i off:J) (m:ah n5),p.toList.drop i=r->yg P (leaves P f) off r=some m->n9 w m ((cs.drop off).take m.length):=by
    intro r
    induction r with
    | nil=>intro i off m _ hm;cases hm;exact⟨n2,λj l v h1 _=>by simp at h1⟩
    | cons fd r G=>
     intro i off m y hm;unfold yg at hm;split at hm
     .cases hm
     rename_i l o;split at hm
     .cases hm
     rename_i m' A;split at hm
     .rename_i an;have⟨C,an⟩:=an;cases hm;have ax:p[i]?=some fd:=by
       have:=c5 (·[0]?) y
       simpa using this
      have K:=(jv.1 ax).1;have h1:=g i fd ax;rw[gA U]at h1;have h2:=z _ _ _ _ _ o h1;rw[C,<-an]at h2;have u:=G (i+1) (off+P.cellsOf fd.type) m' (by rw[<-mV,y];rfl) A;rw[<-an,<-mV]at u;rw[cx,take_add];exact IS h2 u
     cases hm
   split at a
   .rename_i m hm;split at a
    .rename_i L;cases a
     have:=key _ 0 0 ls rfl (by simpa using hm)
     rwa [hF,nV U]at this
    cases a
   cases a
  .rename_i n e c;obtain⟨xs,q,rfl,_,B,E,g⟩:=DataW.trod_array c h;split at a
   .rename_i l o;split at a
    .rename_i an;have⟨an,av⟩:=an;cases a;have key:∀ (i:J),i<=n->n9 w (replicate i l).flatten (cs.take (i*P.cellsOf e)):=by
      intro i
      induction i with
      | zero=>intro _;exact⟨n2,λj l v h1 _=>by simp at h1⟩
      | succ i F=>
       intro ax;have h1:=g i U;rw[gA U]at h1;rw[kc,take_add,En,flatten_append];exact IS (F U) (by simpa using(z _ _ _ _ _ o h1))
     have:=key n bx
     rwa [nV U]at this
    cases a
   cases a
  cases a
def Wt(c:J)(g:J->ah ay)(n:J)(aZ:∀ i,i<n->(g i).length=c):((range n).flatMap g).length=n*c/\∀ i,i<n->(((range n).flatMap g).drop (i*c)).take c=g i:=by
 induction n with
 | zero=>exact⟨n2,λi h=>absurd h (kZ _)⟩
 | succ n d=>
  have⟨h1,h2⟩:=d λi ax=>aZ i U;have a:=aZ n U;rw[qK,rR,flatMap_singleton];refine⟨by rw[cx,h1,a,kc],λi ax=>?_⟩;by_cases e:i=n
  .subst e;rw[<-h1,drop_left,nV U]
  have b:(i+1)*c<=n*c:=td c U;rw[kc]at b;rw[Ed U,Ae (by rw[gg];omega)];exact h2 i U
def aam{t e:TypeId}{f:J}{ls:ah n5}{G:J}{a:b_ Addr}{len cap:J}{x:DataW H×ah MemPlace}(aK:P.underlying t=some (.slice e))(K:leaves P f e=some ls)(an:ls.length=P.cellsOf e)(k:0<ls.length)(h:DataW.trod enc P w base (λ_=>true) held G t [aq a len cap]=some x):∃ xs,eb w ls.length a len cap xs/\∀ i,i<len->n9 w ls ((xs.drop (i*ls.length)).take ls.length):=by
 rcases open_slice aK h with⟨d,_⟩|⟨a',l,c,m,n,D,F,d,ak,L,hm,z,M,ax⟩
 .simp at d;obtain⟨rfl,rfl,rfl⟩:=d;exact⟨[],eb.nil w _,λi h=>absurd h (kZ _)⟩
 simp only[z6,Value.slice.injEq,and_true]at d;obtain⟨rfl,rfl,rfl⟩:=d;simp only[if_true]at z;subst z;obtain⟨g,aZ⟩:∃ g:J->ah ay,∀ i,i<len->w.cells? base (a'.add (i*P.cellsOf e)) (P.cellsOf e)=some (g i)/\DataW.trod enc P w base (λ_=>true) held n e (g i)=some (D i,F i):=by
  refine⟨λi=>if h:i<len then Classical.choose (ax i U)else [],λi h=>?_⟩;simp only[h,dite_true];exact Classical.choose_spec (ax i U)
 have v:∀ i,i<len->(g i).length=ls.length:=λi h=>by rw[(World.cells?_some (aZ i h).1).2.1,an]
 have⟨fE,E⟩:=Wt ls.length g len v;refine⟨(range len).flatMap g,⟨fE,L,hm,λav=>?_⟩,λi h=>by rw[E i h];exact Tw f e ls n _ _ K (aZ i h).2⟩;have r:∀ i,i<len->∀ j,j<ls.length->w.cell? (a'.add (i*ls.length+j))=(g i)[j]?:=λi h j y=>by
  have:=(World.cells?_some (aZ i h).1).2.2 j U
  rw[<-an,Go.Deep.add_add]at this;exact this
 obtain⟨b,o,s⟩:=a';have q:=r 0 av 0 k;rw[gA (by rw[v 0 av];exact k)]at q;have aw:=F4 (by simpa[Addr.add]using q);subst aw;refine⟨b,o,rfl,λj u C=>?_⟩;have y:j<len*ls.length:=by rw[<-fE];exact(hD.1 C).1
 have A:=Mk (by rw[oZ];exact y);have B:j%ls.length<ls.length:=e8 _ k;have p:=r (j / ls.length) A (j%ls.length) B;rw[oZ,pK,ij]at p;rw[p,<-E _ A,getElem?_take_of_lt B,xe,oZ,pK];exact C
end
structure k5 where
 bA:aa
 bj:aa
 i:aa
 at':aa
 bO:aa
 bF:aa
def k5.bu(c:k5):ah ay:=[I c.bA,I c.bj,I c.i,I c.at',aH c.bO,aH c.bF]
structure k5.wf(c:k5):al where
 bO:0<=c.bO/\c.bO<256
 bF:0<=c.bF/\c.bF<256
def Uv{w:aj}{cs:ah ay}(h:n9 w [.int .i64,.int .i64,.int .i64,.int .i64,.int .u8,.int .u8] cs):∃ c:k5,cs=c.bu/\c.wf:=by
 have⟨f,h⟩:=h
 match cs,f,h with
 | [l,m,v2,n,o,p],_,h=>
  obtain⟨k,rfl,bn⟩:=h 0 _ _ rfl rfl;obtain⟨toq,rfl,ao⟩:=h 1 _ _ rfl rfl;obtain⟨i,rfl,aD⟩:=h 2 _ _ rfl rfl;obtain⟨s,rfl,bq⟩:=h 3 _ _ rfl rfl;obtain⟨a,rfl,g⟩:=h 4 _ _ rfl rfl;obtain⟨b,rfl,j⟩:=h 5 _ _ rfl rfl;have d:=wf_u8 g;have e:=wf_u8 j;exact⟨⟨k,toq,i,s,a,b⟩,rfl,⟨d.1,by show a<256;omega⟩,⟨e.1,by show b<256;omega⟩⟩
def wA(L:ah k5):ah ay:=L.flatMap k5.bu
def Jj(L:ah k5)(i:J)(h:i<L.length)(j:J)(b:j<6):(wA L)[i*6+j]?=L[i].bu[j]?:=by
 induction L generalizing i with
 | nil=>exact absurd h (kZ _)
 | cons c L a=>
  simp only[wA,jc]at a⊢;cases i with
  | zero=>rw[jO (by simp[k5.bu];omega)];simp
  | succ i=>
   rw[lF (by simp[k5.bu,kc];omega),show(i+1)*6+j-c.bu.length=i*6+j by simp[k5.bu,kc];omega];exact a i ic
theorem Uw{w:aj}:∀ (n:J) (xs:ah ay),xs.length=n*6->(∀ i,i<n->n9 w [.int .i64,.int .i64,.int .i64,.int .i64,.int .u8,.int .u8] ((xs.drop (i*6)).take 6))->∃ L:ah k5,L.length=n/\xs=wA L/\∀ c∈L,c.wf
 | 0,xs,h,_=>⟨[],rfl,uZ ic,λ_ h=>n1⟩
 | n+1,xs,h,a=>by
  obtain⟨c,an,e⟩:=Uv (a 0 U);obtain⟨L,h1,h2,b⟩:=Uw n (xs.drop 6) (by simp[h,kc]) (λi ax=>by
   have:=a (i+1) U
   rwa [kc,qL,<-mV]at this)
  refine⟨c :: L,by simp[h1],?_,λd hd=>?_⟩
  .rw[<-mo 6 xs,h2];simp only[xn,hF]at an;rw[an];rfl
  cases hd with
  | head=>exact e
  | tail _ hd=>exact b d hd
def aan{w:aj}{cs:ah ay}(h:n9 w [.int .u32,.int .i64,.int .i64,.int .i64,.int .u32,.int .i64,.int .i64,.int .i64] cs):∃ aJ d n c e pat bU cb:aa,(0<=aJ/\aJ<=4294967295)/\cs.toArray=#[aR aJ,I d,I n,I c,aR e,I pat,I bU,I cb]:=by
 have⟨b,h⟩:=h
 match cs,b,h with
 | [p,q,v2,r,s,t,u,v],_,h=>
  obtain⟨f,rfl,a⟩:=h 0 _ _ rfl rfl;obtain⟨g,rfl,_⟩:=h 1 _ _ rfl rfl;obtain⟨i,rfl,_⟩:=h 2 _ _ rfl rfl;obtain⟨j,rfl,_⟩:=h 3 _ _ rfl rfl;obtain⟨k,rfl,_⟩:=h 4 _ _ rfl rfl;obtain⟨l,rfl,_⟩:=h 5 _ _ rfl rfl;obtain⟨m,rfl,_⟩:=h 6 _ _ rfl rfl;obtain⟨o,rfl,_⟩:=h 7 _ _ rfl rfl;have a:=a;simp only[Lit.wf]at a;exact⟨f,g,i,j,k,l,m,o,by simpa[IntKind.min,IntKind.max,IntKind.signed,IntKind.bits]using a,rfl⟩
end Go.Proofs.YtalagblioepadaaGreatDoor
