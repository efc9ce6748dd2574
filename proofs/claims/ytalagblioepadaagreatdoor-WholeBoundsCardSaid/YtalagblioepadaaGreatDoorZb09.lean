/- The proof, part 9. -/
import Derived.Test.YtalagblioepadaaGreatDoorZb07
import Derived.Deep.Fields
namespace Go.Proofs.YtalagblioepadaaGreatDoor
set_option linter.all false
open List Go.RowKit Go.ChangeShapes Go.WideShapes Go.Deep
set_option maxRecDepth 100000
inductive nv
 | int (k:IntKind)
 | bool
 | str
 | ints (k:IntKind)
def zU(w:ai):nv->aw->ak
 | .int k,v=>∃ n,v=.int k n/\(Lit.int k n).wf=true
 | .bool,v=>∃ b,v=.bool b
 | .str,v=>∃ s:cc,v=.string s/\s.size<=maxLen
 | .ints k,v=>∃ (a:b4 Addr) (L:ah aa) (cap:J),v=.slice a L.length cap/\dQ w 1 a L.length cap (L.map λx=>.int k x)/\∀ n∈L,(Lit.int k n).wf=true
def nw(w:ai)(a:ah nv)(cs:ah aw):ak:=a.length=cs.length/\∀ (j:J) (l:nv) (v:aw),a[j]?=some l->cs[j]?=some v->zU w l v
def xD(P:Program)(rec:TypeId->b4 (ah nv)):J->ah Field->b4 (ah nv)
 | _,[]=>some []
 | off,fd :: r=>match rec fd.type with
  | none=>none
  | some l=>match xD P rec (off+P.cellsOf fd.type) r with
   | none=>none
   | some m=>if fd.offset=off/\l.length=P.cellsOf fd.type then some (l++m)else none
def leaves(P:Program):J->TypeId->b4 (ah nv)
 | 0,_=>none
 | f+1,t=>match P.underlying t with
  | some (.int k)=>some [.int k]
  | some .bool=>some [.bool]
  | some .string=>some [.str]
  | some (.slice e)=>match P.underlying e with
   | some (.int k)=>if P.cellsOf e=1 then some [.ints k]else none
   | _=>none
  | some (.struct a)=>match xD P (leaves P f) 0 a.toList with
   | some m=>if m.length=P.cellsOf t then some m else none
   | none=>none
  | some (.array n e)=>match leaves P f e with
   | some l=>if l.length=P.cellsOf e/\n*P.cellsOf e=P.cellsOf t then some (replicate n l).flatten else none
   | none=>none
  | _=>none
section
variable{H:Type}{enc:TypeId×aw->H}{P:Program}{w:ai}{base:J}{held:aY}
def x9{l:nv}{v:aw}(h:zU w l v):nw w [l] [v]:=by
 refine⟨rfl,λj l' v' h1 h2=>?_⟩
 match j,h1,h2 with
 | 0,h1,h2=>simp at h1 h2;subst h1 h2;exact h
 | j+1,h1,_=>simp at h1
def HK{l m:ah nv}{cs a:ah aw}(h:nw w l cs)(k:nw w m a):nw w (l++m) (cs++a):=by
 refine⟨by simp[h.1,k.1],λj x v h1 h2=>?_⟩;by_cases b:j<l.length
 .rw[jL b]at h1;rw[jL (by rw[<-h.1];exact b)]at h2;exact h.2 j x v h1 h2
 rw[mu U]at h1;rw[mu (by rw[<-h.1];omega),<-h.1]at h2;exact k.2 _ x v h1 h2
def RQ{k:IntKind}{t e:TypeId}{b:J}{cs:ah aw}{x:DataW H×ah MemPlace}(aN:P.underlying t=some (.slice e))(f:P.underlying e=some (.int k))(aq:P.cellsOf e=1)(h:DataW.trod enc P w base (λ_=>true) held b t cs=some x):∃ v,cs=[v]/\zU w (.ints k) v:=by
 rcases open_ints aN f aq h with⟨rfl,_⟩|⟨a,l,c,ch,rfl,_,g,hm,m,_,d,j⟩
 .exact⟨_,rfl,none,[],0,rfl,dQ.nil w 1,λ_ h=>nt⟩
 obtain⟨L,rfl,aX,i⟩:=X1 (.inr ⟨a,rfl,g,hm,by simpa using m,d,j⟩);exact⟨_,rfl,some a,L,c,rfl,aX,i⟩
def Sa:∀ (f:J) (t:TypeId) (d:ah nv) (g:J) (cs:ah aw) (x:DataW H×ah MemPlace),leaves P f t=some d->DataW.trod enc P w base (λ_=>true) held g t cs=some x->nw w d cs:=by
 intro f
 induction f with
 | zero=>intro t d g cs x h;cases h
 | succ f A=>
  intro t d g cs x a h;unfold leaves at a;split at a
  .rename_i k c;obtain⟨n,rfl,_,E⟩:=DataW.trod_int c h;cases a;exact x9 ⟨n,rfl,E⟩
  .rename_i c;obtain⟨b,rfl,_⟩:=DataW.trod_bool c h;cases a;exact x9 ⟨b,rfl⟩
  .rename_i c;obtain⟨s,rfl,_,ax⟩:=DataW.trod_string c h;cases a;exact x9 ⟨s,rfl,ax⟩
  .rename_i e c;split at a
   .rename_i k hk;split at a
    .rename_i aq;cases a;obtain⟨v,rfl,aX⟩:=RQ c hk aq h;exact x9 aX
    cases a
   cases a
  .rename_i u c;obtain⟨xs,n,rfl,_,C,F,o⟩:=DataW.trod_struct c h;have key:∀ (r:ah Field) (i off:J) (m:ah nv),u.toList.drop i=r->xD P (leaves P f) off r=some m->nw w m ((cs.drop off).take m.length):=by
    intro r
    induction r with
    | nil=>intro i off m _ hm;cases hm;exact⟨by simp,λj l v h1 _=>by simp at h1⟩
    | cons fd r K=>
     intro i off m z hm;unfold xD at hm;split at hm
     .cases hm
     rename_i l p;split at hm
     .cases hm
     rename_i m' B;split at hm
     .rename_i aq;have⟨D,aq⟩:=aq;cases hm;have av:u[i]?=some fd:=by
       have:=cV (·[0]?) z
       simpa using this
      have L:=(j8.1 av).1;have h1:=o i fd av;rw[gb U]at h1;have h2:=A _ _ _ _ _ p h1;rw[D,<-aq]at h2;have y:=K (i+1) (off+P.cellsOf fd.type) m' (by rw[<-mr,z];rfl) B;rw[<-aq,<-mr]at y;rw[cx,take_add];exact HK h2 y
     cases hm
   split at a
   .rename_i m hm;split at a
    .rename_i M;cases a
     have:=key _ 0 0 d rfl (by simpa using hm)
     rwa [hA,nm U]at this
    cases a
   cases a
  .rename_i n e c;obtain⟨xs,q,rfl,_,C,F,o⟩:=DataW.trod_array c h;split at a
   .rename_i l p;split at a
    .rename_i aq;have⟨aq,au⟩:=aq;cases a;have key:∀ (i:J),i<=n->nw w (replicate i l).flatten (cs.take (i*P.cellsOf e)):=by
      intro i
      induction i with
      | zero=>intro _;exact⟨by simp,λj l v h1 _=>by simp at h1⟩
      | succ i G=>
       intro av;have h1:=o i U;rw[gb U]at h1;rw[jQ,take_add,Dr,flatten_append];exact HK (G U) (by simpa using(A _ _ _ _ _ p h1))
     have:=key n bA
     rwa [nm U]at this
    cases a
   cases a
  cases a
def Vb(c:J)(g:J->ah aw)(n:J)(a1:∀ i,i<n->(g i).length=c):((range n).flatMap g).length=n*c/\∀ i,i<n->(((range n).flatMap g).drop (i*c)).take c=g i:=by
 induction n with
 | zero=>exact⟨by simp,λi h=>absurd h (k7 _)⟩
 | succ n d=>
  have⟨h1,h2⟩:=d λi av=>a1 i U;have a:=a1 n U;rw[q',q8,flatMap_singleton];refine⟨by rw[cx,h1,a,jQ],λi av=>?_⟩;by_cases e:i=n
  .subst e;rw[<-h1,drop_left,nm U]
  have b:(i+1)*c<=n*c:=sH c U;rw[jQ]at b;rw[Di U,zs (by rw[gd];omega)];exact h2 i U
def YY{t e:TypeId}{f:J}{d:ah nv}{K:J}{a:b4 Addr}{len cap:J}{x:DataW H×ah MemPlace}(aN:P.underlying t=some (.slice e))(L:leaves P f e=some d)(aq:d.length=P.cellsOf e)(p:0<d.length)(h:DataW.trod enc P w base (λ_=>true) held K t [ao a len cap]=some x):∃ xs,dQ w d.length a len cap xs/\∀ i,i<len->nw w d ((xs.drop (i*d.length)).take d.length):=by
 rcases open_slice aN h with⟨k,_⟩|⟨a',l,c,m,n,D,G,k,aj,M,hm,A,N,av⟩
 .simp at k;obtain⟨rfl,rfl,rfl⟩:=k;exact⟨[],dQ.nil w _,λi h=>absurd h (k7 _)⟩
 simp only[zh,Value.slice.injEq,and_true]at k;obtain⟨rfl,rfl,rfl⟩:=k;simp only[if_true]at A;subst A;obtain⟨g,a1⟩:∃ g:J->ah aw,∀ i,i<len->w.cells? base (a'.add (i*P.cellsOf e)) (P.cellsOf e)=some (g i)/\DataW.trod enc P w base (λ_=>true) held n e (g i)=some (D i,G i):=by
  refine⟨λi=>if h:i<len then Classical.choose (av i U)else [],λi h=>?_⟩;simp only[h,dite_true];exact Classical.choose_spec (av i U)
 have y:∀ i,i<len->(g i).length=d.length:=λi h=>by rw[(World.cells?_some (a1 i h).1).2.1,aq]
 have⟨fm,F⟩:=Vb d.length g len y;refine⟨(range len).flatMap g,⟨fm,M,hm,λau=>?_⟩,λi h=>by rw[F i h];exact Sa f e d n _ _ L (a1 i h).2⟩;have v:∀ i,i<len->∀ j,j<d.length->w.cell? (a'.add (i*d.length+j))=(g i)[j]?:=λi h j z=>by
  have:=(World.cells?_some (a1 i h).1).2.2 j U
  rw[<-aq,Go.Deep.add_add]at this;exact this
 obtain⟨b,o,s⟩:=a';have r:=v 0 au 0 p;rw[gb (by rw[y 0 au];exact p)]at r;have ax:=E3 (by simpa[Addr.add]using r);subst ax;refine⟨b,o,rfl,λj u E=>?_⟩;have z:j<len*d.length:=by rw[<-fm];exact(hf.1 E).1
 have B:=Lc (by rw[ot];exact z);have C:j%d.length<d.length:=eW _ p;have q:=v (j / d.length) B (j%d.length) C;rw[ot,o_,hN]at q;rw[q,<-F _ B,getElem?_take_of_lt C,wE,ot,o_];exact E
end
structure kE where
 bw:aa
 bf:aa
 i:aa
 at':aa
 bI:aa
 bB:aa
def kE.bt(c:kE):ah aw:=[I c.bw,I c.bf,I c.i,I c.at',aF c.bI,aF c.bB]
structure kE.wf(c:kE):ak where
 bI:0<=c.bI/\c.bI<256
 bB:0<=c.bB/\c.bB<256
def Td{w:ai}{cs:ah aw}(h:nw w [.int .i64,.int .i64,.int .i64,.int .i64,.int .u8,.int .u8] cs):∃ c:kE,cs=c.bt/\c.wf:=by
 have⟨f,h⟩:=h
 match cs,f,h with
 | [l,m,v2,n,o,p],_,h=>
  obtain⟨k,rfl,bl⟩:=h 0 _ _ rfl rfl;obtain⟨toq,rfl,an⟩:=h 1 _ _ rfl rfl;obtain⟨i,rfl,aB⟩:=h 2 _ _ rfl rfl;obtain⟨s,rfl,bn⟩:=h 3 _ _ rfl rfl;obtain⟨a,rfl,g⟩:=h 4 _ _ rfl rfl;obtain⟨b,rfl,j⟩:=h 5 _ _ rfl rfl;have d:=wf_u8 g;have e:=wf_u8 j;exact⟨⟨k,toq,i,s,a,b⟩,rfl,⟨d.1,by show a<256;omega⟩,⟨e.1,by show b<256;omega⟩⟩
def vN(L:ah kE):ah aw:=L.flatMap kE.bt
def Te(L:ah kE)(i:J)(h:i<L.length)(j:J)(b:j<6):(vN L)[i*6+j]?=L[i].bt[j]?:=by
 induction L generalizing i with
 | nil=>exact absurd h (k7 _)
 | cons c L a=>
  simp only[vN,iL]at a⊢;cases i with
  | zero=>rw[jL (by simp[kE.bt];omega)];simp
  | succ i=>
   rw[mu (by simp[kE.bt,jQ];omega),show(i+1)*6+j-c.bt.length=i*6+j by simp[kE.bt,jQ];omega];exact a i h8
theorem Tf{w:ai}:∀ (n:J) (xs:ah aw),xs.length=n*6->(∀ i,i<n->nw w [.int .i64,.int .i64,.int .i64,.int .i64,.int .u8,.int .u8] ((xs.drop (i*6)).take 6))->∃ L:ah kE,L.length=n/\xs=vN L/\∀ c∈L,c.wf
 | 0,xs,h,_=>⟨[],rfl,uv h8,λ_ h=>nt⟩
 | n+1,xs,h,a=>by
  obtain⟨c,aq,e⟩:=Td (a 0 U);obtain⟨L,h1,h2,b⟩:=Tf n (xs.drop 6) (by simp[h,jQ]) (λi av=>by
   have:=a (i+1) U
   rwa [jQ,qc,<-mr]at this)
  refine⟨c :: L,by simp[h1],?_,λd hd=>?_⟩
  .rw[<-lR 6 xs,h2];simp only[wM,hA]at aq;rw[aq];rfl
  cases hd with
  | head=>exact e
  | tail _ hd=>exact b d hd
def YZ{w:ai}{cs:ah aw}(h:nw w [.int .u32,.int .i64,.int .i64,.int .i64,.int .u32,.int .i64,.int .i64,.int .i64] cs):∃ aO d n c e pat bK b5:aa,(0<=aO/\aO<=4294967295)/\cs.toArray=#[aK aO,I d,I n,I c,aK e,I pat,I bK,I b5]:=by
 have⟨b,h⟩:=h
 match cs,b,h with
 | [p,q,v2,r,s,t,u,v],_,h=>
  obtain⟨f,rfl,a⟩:=h 0 _ _ rfl rfl;obtain⟨g,rfl,_⟩:=h 1 _ _ rfl rfl;obtain⟨i,rfl,_⟩:=h 2 _ _ rfl rfl;obtain⟨j,rfl,_⟩:=h 3 _ _ rfl rfl;obtain⟨k,rfl,_⟩:=h 4 _ _ rfl rfl;obtain⟨l,rfl,_⟩:=h 5 _ _ rfl rfl;obtain⟨m,rfl,_⟩:=h 6 _ _ rfl rfl;obtain⟨o,rfl,_⟩:=h 7 _ _ rfl rfl;have a:=a;simp only[Lit.wf]at a;exact⟨f,g,i,j,k,l,m,o,by simpa[IntKind.min,IntKind.max,IntKind.signed,IntKind.bits]using a,rfl⟩
end Go.Proofs.YtalagblioepadaaGreatDoor
