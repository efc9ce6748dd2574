/- The proof, part 9. -/
import Derived.Test.YtalagblioepadaaGreatDoorZc07
import Derived.Deep.Fields
namespace Go.Proofs.YtalagblioepadaaGreatDoor
set_option linter.all false
open List Go.RowKit Go.ChangeShapes Go.WideShapes Go.Deep
set_option maxRecDepth 100000
inductive nM
 | int (k:IntKind)
 | bool
 | str
 | ints (k:IntKind)
def Aj(w:ai):nM->ax->ak
 | .int k,v=>∃ n,v=.int k n/\(Lit.int k n).wf=true
 | .bool,v=>∃ b,v=.bool b
 | .str,v=>∃ s:cc,v=.string s/\s.size<=maxLen
 | .ints k,v=>∃ (a:b5 Addr) (L:ah aa) (cap:J),v=.slice a L.length cap/\dR w 1 a L.length cap (L.map λx=>.int k x)/\∀ n∈L,(Lit.int k n).wf=true
def nN(w:ai)(a:ah nM)(cs:ah ax):ak:=a.length=cs.length/\∀ (j:J) (l:nM) (v:ax),a[j]?=some l->cs[j]?=some v->Aj w l v
def x0(P:Program)(rec:TypeId->b5 (ah nM)):J->ah Field->b5 (ah nM)
 | _,[]=>some []
 | off,fd :: r=>match rec fd.type with
  | none=>none
  | some l=>match x0 P rec (off+P.cellsOf fd.type) r with
   | none=>none
   | some m=>if fd.offset=off/\l.length=P.cellsOf fd.type then some (l++m)else none
def leaves(P:Program):J->TypeId->b5 (ah nM)
 | 0,_=>none
 | f+1,t=>match P.underlying t with
  | some (.int k)=>some [.int k]
  | some .bool=>some [.bool]
  | some .string=>some [.str]
  | some (.slice e)=>match P.underlying e with
   | some (.int k)=>if P.cellsOf e=1 then some [.ints k]else none
   | _=>none
  | some (.struct a)=>match x0 P (leaves P f) 0 a.toList with
   | some m=>if m.length=P.cellsOf t then some m else none
   | none=>none
  | some (.array n e)=>match leaves P f e with
   | some l=>if l.length=P.cellsOf e/\n*P.cellsOf e=P.cellsOf t then some (replicate n l).flatten else none
   | none=>none
  | _=>none
section
variable{H:Type}{enc:TypeId×ax->H}{P:Program}{w:ai}{base:J}{held:aY}
def yt{l:nM}{v:ax}(h:Aj w l v):nN w [l] [v]:=by
 refine⟨rfl,λj l' v' h1 h2=>?_⟩
 match j,h1,h2 with
 | 0,h1,h2=>simp at h1 h2;subst h1 h2;exact h
 | j+1,h1,_=>simp at h1
def Ib{l m:ah nM}{cs a:ah ax}(h:nN w l cs)(k:nN w m a):nN w (l++m) (cs++a):=by
 refine⟨by simp[h.1,k.1],λj x v h1 h2=>?_⟩;by_cases b:j<l.length
 .rw[jU b]at h1;rw[jU (by rw[<-h.1];exact b)]at h2;exact h.2 j x v h1 h2
 rw[l3 U]at h1;rw[l3 (by rw[<-h.1];omega),<-h.1]at h2;exact k.2 _ x v h1 h2
def Ss{k:IntKind}{t e:TypeId}{b:J}{cs:ah ax}{x:DataW H×ah MemPlace}(aO:P.underlying t=some (.slice e))(f:P.underlying e=some (.int k))(al:P.cellsOf e=1)(h:DataW.trod enc P w base (λ_=>true) held b t cs=some x):∃ v,cs=[v]/\Aj w (.ints k) v:=by
 rcases open_ints aO f al h with⟨rfl,_⟩|⟨a,l,c,cg,rfl,_,g,hm,m,_,d,j⟩
 .exact⟨_,rfl,none,[],0,rfl,dR.nil w 1,λ_ h=>nK⟩
 obtain⟨L,rfl,aW,i⟩:=YD (.inr ⟨a,rfl,g,hm,by simpa using m,d,j⟩);exact⟨_,rfl,some a,L,c,rfl,aW,i⟩
def SN:∀ (f:J) (t:TypeId) (d:ah nM) (g:J) (cs:ah ax) (x:DataW H×ah MemPlace),leaves P f t=some d->DataW.trod enc P w base (λ_=>true) held g t cs=some x->nN w d cs:=by
 intro f
 induction f with
 | zero=>intro t d g cs x h;cases h
 | succ f A=>
  intro t d g cs x a h;unfold leaves at a;split at a
  .rename_i k c;obtain⟨n,rfl,_,E⟩:=DataW.trod_int c h;cases a;exact yt ⟨n,rfl,E⟩
  .rename_i c;obtain⟨b,rfl,_⟩:=DataW.trod_bool c h;cases a;exact yt ⟨b,rfl⟩
  .rename_i c;obtain⟨s,rfl,_,av⟩:=DataW.trod_string c h;cases a;exact yt ⟨s,rfl,av⟩
  .rename_i e c;split at a
   .rename_i k hk;split at a
    .rename_i al;cases a;obtain⟨v,rfl,aW⟩:=Ss c hk al h;exact yt aW
    cases a
   cases a
  .rename_i u c;obtain⟨xs,n,rfl,_,C,F,o⟩:=DataW.trod_struct c h;have key:∀ (r:ah Field) (i off:J) (m:ah nM),u.toList.drop i=r->x0 P (leaves P f) off r=some m->nN w m ((cs.drop off).take m.length):=by
    intro r
    induction r with
    | nil=>intro i off m _ hm;cases hm;exact⟨by simp,λj l v h1 _=>by simp at h1⟩
    | cons fd r K=>
     intro i off m z hm;unfold x0 at hm;split at hm
     .cases hm
     rename_i l p;split at hm
     .cases hm
     rename_i m' B;split at hm
     .rename_i al;have⟨D,al⟩:=al;cases hm;have aw:u[i]?=some fd:=by
       have:=cV (·[0]?) z
       simpa using this
      have L:=(kf.1 aw).1;have h1:=o i fd aw;rw[gl U]at h1;have h2:=A _ _ _ _ _ p h1;rw[D,<-al]at h2;have y:=K (i+1) (off+P.cellsOf fd.type) m' (by rw[<-mF,z];rfl) B;rw[<-al,<-mF]at y;rw[cx,take_add];exact Ib h2 y
     cases hm
   split at a
   .rename_i m hm;split at a
    .rename_i M;cases a
     have:=key _ 0 0 d rfl (by simpa using hm)
     rwa [hI,nF U]at this
    cases a
   cases a
  .rename_i n e c;obtain⟨xs,q,rfl,_,C,F,o⟩:=DataW.trod_array c h;split at a
   .rename_i l p;split at a
    .rename_i al;have⟨al,ar⟩:=al;cases a;have key:∀ (i:J),i<=n->nN w (replicate i l).flatten (cs.take (i*P.cellsOf e)):=by
      intro i
      induction i with
      | zero=>intro _;exact⟨by simp,λj l v h1 _=>by simp at h1⟩
      | succ i G=>
       intro aw;have h1:=o i U;rw[gl U]at h1;rw[jX,take_add,DR,flatten_append];exact Ib (G U) (by simpa using(A _ _ _ _ _ p h1))
     have:=key n bs
     rwa [nF U]at this
    cases a
   cases a
  cases a
def VL(c:J)(g:J->ah ax)(n:J)(aZ:∀ i,i<n->(g i).length=c):((range n).flatMap g).length=n*c/\∀ i,i<n->(((range n).flatMap g).drop (i*c)).take c=g i:=by
 induction n with
 | zero=>exact⟨by simp,λi h=>absurd h (lp _)⟩
 | succ n d=>
  have⟨h1,h2⟩:=d λi aw=>aZ i U;have a:=aZ n U;rw[qs,ry,flatMap_singleton];refine⟨by rw[cx,h1,a,jX],λi aw=>?_⟩;by_cases e:i=n
  .subst e;rw[<-h1,drop_left,nF U]
  have b:(i+1)*c<=n*c:=sV c U;rw[jX]at b;rw[DJ U,zM (by rw[gm];omega)];exact h2 i U
def ZC{t e:TypeId}{f:J}{d:ah nM}{K:J}{a:b5 Addr}{len cap:J}{x:DataW H×ah MemPlace}(aO:P.underlying t=some (.slice e))(L:leaves P f e=some d)(al:d.length=P.cellsOf e)(p:0<d.length)(h:DataW.trod enc P w base (λ_=>true) held K t [aq a len cap]=some x):∃ xs,dR w d.length a len cap xs/\∀ i,i<len->nN w d ((xs.drop (i*d.length)).take d.length):=by
 rcases open_slice aO h with⟨k,_⟩|⟨a',l,c,m,n,D,G,k,aj,M,hm,A,N,aw⟩
 .simp at k;obtain⟨rfl,rfl,rfl⟩:=k;exact⟨[],dR.nil w _,λi h=>absurd h (lp _)⟩
 simp only[zD,Value.slice.injEq,and_true]at k;obtain⟨rfl,rfl,rfl⟩:=k;simp only[if_true]at A;subst A;obtain⟨g,aZ⟩:∃ g:J->ah ax,∀ i,i<len->w.cells? base (a'.add (i*P.cellsOf e)) (P.cellsOf e)=some (g i)/\DataW.trod enc P w base (λ_=>true) held n e (g i)=some (D i,G i):=by
  refine⟨λi=>if h:i<len then Classical.choose (aw i U)else [],λi h=>?_⟩;simp only[h,dite_true];exact Classical.choose_spec (aw i U)
 have y:∀ i,i<len->(g i).length=d.length:=λi h=>by rw[(World.cells?_some (aZ i h).1).2.1,al]
 have⟨fu,F⟩:=VL d.length g len y;refine⟨(range len).flatMap g,⟨fu,M,hm,λar=>?_⟩,λi h=>by rw[F i h];exact SN f e d n _ _ L (aZ i h).2⟩;have v:∀ i,i<len->∀ j,j<d.length->w.cell? (a'.add (i*d.length+j))=(g i)[j]?:=λi h j z=>by
  have:=(World.cells?_some (aZ i h).1).2.2 j U
  rw[<-al,Go.Deep.add_add]at this;exact this
 obtain⟨b,o,s⟩:=a';have r:=v 0 ar 0 p;rw[gl (by rw[y 0 ar];exact p)]at r;have av:=Fv (by simpa[Addr.add]using r);subst av;refine⟨b,o,rfl,λj u E=>?_⟩;have z:j<len*d.length:=by rw[<-fu];exact(hp.1 E).1
 have B:=LJ (by rw[oH];exact z);have C:j%d.length<d.length:=e2 _ p;have q:=v (j / d.length) B (j%d.length) C;rw[oH,pr,h3]at q;rw[q,<-F _ B,getElem?_take_of_lt C,wY,oH,pr];exact E
end
structure kO where
 bu:aa
 bg:aa
 i:aa
 at':aa
 bH:aa
 bz:aa
def kO.br(c:kO):ah ax:=[I c.bu,I c.bg,I c.i,I c.at',aF c.bH,aF c.bz]
structure kO.wf(c:kO):ak where
 bH:0<=c.bH/\c.bH<256
 bz:0<=c.bz/\c.bz<256
def TQ{w:ai}{cs:ah ax}(h:nN w [.int .i64,.int .i64,.int .i64,.int .i64,.int .u8,.int .u8] cs):∃ c:kO,cs=c.br/\c.wf:=by
 have⟨f,h⟩:=h
 match cs,f,h with
 | [l,m,v2,n,o,p],_,h=>
  obtain⟨k,rfl,bk⟩:=h 0 _ _ rfl rfl;obtain⟨toq,rfl,ao⟩:=h 1 _ _ rfl rfl;obtain⟨i,rfl,aC⟩:=h 2 _ _ rfl rfl;obtain⟨s,rfl,bm⟩:=h 3 _ _ rfl rfl;obtain⟨a,rfl,g⟩:=h 4 _ _ rfl rfl;obtain⟨b,rfl,j⟩:=h 5 _ _ rfl rfl;have d:=wf_u8 g;have e:=wf_u8 j;exact⟨⟨k,toq,i,s,a,b⟩,rfl,⟨d.1,by show a<256;omega⟩,⟨e.1,by show b<256;omega⟩⟩
def wb(L:ah kO):ah ax:=L.flatMap kO.br
def TR(L:ah kO)(i:J)(h:i<L.length)(j:J)(b:j<6):(wb L)[i*6+j]?=L[i].br[j]?:=by
 induction L generalizing i with
 | nil=>exact absurd h (lp _)
 | cons c L a=>
  simp only[wb,iS]at a⊢;cases i with
  | zero=>rw[jU (by simp[kO.br];omega)];simp
  | succ i=>
   rw[l3 (by simp[kO.br,jX];omega),show(i+1)*6+j-c.br.length=i*6+j by simp[kO.br,jX];omega];exact a i ik
theorem TT{w:ai}:∀ (n:J) (xs:ah ax),xs.length=n*6->(∀ i,i<n->nN w [.int .i64,.int .i64,.int .i64,.int .i64,.int .u8,.int .u8] ((xs.drop (i*6)).take 6))->∃ L:ah kO,L.length=n/\xs=wb L/\∀ c∈L,c.wf
 | 0,xs,h,_=>⟨[],rfl,uK ik,λ_ h=>nK⟩
 | n+1,xs,h,a=>by
  have⟨c,al,e⟩:=TQ (a 0 U);have⟨L,h1,h2,b⟩:=TT n (xs.drop 6) (by simp[h,jX]) (λi aw=>by
   have:=a (i+1) U
   rwa [jX,qt,<-mF]at this)
  refine⟨c :: L,by simp[h1],?_,λd hd=>?_⟩
  .rw[<-l5 6 xs,h2];simp only[w6,hI]at al;rw[al];rfl
  cases hd with
  | head=>exact e
  | tail _ hd=>exact b d hd
def ZD{w:ai}{cs:ah ax}(h:nN w [.int .u32,.int .i64,.int .i64,.int .i64,.int .u32,.int .i64,.int .i64,.int .i64] cs):∃ aG d n c e pat bZ b':aa,(0<=aG/\aG<=4294967295)/\cs.toArray=#[aP aG,I d,I n,I c,aP e,I pat,I bZ,I b']:=by
 have⟨b,h⟩:=h
 match cs,b,h with
 | [p,q,v2,r,s,t,u,v],_,h=>
  obtain⟨f,rfl,a⟩:=h 0 _ _ rfl rfl;obtain⟨g,rfl,_⟩:=h 1 _ _ rfl rfl;obtain⟨i,rfl,_⟩:=h 2 _ _ rfl rfl;obtain⟨j,rfl,_⟩:=h 3 _ _ rfl rfl;obtain⟨k,rfl,_⟩:=h 4 _ _ rfl rfl;obtain⟨l,rfl,_⟩:=h 5 _ _ rfl rfl;obtain⟨m,rfl,_⟩:=h 6 _ _ rfl rfl;obtain⟨o,rfl,_⟩:=h 7 _ _ rfl rfl;have a:=a;simp only[Lit.wf]at a;exact⟨f,g,i,j,k,l,m,o,by simpa[IntKind.min,IntKind.max,IntKind.signed,IntKind.bits]using a,rfl⟩
end Go.Proofs.YtalagblioepadaaGreatDoor
