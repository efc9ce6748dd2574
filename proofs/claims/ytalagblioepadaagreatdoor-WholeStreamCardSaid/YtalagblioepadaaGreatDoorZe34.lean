/- The proof, part 34. -/
import Derived.Deep.Fields
import Derived.Test.YtalagblioepadaaGreatDoorZe33
namespace Go.Proofs.YtalagblioepadaaGreatDoor
set_option linter.all false
open Proofs.Tryz List Go.RowKit Go.ChangeShapes Go.WideShapes Go.Deep Go.Shelf Go.Maps
set_option maxRecDepth 100000
set_option maxHeartbeats 8000000
variable{kX:a6 ay}{se:U}{cs:ai ay}{K bD d fuel n:J}{e t:TypeId}
inductive pa
 | int (k:IntKind)
 | bool
 | str
 | ints (k:IntKind)
def D2(w:aj):pa->ay->ae
 | .int k,v=>∃ n,v=.int k n/\(Lit.int k n).wf=true
 | .bool,v=>∃ b,v=.bool b
 | .str,v=>∃ s:cl,v=.string s/\s.size<=maxLen
 | .ints k,v=>∃ (a:cr Addr) (L:ai U) (cap:J),v=.slice a L.length cap/\ey w 1 a L.length cap (L.map λx=>.int k x)/\∀ n∈L,(Lit.int k n).wf=true
def pb(w:aj)(ls:ai pa)(cs:ai ay):ae:=ls.length=cs.length/\∀ (j:J) (l:pa) (v:ay),ls[j]?=some l->cs[j]?=some v->D2 w l v
def AR(P:Program)(rec:TypeId->cr (ai pa)):J->ai Field->cr (ai pa)
 | _,[]=>some []
 | off,fd :: r=>match rec fd.type with
  | none=>none
  | some l=>match AR P rec (off+P.cellsOf fd.type) r with
   | none=>none
   | some m=>if fd.offset=off/\l.length=P.cellsOf fd.type then some (l++m)else none
def leaves(P:Program):J->TypeId->cr (ai pa)
 | 0,_=>none
 | f+1,t=>match P.underlying t with
  | some (.int k)=>some [.int k]
  | some .bool=>some [.bool]
  | some .string=>some [.str]
  | some (.slice e)=>match P.underlying e with
   | some (.int k)=>if P.cellsOf e=1 then some [.ints k]else none
   | _=>none
  | some (.struct a)=>match AR P (leaves P f) 0 a.toList with
   | some m=>if m.length=P.cellsOf t then some m else none
   | none=>none
  | some (.array n e)=>match leaves P f e with
   | some l=>if l.length=P.cellsOf e/\n*P.cellsOf e=P.cellsOf t then some (replicate n l).flatten else none
   | none=>none
  | _=>none
section
variable{H:Type}{enc:TypeId×ay->H}{P:Program}{w:aj}{base:J}{held:aY}
def Bk{l:pa}{v:ay}(h:D2 w l v):pb w [l] [v]:=by
 refine⟨rfl,λj l' v' h1 h2=>?_⟩
 match j,h1,h2 with
 | 0,h1,h2=>simp at h1 h2;subst h1 h2;exact h
 | j+1,h1,_=>simp at h1
def MV{l m:ai pa}{a:ai ay}(h:pb w l cs)(k:pb w m a):pb w (l++m) (cs++a):=by
 refine⟨by simp[h.1,k.1],λj x v h1 h2=>?_⟩;by_cases b:j<l.length
 .rw[jF b]at h1;rw[jF (by rw[<-h.1];exact b)]at h2;exact h.2 j x v h1 h2
 rw[l6 I]at h1;rw[l6 (by rw[<-h.1];omega),<-h.1]at h2;exact k.2 _ x v h1 h2
def abM{k:IntKind}{x:DataW H×ai MemPlace}(aW:P.underlying t=some (.slice e))(d:P.underlying e=some (.int k))(an:P.cellsOf e=1)(h:DataW.trod enc P w base (λ_=>true) held fuel t cs=some x):∃ v,cs=[v]/\D2 w (.ints k) v:=by
 rcases open_ints aW d an h with⟨rfl,_⟩|⟨a,l,c,cb,rfl,_,f,hm,j,_,b,i⟩
 .exact⟨_,rfl,none,[],0,rfl,ey.nil w 1,λ_ h=>o6⟩
 obtain⟨L,rfl,a_,g⟩:=aiA (.inr ⟨a,rfl,f,hm,by simpa using j,b,i⟩);exact⟨_,rfl,some a,L,c,rfl,a_,g⟩
def ab6:∀ (f:J) (t:TypeId) (ls:ai pa) (fuel:J) (cs:ai ay) (x:DataW H×ai MemPlace),leaves P f t=some ls->DataW.trod enc P w base (λ_=>true) held fuel t cs=some x->pb w ls cs:=by
 intro f
 induction f with
 | zero=>intro t ls fuel cs x h;cases h
 | succ f y=>
  intro t ls fuel cs x a h;unfold leaves at a;split at a
  .rename_i k c;obtain⟨n,rfl,_,B⟩:=DataW.trod_int c h;cases a;exact Bk ⟨n,rfl,B⟩
  .rename_i c;obtain⟨b,rfl,_⟩:=DataW.trod_bool c h;cases a;exact Bk ⟨b,rfl⟩
  .rename_i c;obtain⟨s,rfl,_,aA⟩:=DataW.trod_string c h;cases a;exact Bk ⟨s,rfl,aA⟩
  .rename_i e c;split at a
   .rename_i k hk;split at a
    .rename_i an;cases a;obtain⟨v,rfl,a_⟩:=abM c hk an h;exact Bk a_
    cases a
   cases a
  .rename_i o c;obtain⟨xs,n,rfl,_,A,C,d⟩:=DataW.trod_struct c h;have key:∀ (r:ai Field) (i off:J) (m:ai pa),o.toList.drop i=r->AR P (leaves P f) off r=some m->pb w m ((cs.drop off).take m.length):=by
    intro r
    induction r with
    | nil=>intro i off m _ hm;cases hm;exact⟨nA,λj l v h1 _=>by simp at h1⟩
    | cons fd r E=>
     intro i off m u hm;unfold AR at hm;split at hm
     .cases hm
     rename_i l g;split at hm
     .cases hm
     rename_i m' z;split at hm
     .rename_i an;have⟨ar,an⟩:=an;cases hm;have av:o[i]?=some fd:=by
       have:=c6 (·[0]?) u
       simpa using this
      have F:=(mI.1 av).1;have h1:=d i fd av;rw[gW I]at h1;have h2:=y _ _ _ _ _ g h1;rw[ar,<-an]at h2;have p:=E (i+1) (off+P.cellsOf fd.type) m' (by rw[<-n5,u];rfl) z;rw[<-an,<-n5]at p;rw[cG,take_add];exact MV h2 p
     cases hm
   split at a
   .rename_i m hm;split at a
    .rename_i G;cases a
     have:=key _ 0 0 ls rfl (by simpa using hm)
     rwa [k2,o1 I]at this
    cases a
   cases a
  .rename_i n e c;obtain⟨xs,q,rfl,_,A,C,d⟩:=DataW.trod_array c h;split at a
   .rename_i l g;split at a
    .rename_i an;have⟨an,aw⟩:=an;cases a;have key:∀ (i:J),i<=n->pb w (replicate i l).flatten (cs.take (i*P.cellsOf e)):=by
      intro i
      induction i with
      | zero=>intro _;exact⟨nA,λj l v h1 _=>by simp at h1⟩
      | succ i D=>
       intro av;have h1:=d i I;rw[gW I]at h1;rw[k5,take_add,HH,flatten_append];exact MV (D I) (by simpa using(y _ _ _ _ _ g h1))
     have:=key n bu
     rwa [o1 I]at this
    cases a
   cases a
  cases a
def afA(c:J)(g:J->ai ay)(n:J)(a7:∀ i,i<n->(g i).length=c):((range n).flatMap g).length=n*c/\∀ i,i<n->(((range n).flatMap g).drop (i*c)).take c=g i:=by
 induction n with
 | zero=>exact⟨nA,λi h=>absurd h (lD _)⟩
 | succ n d=>
  have⟨h1,h2⟩:=d λi av=>a7 i I;have a:=a7 n I;rw[th,td,flatMap_singleton];refine⟨by rw[cG,h1,a,k5],λi av=>?_⟩;by_cases e:i=n
  .subst e;rw[<-h1,drop_left,o1 I]
  have b:(i+1)*c<=n*c:=vb c I;rw[k5]at b;rw[HB I,CH H2];exact h2 i I
def ajN{f:J}{ls:ai pa}{a:cr Addr}{len cap:J}{x:DataW H×ai MemPlace}(aW:P.underlying t=some (.slice e))(G:leaves P f e=some ls)(an:ls.length=P.cellsOf e)(k:0<ls.length)(h:DataW.trod enc P w base (λ_=>true) held fuel t [au a len cap]=some x):∃ xs,ey w ls.length a len cap xs/\∀ i,i<len->pb w ls ((xs.drop (i*ls.length)).take ls.length):=by
 rcases open_slice aW h with⟨d,_⟩|⟨a',l,c,m,n,D,F,d,al,K,hm,z,ak,av⟩
 .simp at d;obtain⟨rfl,rfl,rfl⟩:=d;exact⟨[],ey.nil w _,λi h=>absurd h (lD _)⟩
 simp only[Cs,Value.slice.injEq,and_true]at d;obtain⟨rfl,rfl,rfl⟩:=d;simp only[if_true]at z;subst z;obtain⟨g,a7⟩:∃ g:J->ai ay,∀ i,i<len->w.cells? base (a'.add (i*P.cellsOf e)) (P.cellsOf e)=some (g i)/\DataW.trod enc P w base (λ_=>true) held n e (g i)=some (D i,F i):=by
  refine⟨λi=>if h:i<len then Classical.choose (av i I)else [],λi h=>?_⟩;simp only[h,dite_true];exact Classical.choose_spec (av i I)
 have v:∀ i,i<len->(g i).length=ls.length:=λi h=>by rw[(World.cells?_some (a7 i h).1).2.1,an]
 have⟨gD,E⟩:=afA ls.length g len v;refine⟨(range len).flatMap g,⟨gD,K,hm,λaw=>?_⟩,λi h=>by rw[E i h];exact ab6 f e ls n _ _ G (a7 i h).2⟩;have r:∀ i,i<len->∀ j,j<ls.length->w.cell? (a'.add (i*ls.length+j))=(g i)[j]?:=λi h j y=>by
  have:=(World.cells?_some (a7 i h).1).2.2 j I
  rw[<-an,Go.Deep.add_add]at this;exact this
 obtain⟨b,o,s⟩:=a';have q:=r 0 aw 0 k;rw[gW (by rw[v 0 aw];exact k)]at q;have aA:=Km (by simpa[Addr.add]using q);subst aA;refine⟨b,o,rfl,λj u C=>?_⟩;have y:j<len*ls.length:=by rw[<-gD];exact(ir.1 C).1
 have A:=QC (by rw[o4];exact y);have B:j%ls.length<ls.length:=gb _ k;have p:=r (j / ls.length) A (j%ls.length) B;rw[o4,r5,iB]at p;rw[p,<-E _ A,getElem?_take_of_lt B,zm,o4,r5];exact C
end
structure me where
 bH:U
 bp:U
 i:U
 at':U
 bQ:U
 bL:U
def me.bC(c:me):ai ay:=[aa c.bH,aa c.bp,aa c.i,aa c.at',bf c.bQ,bf c.bL]
structure me.wf(c:me):ae where
 bQ:0<=c.bQ/\c.bQ<256
 bL:0<=c.bL/\c.bL<256
def adb{w:aj}(h:pb w [.int .i64,.int .i64,.int .i64,.int .i64,.int .u8,.int .u8] cs):∃ c:me,cs=c.bC/\c.wf:=by
 have⟨f,h⟩:=h
 match cs,f,h with
 | [v0,v1,v2,l,m,n],_,h=>
  obtain⟨k,rfl,bo⟩:=h 0 _ _ rfl rfl;obtain⟨toq,rfl,aq⟩:=h 1 _ _ rfl rfl;obtain⟨i,rfl,aF⟩:=h 2 _ _ rfl rfl;obtain⟨s,rfl,br⟩:=h 3 _ _ rfl rfl;obtain⟨a,rfl,g⟩:=h 4 _ _ rfl rfl;obtain⟨b,rfl,j⟩:=h 5 _ _ rfl rfl;have d:=wf_u8 g;have e:=wf_u8 j;exact⟨⟨k,toq,i,s,a,b⟩,rfl,⟨d.1,by show a<256;omega⟩,⟨e.1,by show b<256;omega⟩⟩
def yD(L:ai me):ai ay:=L.flatMap me.bC
def ade(L:ai me)(i:J)(h:i<L.length)(j:J)(b:j<6):(yD L)[i*6+j]?=L[i].bC[j]?:=by
 induction L generalizing i with
 | nil=>exact absurd h (lD _)
 | cons c L a=>
  simp only[yD,jY]at a⊢;cases i with
  | zero=>rw[jF (by simp[me.bC];omega)];simp
  | succ i=>
   rw[l6 (by simp[me.bC,k5];omega),show(i+1)*6+j-c.bC.length=i*6+j by simp[me.bC,k5];omega];exact DS
theorem adf{w:aj}:∀ (n:J) (xs:ai ay),xs.length=n*6->(∀ i,i<n->pb w [.int .i64,.int .i64,.int .i64,.int .i64,.int .u8,.int .u8] ((xs.drop (i*6)).take 6))->∃ L:ai me,L.length=n/\xs=yD L/\∀ c∈L,c.wf
 | 0,xs,h,_=>⟨[],rfl,xc j0,λ_ h=>o6⟩
 | n+1,xs,h,a=>by
  obtain⟨c,an,e⟩:=adb (a 0 I);obtain⟨L,h1,h2,b⟩:=adf n (xs.drop 6) (by simp[h,k5]) (λi av=>by
   have:=a (i+1) I
   rwa [k5,r4,<-n5]at this)
  refine⟨c :: L,by simp[h1],?_,λd hd=>?_⟩
  .rw[<-n_ 6 xs,h2];simp only[zu,k2]at an;rw[an];rfl
  cases hd with
  | head=>exact e
  | tail _ hd=>exact b d hd
def ajO{w:aj}(h:pb w [.int .u32,.int .i64,.int .i64,.int .i64,.int .u32,.int .i64,.int .i64,.int .i64] cs):∃ aN d n c e pat b3 cd:U,(0<=aN/\aN<=4294967295)/\cs.toArray=(fi aN d n c e pat b3 cd):=by
 have⟨b,h⟩:=h
 match cs,b,h with
 | [v0,v1,v2,g,i,j,k,l],_,h=>
  obtain⟨cx,rfl,a⟩:=h 0 _ _ rfl rfl;obtain⟨cm,rfl,_⟩:=h 1 _ _ rfl rfl;obtain⟨cB,rfl,_⟩:=h 2 _ _ rfl rfl;obtain⟨eS,rfl,_⟩:=h 3 _ _ rfl rfl;obtain⟨hZ,rfl,_⟩:=h 4 _ _ rfl rfl;obtain⟨iX,rfl,_⟩:=h 5 _ _ rfl rfl;obtain⟨ib,rfl,_⟩:=h 6 _ _ rfl rfl;obtain⟨f,rfl,_⟩:=h 7 _ _ rfl rfl;have a:=a;simp only[Lit.wf]at a;exact⟨cx,cm,cB,eS,hZ,iX,ib,f,by simpa[IntKind.min,IntKind.max,IntKind.signed,IntKind.bits]using a,rfl⟩
variable{w w':aj}{B:k8}{M:fj}{mv:U}{R:ai aC}{k:J}
section
variable(h:cy w B M mv R)(hk:k<2)
include h hk
theorem X0:aB 16 #[bM ((B.p k).p)] w λe w'=>e=.returned (bM ((B.p k).lb))/\w=w':=by
 have⟨V,T,d,h⟩:=h.view hk;exact Mj h
theorem XZ:aB 17 #[bM ((B.p k).lb)] w λe w'=>e=aa (M.p k).ld.aO/\w=w':=by
 have⟨V,T,d,h⟩:=h.view hk;exact(yx (pt h)).mono λ_ _ x=>x
end
def ahB:Go.Shelf.Ren:=⟨λn=>n,fun|4=>4|22=>32|23=>47|n=>n,fun|n=>n⟩
def ahA:SlLaysE0.n41 prog ahB:={
 mixed:=bc
 f41:=⟨f41.name,bs,func41.trans (c6 some bc)⟩
 t4:=underlying4
 a4:=isAgg4
 z4:=sizeOf4
 v4:=zeroValue4
 t22:=underlying32
 a22:=isAgg32
 z22:=sizeOf32
 v22:=zeroValue32}
def X1(h:cy w B M mv R)(hk:k<2)(j:(M.st k).length<=30000):aB 11 #[B.b,aa k] w λe w'=>∃ cz,e=.returned cz/\w'.ownsRow w 47 12 cz (M.st k).length (eY (M.st k))/\Below w w w':=by
 obtain⟨V,T,d,ax⟩:=h.view hk;have bB:=bb (ax.at' 10 rfl) (A8 (B:=B) (V:=V) (T:=T) (mv:=mv) hk);obtain⟨i,z,av,g,h1,h2,f⟩:=Fl;have aU:=ad (F7 ahA av g h1 h2 f bs sizeOf47 (ax.at' 13 rfl) I λu a=>by
  obtain⟨c,_,a⟩:=xg.1 a;exact fJ.1 (sD c) u a)
 refine cg;refine bJ (tT B.b hk w) ?_;exact Sx
def XR(h:gi K d n se (pad d M))(e:K<=400)(hd:d<=8)(hk:k<2):∃ bP:J,(M.p k).ld.aO=(bP:U)-1/\((M.p k).ld.aO+1).toNat=bP/\bP<=d+min (M.fo 0).length (M.fo 1).length:=by
 have⟨F,us,A,av⟩:=h.ps k hk;have h1:=av.c4.aO;have h2:=av.c4.db;have b:dp (M.p k)=((pad d M).fo k).length:=av.rv;have a:=av.uF;have c:∀ j,((pad d M).fo j).length=d+(M.fo j).length:=λj=>by
  show(replicate d 0++M.fo j).length=_;simp
 rw[c]at b a;change -1<=(M.p k).ld.aO/\(M.p k).ld.aO<(M.p k).x.now/\(M.p k).ld.aO<b1 (M.p k)at h1;change (M.p k).x.now<=dp (M.p k)/\_ at h2;refine⟨((M.p k).ld.aO+1).toNat,b4,rfl,?_⟩;refine oc;rcases this with rfl|rfl
 .change b1 (M.p 0)<=d+(M.fo 1).length at a;omega
 change b1 (M.p 1)<=d+(M.fo 0).length at a;omega
def KA(h:gi K d n se (pad d M))(hd:d<=8)(hk:k<2):(M.fo k).length<=K+8:=by
 have⟨F,us,A,av⟩:=h.ps k hk;have h2:(M.p k).x.now<=dp (M.p k)/\dp (M.p k)<=(M.p k).x.now+(M.p k).x.e_:=av.c4.db;have a:dp (M.p k)=(replicate d 0++M.fo k).length:=av.rv;have b:(M.p k).x.e_=d:=av.dl;have c:(M.p k).x.now<=K:=av.wG;rw[cG]at a;omega
def sq(bD:J)(kX:a6 ay)(B:k8)(d n:J)(se:U)(k:J)(W:aj):ae:=
 ∃ M mv,cy W B M mv [aC.bh bD (kX,26)]/\gi k d n se (pad d M)/\ix se (pad d M)
def PG{x:U}(h:0<=x/\x<256):∃ (b:J) (c:aR),x=b/\b<256/\x=c.toNat:=by
 obtain⟨b,rfl⟩:=mJ h.1;exact⟨b,UInt8.ofNat b,rfl,I,by rw[QG,kE I]⟩
def acI(h:sq bD kX B d n se k w)(hk:k<=300)(m:me)(hm:m.wf):aB 10 #[B.b,aG (cQ m.bH m.bp m.i m.at' m.bQ m.bL)] w λe w'=>Al e/\sq bD kX B d n se (k+1) w':=by
 have⟨M,mv,al,av,ak⟩:=h;have⟨b,_,f,j,_⟩:=PG hm.bQ;have⟨_,c,_,_,g⟩:=PG hm.bL;rw[f,g];refine(aaz al av ak I m.bH m.bp m.i m.at' b c j).mono λe w' ⟨hv,dz,ca,h1,h2,l,a⟩=>?_;exact⟨a.out.1,hv,_,a.out.2,h1,h2⟩
theorem sq.below(h:sq bD kX B d n se k w){bt:J}{bo:aj}(a:B.o=⟨bt,bo⟩):Below bt bo w:=by
 have⟨M,mv,al,_⟩:=h
 have:=al.below.2
 rwa [a]at this
def ab0(f:mc w)(aN d n a k pat b3 cd:U)(eC:ay)(a7:¬ yl d n pat b3 cd):aB 4 #[aG (fi aN d n a k pat b3 cd),eC] w λe w'=>e=.returned (.bool true)/\Below w w w':=by
 refine VZ;have g:=aP w (ab (fi aN d n a k pat b3 cd) 26);have c:=ad (PB (w:=w.alloc (ab (fi aN d n a k pat b3 cd) 26)) (f.keep ((bd w).alloc _) id) aM);refine sh;refine xG;have b:=cp.trans (al.mono cp.size);refine DB;have hJ:=aX t;refine aK;refine aS ((aic aN d n pat b3 cd a k a7) aF) λaq h=>?_;refine aK;go_ret;exact⟨rfl,(b.trans (h.mono b.size))⟩
def abZ(s:mc w)(akb:0<w.heap.size)(aN:U)(aj0:0<=aN/\aN<=4294967295)(d n:J)(a f pat b3 cd:U)(hd:d<=8)(aw:1<=n/\n<=16)(ao:1<=pat/\pat<=10000)(he:1<=b3/\b3<=256)(a_:1<=cd/\cd<=16)(eC:cr Addr)(lc:J)(L:ai me)(l':ey w 6 eC L.length lc (yD L))(akd:∀ c∈L,c.wf):aB 4 #[aG (fi aN d n a f pat b3 cd),au eC L.length lc] w λe w'=>e=.returned (.bool true)/\Below w w w':=by
 have akF:L.length<=9223372036854775807:=cu l'.2.1 l'.2.2.1;have akf:=aP w (ab (fi aN d n a f pat b3 cd) 26);have aj5:=ad (PB (w:=w.alloc (ab (fi aN d n a f pat b3 cd) 26)) (s.keep ((bd w).alloc _) id) aM);have ake:=OT s akb;have V:=ad ((ake.cons (r:=aC.bh w (fi aN d n a f pat b3 cd,26)) ((bd w).alloc (ab (fi aN d n a f pat b3 cd) 26)) (λ_ _ _ _ e=>e) (aP w _) (λj ajT=>hO (k0 ajT))).perm (.swap _ _ _));have vl:=ad (Nq aN d n pat b3 aj0 hd aw ao he);have m:=bN hd (bx aw (bx ao (bx he a_)));have b5:=ad l';have aj8:=ad akd;have aj_:=ad aj0
 go_in
 go_wp2_with fail;generalize World.alloc w _=bo at *;refine aS aj5.o λaq aki=>?_;have aj3:=ag.bU (S:=aH) aki a1;have akg:=aj3.heap akf id;have aj9:=ad (aib (V.o.keep aj3) aN d n pat b3 cd a f m.o.1 m.o.2.1 m.o.2.2.1 m.o.2.2.2.1 m.o.2.2.2.2);have hJ:=aX akg;go_wp2_with fail;refine aj9.o.mono ?_;rintro e aF ⟨B,rfl,akj,akc⟩;have aj7:Hid (sq w (fi aN d n a f pat b3 cd) B d n aN 0 aF):=ad ⟨_,_,akj,vl.o.1,vl.o.2⟩;have aj6:=ad akc;go_wp2_with fail;go_loopg [7,8,9] 300 (λg i _ _ wr=>∃ k:J,g=300-k/\k<=300/\i=aa k/\sq w (fi aN d n a f pat b3 cd) B d n aN k wr)
 case atStart=>exact⟨0,rfl,I,rfl,aj7.o⟩
 obtain⟨k,a7,akm,rfl,TS⟩:=hrel;have ajR:=TS.below aj6.o;have zp:=ad TS;by_cases ajU:k<L.length/\k<300
 .obtain⟨b,o,rfl,an⟩:=(b5.o.below ajR (λaw x ak=>b5.o.lt I aw ak)).at' I;obtain⟨ajV,akE⟩:=ajU;have N:=ade L k ajV;have aky:wr.cell? (ah b (o+k*6))=some (aa L[k].bH):=an _ _ (N 0 I);have akz:wr.cell? (ah b (o+k*6+1))=some (aa L[k].bp):=by rw[jZ];exact an _ _ (N 1 I)
  have akA:wr.cell? (ah b (o+k*6+2))=some (aa L[k].i):=by rw[jZ];exact an _ _ (N 2 I)
  have akB:wr.cell? (ah b (o+k*6+3))=some (aa L[k].at'):=by rw[jZ];exact an _ _ (N 3 I)
  have akC:wr.cell? (ah b (o+k*6+4))=some (bf L[k].bQ):=by rw[jZ];exact an _ _ (N 4 I)
  have akD:wr.cell? (ah b (o+k*6+5))=some (bf L[k].bL):=by rw[jZ];exact an _ _ (N 5 I)
  have Z:=ad (acI zp.o akm L[k] (aj8.o L[k] (oY ajV)));refine si;rintro e akN ⟨⟨akt,akH,akv,aks,akG,fY,m9,akx,rfl⟩,lb⟩;have P:=ad lb;go_upto_region 10 with fail
  go_cut [48]from 19 to 70 (λx bE=>(∃ b,x=.bool b)/\sq w (fi aN d n a f pat b3 cd) B d n aN (k+1) bE)
  case first=>
   rcases Hc ((k:U)%8 != 7)with bS|bS
   .rcases Hc ((k:U) != (L.length:U)-1)with aj'|aj'
    .rcases Hc ((k:U) != 299)with aka|aka
     all_goals
      go_wp2_with fail;go_meet;exact⟨⟨_,rfl⟩,P.o⟩
    exact Wa
   exact Wa
  obtain⟨⟨ako,rfl⟩,lb⟩:=hcut;have P:=ad lb;cases ako
  .go_upto_region 11 with fail
   obtain⟨M,mv,l,av,ak⟩:=P.o;have akh:=l.keep (bd wc).drew;obtain⟨G,E⟩:=gg (F:=λW=>cy W B M mv [aC.bh w (fi aN d n a f pat b3 cd,26)]);have X:=ad (λ(W W':aj) (T:G W) (hk:ag aH W W')=>(E W').2 (((E W).1 T).keep hk));have akn:=λx:bA G=>aX (((E _).1 x.held).res (r:=aC.bh w (fi aN d n a f pat b3 cd,26)) nA);have Y:=(E wc.drew).2 akh;have akk:=KA av m.o.1 (k:=0) I;have akl:=KA av m.o.1 (k:=1) I;have g':=bN (λW (T:G W)=>KG ((E W).1 T) (k:=0) I I) (λW (T:G W)=>KG ((E W).1 T) (k:=1) I I);have ys:=ad E;have v:=bN av ak;have v':=bN akk akl;refine cS 8 ?_;refine cJ G (.range 8) 0 8 ?_;refine dN Y [0,1,2,4] 4 ?_;generalize wc.drew=wd at *;refine eK 3 λK s=>?_;go_simp;refine(g'.o.1 _ Y).mono ?_;rintro e akM ⟨akJ,rfl,ajW,al⟩;refine sj;have a':=X.o _ _ Y R;refine s _ _ a' ?_;refine eK 5 λK s=>?_;go_simp;refine(g'.o.2 _ a').mono ?_;rintro e akL ⟨akK,rfl,ajX,T'⟩;have s':=ag.bU (S:=aH) T' a1;have sd:=X.o _ _ a' s';refine s _ _ sd ?_;clear s K;obtain⟨akq,bw,rfl,aj1,_⟩:=dA (b7 ajW s' λ_ _=>id);obtain⟨akr,bP,rfl,aj2,_⟩:=dA ajX;have vs:=ad (ae4 (d:=d) aj_.o n a aj1 aj2 (λj x ak=>v.o.1.oF j x (mem_append_right _ ak)) m.o.1 (by have:=v'.o;omega));clear aj1 aj2 ajW ajX al T' R s' Y a' g' akn;refine eK 6 λK s=>?_;go_simp;refine vs.o.mono ?_;rintro e akp ⟨akI,ps,rfl,C,r',ajY,V'⟩;refine tE;have aj4:=ag.bU (S:=aH) V' a1;have fr:=X.o _ _ sd aj4;refine s _ _ fr ?_;clear s K;have h:=ad ((ys.o _).1 fr);have zd:=bN r' ajY;obtain⟨aku,akw,rfl,_,_⟩:=dA r';refine iV 7 fr ?_;clear r' ajY V' aj4 sd fr ys X vs;refine aK;go_loopg [9] 2 (λg i wr=>∃ j:J,g=2-j/\j<=2/\i=aa j/\cy wr B M mv [aC.bh w (fi aN d n a f pat b3 cd,26)]/\ag aH akp wr)
   case atStart=>exact⟨0,rfl,I,rfl,h.o,bd _⟩
   obtain⟨j,a7,ajT,rfl,l,A⟩:=hrel;clear h;by_cases m':j<2
   .have V:=ad (X1 l m' (v.o.2.gR v.o.1 I m'));have h:=bN l A;have z:=ad m';clear l A;refine aK;refine UK;have l:=h.o.1.keep t;have A:=h.o.2.trans t;have⟨q,Q',Tq,ajZ⟩:=XR v.o.1 I m.o.1 z.o;have u:=ad (afi (se:=aN) (us:=hY d M.fo) gf (b7 zd.o.1 A λ_ _=>id) (λi av=>by
     obtain⟨x,h1,h2⟩:=zd.o.2 i av;exact⟨x,h1,h2.keep A λ_ _=>id⟩) (by rw[D.o];exact ajZ) (by have:=v'.o;have:=D.o;have:=m.o.1;omega) (v.o.2.bq j z.o) ((v.o.2.st j z.o).trans (by rw[show((pad d M).p j).ld.aO=(M.p j).ld.aO from rfl,Tq];rfl)) (v.o.2.gR v.o.1 I z.o))
    have aU:=ad (XZ l z.o);rw[Q']at aU;have h:=bN l A;clear gf ajS t V ajZ Q' Tq l A;refine aK;refine bJ (E2 h.o.1 z.o) ?_;refine aK;refine bJ (X0 h.o.1 z.o) ?_;refine aK;refine bJ aU.o ?_;refine tx;have y:=ag.bU (S:=aH) y a1;have h:=bN (h.o.1.keep y) (h.o.2.trans y);clear aU u y;refine aK;go_roundg (2-(j+1))
    case rel=>exact⟨j+1,rfl,I,cT,h.o⟩
    have:=z.o;omega
   have P:Hid (sq w (fi aN d n a f pat b3 cd) B d n aN (k+1) wr):=ad ⟨M,mv,l,v.o⟩;clear l A;exact Tz
  exact Tz
 rcases (show(k<L.length/\k=300)\/¬ k<L.length by omega)with⟨an,rfl⟩|an
 all_goals
  clear ajU zp;go_wp2_with fail;go_ret;exact⟨rfl,ajR⟩
def ajI(f:mc w)(g:0<w.heap.size)(aN d n a b pat b3 cd:U)(k:0<=aN/\aN<=4294967295)(eC:cr Addr)(lc:J)(L:ai me)(h:ey w 6 eC L.length lc (yD L))(i:∀ c∈L,c.wf):aB 4 #[aG (fi aN d n a b pat b3 cd),au eC L.length lc] w λe w'=>e=.returned (.bool true)/\Below w w w':=by
 by_cases a7:yl d n pat b3 cd
 .obtain⟨h1,ao,j,a_⟩:=a7;have h2:=r8 h1;obtain⟨d,rfl⟩:=mJ h2.1;obtain⟨n,rfl⟩:=mJ (show 0<=n by omega);exact abZ f g aN k d n a b pat b3 cd I I ao j a_ eC lc L h i
 exact ab0 f aN d n a b pat b3 cd _ a7
end Go.Proofs.YtalagblioepadaaGreatDoor
