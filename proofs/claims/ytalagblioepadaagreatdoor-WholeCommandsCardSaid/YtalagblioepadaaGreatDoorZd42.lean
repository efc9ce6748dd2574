/- The proof, part 42. -/
import Derived.Test.YtalagblioepadaaGreatDoorZd40
namespace Go.Proofs.YtalagblioepadaaGreatDoor
set_option linter.all false
open Proofs.Tryz List Go.RowKit
set_option maxRecDepth 100000
def MC{p:al}(h:p:=by
 rw[<-m,oV,oV,getElem?_append,aE l]
 ):p:=h
def MJ{p:al}(h:p:=by
 rcases Int.lt_or_le s.ld.aP g with c|c
 .exact c
 exact absurd (h.sW g (.inr c)) D
 ):p:=h
def MM{p:al}(h:p:=by
 exact⟨⟨h.x,h.hd,h.aP,h.bc,h.b9,h.gn⟩,by show p.2.length<=_;omega⟩
 ):p:=h
def MU{p:al}(h:p:=by
 rw[h 0 U n U,h 1 U n U,CS aJ n λk hk j a=>h k hk j U]
 ):p:=h
def MV{p:al}(h:p:=by
 have⟨d,hd,h⟩:=a c an;exact⟨d,eJ.2 (.inl hd),h⟩
 ):p:=h
def hx(us:J->J->aa)(aJ:aa):J->J->aa
 | 0=>lz aJ 0
 | j+1=>iL (us 0 j) (us 1 j) (hx us aJ j)
def fJ(us:J->J->aa)(aJ:aa)(j:J):ah aC:=ks (us 0 j) (us 1 j) (hx us aJ j)
theorem CS{us cB:J->J->aa}(aJ:aa):∀ n,(∀ k,k<2->∀ j,j<n->us k j=cB k j)->hx us aJ n=hx cB aJ n
 | 0,_=>rfl
 | n+1,h=>by
  unfold hx;exact MU
def Bn{us cB:J->J->aa}(aJ:aa)(n:J)(h:∀ k,k<2->∀ j,j<=n->us k j=cB k j):fJ us aJ n=fJ cB aJ n:=by
 unfold fJ;exact MU
theorem sF(us:J->J->aa){aJ:aa}(aw:0<=aJ/\aJ<=4294967295):∀ j:J,∃ r,Mid 2 j r (hx us aJ j)/\0<=r/\r<=j
 | 0=>⟨0,Ub aJ aw,iO,iO⟩
 | j+1=>by
  obtain⟨r,h1,h2,b⟩:=sF us aw j;obtain⟨r',a,c,d⟩:=mid_step h1 (us 0 j) (us 1 j);exact⟨r',a,U,U⟩
def WR(us:J->J->aa){aJ:aa}(aw:0<=aJ/\aJ<=4294967295)(j:J):hx us aJ j 0=j:=by
 have⟨r,h,_⟩:=sF us aw j;exact h.f0
def oi(us:J->J->aa){aJ:aa}(aw:0<=aJ/\aJ<=4294967295)(j:J):eL j (fJ us aJ j):=by
 have h:=Vc (us 0 j) (us 1 j) (hx us aJ j);rw[WR us aw]at h;exact h
structure b8(s:bM)(F:J)(ba us:J->J->aa):al where
 hN:CW s.x F ba us (hx us s.x.aJ)
 aJ:0<=s.x.aJ/\s.x.aJ<=4294967295
 aN:s.x.aN<2
 my:s.x.eO<=8/\1<=s.x.dE/\s.x.dE<=16
 eD:∀ k j,0<=ba k j/\ba k j<=63
 Lr:∀ k j,0<=us k j/\us k j<=63
 ad:s.x.now<=dc s/\dc s<=s.x.now+s.x.eO
 pq:s.x.now<=bS s+s.x.dE
 jf:F<=s.x.now/\s.x.now<=F+s.x.dE+2/\F<=bS s/\bS s<=F+64
 vA:F=0\/(F<bS s/\F<s.x.now)
 Dv:∀ j,j<s.x.now->us s.x.aN j=ba s.x.aN j
 sW:∀ j:J,j<F\/(j:aa)<=s.ld.aP->us (1-s.x.aN) j=ba (1-s.x.aN) j
 aP:-1<=s.ld.aP/\s.ld.aP<s.x.now/\s.ld.aP<bS s
 hd:s.ld.hd=s.cc
 most:1<=s.ld.most/\s.ld.most<=256
 dz:ev s.ld.bc
 ll:(s.ld.bc.length:aa)<=s.ld.most
 b9:∀ j:aa,s.ld.b9 j=if s.ld.aP<j/\j<s.x.now then fJ us s.x.aJ j.toNat else []
 lt:∀ e∈s.ld.bc,e∈s.ld.b9 e.k.fr
def yz{ba:J->aa}(h:∀ j,0<=ba j/\ba j<=63)(n j:J):0<=j1 ba n j/\j1 ba n j<=63:=by
 unfold j1 qe;split
 .exact h j
 split
 .omega
 exact h _
def jK(x:ct)(ba us:J->J->aa)(g e:J):J->J->aa:=λi j=>if g<=j/\j<e then j1 (ba i) (x.f i).next j else us i j
def CM(x:ct)(n:J):(jr x n).aJ=x.aJ/\(jr x n).eO=x.eO/\(jr x n).dE=x.dE/\(jr x n).aN=x.aN/\(jr x n).now=x.now/\∀ i,((jr x n).f i).next=(x.f i).next:=by
 refine⟨rfl,rfl,rfl,rfl,rfl,λi=>?_⟩;show(if i<2 then pB (x.f i) n else x.f i).next=_;split<;>rfl
theorem sD(x:ct)(g:J):∀ k,(replay x g k).aJ=x.aJ/\(replay x g k).eO=x.eO/\(replay x g k).dE=x.dE/\(replay x g k).aN=x.aN/\(replay x g k).now=x.now/\∀ i,((replay x g k).f i).next=(x.f i).next
 | 0=>⟨rfl,rfl,rfl,rfl,rfl,λ_=>rfl⟩
 | k+1=>by
  obtain⟨a,b,c,d,e,h⟩:=sD x g k;obtain⟨bR,j,l,m,n,o⟩:=CM (replay x g k) (g+k);exact⟨bR.trans a,j.trans b,l.trans c,m.trans d,n.trans e,λi=>(o i).trans (h i)⟩
theorem x_{x:ct}{F:J}{ba us:J->J->aa}(h:CW x F ba us (hx us x.aJ)){g:J}(aZ:F<=g)(d:x.now<F+64):∀ k,g+k<=x.now->CW (replay x g k) F ba (jK x ba us g (g+k)) (λj=>if j<=g+k then hx (jK x ba us g x.now) x.aJ j else hx us x.aJ j)
 | 0,_=>by
  refine h.congr (λ_ _ _ _=>rfl) (λk _ j _ _=>?_) (λj _ _=>?_)
  .unfold jK;rw[aB U]
  split
  .refine CS _ _ λk _ i ax=>?_;unfold jK;rw[aB U]
  rfl
 | k+1,hk=>by
  obtain⟨_,_,_,_,e,a⟩:=sD x g k;refine((x_ h aZ d k U).V8 (n:=g+k) U U U).congr (λ_ _ _ _=>rfl) (λi _ j _ _=>?_) (λj _ _=>?_)
  .unfold bZ jK;rw[a];split
   .rw[aE U];subst j;rfl
   split
   .rw[aE U]
   rw[aB U]
  unfold bZ;by_cases b:j=g+k+1
  .subst b;rw[aE rfl,aE bx,a,a,aE U];show _=iL (jK x ba us g x.now 0 (g+k)) (jK x ba us g x.now 1 (g+k)) _;unfold jK;rw[aE U,aE U]
  rw[aB b];by_cases c:j<=g+k
  .exact(aE c).trans (aE U).symm
  exact(aB c).trans (aB U).symm
def y0{x:ct}{F:J}{ba us:J->J->aa}(h:CW x F ba us (hx us x.aJ)){g:J}(aZ:F<=g)(b:x.now<F+64)(k:J)(hk:g+k<x.now):hR (replay x g k) (g+k)=fJ (jK x ba us g x.now) x.aJ (g+k):=by
 have h1:=x_ h aZ b k U;have⟨_,_,_,_,c,a⟩:=sD x g k;unfold hR fJ;rw[h1.hg U U,h1.dJ (k:=0) U U,h1.dJ (k:=1) U U,a,a,aE bx];unfold jK;rw[aE U,aE U]
def PO{x:ct}{F:J}{ba us:J->J->aa}(h:CW x F ba us (hx us x.aJ))(aw:0<=x.aJ/\x.aJ<=4294967295)(b:∀ k j,0<=ba k j/\ba k j<=63){g:J}(aZ:F<=g)(c:x.now<F+64)(av:x.now<=100000)(k:J)(hk:g+k<x.now):Can (replay x g k) (g+k):=by
 have h1:=x_ h aZ c k U;have⟨_,_,_,_,d,f⟩:=sD x g k;have e:=h1.hg (n:=g+k) U U;refine⟨by rw[e];exact h1.st U U,?_,U,λj a=>?_,λj a=>by rw[h1.first a];omega,?_⟩
 .rw[e,aE bx];exact sF _ aw _
 .rw[h1.dJ a U];exact(yz (b j) _ _).2
 rw[h1.e4];unfold fk;omega
def zu{most now:aa}{L:ah aC}(h:ev L)(xs:ah aC):ev (e6 most now L xs).1/\∀ x∈(e6 most now L xs).1,x∈xs\/(x∈L/\∀ e∈xs,e.k≠x.k):=by
 rw[<-mn xs]
 induction xs.reverse with
 | nil=>exact⟨h,λx a=>.inr ⟨a,λe j=>by simp at j⟩⟩
 | cons e l g=>
  rw[mm,rF];refine⟨Yq g.1 e,λx a=>?_⟩;have n:x=e\/(x∈(e6 most now L l.reverse).1/\x.k≠e.k):=by
   have bh:=g.1;revert a;generalize (e6 most now L l.reverse).1=M at bh;intro a;unfold lA at a;split at a
   .rename_i o f;split at a
    .rename_i m;by_cases hk:x.k=e.k
     .left;have h1:=yh bh a;rw[hk,f]at h1;cases h1;exact m
     exact .inr ⟨a,hk⟩
    exact sv.1 a
   rename_i f;split at a
   .exact .inr ⟨a,Bu f x a⟩
   exact sv.1 a
  rcases n with rfl|⟨h1,h2⟩
  .exact .inl aM
  rcases g.2 x h1 with b|⟨b,i⟩
  .exact .inl (by simp[mem_reverse.1 b])
  refine .inr ⟨b,λd hd=>?_⟩;rcases eJ.1 hd with hd|hd
  .exact i d hd
  simp at hd;subst hd;exact λc=>h2 c.symm
def K6{most now:aa}{L:ah aC}(h:ev L)(a:(L.length:aa)<=most)(xs:ah aC):((e6 most now L xs).1.length:aa)<=most:=by
 rw[<-mn xs]
 induction xs.reverse with
 | nil=>exact a
 | cons e l b=>
  rw[mm,rF];exact Yr (zu h l.reverse).1 b e
structure vC(s:cO):al where
 dz:ev s.bc
 ll:(s.bc.length:aa)<=s.most
 lt:∀ e∈s.bc,e∈s.b9 e.k.fr
def vC.tell{s:cO}(h:vC s)(fr:aa)(xs:ah aC)(p:∀ e∈xs,e.k.fr=fr):vC (pC s fr xs):=by
 have bh:ev (e_ s.bc (gp xs (gw s.bc fr))):=p6 h.dz _;have o:((e_ s.bc (gp xs (gw s.bc fr))).length:aa)<=s.most:=by
  have:=(q7 s.bc (gp xs (gw s.bc fr))).length_le
  have:=h.ll
  omega
 obtain⟨h1,h2⟩:=zu (most:=s.most) (now:=0) bh xs;refine⟨h1,K6 bh o xs,λe m=>?_⟩;show e∈iC s.b9 fr xs e.k.fr;unfold iC;rcases h2 e m with a|⟨a,g⟩
 .rw[aE (p e a)];exact a
 have c:=(q7 _ _).subset a;rw[aB]
 .exact h.lt e c
 intro n;have i:e∈gw s.bc fr:=by unfold gw;exact fx.2 ⟨c,by simpa using n⟩
 have j:stays xs e=false:=by
  rw[<-DU];intro aw;have⟨d,hd,b⟩:=zZ.1 aw;unfold uO at b;simp only[ep,gh]at b;exact g d hd b.1
 have l:e∈gp xs (gw s.bc fr):=by unfold gp;exact fx.2 ⟨i,by simp[j]⟩
 have f:=(fx.1 a).2;simp only[lD,pO]at f;exact f ⟨e,l,rfl⟩
def Bx{α β:Type}(f:β->α->β)(b:β)(l:List α)(a:α):(l++[a]).foldl f b=f (l.foldl f b) a:=by rw[mX];rfl
structure pZ(s:bM)(us cB:J->J->aa)(g e:J)(p:cq):al where
 x:p.1.x=s.x
 rest:p.1={s with ld:=p.1.ld}
 aP:p.1.ld.aP=s.ld.aP
 hd:p.1.ld.hd=s.ld.hd
 most:p.1.ld.most=s.ld.most
 uf:vC p.1.ld
 b9:∀ j:aa,p.1.ld.b9 j=if s.ld.aP<j/\j<s.x.now then(if (g:aa)<=j/\j<e then fJ cB s.x.aJ j.toNat else fJ us s.x.aJ j.toNat)else []
def pZ.step{s:bM}{us cB:J->J->aa}{g e:J}{p:cq}(aw:0<=s.x.aJ/\s.x.aJ<=4294967295)(h:pZ s us cB g e p)(c:g<=e)(b:e<s.x.now)(an:s.ld.aP<e):pZ s us cB g (e+1) (jt s.x.now p (e,fJ cB s.x.aJ e)):=by
 refine⟨h.x,?_,h.aP,h.hd,h.most,h.uf.tell _ _ λd hd=>((oi cB aw e).2.2 d hd).2,λj=>?_⟩
 .exact c5 (λq:bM=>{q with ld:=pC p.1.ld e (fJ cB s.x.aJ e)}) h.rest
 show iC p.1.ld.b9 e _ j=_;unfold iC;by_cases a:j=e
 .subst a;rw[aE rfl,aE ⟨an,U⟩,aE ⟨U,U⟩];rfl
 rw[aB a,h.b9];split
 .by_cases h2:(g:aa)<=j/\j<e
  .rw[aE h2,aE U]
  rw[aB h2,aB U]
 rfl
theorem Dj{s:bM}{us cB:J->J->aa}(aw:0<=s.x.aJ/\s.x.aJ<=4294967295){g:J}{P:J->J×ah aC}(b:∀ k,g+k<s.x.now->P k=(g+k,fJ cB s.x.aJ (g+k)))(an:s.ld.aP<g)(a:pZ s us cB g g (s,[])):∀ k,g+k<=s.x.now->pZ s us cB g (g+k) (((range k).map P).foldl (jt s.x.now) (s,[]))
 | 0,_=>a
 | k+1,hk=>by
  rw[qK,jx,xi,Bx,b k U];show pZ s us cB g (g+k+1) _;exact(Dj aw b an a k U).step aw U U U
def rp{s:bM}{F:J}{ba us:J->J->aa}(h:b8 s F ba us):∃ cB,b8 (cL s).1 F ba cB/\(∀ j,j<s.x.now->j<bS s->cB (1-s.x.aN) j=ba (1-s.x.aN) j)/\(∀ i j:J,(j:aa)<=s.ld.aP\/j<F->cB i j=us i j)/\
  (cL s).1.x.now=s.x.now/\(cL s).1.x.aN=s.x.aN/\(cL s).1.x.eO=s.x.eO/\(cL s).1.x.dE=s.x.dE/\(cL s).1.x.aJ=s.x.aJ/\(∀ i,((cL s).1.x.f i).next=(s.x.f i).next)/\
  (cL s).1.aF=s.aF/\(cL s).1.ld.aP=s.ld.aP/\(cL s).1.cc=s.cc/\(cL s).1.cz=s.cz/\(cL s).1.own=s.own/\(cL s).1.wt=s.wt/\(cL s).1.ld.most=s.ld.most:=by
 have B:=h.aN;cases hw:fM s.x with
 | none=>
  have e:cL s=(s,[]):=by unfold cL;rw[hw]
  rw[e];refine⟨us,h,λj a w=>?_,λ_ _ _=>rfl,rfl,rfl,rfl,rfl,rfl,λ_=>rfl,rfl,rfl,rfl,rfl,rfl,rfl,rfl⟩;by_cases Q:j<F
  .exact h.sW j (.inl Q)
  refine Mb λhne=>?_;have h1:ju (fv s.x).K (fv s.x).cX≠none:=by
   unfold fv;rw[h.hN.K U,h.hN.cX U];intro av;refine hne (LZ _ _ _ (s.x.now-F) F (by have:=h.jf;omega) av j _ U a ?_).symm;rw[qu,aE ⟨U,w⟩]
  exact h1 hw
 | some g=>
  have⟨g1,Y,Z,N,D⟩:=h.hN.zM B h.jf.1 hw;have T:s.ld.aP<g:=by
   exact MJ
  have R:=h.jf;have S:=h.my;have⟨cB,d⟩:=cT (jK s.x ba us g s.x.now);have⟨u,G,H,L,v,M⟩:=sD s.x g (s.x.now-g);have W:∀ k,g+k<s.x.now->(λj=>(g+j,hR (replay s.x g j) (g+j))) k=(g+k,fJ cB s.x.aJ (g+k)):=λk hk=>by
   rw[d];show(g+k,_)=_;rw[y0 h.hN g1 U k hk]
  obtain⟨s1,b⟩:∃ s1:bM,s1={s with x:=replay s.x g (s.x.now-g)}:=⟨_,rfl⟩;have cv:s1.x.now=s.x.now:=by rw[b];exact v
  have d1:s1.x.aJ=s.x.aJ:=by rw[b];exact u
  have l:s1.ld=s.ld:=by rw[b]
  have O:pZ s1 us cB g g (s1,[]):=⟨rfl,rfl,rfl,rfl,rfl,by rw[l];exact⟨h.dz,h.ll,h.lt⟩,λj=>by rw[l,cv,d1,h.b9];split<;>first|rw[aB U]|rfl⟩;have aK:=Dj (s:=s1) (by rw[d1];exact h.aJ) (P:=λj=>(g+j,hR (replay s.x g j) (g+j))) (λk hk=>by rw[d1];exact W k U) (by rw[l];exact T) O (s.x.now-g) U;have e:cL s=((range (s.x.now-g)).map λj=>(g+j,hR (replay s.x g j) (g+j))).foldl (jt s1.x.now) (s1,[]):=by
   unfold cL;rw[hw,b];simp only[];rw[v];rfl
  rw[<-e]at aK;generalize cL s=p at aK;have au:=aK.rest;have n:p.1.x=replay s.x g (s.x.now-g):=by rw[aK.x,b]
  have V:g+(s.x.now-g)=s.x.now:=U;have y:∀ i,(p.1.x.f i).next=(s.x.f i).next:=λi=>by rw[n];exact M i
  have o:p.1.x.aN=s.x.aN:=by rw[n];exact L
  have m:p.1.x.now=s.x.now:=by rw[n];exact v
  have z:p.1.x.eO=s.x.eO:=by rw[n];exact G
  have t:p.1.x.dE=s.x.dE:=by rw[n];exact H
  have A:p.1.x.aJ=s.x.aJ:=by rw[n];exact u
  have q:p.1.ld.aP=s.ld.aP:=by rw[aK.aP,l]
  have X:dc p.1=dc s:=by unfold dc;rw[y,o]
  have r:bS p.1=bS s:=by unfold bS fv;rw[y,o]
  have C:p.1.cc=s.cc:=by rw[au,b]
  refine⟨cB,⟨?_,by rw[A];exact h.aJ,by rw[o];exact B,by rw[z,t];exact S,h.eD,?_,by rw[m,X,z];exact h.ad,by rw[m,r,t];exact h.pq,by rw[m,r,t];exact R,by rw[m,r];exact h.vA,?_,?_,by rw[q,m,r];exact h.aP,?_,by rw[aK.most,l];exact h.most,aK.uf.dz,aK.uf.ll,?_,aK.uf.lt⟩,
   λj a w=>?_,λi j a=>?_,m,o,z,t,A,y,by rw[au,b],q,C,by rw[au,b],by rw[au,b],by rw[au,b],by rw[aK.most,l]⟩
  .rw[n];refine(x_ h.hN g1 U (s.x.now-g) U).congr (λ_ _ _ _=>rfl) (λi _ j _ a=>by rw[V,d]) (λj _ a=>?_);rw[aE U,d,u]
  .intro i j;rw[d];unfold jK;split
   .exact yz (h.eD i) _ _
   exact h.Lr i j
  .intro j a;rw[o,d];rw[m]at a;unfold jK;split
   .unfold j1;rw[aE]
    have:=h.ad.1
    unfold dc at this;omega
   exact h.Dv j a
  .intro j a;rw[o,d];rw[q]at a;unfold jK;rw[aB U];exact h.sW j a
  .rw[aK.hd,l,C];exact h.hd
  .intro j;rw[aK.b9,q,m,A,cv,l,d1];split
   .rename_i a;by_cases c:(g:aa)<=j
    .rw[aE U]
    rw[aB U];have an:=h.aP;refine Bn _ _ λi _ k hk=>?_;rw[d];unfold jK;rw[aB U]
   rfl
  .rw[d];unfold jK;by_cases c:g<=j
   .rw[aE ⟨c,a⟩];exact aE w
   rw[aB U];by_cases E:j<F
   .exact h.sW j (.inl E)
   exact N j U U
  rw[d];unfold jK;rw[aB U]
def b8.same{s s':bM}{F:J}{ba us:J->J->aa}(h:b8 s F ba us)(a:s'.x=s.x)(w:s'.ld=s.ld)(y:s'.cc=s.cc):b8 s' F ba us:=by
 have m:dc s'=dc s:=by unfold dc;rw[a]
 have t:bS s'=bS s:=by unfold bS;rw[a]
 have⟨b,c,d,e,f,g,i,j,k,bR,l,n,o,p,q,r,u,v,b6⟩:=h;rw[<-a,<-w,<-y,<-m,<-t]at *;exact⟨b,c,d,e,f,g,i,j,k,bR,l,n,o,p,q,r,u,v,b6⟩
def hn(s:bM)(ba us:J->J->aa):al:=∀ j,j<s.x.now->j<bS s->us (1-s.x.aN) j=ba (1-s.x.aN) j
def GS(x:ct)(h:x.aN<2):iU x=min (x.f x.aN).next (fv x).next:=by
 unfold iU fv
 have:x.aN=0\/x.aN=1:=U
 rcases this with e|e<;>rw[e]
 exact Nat.min_comm _ _
def b8.oI{s:bM}{F:J}{ba us:J->J->aa}(h:b8 s F ba us)(av:hn s ba us):fM s.x=none/\c3 s.x=((min (bS s) s.x.now:J):aa)-1:=by
 have a:=h.hN.DO h.aN h.jf.1 λj _ h1 h2=>av j h1 h2;refine⟨a,?_⟩;unfold c3;rw[a,GS _ h.aN]
 have:=h.ad
 unfold dc at this;show((min (min _ (bS s)) s.x.now:J):aa)-1=_;omega
def b8.halt{s:bM}{F:J}{ba us:J->J->aa}(h:b8 s F ba us)(r:aa)(o:ah bI):b8 (fQ r (s,o)).1 F ba us:=by
 unfold fQ;split
 .exact h
 rename_i aS;have hd:s.ld.hd=false:=by rw[h.hd];simpa using aS
 have e:gq s.ld={s.ld with hd:=true,bc:=[]}:=by unfold gq;rw[hd];rfl
 simp only[e];obtain⟨a,b,c,d,f,g,i,j,k,bR,l,m,n,u,p,v,w,q,b6⟩:=h;exact⟨a,b,c,d,f,g,i,j,k,bR,l,m,n,rfl,p,Pairwise.nil,by show((([]:ah aC).length:J):aa)<=s.ld.most;simp;omega,q,λ_ t=>nomatch t⟩
def sk(r:aa)(p:cq):(fQ r p).1.x=p.1.x/\(fQ r p).1.aF=p.1.aF/\(fQ r p).1.ld.aP=p.1.ld.aP/\(fQ r p).1.cz=p.1.cz/\(p.1.cc=true->fQ r p=p)/\(fQ r p).1.cc=true/\(fQ r p).1.own=p.1.own/\(fQ r p).1.wt=p.1.wt/\(fQ r p).1.ld.most=p.1.ld.most:=by
 unfold fQ;split
 .rename_i h;exact⟨rfl,rfl,rfl,rfl,λ_=>rfl,h,rfl,rfl,rfl⟩
 rename_i h;have e:(gq p.1.ld).aP=p.1.ld.aP/\(gq p.1.ld).most=p.1.ld.most:=by
  unfold gq;split<;>exact⟨rfl,rfl⟩
 exact⟨rfl,rfl,e.1,rfl,λc=>absurd c h,rfl,rfl,rfl,e.2⟩
def b8.hold{s:bM}{F:J}{ba us:J->J->aa}(h:b8 s F ba us)(f v:aa)(o:ah bI):b8 (iu f v (s,o)).1 F ba us:=by
 unfold iu;split
 .split
  .exact h
  exact h.halt 13 o
 split
 .exact h.same rfl rfl rfl
 exact h
def b8.report{s:bM}{F:J}{ba us:J->J->aa}(h:b8 s F ba us)(f:J)(o:ah bI):b8 (js f (s,o)).1 F ba us:=by
 unfold js;split
 .exact b8.hold (s:={sC s f with wt:=lQ s.wt f}) (h.same rfl rfl rfl) _ _ _
 exact h.same rfl rfl rfl
def B6(f v:aa)(p:cq):(iu f v p).1.x=p.1.x/\(iu f v p).1.aF=p.1.aF/\(iu f v p).1.ld.aP=p.1.ld.aP/\(iu f v p).1.cz=p.1.cz/\(iu f v p).1.own=p.1.own/\(iu f v p).1.ld.most=p.1.ld.most:=by
 unfold iu;split
 .split
  .exact⟨rfl,rfl,rfl,rfl,rfl,rfl⟩
  have⟨a,b,c,d,_,_,e,_,g⟩:=sk 13 p;exact⟨a,b,c,d,e,g⟩
 split<;>exact⟨rfl,rfl,rfl,rfl,rfl,rfl⟩
def CN(f:J)(p:cq):(js f p).1.x=p.1.x/\(js f p).1.aF=l9 p.1.aF f (jb (hg p.1.x f))/\(js f p).1.ld.aP=p.1.ld.aP/\(js f p).1.cz=p.1.cz/\(js f p).1.ld.most=p.1.ld.most:=by
 unfold js;split
 .have⟨a,b,c,d,_,e⟩:=B6 f ‹Int› ({sC p.1 f with wt:=lQ p.1.wt f},p.2);exact⟨a,b,c,d,e⟩
 exact⟨rfl,rfl,rfl,rfl,rfl⟩
def GJ(L xs:ah aC):∀ x∈(gZ L xs).1,x∈L/\∀ e∈xs,e.k≠x.k:=by
 rw[<-mn xs]
 induction xs.reverse with
 | nil=>exact λx a=>⟨a,λ_ f=>by simp at f⟩
 | cons e l g=>
  rw[mm,q4];intro x a;obtain⟨h1,h2⟩:=fx.1 a;simp only[lD,pO,gC,exists_eq_left]at h2;obtain⟨b,c⟩:=g x h1;refine⟨b,λd hd=>?_⟩;rcases eJ.1 hd with hd|hd
  .exact c d hd
  simp at hd;subst hd;exact h2
def x3(L xs:ah aC):(gZ L xs).1.Sublist L:=by
 rw[<-mn xs]
 induction xs.reverse with
 | nil=>exact Sublist.refl _
 | cons e l a=>
  rw[mm,q4];exact(q7 _ _).trans a
def b8.x8{s:bM}{F:J}{ba us:J->J->aa}(h:b8 s F ba us)(av:hn s ba us)(an:s.ld.aP<c3 s.x):b8 {s with ld:=jX s.ld (s.ld.aP+1)} F ba us:=by
 have aw:=(h.oI av).2;have⟨d,f,g,i,l,m,n,o,p,bR,q,r,z,t,u,v,A,w,b6⟩:=h;refine⟨d,f,g,i,l,m,n,o,p,bR,q,λj a=>?_,⟨by show -1<=s.ld.aP+1;omega,by show s.ld.aP+1<s.x.now;omega,by show s.ld.aP+1<bS s;omega⟩,t,u,v.sublist (x3 _ _),?_,λj=>?_,λe y=>?_⟩
 .rcases a with a|a
  .exact r j (.inl a)
  have a:(j:aa)<=s.ld.aP+1:=a;exact av j U U
 .have:=(x3 s.ld.bc (s.ld.b9 (s.ld.aP+1))).length_le
  show(((gZ s.ld.bc (s.ld.b9 (s.ld.aP+1))).1.length:J):aa)<=s.ld.most;omega
 .show iC s.ld.b9 (s.ld.aP+1) [] j=if s.ld.aP+1<j/\j<s.x.now then _ else _
  unfold iC;by_cases a:j=s.ld.aP+1
  .rw[aE a,aB U]
  rw[aB a,w];by_cases c:s.ld.aP<j/\j<s.x.now
  .rw[aE c,aE U]
  rw[aB c,aB U]
 have⟨h1,h2⟩:=GJ _ _ e y;have b:=b6 e h1;show e∈iC s.ld.b9 (s.ld.aP+1) [] e.k.fr;unfold iC;rw[aB]
 .exact b
 intro c;rw[c]at b;exact h2 e b rfl
theorem b8.eR{s:bM}{F:J}{ba us:J->J->aa}(h:b8 s F ba us)(av:hn s ba us)(an:s.ld.aP<c3 s.x)(o:ah bI):b8 (eR (s,o)).1 F ba us/\(eR (s,o)).1.x=s.x/\(eR (s,o)).1.ld.aP=s.ld.aP+1/\(eR (s,o)).1.cz=s.cz/\(eR (s,o)).1.ld.most=s.ld.most:=by
 have h1:=h.x8 av an;unfold Go.Proofs.YtalagblioepadaaGreatDoor.eR;simp only[];split
 .have⟨a,_,c,d,e⟩:=CN (s.ld.aP+2).toNat ({s with ld:=jX s.ld (s.ld.aP+1)},o++h4 s.ld (s.ld.aP+1));exact⟨h1.report _ _,a,c,d,e⟩
 exact⟨h1,rfl,rfl,rfl,rfl⟩
theorem b8.settle{F:J}{ba us:J->J->aa}:∀ (n:J) {p:cq},b8 p.1 F ba us->hn p.1 ba us->c3 p.1.x<=p.1.ld.aP+n->b8 (fc n p).1 F ba us/\(fc n p).1.x=p.1.x/\p.1.ld.aP<=(fc n p).1.ld.aP/\((fc n p).1.cc=true\/c3 p.1.x<=(fc n p).1.ld.aP)/\(fc n p).1.cz=p.1.cz/\(fc n p).1.ld.most=p.1.ld.most
 | 0,p,h,_,f=>⟨h,rfl,jw _,.inr (by show c3 p.1.x<=p.1.ld.aP;omega),rfl,rfl⟩
 | n+1,p,h,av,f=>by
  unfold fc;split
  .rename_i an;exact⟨h,rfl,jw _,by rcases an with c|c<;>simp_all,rfl,rfl⟩
  rename_i an;have e:p.1.ld.aP<c3 p.1.x:=U;obtain⟨h1,h2,a,b,d⟩:=h.eR av e p.2;have g:hn (Go.Proofs.YtalagblioepadaaGreatDoor.eR p).1 ba us:=by
   unfold hn bS at *;rw[h2];exact av
  obtain⟨i,j,k,cP,l,m⟩:=b8.settle n h1 g (by rw[h2,a];omega);exact⟨i,j.trans h2,zW U k,by rw[<-h2];exact cP,l.trans b,m.trans d⟩
def b8.free{s:bM}{F:J}{ba us:J->J->aa}(h:b8 s F ba us)(av:hn s ba us):b8 {s with x:=dZ s.x} (if c3 s.x<0 then F else(c3 s.x).toNat) ba us/\s.x.now<=(if c3 s.x<0 then F else(c3 s.x).toNat)+s.x.dE+1/\(dZ s.x).now=s.x.now/\(dZ s.x).aN=s.x.aN/\∀ k,k<2->((dZ s.x).f k).next=(s.x.f k).next:=by
 have⟨D,aw⟩:=h.oI av;have B:=h.aN;unfold dZ;split
 .exact⟨h.same rfl rfl rfl,by have:=h.pq;have:=h.vA;omega,rfl,rfl,λ_ _=>rfl⟩
 have b:∀ k,k<2->((se s.x (c3 s.x).toNat).f k).next=(s.x.f k).next:=λk hk=>by
  show(if k<2 then pc (s.x.f k) _ else s.x.f k).next=_;rw[aE hk];rfl
 refine⟨?_,by have:=h.pq;omega,rfl,rfl,b⟩;obtain⟨d,g,i,l,n,o,c,p,C,bR,q,r,u,v,w,y,z,A,b6⟩:=h;have m:dc {s with x:=se s.x (c3 s.x).toNat}=dc s:=b _ B;have t:bS {s with x:=se s.x (c3 s.x).toNat}=bS s:=b _ (by show 1-s.x.aN<2;omega);have hk:∀ k,k<2->(c3 s.x).toNat<=(s.x.f k).next:=λk hk=>by
  have:k=s.x.aN\/k=1-s.x.aN:=U
  rcases this with e|e
  .have:=c;unfold dc at this;rw[<-e]at this;omega
  have:bS s=(s.x.f k).next:=by rw[e];rfl
  omega
 refine⟨d.cut U U hk,g,i,l,n,o,by rw[m];exact c,by rw[t];exact p,by rw[t];show _<=s.x.now/\s.x.now<=_+s.x.dE+2/\_;omega,by rw[t];show _\/_<_/\_<s.x.now;omega,q,λj a=>?_,by rw[t];exact u,v,w,y,z,A,b6⟩;rcases a with a|a
 .exact av j U U
 exact r j (.inr a)
structure lH(c:bI):al where
 bp:1<=c.bp/\c.bp<=4
 bg:fm c.bg=true
 db:0<=c.db/\c.db<=1000000
def hJ(L:ah aC):al:=∀ e∈L,fm e=true
def K5(most now:aa)(L xs:ah aC):∀ c∈(e6 most now L xs).2,∃ e∈xs,c=⟨2,e,0,false⟩\/c=⟨1,e,now-e.k.fr,false⟩:=by
 rw[<-mn xs]
 induction xs.reverse with
 | nil=>intro c an;cases an
 | cons e l a=>
  rw[mm,rF];intro c an;rcases eJ.1 an with an|an
  .exact MV
  refine⟨e,aM,?_⟩;revert an;unfold kR;split<;>split<;>simp<;>intro h<;>simp[h]
def PY(L xs:ah aC):∀ c∈(gZ L xs).2,∃ e∈xs,∃ p,c=⟨4,e,0,p⟩:=by
 rw[<-mn xs]
 induction xs.reverse with
 | nil=>intro c an;cases an
 | cons e l a=>
  rw[mm,q4];intro c an;rcases eJ.1 an with an|an
  .exact MV
  exact⟨e,aM,_,gC.1 an⟩
def x1{k:aa}(hk:1<=k/\k<=4){e:aC}(a:fm e=true)(p:a1):lH ⟨k,e,0,p⟩:=⟨hk,a,by show(0:aa)<=0/\(0:aa)<=1000000;omega⟩
def Lh{s:cO}(d:hJ s.bc){fr now:aa}{xs:ah aC}(b:eL fr xs)(f:0<=fr)(av:fr<=now/\now<=1000000):∀ c∈kS s fr xs now,lH c:=λc an=>by
 rcases eJ.1 an with an|an
 .obtain⟨e,a,rfl⟩:=e9.1 an;exact x1 U (d e (fx.1 (fx.1 a).1).1) _
 obtain⟨e,a,rfl|rfl⟩:=K5 _ _ _ _ c an
 .exact x1 U (b.2.2 e a).1 _
 have:=(b.2.2 e a).2
 exact⟨by show(1:aa)<=1/\(1:aa)<=4;omega,(b.2.2 e a).1,by show 0<=now-e.k.fr/\now-e.k.fr<=1000000;omega⟩
def GH{s:cO}{f:aa}(b:hJ (s.b9 f)):∀ c∈h4 s f,lH c:=λc an=>by
 obtain⟨e,a,p,rfl⟩:=PY _ _ c an;exact x1 U (b e a) _
def Is{s:cO}(b:hJ s.bc):∀ c∈j4 s,lH c:=λc an=>by
 unfold j4 at an;split at an
 .cases an
 obtain⟨e,a,rfl⟩:=e9.1 an;exact x1 U (b e a) _
def hJ.tell{s:cO}(b:hJ s.bc){fr:aa}{xs:ah aC}(c:hJ xs)(bh:ev s.bc):hJ (pC s fr xs).bc:=λe a=>by
 have h1:=(zu (most:=s.most) (now:=0) (p6 bh (gp xs (gw s.bc fr))) xs).2 e a;rcases h1 with h1|⟨h1,_⟩
 .exact c e h1
 exact b e ((q7 _ _).subset h1)
def hJ.GG{s:cO}(b:hJ s.bc)(f:aa):hJ (jX s f).bc:=λe a=>b e (GJ _ _ e a).1
def hJ.halt{s:cO}(b:hJ s.bc):hJ (gq s).bc:=by
 unfold gq;split
 .exact b
 intro e a;cases a
def b8.zz{s:bM}{F:J}{ba us:J->J->aa}(h:b8 s F ba us)(j:aa):eL j (s.ld.b9 j):=by
 rw[h.b9];split
 .rename_i an
  have:=oi us h.aJ j.toNat
  have b:((j.toNat:J):aa)=j:=by have:=h.aP;omega
  rwa [b]at this
 exact⟨Pairwise.nil,aM,λe a=>by cases a⟩
def b8.po{s:bM}{F:J}{ba us:J->J->aa}(h:b8 s F ba us):hJ s.ld.bc:=λe a=>((h.zz e.k.fr).2.2 e (h.lt e a)).1
structure hM(x:ct)(p:cq):al where
 x:p.1.x=x
 hd:p.1.ld.hd=p.1.cc
 aP:-1<=p.1.ld.aP
 bc:hJ p.1.ld.bc
 b9:∀ j,hJ (p.1.ld.b9 j)/\(p.1.ld.b9 j).length<=64
 gn:p.1.ld.bc.length<=256
theorem hM.halt{x:ct}{p:cq}(h:hM x p)(r:aa):hM x (fQ r p)/\(fQ r p).2.length<=p.2.length+256:=by
 unfold fQ;split
 .exact⟨h,U⟩
 rename_i aS;refine⟨⟨h.x,by show(gq p.1.ld).hd=true;unfold gq;rw[(h.hd.trans (show p.1.cc=false by simpa using aS))];rfl,?_,h.bc.halt,?_,?_⟩,?_⟩
 .show -1<=(gq p.1.ld).aP;unfold gq;split<;>exact h.aP
 .show ∀ j,hJ ((gq p.1.ld).b9 j)/\((gq p.1.ld).b9 j).length<=64;unfold gq;split<;>exact h.b9
 .show(gq p.1.ld).bc.length<=256;unfold gq;split
  .exact h.gn
  simp
 rw[cx];unfold j4;split
 .simp
 rw[hG];have:=h.gn;omega
def hM.hold{x:ct}{p:cq}(h:hM x p)(f v:aa):hM x (iu f v p)/\(iu f v p).2.length<=p.2.length+256:=by
 unfold iu;split
 .split
  .exact⟨h,U⟩
  exact h.halt 13
 split
 .exact MM
 exact⟨h,U⟩
def hM.report{x:ct}{p:cq}(h:hM x p)(f:J):hM x (js f p)/\(js f p).2.length<=p.2.length+256:=by
 unfold js;split
 .exact hM.hold (p:=({sC p.1 f with wt:=lQ p.1.wt f},p.2)) ⟨h.x,h.hd,h.aP,h.bc,h.b9,h.gn⟩ _ _
 exact MM
def GI(L xs:ah aC):(gZ L xs).2.length<=xs.length:=by
 rw[<-mn xs]
 induction xs.reverse with
 | nil=>simp[gZ]
 | cons e l a=>rw[mm,q4,qG,qG,jd,jd];omega
def hM.x8{x:ct}{p:cq}(h:hM x p):hM x ({p.1 with ld:=jX p.1.ld (p.1.ld.aP+1)},p.2++h4 p.1.ld (p.1.ld.aP+1))/\(p.2++h4 p.1.ld (p.1.ld.aP+1)).length<=p.2.length+64:=by
 refine⟨⟨h.x,h.hd,by show -1<=p.1.ld.aP+1;have:=h.aP;omega,h.bc.GG _,λj=>?_,ca (x3 _ _).length_le h.gn⟩,?_⟩
 .show hJ (iC p.1.ld.b9 (p.1.ld.aP+1) [] j)/\(iC p.1.ld.b9 (p.1.ld.aP+1) [] j).length<=64;unfold iC;split
  .exact⟨(λ_ a=>nomatch a),aM⟩
  exact h.b9 j
 have:=GI p.1.ld.bc (p.1.ld.b9 (p.1.ld.aP+1))
 have:=(h.b9 (p.1.ld.aP+1)).2
 rw[cx];unfold h4;omega
def hM.step{x:ct}{p:cq}(h:hM x p):hM x (eR p)/\(eR p).2.length<=p.2.length+320/\(eR p).1.ld.aP=p.1.ld.aP+1:=by
 have⟨h1,h2⟩:=h.x8;unfold eR;dsimp only;split
 .have⟨a,b⟩:=h1.report (p.1.ld.aP+2).toNat;have⟨_,_,c,_,_⟩:=CN (p.1.ld.aP+2).toNat ({p.1 with ld:=jX p.1.ld (p.1.ld.aP+1)},p.2++h4 p.1.ld (p.1.ld.aP+1));exact⟨a,by dsimp only at b;omega,c⟩
 exact⟨h1,by dsimp only;omega,rfl⟩
def b8.zv{p:cq}{F:J}{ba us:J->J->aa}(h:b8 p.1 F ba us):hM p.1.x p:=⟨rfl,h.hd,h.aP.1,h.po,λj=>⟨λe a=>((h.zz j).2.2 e a).1,(h.zz j).2.1⟩,by have:=h.ll;have:=h.most;omega⟩
def jF(s:bM)(ba:J->J->aa)(v:aa):J->J->aa:=λi=>if i=s.x.aN then bZ (ba s.x.aN) (dc s) v else ba i
def B'(s:bM)(ba:J->J->aa)(v:aa)(i j:J)(h:i≠s.x.aN\/j≠dc s):jF s ba v i j=ba i j:=by
 unfold jF;split
 .subst i;exact hB _ _ U
 rfl
def u8_in(v:aT)(h:v.toNat<=63):0<=((v.toNat:J):aa)/\((v.toNat:J):aa)<=63:=U
def xZ{s:bM}(h:gm s=true):j0 s.x=false/\s.aF.state=1/\sX s=false:=by
 unfold gm at h;simp only[ep,gh,lD]at h;exact⟨h.2.2,h.1,h.2.1⟩
def b8.room{s:bM}{F:J}{ba us:J->J->aa}(h:b8 s F ba us)(an:j0 s.x=false):s.x.now<bS s+s.x.dE:=by
 unfold j0 at an;rw[GS _ h.aN]at an;have h1:=Ey an;have h2:=h.ad;unfold bS;omega
theorem b8.step{s:bM}{F:J}{ba us:J->J->aa}(h:b8 s F ba us)(av:hn s ba us)(ab:j0 s.x=false)(ps:s.x.now<=100000)(h2:s.x.now<=F+s.x.dE+1)(v:aT)(aU:v.toNat<=63)(o:ah bI):∃ cB,b8 (mc (ez s v,o)).1 F (jF s ba v.toNat) cB/\hn (mc (ez s v,o)).1 (jF s ba v.toNat) cB/\(∀ i j,j<s.x.now->cB i j=us i j)/\hR (ez s v).x s.x.now=fJ cB s.x.aJ s.x.now/\Can (ez s v).x s.x.now:=by
 have m':=h.room ab;have lb:=h.jf;have L:=h.aN;have Y:=h.my;have a':=h.ad;have l':=h.aP;have⟨p,r⟩:=cT (jF s ba v.toNat);have g:CW (gL s.x s.x.aN v.toNat) F p us (hx us s.x.aJ):=by
  have:=h.hN.put L (show F<=(s.x.f s.x.aN).next by unfold dc at a';omega) v.toNat
  rw[r];exact this
 obtain⟨b,d⟩:=cT (gL s.x s.x.aN v.toNat);rw[<-d]at g;have S:b.now=s.x.now:=by rw[d];rfl
 have T:b.aN=s.x.aN:=by rw[d];rfl
 have G:b.aJ=s.x.aJ:=by rw[d];rfl
 have V:b.eO=s.x.eO:=by rw[d];rfl
 have W:b.dE=s.x.dE:=by rw[d];rfl
 have cv:(b.f s.x.aN).next=dc s+1:=by
  rw[d];show(eW s.x.f s.x.aN _ s.x.aN).next=_;rw[rB];rfl
 have O:(b.f (1-s.x.aN)).next=bS s:=by
  rw[d];show(eW s.x.f s.x.aN _ (1-s.x.aN)).next=_;rw[rA _ _ U];rfl
 obtain⟨cB,B⟩:∃ cB:J->J->aa,cB=λi=>bZ (us i) s.x.now (j1 (p i) (b.f i).next s.x.now):=⟨_,rfl⟩;have hold:∀ i j,j<s.x.now->cB i j=us i j:=λi j a=>by rw[B];exact hB _ _ U
 have t:∀ i,cB i s.x.now=j1 (p i) (b.f i).next s.x.now:=λi=>by rw[B];exact iB _ _ _
 have hrun:∀ j,j<=s.x.now->hx cB s.x.aJ j=hx us s.x.aJ j:=λj a=>CS _ _ λi _ k hk=>hold i k U;have N:=g.step U U;rw[S]at N;have M:hR b s.x.now=fJ cB s.x.aJ s.x.now:=by
  unfold hR fJ;rw[g.hg U U,g.dJ (k:=0) U U,g.dJ (k:=1) U U,hrun _ bx,t,t]
 have C:∀ k j,0<=p k j/\p k j<=63:=λk j=>by
  rw[r];unfold jF;split
  .unfold bZ;split
   .exact u8_in v aU
   exact h.eD _ _
  exact h.eD _ _
 have X:Can b s.x.now:=by
  have e:=g.hg (n:=s.x.now) U U;refine⟨by rw[e];exact g.st U U,?_,U,λj a=>?_,λj a=>by rw[g.first a];omega,?_⟩
  .rw[e];exact sF _ h.aJ _
  .rw[g.dJ a U];exact(yz (C j) _ _).2
  rw[g.e4];unfold fk;omega
 obtain⟨q,A⟩:=cT (mc (ez s v,o)).1;have m:q.x={jr b s.x.now with now:=s.x.now+1}:=by rw[A,d];rfl
 have w:q.ld=pC s.ld s.x.now (fJ cB s.x.aJ s.x.now):=by
  rw[A,<-M,d];rfl
 have gf:q.cc=s.cc:=by rw[A];rfl
 have Q:∀ i,(q.x.f i).next=(b.f i).next:=λi=>by rw[m];exact(CM b s.x.now).2.2.2.2.2 i
 have l:q.x.now=s.x.now+1:=by rw[m]
 have u:q.x.aN=s.x.aN:=by rw[m];exact T
 have R:q.x.aJ=s.x.aJ:=by rw[m];exact G
 have P:q.x.eO=s.x.eO:=by rw[m];exact V
 have E:q.x.dE=s.x.dE:=by rw[m];exact W
 have g':dc q=dc s+1:=by unfold dc;rw[Q,u];exact cv
 have y:bS q=bS s:=by unfold bS fv;rw[Q,u];exact O
 have z:=vC.tell ⟨h.dz,h.ll,h.lt⟩ s.x.now (fJ cB s.x.aJ s.x.now) λe Z=>((oi cB h.aJ s.x.now).2.2 e Z).2;rw[<-w]at z;have D:q.ld.aP=s.ld.aP:=by rw[w];rfl
 have fr:hn q p cB:=λj a H=>by
  rw[u];rw[l]at a;rw[y]at H;by_cases c:j=s.x.now
  .rw[c,t,O];unfold j1;rw[aE U]
  rw[hold _ _ U,r,B' _ _ _ _ _ (.inl U)];exact av j U H
 rw[<-r,<-A,show(ez s v).x=b from d.symm];refine⟨cB,⟨?_,by rw[R];exact h.aJ,by rw[u];exact L,by rw[P,E];exact Y,C,?_,by rw[l,g',P];omega,by rw[l,y,E];omega,by rw[l,y,E];omega,by rw[l,y];have:=h.vA;omega,?_,?_,by rw[D,l,y];omega,by rw[w,gf];exact h.hd,by rw[w];exact h.most,z.dz,z.ll,λj=>?_,z.lt⟩,fr,hold,M,X⟩
 .rw[m];refine N.congr (λ_ _ _ _=>rfl) (λk _ j _ _=>by rw[B]) (λj _ a=>?_);show _=hx cB b.aJ j;rw[G];unfold bZ;split
  .rename_i K;rw[K];show _=iL (cB 0 s.x.now) (cB 1 s.x.now) (hx cB s.x.aJ s.x.now);rw[t,t,hrun _ bx]
  rename_i K;have a:j<=s.x.now+1:=a;exact(hrun j U).symm
 .intro i j;rw[B];simp only[];unfold bZ;split
  .exact yz (C i) _ _
  exact h.Lr i j
 .intro j a;rw[u];rw[l]at a;by_cases c:j=s.x.now
  .rw[c,t,cv];unfold j1;rw[aE U]
  rw[hold _ _ U,r,B' _ _ _ _ _ (.inr U)];exact h.Dv j U
 .intro j a;rw[u];rw[D]at a;rw[hold _ _ U,r,B' _ _ _ _ _ (.inl U)];exact h.sW j a
 rw[D,l,R,w];show iC s.ld.b9 s.x.now _ j=_;unfold iC;by_cases a:j=s.x.now
 .rw[aE a,aE U,a];rfl
 rw[aB a,h.b9];by_cases c:s.ld.aP<j/\j<s.x.now
 .rw[aE c,aE U];exact(Bn _ _ λi _ k hk=>hold i k U).symm
 rw[aB c,aB U]
def b8.SE{s:bM}{F:J}{ba us:J->J->aa}(h:b8 s F ba us)(D:bS s<F+64)(v:aT)(aU:v.toNat<=63):b8 {s with x:=gL s.x (1-s.x.aN) v.toNat} F (λi=>if i=1-s.x.aN then bZ (ba (1-s.x.aN)) (bS s) v.toNat else ba i) us/\bS {s with x:=gL s.x (1-s.x.aN) v.toNat}=bS s+1/\dc {s with x:=gL s.x (1-s.x.aN) v.toNat}=dc s:=by
 have m:dc {s with x:=gL s.x (1-s.x.aN) v.toNat}=dc s:=by
  show(eW s.x.f (1-s.x.aN) _ s.x.aN).next=_;rw[rA _ _ U];rfl
 have t:bS {s with x:=gL s.x (1-s.x.aN) v.toNat}=bS s+1:=by
  show(eW s.x.f (1-s.x.aN) _ (1-s.x.aN)).next=_;rw[rB];rfl
 refine⟨?_,t,m⟩;have hold:∀ i j,j<bS s\/i=s.x.aN->(λi=>if i=1-s.x.aN then bZ (ba (1-s.x.aN)) (bS s) v.toNat else ba i) i j=ba i j:=λi j C=>by
  simp only[];split
  .subst i;exact hB _ _ U
  rfl
 have au:=h.hN.put (k:=1-s.x.aN) U h.jf.2.2.1 v.toNat;have⟨y,c,d,e,b,g,l,z,A,bR,n,o,B,p,q,r,u,w,b6⟩:=h;refine⟨au,c,d,e,λk j=>?_,g,by rw[m];exact l,by rw[t];show s.x.now<=bS s+1+s.x.dE;omega,by rw[t];show F<=s.x.now/\s.x.now<=F+s.x.dE+2/\_;omega,by rw[t];show F=0\/F<_/\F<s.x.now;omega,λj a=>?_,λj a=>?_,by rw[t];show -1<=s.ld.aP/\s.ld.aP<s.x.now/\s.ld.aP<_;omega,p,q,r,u,w,b6⟩
 .split
  .unfold bZ;split
   .exact u8_in v aU
   exact b _ _
  exact b _ _
 .exact(n j a).trans (hold s.x.aN j (.inr rfl)).symm
 have a:j<F\/(j:aa)<=s.ld.aP:=a;exact(o j a).trans (hold (1-s.x.aN) j (.inl U)).symm
structure lI(s s':bM):al where
 aN:s'.x.aN=s.x.aN
 eO:s'.x.eO=s.x.eO
 dE:s'.x.dE=s.x.dE
 aJ:s'.x.aJ=s.x.aJ
 most:s'.ld.most=s.ld.most
def lI.refl(s:bM):lI s s:=⟨rfl,rfl,rfl,rfl,rfl⟩
theorem lI.trans{a b c:bM}(h:lI a b)(k:lI b c):lI a c:=⟨k.aN.trans h.aN,k.eO.trans h.eO,k.dE.trans h.dE,k.aJ.trans h.aJ,k.most.trans h.most⟩
def lI.halt(r:aa)(p:cq):lI p.1 (fQ r p).1:=by
 have h:=sk r p;exact⟨by rw[h.1],by rw[h.1],by rw[h.1],by rw[h.1],h.2.2.2.2.2.2.2.2⟩
def yy(p:cq):(fj p).1.x=p.1.x/\(fj p).1.aF=p.1.aF/\(fj p).1.ld.aP=p.1.ld.aP/\lI p.1 (fj p).1/\(p.1.cc=true->fj p=p)/\((fj p).1.cc=false->p.1.aF.state≠2/\fj p=p):=by
 unfold fj;split
 .have h:=sk 12 p;exact⟨h.1,h.2.1,h.2.2.1,lI.halt 12 p,h.2.2.2.2.1,λc=>by rw[h.2.2.2.2.2.1]at c;cases c⟩
 rename_i aw;exact⟨rfl,rfl,rfl,lI.refl _,λ_=>rfl,λ_=>⟨aw,rfl⟩⟩
def b8.gone{p:cq}{F:J}{ba us:J->J->aa}(h:b8 p.1 F ba us):b8 (fj p).1 F ba us:=by
 unfold fj;split
 .exact h.halt 12 p.2
 exact h
structure xJ(s:bM)(v:aT)(F:J)(ba us cB:J->J->aa)(q:bM):al where
 cC:b8 q F (if d_ s then jF s ba v.toNat else ba) cB
 gS:hn q (if d_ s then jF s ba v.toNat else ba) cB
 fix:lI s q
 now:q.x.now=s.x.now+(if d_ s then 1 else 0)
 rk:dc q=dc s+(if d_ s then 1 else 0)
 uQ:bS q=bS s
 aP:s.ld.aP<=q.ld.aP
 Js:∀ i j:J,(j:aa)<=s.ld.aP\/j<F->cB i j=us i j
def uo{s:bM}{F:J}{ba us:J->J->aa}(h:b8 s F ba us)(aS:s.cc=false)(Q:s.x.now<=F+s.x.dE+1)(R:s.x.now<=100000)(v:aT)(aU:v.toNat<=63):∃ cB,xJ s v F ba us cB (eF v (cL s)).1/\(eF v (cL s)).1.cc=false/\(eF v (cL s)).1.aF=(if d_ s then kq s.aF (dc s) v else s.aF)/\(eF v (cL s)).1.ld.aP=s.ld.aP:=by
 have⟨H,d,M,C,k,a,n,o,p,g,q,t,u,_,_,_,m⟩:=rp h;have⟨r,y⟩:=cT (cL s);rw[<-y]at d k a n o p g q t u m;have z:dc r.1=dc s:=by unfold dc;rw[g,a]
 have G:bS r.1=bS s:=by unfold bS fv;rw[g,a]
 have cv:hn r.1 ba H:=λj l A=>by rw[a];rw[k]at l;rw[G]at A;exact M j l A
 have b:d_ s=gm r.1:=by unfold d_;rw[aS,<-y];rfl
 rw[<-y];unfold eF;by_cases an:gm r.1=true
 .rw[aE an];have⟨L,_,_⟩:=xZ an;have⟨P,D,E,N,S,T⟩:=d.step cv L U U v aU r.2;have K:jF r.1 ba v.toNat=jF s ba v.toNat:=by unfold jF;rw[a,z]
  rw[K]at D E;have c:(mc (ez r.1 v,r.2)).1.x={jr (gL r.1.x r.1.x.aN v.toNat) r.1.x.now with now:=r.1.x.now+1}:=rfl;obtain⟨s1,s2,gy,O,V,hy⟩:=CM (gL r.1.x r.1.x.aN v.toNat) r.1.x.now;have B:∀ i,((mc (ez r.1 v,r.2)).1.x.f i).next=((gL r.1.x r.1.x.aN v.toNat).f i).next:=λi=>by rw[c];exact hy i
  have w:(mc (ez r.1 v,r.2)).1.x.aN=s.x.aN:=by rw[c];exact O.trans a
  refine⟨P,⟨?_,?_,⟨w,by rw[c];exact s2.trans n,by rw[c];exact gy.trans o,by rw[c];exact s1.trans p,m⟩,by rw[c,b,an];show r.1.x.now+1=_;rw[k];rfl,?_,?_,by show s.ld.aP<=r.1.ld.aP;omega,λi j l=>?_⟩,?_,?_,?_⟩
  .rw[b,an];exact D
  .rw[b,an];exact E
  .rw[b,an];unfold dc;rw[B,w,<-a];show(eW r.1.x.f r.1.x.aN _ r.1.x.aN).next=_;rw[rB,a];rw[g];rfl
  .unfold bS fv;rw[B,w,<-a];show(eW r.1.x.f r.1.x.aN _ (1-r.1.x.aN)).next=_
   have:=d.aN
   rw[rA _ _ U,g,a]
  .rw[N i j (by have:=d.aP;have:=d.jf;omega)];exact C i j l
  .show r.1.cc=false;rw[u,aS]
  .show kq r.1.aF (dc r.1) v=_;rw[q,z,b,an];rfl
  exact t
 rw[aB an];have e:gm r.1=false:=by simpa using an
 refine⟨H,⟨?_,?_,⟨a,n,o,p,m⟩,by rw[b,e,k];rfl,by rw[b,e,z];rfl,G,U,C⟩,by rw[u,aS],by rw[q,b,e];rfl,t⟩
 .rw[b,e];exact d
 rw[b,e];exact cv
theorem xJ.settle{s:bM}{v:aT}{F:J}{ba us cB:J->J->aa}{p:cq}(h:xJ s v F ba us cB p.1):xJ s v F ba us cB (j9 p).1/\((j9 p).1.cc=true\/c3 (j9 p).1.x=(j9 p).1.ld.aP):=by
 have⟨b,a,d,cP,f,e⟩:=b8.settle (c3 p.1.x-p.1.ld.aP).toNat h.cC h.gS U;unfold j9;have av:hn (fc (c3 p.1.x-p.1.ld.aP).toNat p).1 (if d_ s then jF s ba v.toNat else ba) cB:=by
  have:=h.gS
  unfold hn bS at *;rw[a];exact this
 refine⟨⟨b,av,⟨by rw[a];exact h.fix.aN,by rw[a];exact h.fix.eO,by rw[a];exact h.fix.dE,by rw[a];exact h.fix.aJ,e.trans h.fix.most⟩,by rw[a];exact h.now,by unfold dc;rw[a];exact h.rk,by unfold bS;rw[a];exact h.uQ,zW h.aP d,h.Js⟩,?_⟩;rcases cP with cP|cP
 .exact .inl cP
 right;have h1:=b.aP;have h2:=(b.oI av).2;have c:bS (fc (c3 p.1.x-p.1.ld.aP).toNat p).1=bS p.1:=by unfold bS;rw[a]
 rw[a]at h1 h2⊢;rw[c]at h1 h2;omega
def b8.tick{s:bM}{F:J}{ba us:J->J->aa}(h:b8 s F ba us)(aS:s.cc=false)(r:s.x.now<=F+s.x.dE+1)(w:s.x.now<=100000)(v:aT)(aU:v.toNat<=63):∃ j cB,b8 (cH v s).1 j (if d_ s then jF s ba v.toNat else ba) cB/\(cH v s).1.x.now<=j+s.x.dE+1/\lI s (cH v s).1/\(cH v s).1.x.now=s.x.now+(if d_ s then 1 else 0)/\dc (cH v s).1=dc s+(if d_ s then 1 else 0)/\bS (cH v s).1=bS s/\s.ld.aP<=(cH v s).1.ld.aP/\(cH v s).1.aF=(c9 (dj v s).1.aF (iw {(dj v s).1 with x:=dZ (dj v s).1.x})).2/\((cH v s).1.cc=false->(cH v s).1.aF.state≠2):=by
 obtain⟨cB,y,_,_,_⟩:=uo h aS r w v aU;obtain⟨a,_⟩:=y.settle;have em:j9 (eF v (cL s))=dj v s:=rfl;rw[em]at a;obtain⟨f1,f2,f3,g,k⟩:=a.cC.free a.gS;have e:cH v s=lT (dj v s):=by unfold cH;rw[aS];rfl
 generalize dj v s=q at *;obtain⟨b,f⟩:∃ b:cq,b=({q.1 with x:=dZ q.1.x,aF:=(c9 q.1.aF (iw {q.1 with x:=dZ q.1.x})).2},q.2):=⟨_,rfl⟩;have m:cH v s=fj b:=by rw[e,f];rfl
 have u:b8 b.1 (if c3 q.1.x<0 then F else(c3 q.1.x).toNat) (if d_ s then jF s ba v.toNat else ba) cB:=by rw[f];exact f1.same rfl rfl rfl
 have⟨g1,l,n,o,A,p⟩:=yy b;have d:b.1.x=dZ q.1.x:=by rw[f]
 have z:b.1.x.aN=s.x.aN:=by rw[d,g];exact a.fix.aN
 have i:(dZ q.1.x).eO=q.1.x.eO/\(dZ q.1.x).dE=q.1.x.dE/\(dZ q.1.x).aJ=q.1.x.aJ:=by
  unfold dZ;split<;>exact⟨rfl,rfl,rfl⟩
 have t:lI s b.1:=⟨z,by rw[d,i.1];exact a.fix.eO,by rw[d,i.2.1];exact a.fix.dE,by rw[d,i.2.2];exact a.fix.aJ,by rw[f];exact a.fix.most⟩;rw[m];refine⟨_,cB,u.gone,?_,t.trans o,?_,?_,?_,?_,?_,λc=>?_⟩
 .rw[g1,d,f3,<-a.fix.dE];exact f2
 .rw[g1,d,f3];exact a.now
 .unfold dc;rw[g1,d,g,k _ a.cC.aN];exact a.rk
 .unfold bS fv;rw[g1,d,g,k _ U];exact a.uQ
 .rw[n,f];exact a.aP
 .rw[l,f]
 rw[l];exact(p c).1
def dr(m:a6):ch:=⟨(dv m).toArray⟩
def gO(cs:cY)(g:aa)(a:ah a6):cY:=a.foldl (λc m=>hT c 64 g (dr m)) cs
def Xx(cs:cY)(g:aa)(a:ah a6)(m:a6):gO cs g (a++[m])=hT (gO cs g a) 64 g (dr m):=by
 unfold gO;rw[mX];rfl
def UT(l:ah aT)(k:J)(c:aT)(hk:k<(i' l).length)(an:c≠(i' l)[k]):opened ((i' l).set k c)=([],15):=by
 have a:((i' l).set k c).length=l.length+4:=by simp[i',sP]
 unfold opened;rw[aB U,aB];intro h;have av:((i' l).set k c).length-4=l.length:=U;rw[av]at h;refine Y7 l k c hk an (((i' l).set k c).take l.length) (((i' l).set k c).drop l.length) (mo _ _) (by simp[i',sP]) ?_
 have:=c5 (List.drop l.length) h
 rw[<-this,i'];exact(xa aM).symm
def Z3(x:aT)(b:J)(ak:b<256)(a:b≠0):me x b≠x:=by
 intro h;have h1:=c5 UInt8.toNat h;unfold me at h1;rw[Mm,jy (Ml (n:=8) x.toNat_lt ak)]at h1;have h2:=c5 (λz=>x.toNat ^^^ z) h1;rw[<-Nat.xor_assoc,Nat.xor_self,Nat.zero_xor]at h2;exact a h2
def rH{m:a6}(h:ds m):0<(dr m).size/\(dr m).size<=256:=by
 have h1:=JV m h;have h2:=Xu (oE m);unfold dr dv;omega
def Yh(m:a6)(x:aa)(b:J)(ak:b<256)(a:b≠0)(hm:ds m):(fG (pD (dr m) x b).data.toList).2=15/\(pD (dr m) x b).size<=256:=by
 have aw:=rH hm;have d:(dv m).length=(dr m).size:=by simp[dr,ByteArray.size]
 have⟨r,_,au⟩:=Dr x (dv m).length U U;have ax:iA x (dv m).length<(dv m).length:=by
  rcases au with h|h<;>exact h.2.2
 have e:(pD (dr m) x b).data.toList=(dv m).set (iA x (dv m).length) (me ((dv m).getD (iA x (dv m).length) 0) b):=rfl;have aZ:(dv m).getD (iA x (dv m).length) 0=(dv m)[iA x (dv m).length]:=by simp[getD,gA ax]
 constructor
 .rw[e,aZ];unfold fG;rw[show opened ((dv m).set (iA x (dv m).length) (me ((dv m)[iA x (dv m).length]) b))=([],15)from(UT (oE m) (iA x (dv m).length) (me ((dv m)[iA x (dv m).length]) b) ax (Z3 _ b ak a))];rfl
 have c:(pD (dr m) x b).size=(dv m).length:=by
  show((sV (dv m) x b).toArray).size=_;simp[sV]
 omega
def YD(v:J->aa):0<=jb v/\jb v<4294967296:=by
 exact wz _ _
structure dV where
 p:J->bM
 bG:J->ah aT
 st:J->ah bI
 cs:cY
def dm(l:ah bI):ah bI:=l.filter λc=>decide (c.bp=4)
def gT(k:J)(v:aT)(M:dV):dV:={p:=bZ M.p k (cH v (M.p k)).1,bG:=if d_ (M.p k)then bZ M.bG k (M.bG k++[v])else M.bG,st:=bZ M.st k (M.st k++dm (cH v (M.p k)).2),cs:=gO M.cs (1-(k:aa)) (fo v (M.p k))}
def yC(k:J)(t:ch)(cs:cY)(M:dV):dV:={M with p:=bZ M.p k (dG t.data.toList (M.p k)).1,st:=bZ M.st k (M.st k++dm (dG t.data.toList (M.p k)).2),cs:=cs}
def fC(bG:J->ah aT)(k j:J):aa:=(((bG k).getD j 0).toNat:aa)
structure tt(n d w:J)(cm:aa)(M:dV)(k F:J)(us:J->J->aa)(A:J):al where
 cC:b8 (M.p k) F (fC M.bG) us
 E:(M.p k).x.now<=F+w+1
 aF:LkI n k (M.bG k) (bS (M.p k)) A (M.p k).aF
 rk:dc (M.p k)=(M.bG k).length
 uQ:bS (M.p k)<=(M.bG (1-k)).length
 aac:A<=bS (M.p (1-k))
 O0:bS (M.p k)<=A+(w+d)
 aN:(M.p k).x.aN=k
 dl:(M.p k).x.eO=d
 wn:(M.p k).x.dE=w
 sd:(M.p k).x.aJ=cm
 l1:(M.p k).cc=false->(M.p k).aF.state≠2
 jH:(M.p k).x.now<=n
structure eX(n d w:J)(cm:aa)(M:dV):al where
 ps:∀ k,k<2->∃ F us A,tt n d w cm M k F us A
 oB:∀ k x,x∈M.bG k->x.toNat<=63
 vZ:∀ k:J,k<2->∀ t∈M.cs.get k,∃ m,t=dr m/\jg (w+d) (M.bG (1-k)) (bS (M.p (1-k))) m
 ss:∀ k:J,(M.cs.get k).length<=64
 lost:0<=M.cs.lost/\M.cs.lost<=10*n
def Tj{bG:J->ah aT}(h:∀ k x,x∈bG k->x.toNat<=63)(k j:J):0<=fC bG k j/\fC bG k j<=63:=by
 unfold fC;rw[oV];cases e:(bG k)[j]? with
 | none=>show(0:aa)<=((0:aT).toNat:aa)/\((0:aT).toNat:aa)<=63;decide
 | some x=>
  have:=h k x (kX e)
  show(0:aa)<=(x.toNat:aa)/\(x.toNat:aa)<=63;omega
def b8.Qn{s:bM}{F:J}{ba a us:J->J->aa}(h:b8 s F ba us)(ak:∀ k j,0<=a k j/\a k j<=63)(b:∀ k,k<2->∀ j,j<(s.x.f k).next->ba k j=a k j):b8 s F a us:=by
 have hm:=h.aN;obtain⟨i,l,m,n,z,o,d,p,e,bR,q,r,g,t,u,v,w,y,b6⟩:=h;refine⟨i.congr b (λ_ _ _ _ _=>rfl) (λ_ _ _=>rfl),l,m,n,ak,o,d,p,e,bR,λj c=>(q j c).trans (b _ hm j ?_),λj c=>(r j c).trans (b _ U j ?_),g,t,u,v,w,y,b6⟩
 .unfold dc at d;omega
 unfold bS fv at e g;omega
def IN(bG:J->ah aT)(k:J)(v:aT):fC (bZ bG k (bG k++[v]))=λi=>if i=k then bZ (fC bG k) (bG k).length v.toNat else fC bG i:=by
 funext i j
 unfold fC bZ;by_cases e:i=k
 .subst e;rw[aE rfl,aE rfl,oV,getElem?_append];by_cases h:j<(bG i).length
  .rw[aE h,aB U,<-oV]
  rw[aB h];by_cases h2:j=(bG i).length
  .rw[aE h2,h2,Al];rfl
  rw[aB h2,s9 b1];show _=(((bG i).getD j 0).toNat:aa);rw[oV,s9 U]
 rw[aB e,aB e]
def two{k:J}(h:k<2):1-k<2/\1-(1-k)=k/\1-k≠k/\(1:aa)-(k:aa)=((1-k:J):aa):=U
def tt.cz{n b d w:J}{cm:aa}{M fp:dV}{k F:J}{us:J->J->aa}{A:J}(h:tt n d w cm M k F us A)(hk:k<2)(av:n<=b)(a:fp.p k=M.p k)(e:fp.bG k=M.bG k)(ak:∀ k x,x∈fp.bG k->x.toNat<=63)(g:M.bG (1-k) <+: fp.bG (1-k))(O:bS (M.p (1-k))<=bS (fp.p (1-k))):tt b d w cm fp k F us A:=by
 have hm:=h.aN;have⟨o,q,s,t,f,L,u,v,y,bR,z,B,N⟩:=h
 have:=g.length_le
 have K:b8 (M.p k) F (fC fp.bG) us:=o.Qn (Tj ak) λi ax j P=>by
  unfold fC
  have:i=k\/i=1-k:=U
  rcases this with c|c
  .rw[c,e]
  subst c;obtain⟨r,m⟩:=g;have l:j<(M.bG (1-k)).length:=by unfold bS fv at f;rw[hm]at f;omega
  exact MC
 have H:LkI b k (M.bG k) (bS (M.p k)) A (M.p k).aF:=by
  have⟨b6,bw,eC,dY,fV,ek,c2,fI,fq,d1,d2,C,D,E,G⟩:=s;exact⟨b6,bw,eC,U,U,U,U,U,fq,d1,d2,C,D,E,G⟩
 exact⟨by rw[a];exact K,by rw[a];exact q,by rw[a,e];exact H,by rw[a,e];exact t,by rw[a];omega,U,by rw[a];exact u,by rw[a];exact v,by rw[a];exact y,by rw[a];exact bR,by rw[a];exact z,by rw[a];exact B,by rw[a];omega⟩
def yw(s:cY)(a:aa)(L:ah ch)(k:J)(hk:k<2)(aK:iJ a):(s.put a L).get k=if (k:aa)=a then L else s.get k:=by
 unfold cY.put cY.get iJ at *;rcases aK with rfl|rfl
 .by_cases e:(k:aa)=0
  .rw[aE rfl,aE e,aE e]
  rw[aE rfl,aB e,aB e,aB e]
 have h1:¬ (1:aa)=0:=U;by_cases e:(k:aa)=0
 .have h2:¬ (k:aa)=1:=U;rw[aB h1,aE e,aE e,aB h2]
 have h2:(k:aa)=1:=U;rw[aB h1,aB e,aB e,aE h2]
def Xv(s:cY)(b:aa)(t:ch)(k:J)(hk:k<2)(c:(s.get k).length<=64):(∀ x∈(hT s 64 b t).get k,x∈s.get k\/((k:aa)=b/\x=t))/\((hT s 64 b t).get k).length<=64/\s.lost<=(hT s 64 b t).lost/\(hT s 64 b t).lost<=s.lost+1:=by
 unfold hT;split
 .rename_i h;split
  .rename_i h2;rw[yw _ _ _ _ hk h.1];have d:(s.put b (s.get b++[t])).lost=s.lost:=by unfold cY.put;split<;>rfl
   rw[d];refine⟨λx a=>?_,?_,jw _,U⟩
   .split at a
    .rename_i e;rcases eJ.1 a with a|a
     .rw[<-e]at a;exact .inl a
     exact .inr ⟨e,gC.1 a⟩
    exact .inl a
   split
   .rw[cx,jd];omega
   exact c
  exact⟨λx a=>.inl a,c,by show s.lost<=s.lost+1;omega,jw _⟩
 exact⟨λx a=>.inl a,c,jw _,U⟩
theorem wN(a:aa)(k:J)(hk:k<2):∀ (b:ah a6) (s:cY),(s.get k).length<=64->(∀ x∈(gO s a b).get k,x∈s.get k\/((k:aa)=a/\∃ m∈b,x=dr m))/\((gO s a b).get k).length<=64/\s.lost<=(gO s a b).lost/\(gO s a b).lost<=s.lost+b.length
 | [],s,c=>⟨λx d=>.inl d,c,jw _,by simp[gO]⟩
 | m :: r,s,c=>by
  obtain⟨h1,h2,o,p⟩:=Xv s a (dr m) k hk c;obtain⟨g1,f,l,n⟩:=wN a k hk r (hT s 64 a (dr m)) h2;have e:gO s a (m :: r)=gO (hT s 64 a (dr m)) a r:=rfl;rw[e];refine⟨λx d=>?_,f,U,by rw[dy];omega⟩;rcases g1 x d with h|⟨h,y,j,i⟩
  .rcases h1 x h with h|⟨h,g⟩
   .exact .inl h
   exact .inr ⟨h,m,nS,g⟩
  exact .inr ⟨h,y,kx _ j,i⟩
def j_(v:J->aa):J->J
 | 0=>0
 | k+1=>j_ v k+if v (24+k*6+4)=0 then 0 else 1
theorem KP(v:J->aa):∀ n,j_ v n<=n
 | 0=>bx
 | n+1=>by
  have:=KP v n
  unfold j_;split<;>omega
theorem wS{v v':J->aa}:∀ n,(∀ k,k<n->v' (24+k*6+4)=v (24+k*6+4))->j_ v' n=j_ v n
 | 0,_=>rfl
 | n+1,h=>by
  unfold j_;rw[wS n λk hk=>h k U,h n U]
theorem C6{v v':J->aa}(k:J):∀ n,(∀ j,j<n->j≠k->v' (24+j*6+4)=v (24+j*6+4))->j_ v' n+(if k<n/\v (24+k*6+4)≠0 then 1 else 0)=j_ v n+(if k<n/\v' (24+k*6+4)≠0 then 1 else 0)
 | 0,_=>by simp[j_]
 | n+1,h=>by
  have d:=C6 k n λj f av=>h j U av;unfold j_;by_cases e:k=n
  .subst e;rw[if_neg (λc=>nW _ c.1),if_neg (λc=>nW _ c.1)]at d;by_cases a:v (24+k*6+4)=0<;>by_cases b:v' (24+k*6+4)=0<;>simp[a,b]<;>omega
  rw[h n U λc=>e c.symm];simp only[show(k<n+1)=(k<n)from propext U];omega
def o_(fr:aa)(xs:ah aC)(e:aC):(ih fr xs e).length<=xs.length+1:=by
 unfold ih;split
 .omega
 split
 .omega
 unfold lg;rw[qG,nR,gB,gg];omega
def fA(s:(J->aa)×ah aC):J:=s.2.length+2*j_ s.1 6
def vQ{s t:(J->aa)×ah aC}(n:J)(h:∀ j,24<=j->t.1 j=s.1 j)(a:t.2.length<=s.2.length+n):fA t<=fA s+n:=by
 unfold fA;rw[wS (v:=s.1) (v':=t.1) 6 λk _=>h _ U];omega
theorem HG(v:J->aa):∀ n k j,pd v k n=some j->v (24+j*6+4)=0
 | 0,k,j,h=>nomatch h
 | n+1,k,j,h=>by
  unfold pd at h;split at h
  .cases h;assumption
  exact HG v n _ j h
def P1(i:J)(ax:i<2)(fr:aa)(s:(J->aa)×ah aC):fA (om i fr s)<=fA s+3:=by
 unfold om;dsimp only;split
 .omega
 split
 .omega
 rename_i k hk;have a:=HG _ _ _ _ hk;have h1:=Bz _ _ _ _ hk;have d:=o_ fr s.2 (kk (i+1) 1 1 16384 5 0 (s.1 (4+i*10)));unfold fA
 have:=C6 (v:=s.1) (v':=bK (dH (24+k*6) 6 (rC (dt (s.1 (4+i*10)) (h5 (s.1 (4+i*10+4)) 262144)) (dt (s.1 (4+i*10+1)) (h6 (s.1 (4+i*10+4)) 262144)) (h5 (s.1 (4+i*10+4)) 196608) (h6 (s.1 (4+i*10+4)) 196608) (i+1) 40) s.1) (4+i*10+6) 8) k 6 (λj b av=>by rw[c4 _ _ _ _ U,nE _ _ _ _ _ U])
 rw[if_neg (λc=>c.2 a)]at this;split at this<;>dsimp only<;>omega
def P4{c:aa}{v:J->aa}{o:J}(h:na c (λq=>v (o+q)))(i:J)(a:o=4+i*10)(ax:i<2)(bY fr:aa)(xs:ah aC):fA (h' i bY fr (v,xs))<=fA (v,xs)+(1+if (v 0).tmod 8=0 then 1 else 0):=by
 have aw:=(K8 h i a bY fr xs).1;have d:jJ o bY v 0=v 0:=by
  unfold jJ r_ oF lU q6 qA
  repeat (first|split|rw[c4 _ _ _ _ U])
 have aK:(kT i o fr (eo bY 4) (jJ o bY v,xs)).2.length<=xs.length+if (v 0).tmod 8=0 then 1 else 0:=by
  unfold kT;split
  .have b:ir o 8192 (jJ o bY v) 0=v 0:=by unfold ir qA;rw[c4 _ _ _ _ U,c4 _ _ _ _ U,d]
   simp only[b];split
   .rename_i e;rw[if_pos (by simpa using e)];exact o_ _ _ _
   omega
  show xs.length<=_;omega
 have hd:(h' i bY fr (v,xs)).2.length<=(kT i o fr (eo bY 4) (jJ o bY v,xs)).2.length+1:=by
  unfold h' og;simp only[<-a];split
  .exact o_ _ _ _
  omega
 refine vQ (s:=(v,xs)) _ (λj f=>aw.same j U U U U U) ?_;show _<=xs.length+_;omega
def GK{c f r:aa}{v:J->aa}(h:Mid c f r v)(i:J)(ax:i<2)(bY fr:aa)(xs:ah aC):fA (iy i bY fr (v,xs))<=fA (v,xs)+5+if (v 0).tmod 8=0 then 1 else 0:=by
 have h1:fA (nt i fr (h' i bY fr (v,xs)))<=fA (v,xs)+2+if (v 0).tmod 8=0 then 1 else 0:=by
  have ar:=P4 (h.pl _ (lX i ax)) i rfl ax bY fr xs;have b:fA (nt i fr (h' i bY fr (v,xs)))<=fA (h' i bY fr (v,xs))+1:=by
   refine vQ 1 (λj a=>?_) ?_
   .show sw (4+i*10) _ j=_;unfold sw;rw[c4 _ _ _ _ U,c4 _ _ _ _ U,c4 _ _ _ _ U,c4 _ _ _ _ U]
   unfold nt;dsimp only;split
   .exact o_ _ _ _
   omega
  omega
 unfold iy;split
 .refine oX (vQ (s:=(v,xs)) (t:=oa i fr (v,xs)) 1 (λj a=>?_) ?_) U
  .unfold oa;dsimp only;split
   .exact c4 _ _ _ _ U
   dsimp only;rw[nE _ _ _ _ _ U,c4 _ _ _ _ U,c4 _ _ _ _ U]
  unfold oa;dsimp only;split
  .show xs.length<=xs.length+1;omega
  exact o_ _ _ _
 split
 .have:=P1 i ax fr (nt i fr (h' i bY fr (v,xs)))
  omega
 omega
def P0(fr:aa)(s:(J->aa)×ah aC):fA (jj fr s)<=fA s+1:=by
 unfold jj;split
 .omega
 exact vQ 1 (λj a=>by dsimp only;rw[c4 _ _ _ _ U,c4 _ _ _ _ U,c4 _ _ _ _ U,c4 _ _ _ _ U]) (o_ _ _ _)
def P3{c f r:aa}{s:(J->aa)×ah aC}(h:Mid c f r s.1){k:J}(hk:k<6)(fr:aa):fA (qw k fr s)<=fA s:=by
 have⟨v,xs⟩:=s;unfold qw;split
 .exact bx
 rename_i i;have i:v (24+k*6+4)≠0:=i
 -- the shot is still there,or goes
 have aZ:=BS (24+k*6) v;have go:∀ (v':J->aa) (ys:ah aC),(∀ j,j<6->j≠k->v' (24+j*6+4)=v (24+j*6+4))->ys.length<=xs.length+2->fA (dH (24+k*6) 6 (λ_=>0) v',ys)<=fA (v,xs):=λv' ys aU o=>by
  have:=C6 (v:=v) (v':=dH (24+k*6) 6 (λ_=>0) v') k 6 (λj g av=>by rw[nE _ _ _ _ _ U];exact aU j g av)
  rw[if_pos ⟨hk,i⟩,if_neg (λc=>c.2 (mN _ _ _ _ 4 U))]at this;unfold fA;dsimp only;omega
 have l:∀ j,j<6->fZ (24+k*6) v (24+j*6+4)=v (24+j*6+4):=λj g=>aZ.2.2.2 _ U U U;have n:(2-v (24+k*6+4)).toNat<2:=by
  rcases h.px k hk with e|e
  .exact absurd (e 4 U) i
  have:=e.2.2.2.2.1
  simp only[]at this;omega
 split
 .rename_i d;have m:(jk k fr (v,xs)).2=(fZ (24+k*6) v,xs):=by
   unfold jk at d⊢;dsimp only at d⊢;split at d
   .cases d
   split at d
   .cases d
   split at d
   .cases d
   rename_i a b c;rw[if_neg a,if_neg b,if_neg c]
  rw[m];refine gD ?_;unfold fA;rw[wS (v:=v) (v':=fZ (24+k*6) v) 6 λj g=>l j g]
 refine go _ _ (λj g av=>?_) ?_
 .unfold jk;dsimp only;split
  .exact c4 _ _ _ _ U
  split
  .exact l j g
  split
  .refine Eq.trans ?_ (l j g);unfold mA;dsimp only;split
   .exact c4 _ _ _ _ U
   dsimp only;rw[c4 _ _ _ _ U,c4 _ _ _ _ U,c4 _ _ _ _ U]
  exact l j g
 unfold jk;dsimp only;split
 .show xs.length<=_;omega
 split
 .show xs.length<=_;omega
 split
 .unfold mA;dsimp only;split
  .exact oX (o_ _ _ _) U
  exact oX (o_ _ _ _) (Nat.succ_le_succ (o_ _ _ _))
 show xs.length<=_;omega
theorem GM{c f r:aa}{s:(J->aa)×ah aC}(h:Mid c f r s.1)(fr:aa):∀ k:J,k<=6->fA (ja fr s k)<=fA s
 | 0,_=>bx
 | k+1,hk=>oX (P3 (yR h fr k U) U fr) (GM h fr k U)
def P2(fr:aa)(s:(J->aa)×ah aC):fA (kp fr s)<=fA s+1:=by
 unfold kp;split
 .exact oX (vQ 0 (λj a=>c4 _ _ _ _ U) bx) U
 have b:=o_ fr s.2 (kk 0 7 7 32768 12 0 0);unfold fA;dsimp only
 have:∀ v:J->aa,j_ (dH 24 36 (λ_=>0) v) 6=0:=λv=>by
  have h1:=wS (v:=λ_=>(0:aa)) (v':=dH 24 36 (λ_=>0) v) 6 λk hk=>by
   rw[show 24+k*6+4=24+(k*6+4)by omega];exact mN _ _ _ _ _ U
  rw[h1];rfl
 rw[this];omega
def P5{f r:aa}{v:J->aa}(h:Mid 2 f r v)(a b:aa):(ks a b v).length+2*j_ (iL a b v) 6<=12+(if (v 0).tmod 8=0 then 2 else 0)+2*j_ v 6:=by
 have⟨s1,c⟩:=cT (iy 0 a (v 0) (v,[]));have⟨s2,d⟩:=cT (iy 1 b (v 0) s1);have g:Mid 2 f r s1.1:=by rw[c];exact uj h 0 U a (v 0) []
 have i:Mid 2 f r s2.1:=by rw[d];exact uj g 1 U b (v 0) s1.2
 have b6:fA s1<=fA (v,[])+5+if (v 0).tmod 8=0 then 1 else 0:=by rw[c];exact GK h 0 U a (v 0) []
 have bw:fA s2<=fA s1+5+if (s1.1 0).tmod 8=0 then 1 else 0:=by rw[d];exact GK g 1 U b (v 0) s1.2
 rw[g.f0,<-h.f0]at bw;have j:Mid 2 f r (jj (v 0) s2).1:=Ci i (v 0) s2.2;have eC:=P0 (v 0) s2;have dY:=GM j (v 0) 6 bx;have fV:=P2 (v 0) (ja (v 0) (jj (v 0) s2) 6);have e:fA (stepG a b (v 0) v)=(ks a b v).length+2*j_ (iL a b v) 6:=by
  unfold fA ks iL;rw[wS (v:=(stepG a b (v 0) v).1) 6 λk _=>c4 _ _ _ _ U]
 have l:fA (v,([]:ah aC))=2*j_ v 6:=rY _;unfold stepG at e;rw[<-c,<-d]at e;by_cases z:(v 0).tmod 8=0
 .rw[if_pos z]at *;omega
 rw[if_neg z]at *;omega
def kD(T:J->ah aC)(a:J):J->J
 | 0=>0
 | n+1=>kD T a n+(T (a+n)).length
theorem GL(us:J->J->aa){aJ:aa}(aw:0<=aJ/\aJ<=4294967295)(a:J):∀ n,kD (fJ us aJ) a n+2*j_ (hx us aJ (a+n)) 6+2*((a+7) / 8)<=12*n+2*((a+n+7) / 8)+2*j_ (hx us aJ a) 6
 | 0=>by simp[kD];omega
 | n+1=>by
  have d:=GL us aw a n;obtain⟨r,hm,_⟩:=sF us aw (a+n);have h:=P5 hm (us 0 (a+n)) (us 1 (a+n));rw[hm.f0]at h;unfold kD;have e:(ks (us 0 (a+n)) (us 1 (a+n)) (hx us aJ (a+n))).length=(fJ us aJ (a+n)).length:=rfl;have b:iL (us 0 (a+n)) (us 1 (a+n)) (hx us aJ (a+n))=hx us aJ (a+(n+1)):=rfl;rw[e,b]at h;have c:(((a+n:J):aa).tmod 8=0)=((a+n)%8=0):=by rw[oS U];exact propext U
  simp only[c]at h;split at h<;>omega
def A7(us:J->J->aa){aJ:aa}(aw:0<=aJ/\aJ<=4294967295)(a n:J):kD (fJ us aJ) a n+2*((a+7) / 8)<=12*n+2*((a+n+7) / 8)+12:=by
 have h:=GL us aw a n
 have:=KP (hx us aJ a) 6
 omega
theorem x4{T T':J->ah aC}(a:J):∀ n,(∀ j,a<=j->j<a+n->T j=T' j)->kD T a n=kD T' a n
 | 0,_=>rfl
 | n+1,h=>by
  unfold kD;rw[x4 a n λj h1 h2=>h j h1 U,h (a+n) U U]
theorem A6(T:J->ah aC)(a m:J):∀ n,kD T a (m+n)=kD T a m+kD T (a+m) n
 | 0=>rfl
 | n+1=>by
  show kD T a (m+n)+(T (a+(m+n))).length=kD T a m+(kD T (a+m) n+(T (a+m+n)).length);rw[A6 T a m n,hZ a m n];omega
def xR(T:J->ah aC)(a:J):J->ah aC
 | 0=>[]
 | n+1=>xR T a n++T (a+n)
theorem F6(T:J->ah aC)(a:J):∀ n,(xR T a n).length=kD T a n
 | 0=>rfl
 | n+1=>by
  unfold xR kD;rw[qG,F6 T a n]
end Go.Proofs.YtalagblioepadaaGreatDoor
