/- The proof, part 42. -/
import Derived.Test.YtalagblioepadaaGreatDoorZb40
namespace Go.Proofs.YtalagblioepadaaGreatDoor
set_option linter.all false
open Proofs.Tryz List Go.RowKit
set_option maxRecDepth 100000
def Lq{p:ak}(h:p:=by
 rw[<-m,oe,oe,getElem?_append,aD l]
 ):p:=h
def LA{p:ak}(h:p:=by
 exact⟨⟨h.x,h.hd,h.aS,h.bd,h.b2,h.fX⟩,by show p.2.length<=_;omega⟩
 ):p:=h
def LG{p:ak}(h:p:=by
 rw[h 0 U n U,h 1 U n U,B0 aO n λk hk j a=>h k hk j U]
 ):p:=h
def LH{p:ak}(h:p:=by
 have⟨d,hd,h⟩:=a c aq;exact⟨d,ft.2 (.inl hd),h⟩
 ):p:=h
def iZ(us:J->J->aa)(aO:aa):J->J->aa
 | 0=>k2 aO 0
 | j+1=>jI (us 0 j) (us 1 j) (iZ us aO j)
def hT(us:J->J->aa)(aO:aa)(j:J):ah aC:=mj (us 0 j) (us 1 j) (iZ us aO j)
theorem B0{us cN:J->J->aa}(aO:aa):∀ n,(∀ k,k<2->∀ j,j<n->us k j=cN k j)->iZ us aO n=iZ cN aO n
 | 0,_=>rfl
 | n+1,h=>by
  unfold iZ;exact LG
def Az{us cN:J->J->aa}(aO:aa)(n:J)(h:∀ k,k<2->∀ j,j<=n->us k j=cN k j):hT us aO n=hT cN aO n:=by
 unfold hT;exact LG
theorem tX(us:J->J->aa){aO:aa}(ax:0<=aO/\aO<=4294967295):∀ j:J,∃ r,Mid 2 j r (iZ us aO j)/\0<=r/\r<=j
 | 0=>⟨0,SS aO ax,lU,lU⟩
 | j+1=>by
  obtain⟨r,h1,h2,b⟩:=tX us ax j;obtain⟨r',a,c,d⟩:=mid_step h1 (us 0 j) (us 1 j);exact⟨r',a,U,U⟩
def Vy(us:J->J->aa){aO:aa}(ax:0<=aO/\aO<=4294967295)(j:J):iZ us aO j 0=j:=by
 have⟨r,h,_⟩:=tX us ax j;exact h.f0
def rJ(us:J->J->aa){aO:aa}(ax:0<=aO/\aO<=4294967295)(j:J):eH j (hT us aO j):=by
 have h:=TY (us 0 j) (us 1 j) (iZ us aO j);rw[Vy us ax]at h;exact h
structure cb(s:bO)(F:J)(ba us:J->J->aa):ak where
 hR:CW s.x F ba us (iZ us s.x.aO)
 aO:0<=s.x.aO/\s.x.aO<=4294967295
 aJ:s.x.aJ<2
 mB:s.x.eD<=8/\1<=s.x.dA/\s.x.dA<=16
 en:∀ k j,0<=ba k j/\ba k j<=63
 Kk:∀ k j,0<=us k j/\us k j<=63
 ab:s.x.now<=c4 s/\c4 s<=s.x.now+s.x.eD
 oT:s.x.now<=bT s+s.x.dA
 ju:F<=s.x.now/\s.x.now<=F+s.x.dA+2/\F<=bT s/\bT s<=F+64
 uW:F=0\/(F<bT s/\F<s.x.now)
 Cy:∀ j,j<s.x.now->us s.x.aJ j=ba s.x.aJ j
 sn:∀ j:J,j<F\/(j:aa)<=s.ld.aS->us (1-s.x.aJ) j=ba (1-s.x.aJ) j
 aS:-1<=s.ld.aS/\s.ld.aS<s.x.now/\s.ld.aS<bT s
 hd:s.ld.hd=s.b'
 most:1<=s.ld.most/\s.ld.most<=256
 ef:fg s.ld.bd
 lp:(s.ld.bd.length:aa)<=s.ld.most
 b2:∀ j:aa,s.ld.b2 j=if s.ld.aS<j/\j<s.x.now then hT us s.x.aO j.toNat else []
 lt:∀ e∈s.ld.bd,e∈s.ld.b2 e.k.fr
def xW{ba:J->aa}(h:∀ j,0<=ba j/\ba j<=63)(n j:J):0<=jC ba n j/\jC ba n j<=63:=by
 unfold jC pJ;split
 .exact h j
 split
 .omega
 exact h _
def jJ(x:ck)(ba us:J->J->aa)(g e:J):J->J->aa:=λi j=>if g<=j/\j<e then jC (ba i) (x.f i).next j else us i j
def BU(x:ck)(n:J):(iX x n).aO=x.aO/\(iX x n).eD=x.eD/\(iX x n).dA=x.dA/\(iX x n).aJ=x.aJ/\(iX x n).now=x.now/\∀ i,((iX x n).f i).next=(x.f i).next:=by
 refine⟨rfl,rfl,rfl,rfl,rfl,λi=>?_⟩;show(if i<2 then o5 (x.f i) n else x.f i).next=_;split<;>rfl
theorem tT(x:ck)(g:J):∀ k,(replay x g k).aO=x.aO/\(replay x g k).eD=x.eD/\(replay x g k).dA=x.dA/\(replay x g k).aJ=x.aJ/\(replay x g k).now=x.now/\∀ i,((replay x g k).f i).next=(x.f i).next
 | 0=>⟨rfl,rfl,rfl,rfl,rfl,λ_=>rfl⟩
 | k+1=>by
  obtain⟨a,b,c,d,e,h⟩:=tT x g k;obtain⟨bP,j,l,m,n,o⟩:=BU (replay x g k) (g+k);exact⟨bP.trans a,j.trans b,l.trans c,m.trans d,n.trans e,λi=>(o i).trans (h i)⟩
theorem xv{x:ck}{F:J}{ba us:J->J->aa}(h:CW x F ba us (iZ us x.aO)){g:J}(a1:F<=g)(d:x.now<F+64):∀ k,g+k<=x.now->CW (replay x g k) F ba (jJ x ba us g (g+k)) (λj=>if j<=g+k then iZ (jJ x ba us g x.now) x.aO j else iZ us x.aO j)
 | 0,_=>by
  refine h.congr (λ_ _ _ _=>rfl) (λk _ j _ _=>?_) (λj _ _=>?_)
  .unfold jJ;rw[aA U]
  split
  .refine B0 _ _ λk _ i av=>?_;unfold jJ;rw[aA U]
  rfl
 | k+1,hk=>by
  obtain⟨_,_,_,_,e,a⟩:=tT x g k;refine((xv h a1 d k U).UR (n:=g+k) U U U).congr (λ_ _ _ _=>rfl) (λi _ j _ _=>?_) (λj _ _=>?_)
  .unfold b1 jJ;rw[a];split
   .rw[aD U];subst j;rfl
   split
   .rw[aD U]
   rw[aA U]
  unfold b1;by_cases b:j=g+k+1
  .subst b;rw[aD rfl,aD bA,a,a,aD U];show _=jI (jJ x ba us g x.now 0 (g+k)) (jJ x ba us g x.now 1 (g+k)) _;unfold jJ;rw[aD U,aD U]
  rw[aA b];by_cases c:j<=g+k
  .exact(aD c).trans (aD U).symm
  exact(aA c).trans (aA U).symm
def BF{x:ck}{F:J}{ba us:J->J->aa}(h:CW x F ba us (iZ us x.aO)){g:J}(a1:F<=g)(b:x.now<F+64)(k:J)(hk:g+k<x.now):hY (replay x g k) (g+k)=hT (jJ x ba us g x.now) x.aO (g+k):=by
 have h1:=xv h a1 b k U;have⟨_,_,_,_,c,a⟩:=tT x g k;unfold hY hT;rw[h1.gQ U U,h1.dy (k:=0) U U,h1.dy (k:=1) U U,a,a,aD bA];unfold jJ;rw[aD U,aD U]
def Oy{x:ck}{F:J}{ba us:J->J->aa}(h:CW x F ba us (iZ us x.aO))(ax:0<=x.aO/\x.aO<=4294967295)(b:∀ k j,0<=ba k j/\ba k j<=63){g:J}(a1:F<=g)(c:x.now<F+64)(au:x.now<=100000)(k:J)(hk:g+k<x.now):Can (replay x g k) (g+k):=by
 have h1:=xv h a1 c k U;have⟨_,_,_,_,d,f⟩:=tT x g k;have e:=h1.gQ (n:=g+k) U U;refine⟨by rw[e];exact h1.st U U,?_,U,λj a=>?_,λj a=>by rw[h1.first a];omega,?_⟩
 .rw[e,aD bA];exact tX _ ax _
 .rw[h1.dy a U];exact(xW (b j) _ _).2
 rw[h1.eT];unfold e8;omega
def yP{most now:aa}{L:ah aC}(h:fg L)(xs:ah aC):fg (fp most now L xs).1/\∀ x∈(fp most now L xs).1,x∈xs\/(x∈L/\∀ e∈xs,e.k≠x.k):=by
 rw[<-oo xs]
 induction xs.reverse with
 | nil=>exact⟨h,λx a=>.inr ⟨a,λe j=>by simp at j⟩⟩
 | cons e l g=>
  rw[om,se];refine⟨W5 g.1 e,λx a=>?_⟩;have n:x=e\/(x∈(fp most now L l.reverse).1/\x.k≠e.k):=by
   have bj:=g.1;revert a;generalize (fp most now L l.reverse).1=M at bj;intro a;unfold lJ at a;split at a
   .rename_i o f;split at a
    .rename_i m;by_cases hk:x.k=e.k
     .left;have h1:=P7 bj a;rw[hk,f]at h1;cases h1;exact m
     exact .inr ⟨a,hk⟩
    exact H5.1 a
   rename_i f;split at a
   .exact .inr ⟨a,AH f x a⟩
   exact H5.1 a
  rcases n with rfl|⟨h1,h2⟩
  .exact .inl aI
  rcases g.2 x h1 with b|⟨b,i⟩
  .exact .inl (by simp[mem_reverse.1 b])
  refine .inr ⟨b,λd hd=>?_⟩;rcases ft.1 hd with hd|hd
  .exact i d hd
  simp at hd;subst hd;exact λc=>h2 c.symm
def J1{most now:aa}{L:ah aC}(h:fg L)(a:(L.length:aa)<=most)(xs:ah aC):((fp most now L xs).1.length:aa)<=most:=by
 rw[<-oo xs]
 induction xs.reverse with
 | nil=>exact a
 | cons e l b=>
  rw[om,se];exact W6 (yP h l.reverse).1 b e
structure uY(s:cH):ak where
 ef:fg s.bd
 lp:(s.bd.length:aa)<=s.most
 lt:∀ e∈s.bd,e∈s.b2 e.k.fr
def uY.tell{s:cH}(h:uY s)(fr:aa)(xs:ah aC)(p:∀ e∈xs,e.k.fr=fr):uY (o6 s fr xs):=by
 have bj:fg (hS s.bd (gy xs (gA s.bd fr))):=vm h.ef _;have o:((hS s.bd (gy xs (gA s.bd fr))).length:aa)<=s.most:=by
  have:=(rG s.bd (gy xs (gA s.bd fr))).length_le
  have:=h.lp
  omega
 obtain⟨h1,h2⟩:=yP (most:=s.most) (now:=0) bj xs;refine⟨h1,J1 bj o xs,λe m=>?_⟩;show e∈h4 s.b2 fr xs e.k.fr;unfold h4;rcases h2 e m with a|⟨a,g⟩
 .rw[aD (p e a)];exact a
 have c:=(rG _ _).subset a;rw[aA]
 .exact h.lt e c
 intro n;have i:e∈gA s.bd fr:=by unfold gA;exact fR.2 ⟨c,by simpa using n⟩
 have j:stays xs e=false:=by
  rw[<-C0];intro ax;have⟨d,hd,b⟩:=zg.1 ax;unfold uf at b;simp only[ee,gg]at b;exact g d hd b.1
 have l:e∈gy xs (gA s.bd fr):=by unfold gy;exact fR.2 ⟨i,by simp[j]⟩
 have f:=(fR.1 a).2;simp only[nd,sJ]at f;exact f ⟨e,l,rfl⟩
def Gs{α β:Type}(f:β->α->β)(b:β)(l:List α)(a:α):(l++[a]).foldl f b=f (l.foldl f b) a:=by rw[nj];rfl
structure rr(s:bO)(us cN:J->J->aa)(g e:J)(p:ct):ak where
 x:p.1.x=s.x
 rest:p.1={s with ld:=p.1.ld}
 aS:p.1.ld.aS=s.ld.aS
 hd:p.1.ld.hd=s.ld.hd
 most:p.1.ld.most=s.ld.most
 x7:uY p.1.ld
 b2:∀ j:aa,p.1.ld.b2 j=if s.ld.aS<j/\j<s.x.now then(if (g:aa)<=j/\j<e then hT cN s.x.aO j.toNat else hT us s.x.aO j.toNat)else []
def rr.step{s:bO}{us cN:J->J->aa}{g e:J}{p:ct}(ax:0<=s.x.aO/\s.x.aO<=4294967295)(h:rr s us cN g e p)(c:g<=e)(b:e<s.x.now)(aq:s.ld.aS<e):rr s us cN g (e+1) (jk s.x.now p (e,hT cN s.x.aO e)):=by
 refine⟨h.x,?_,h.aS,h.hd,h.most,h.x7.tell _ _ λd hd=>((rJ cN ax e).2.2 d hd).2,λj=>?_⟩
 .exact cV (λq:bO=>{q with ld:=o6 p.1.ld e (hT cN s.x.aO e)}) h.rest
 show h4 p.1.ld.b2 e _ j=_;unfold h4;by_cases a:j=e
 .subst a;rw[aD rfl,aD ⟨aq,U⟩,aD ⟨U,U⟩];rfl
 rw[aA a,h.b2];split
 .by_cases h2:(g:aa)<=j/\j<e
  .rw[aD h2,aD U]
  rw[aA h2,aA U]
 rfl
theorem Ka{s:bO}{us cN:J->J->aa}(ax:0<=s.x.aO/\s.x.aO<=4294967295){g:J}{P:J->J×ah aC}(b:∀ k,g+k<s.x.now->P k=(g+k,hT cN s.x.aO (g+k)))(aq:s.ld.aS<g)(a:rr s us cN g g (s,[])):∀ k,g+k<=s.x.now->rr s us cN g (g+k) (((range k).map P).foldl (jk s.x.now) (s,[]))
 | 0,_=>a
 | k+1,hk=>by
  rw[q',jO,zn,Gs,b k U];show rr s us cN g (g+k+1) _;exact(Ka ax b aq a k U).step ax U U U
def r0{s:bO}{F:J}{ba us:J->J->aa}(h:cb s F ba us):∃ cN,cb (cW s).1 F ba cN/\(∀ j,j<s.x.now->j<bT s->cN (1-s.x.aJ) j=ba (1-s.x.aJ) j)/\(∀ i j:J,(j:aa)<=s.ld.aS\/j<F->cN i j=us i j)/\
  (cW s).1.x.now=s.x.now/\(cW s).1.x.aJ=s.x.aJ/\(cW s).1.x.eD=s.x.eD/\(cW s).1.x.dA=s.x.dA/\(cW s).1.x.aO=s.x.aO/\(∀ i,((cW s).1.x.f i).next=(s.x.f i).next)/\
  (cW s).1.aE=s.aE/\(cW s).1.ld.aS=s.ld.aS/\(cW s).1.b'=s.b'/\(cW s).1.cu=s.cu/\(cW s).1.own=s.own/\(cW s).1.wt=s.wt/\(cW s).1.ld.most=s.ld.most:=by
 have B:=h.aJ;cases hw:fQ s.x with
 | none=>
  have e:cW s=(s,[]):=by unfold cW;rw[hw]
  rw[e];refine⟨us,h,λj a w=>?_,λ_ _ _=>rfl,rfl,rfl,rfl,rfl,rfl,λ_=>rfl,rfl,rfl,rfl,rfl,rfl,rfl,rfl⟩;by_cases Q:j<F
  .exact h.sn j (.inl Q)
  refine K4 λhne=>?_;have h1:i' (fq s.x).K (fq s.x).cR≠none:=by
   unfold fq;rw[h.hR.K U,h.hR.cR U];intro au;refine hne (KQ _ _ _ (s.x.now-F) F (by have:=h.ju;omega) au j _ U a ?_).symm;rw[pZ,aD ⟨U,w⟩]
  exact h1 hw
 | some g=>
  have⟨g1,Y,Z,M,N⟩:=h.hR.CS B h.ju.1 hw;have T:s.ld.aS<g:=by
   rcases Int.lt_or_le s.ld.aS g with c|c
   .exact c
   exact absurd (h.sn g (.inr c)) N
  have R:=h.ju;have S:=h.mB;have⟨cN,d⟩:=cQ (jJ s.x ba us g s.x.now);have⟨u,E,G,H,v,L⟩:=tT s.x g (s.x.now-g);have W:∀ k,g+k<s.x.now->(λj=>(g+j,hY (replay s.x g j) (g+j))) k=(g+k,hT cN s.x.aO (g+k)):=λk hk=>by
   rw[d];show(g+k,_)=_;rw[BF h.hR g1 U k hk]
  obtain⟨s1,b⟩:∃ s1:bO,s1={s with x:=replay s.x g (s.x.now-g)}:=⟨_,rfl⟩;have cy:s1.x.now=s.x.now:=by rw[b];exact v
  have d1:s1.x.aO=s.x.aO:=by rw[b];exact u
  have l:s1.ld=s.ld:=by rw[b]
  have O:rr s1 us cN g g (s1,[]):=⟨rfl,rfl,rfl,rfl,rfl,by rw[l];exact⟨h.ef,h.lp,h.lt⟩,λj=>by rw[l,cy,d1,h.b2];split<;>first|rw[aA U]|rfl⟩;have aN:=Ka (s:=s1) (by rw[d1];exact h.aO) (P:=λj=>(g+j,hY (replay s.x g j) (g+j))) (λk hk=>by rw[d1];exact W k U) (by rw[l];exact T) O (s.x.now-g) U;have e:cW s=((range (s.x.now-g)).map λj=>(g+j,hY (replay s.x g j) (g+j))).foldl (jk s1.x.now) (s1,[]):=by
   unfold cW;rw[hw,b];simp only[];rw[v];rfl
  rw[<-e]at aN;generalize cW s=p at aN;have ar:=aN.rest;have n:p.1.x=replay s.x g (s.x.now-g):=by rw[aN.x,b]
  have V:g+(s.x.now-g)=s.x.now:=U;have y:∀ i,(p.1.x.f i).next=(s.x.f i).next:=λi=>by rw[n];exact L i
  have o:p.1.x.aJ=s.x.aJ:=by rw[n];exact H
  have m:p.1.x.now=s.x.now:=by rw[n];exact v
  have z:p.1.x.eD=s.x.eD:=by rw[n];exact E
  have t:p.1.x.dA=s.x.dA:=by rw[n];exact G
  have A:p.1.x.aO=s.x.aO:=by rw[n];exact u
  have q:p.1.ld.aS=s.ld.aS:=by rw[aN.aS,l]
  have X:c4 p.1=c4 s:=by unfold c4;rw[y,o]
  have r:bT p.1=bT s:=by unfold bT fq;rw[y,o]
  have C:p.1.b'=s.b':=by rw[ar,b]
  refine⟨cN,⟨?_,by rw[A];exact h.aO,by rw[o];exact B,by rw[z,t];exact S,h.en,?_,by rw[m,X,z];exact h.ab,by rw[m,r,t];exact h.oT,by rw[m,r,t];exact R,by rw[m,r];exact h.uW,?_,?_,by rw[q,m,r];exact h.aS,?_,by rw[aN.most,l];exact h.most,aN.x7.ef,aN.x7.lp,?_,aN.x7.lt⟩,
   λj a w=>?_,λi j a=>?_,m,o,z,t,A,y,by rw[ar,b],q,C,by rw[ar,b],by rw[ar,b],by rw[ar,b],by rw[aN.most,l]⟩
  .rw[n];refine(xv h.hR g1 U (s.x.now-g) U).congr (λ_ _ _ _=>rfl) (λi _ j _ a=>by rw[V,d]) (λj _ a=>?_);rw[aD U,d,u]
  .intro i j;rw[d];unfold jJ;split
   .exact xW (h.en i) _ _
   exact h.Kk i j
  .intro j a;rw[o,d];rw[m]at a;unfold jJ;split
   .unfold jC;rw[aD]
    have:=h.ab.1
    unfold c4 at this;omega
   exact h.Cy j a
  .intro j a;rw[o,d];rw[q]at a;unfold jJ;rw[aA U];exact h.sn j a
  .rw[aN.hd,l,C];exact h.hd
  .intro j;rw[aN.b2,q,m,A,cy,l,d1];split
   .rename_i a;by_cases c:(g:aa)<=j
    .rw[aD U]
    rw[aA U];have aq:=h.aS;refine Az _ _ λi _ k hk=>?_;rw[d];unfold jJ;rw[aA U]
   rfl
  .rw[d];unfold jJ;by_cases c:g<=j
   .rw[aD ⟨c,a⟩];exact aD w
   rw[aA U];by_cases D:j<F
   .exact h.sn j (.inl D)
   exact M j U U
  rw[d];unfold jJ;rw[aA U]
def cb.same{s s':bO}{F:J}{ba us:J->J->aa}(h:cb s F ba us)(a:s'.x=s.x)(w:s'.ld=s.ld)(y:s'.b'=s.b'):cb s' F ba us:=by
 have m:c4 s'=c4 s:=by unfold c4;rw[a]
 have t:bT s'=bT s:=by unfold bT;rw[a]
 have⟨b,c,d,e,f,g,i,j,k,bP,l,n,o,p,q,r,u,v,b0⟩:=h;rw[<-a,<-w,<-y,<-m,<-t]at *;exact⟨b,c,d,e,f,g,i,j,k,bP,l,n,o,p,q,r,u,v,b0⟩
def h9(s:bO)(ba us:J->J->aa):ak:=∀ j,j<s.x.now->j<bT s->us (1-s.x.aJ) j=ba (1-s.x.aJ) j
def FK(x:ck)(h:x.aJ<2):iy x=min (x.f x.aJ).next (fq x).next:=by
 unfold iy fq
 have:x.aJ=0\/x.aJ=1:=U
 rcases this with e|e<;>rw[e]
 exact Nat.min_comm _ _
def cb.n0{s:bO}{F:J}{ba us:J->J->aa}(h:cb s F ba us)(au:h9 s ba us):fQ s.x=none/\cY s.x=((min (bT s) s.x.now:J):aa)-1:=by
 have a:=h.hR.CT h.aJ h.ju.1 λj _ h1 h2=>au j h1 h2;refine⟨a,?_⟩;unfold cY;rw[a,FK _ h.aJ]
 have:=h.ab
 unfold c4 at this;show((min (min _ (bT s)) s.x.now:J):aa)-1=_;omega
def cb.halt{s:bO}{F:J}{ba us:J->J->aa}(h:cb s F ba us)(r:aa)(o:ah cg):cb (fN r (s,o)).1 F ba us:=by
 unfold fN;split
 .exact h
 rename_i aR;have hd:s.ld.hd=false:=by rw[h.hd];simpa using aR
 have e:gJ s.ld={s.ld with hd:=true,bd:=[]}:=by unfold gJ;rw[hd];rfl
 simp only[e];obtain⟨a,b,c,d,f,g,i,j,k,bP,l,m,n,u,p,v,w,q,b0⟩:=h;exact⟨a,b,c,d,f,g,i,j,k,bP,l,m,n,rfl,p,Pairwise.nil,by show((([]:ah aC).length:J):aa)<=s.ld.most;simp;omega,q,λ_ t=>nomatch t⟩
def rM(r:aa)(p:ct):(fN r p).1.x=p.1.x/\(fN r p).1.aE=p.1.aE/\(fN r p).1.ld.aS=p.1.ld.aS/\(fN r p).1.cu=p.1.cu/\(p.1.b'=true->fN r p=p)/\(fN r p).1.b'=true/\(fN r p).1.own=p.1.own/\(fN r p).1.wt=p.1.wt/\(fN r p).1.ld.most=p.1.ld.most:=by
 unfold fN;split
 .rename_i h;exact⟨rfl,rfl,rfl,rfl,λ_=>rfl,h,rfl,rfl,rfl⟩
 rename_i h;have e:(gJ p.1.ld).aS=p.1.ld.aS/\(gJ p.1.ld).most=p.1.ld.most:=by
  unfold gJ;split<;>exact⟨rfl,rfl⟩
 exact⟨rfl,rfl,e.1,rfl,λc=>absurd c h,rfl,rfl,rfl,e.2⟩
def cb.hold{s:bO}{F:J}{ba us:J->J->aa}(h:cb s F ba us)(f v:aa)(o:ah cg):cb (ic f v (s,o)).1 F ba us:=by
 unfold ic;split
 .split
  .exact h
  exact h.halt 13 o
 split
 .exact h.same rfl rfl rfl
 exact h
def cb.report{s:bO}{F:J}{ba us:J->J->aa}(h:cb s F ba us)(f:J)(o:ah cg):cb (iY f (s,o)).1 F ba us:=by
 unfold iY;split
 .exact cb.hold (s:={r1 s f with wt:=lf s.wt f}) (h.same rfl rfl rfl) _ _ _
 exact h.same rfl rfl rfl
def Bd(f v:aa)(p:ct):(ic f v p).1.x=p.1.x/\(ic f v p).1.aE=p.1.aE/\(ic f v p).1.ld.aS=p.1.ld.aS/\(ic f v p).1.cu=p.1.cu/\(ic f v p).1.own=p.1.own/\(ic f v p).1.ld.most=p.1.ld.most:=by
 unfold ic;split
 .split
  .exact⟨rfl,rfl,rfl,rfl,rfl,rfl⟩
  have⟨a,b,c,d,_,_,e,_,g⟩:=rM 13 p;exact⟨a,b,c,d,e,g⟩
 split<;>exact⟨rfl,rfl,rfl,rfl,rfl,rfl⟩
def BV(f:J)(p:ct):(iY f p).1.x=p.1.x/\(iY f p).1.aE=lE p.1.aE f (iJ (gQ p.1.x f))/\(iY f p).1.ld.aS=p.1.ld.aS/\(iY f p).1.cu=p.1.cu/\(iY f p).1.ld.most=p.1.ld.most:=by
 unfold iY;split
 .have⟨a,b,c,d,_,e⟩:=Bd f ‹Int› ({r1 p.1 f with wt:=lf p.1.wt f},p.2);exact⟨a,b,c,d,e⟩
 exact⟨rfl,rfl,rfl,rfl,rfl⟩
def FE(L xs:ah aC):∀ x∈(hr L xs).1,x∈L/\∀ e∈xs,e.k≠x.k:=by
 rw[<-oo xs]
 induction xs.reverse with
 | nil=>exact λx a=>⟨a,λ_ f=>by simp at f⟩
 | cons e l g=>
  rw[om,rA];intro x a;obtain⟨h1,h2⟩:=fR.1 a;simp only[nd,sJ,h6,exists_eq_left]at h2;obtain⟨b,c⟩:=g x h1;refine⟨b,λd hd=>?_⟩;rcases ft.1 hd with hd|hd
  .exact c d hd
  simp at hd;subst hd;exact h2
def Ag(L xs:ah aC):(hr L xs).1.Sublist L:=by
 rw[<-oo xs]
 induction xs.reverse with
 | nil=>exact Sublist.refl _
 | cons e l a=>
  rw[om,rA];exact(rG _ _).trans a
def cb.Aj{s:bO}{F:J}{ba us:J->J->aa}(h:cb s F ba us)(au:h9 s ba us)(aq:s.ld.aS<cY s.x):cb {s with ld:=jY s.ld (s.ld.aS+1)} F ba us:=by
 have ax:=(h.n0 au).2;have⟨d,f,g,i,l,m,n,o,p,bP,q,r,z,t,u,v,A,w,b0⟩:=h;refine⟨d,f,g,i,l,m,n,o,p,bP,q,λj a=>?_,⟨by show -1<=s.ld.aS+1;omega,by show s.ld.aS+1<s.x.now;omega,by show s.ld.aS+1<bT s;omega⟩,t,u,v.sublist (Ag _ _),?_,λj=>?_,λe y=>?_⟩
 .rcases a with a|a
  .exact r j (.inl a)
  have a:(j:aa)<=s.ld.aS+1:=a;exact au j U U
 .have:=(Ag s.ld.bd (s.ld.b2 (s.ld.aS+1))).length_le
  show(((hr s.ld.bd (s.ld.b2 (s.ld.aS+1))).1.length:J):aa)<=s.ld.most;omega
 .show h4 s.ld.b2 (s.ld.aS+1) [] j=if s.ld.aS+1<j/\j<s.x.now then _ else _
  unfold h4;by_cases a:j=s.ld.aS+1
  .rw[aD a,aA U]
  rw[aA a,w];by_cases c:s.ld.aS<j/\j<s.x.now
  .rw[aD c,aD U]
  rw[aA c,aA U]
 have⟨h1,h2⟩:=FE _ _ e y;have b:=b0 e h1;show e∈h4 s.ld.b2 (s.ld.aS+1) [] e.k.fr;unfold h4;rw[aA]
 .exact b
 intro c;rw[c]at b;exact h2 e b rfl
theorem cb.eZ{s:bO}{F:J}{ba us:J->J->aa}(h:cb s F ba us)(au:h9 s ba us)(aq:s.ld.aS<cY s.x)(o:ah cg):cb (eZ (s,o)).1 F ba us/\(eZ (s,o)).1.x=s.x/\(eZ (s,o)).1.ld.aS=s.ld.aS+1/\(eZ (s,o)).1.cu=s.cu/\(eZ (s,o)).1.ld.most=s.ld.most:=by
 have h1:=h.Aj au aq;unfold Go.Proofs.YtalagblioepadaaGreatDoor.eZ;simp only[];split
 .have⟨a,_,c,d,e⟩:=BV (s.ld.aS+2).toNat ({s with ld:=jY s.ld (s.ld.aS+1)},o++hQ s.ld (s.ld.aS+1));exact⟨h1.report _ _,a,c,d,e⟩
 exact⟨h1,rfl,rfl,rfl,rfl⟩
theorem cb.settle{F:J}{ba us:J->J->aa}:∀ (n:J) {p:ct},cb p.1 F ba us->h9 p.1 ba us->cY p.1.x<=p.1.ld.aS+n->cb (e0 n p).1 F ba us/\(e0 n p).1.x=p.1.x/\p.1.ld.aS<=(e0 n p).1.ld.aS/\((e0 n p).1.b'=true\/cY p.1.x<=(e0 n p).1.ld.aS)/\(e0 n p).1.cu=p.1.cu/\(e0 n p).1.ld.most=p.1.ld.most
 | 0,p,h,_,f=>⟨h,rfl,jm _,.inr (by show cY p.1.x<=p.1.ld.aS;omega),rfl,rfl⟩
 | n+1,p,h,au,f=>by
  unfold e0;split
  .rename_i aq;exact⟨h,rfl,jm _,by rcases aq with c|c<;>simp_all,rfl,rfl⟩
  rename_i aq;have e:p.1.ld.aS<cY p.1.x:=U;obtain⟨h1,h2,a,b,d⟩:=h.eZ au e p.2;have g:h9 (Go.Proofs.YtalagblioepadaaGreatDoor.eZ p).1 ba us:=by
   unfold h9 bT at *;rw[h2];exact au
  obtain⟨i,j,k,l,m,o⟩:=cb.settle n h1 g (by rw[h2,a];omega);exact⟨i,j.trans h2,zc U k,by rw[<-h2];exact l,m.trans b,o.trans d⟩
def cb.free{s:bO}{F:J}{ba us:J->J->aa}(h:cb s F ba us)(au:h9 s ba us):cb {s with x:=dW s.x} (if cY s.x<0 then F else(cY s.x).toNat) ba us/\s.x.now<=(if cY s.x<0 then F else(cY s.x).toNat)+s.x.dA+1/\(dW s.x).now=s.x.now/\(dW s.x).aJ=s.x.aJ/\∀ k,k<2->((dW s.x).f k).next=(s.x.f k).next:=by
 have⟨D,ax⟩:=h.n0 au;have B:=h.aJ;unfold dW;split
 .exact⟨h.same rfl rfl rfl,by have:=h.oT;have:=h.uW;omega,rfl,rfl,λ_ _=>rfl⟩
 have b:∀ k,k<2->((rF s.x (cY s.x).toNat).f k).next=(s.x.f k).next:=λk hk=>by
  show(if k<2 then oJ (s.x.f k) _ else s.x.f k).next=_;rw[aD hk];rfl
 refine⟨?_,by have:=h.oT;omega,rfl,rfl,b⟩;obtain⟨d,g,i,l,n,o,c,p,C,bP,q,r,u,v,w,y,z,A,b0⟩:=h;have m:c4 {s with x:=rF s.x (cY s.x).toNat}=c4 s:=b _ B;have t:bT {s with x:=rF s.x (cY s.x).toNat}=bT s:=b _ (by show 1-s.x.aJ<2;omega);have hk:∀ k,k<2->(cY s.x).toNat<=(s.x.f k).next:=λk hk=>by
  have:k=s.x.aJ\/k=1-s.x.aJ:=U
  rcases this with e|e
  .have:=c;unfold c4 at this;rw[<-e]at this;omega
  have:bT s=(s.x.f k).next:=by rw[e];rfl
  omega
 refine⟨d.cut U U hk,g,i,l,n,o,by rw[m];exact c,by rw[t];exact p,by rw[t];show _<=s.x.now/\s.x.now<=_+s.x.dA+2/\_;omega,by rw[t];show _\/_<_/\_<s.x.now;omega,q,λj a=>?_,by rw[t];exact u,v,w,y,z,A,b0⟩;rcases a with a|a
 .exact au j U U
 exact r j (.inr a)
structure sT(c:cg):ak where
 bN:1<=c.bN/\c.bN<=4
 cn:fw c.cn=true
 dz:0<=c.dz/\c.dz<=1000000
def hn(L:ah aC):ak:=∀ e∈L,fw e=true
def J0(most now:aa)(L xs:ah aC):∀ c∈(fp most now L xs).2,∃ e∈xs,c=⟨2,e,0,false⟩\/c=⟨1,e,now-e.k.fr,false⟩:=by
 rw[<-oo xs]
 induction xs.reverse with
 | nil=>intro c aq;cases aq
 | cons e l a=>
  rw[om,se];intro c aq;rcases ft.1 aq with aq|aq
  .exact LH
  refine⟨e,aI,?_⟩;revert aq;unfold k3;split<;>split<;>simp<;>intro h<;>simp[h]
def OG(L xs:ah aC):∀ c∈(hr L xs).2,∃ e∈xs,∃ p,c=⟨4,e,0,p⟩:=by
 rw[<-oo xs]
 induction xs.reverse with
 | nil=>intro c aq;cases aq
 | cons e l a=>
  rw[om,rA];intro c aq;rcases ft.1 aq with aq|aq
  .exact LH
  exact⟨e,aI,_,h6.1 aq⟩
def xn{k:aa}(hk:1<=k/\k<=4){e:aC}(a:fw e=true)(p:aY):sT ⟨k,e,0,p⟩:=⟨hk,a,by show(0:aa)<=0/\(0:aa)<=1000000;omega⟩
def Xu{s:cH}(d:hn s.bd){fr now:aa}{xs:ah aC}(b:eH fr xs)(f:0<=fr)(au:fr<=now/\now<=1000000):∀ c∈ks s fr xs now,sT c:=λc aq=>by
 rcases ft.1 aq with aq|aq
 .obtain⟨e,a,rfl⟩:=fu.1 aq;exact xn U (d e (fR.1 (fR.1 a).1).1) _
 obtain⟨e,a,rfl|rfl⟩:=J0 _ _ _ _ c aq
 .exact xn U (b.2.2 e a).1 _
 have:=(b.2.2 e a).2
 exact⟨by show(1:aa)<=1/\(1:aa)<=4;omega,(b.2.2 e a).1,by show 0<=now-e.k.fr/\now-e.k.fr<=1000000;omega⟩
def OE{s:cH}{f:aa}(b:hn (s.b2 f)):∀ c∈hQ s f,sT c:=λc aq=>by
 obtain⟨e,a,p,rfl⟩:=OG _ _ c aq;exact xn U (b e a) _
def Ru{s:cH}(b:hn s.bd):∀ c∈kg s,sT c:=λc aq=>by
 unfold kg at aq;split at aq
 .cases aq
 obtain⟨e,a,rfl⟩:=fu.1 aq;exact xn U (b e a) _
def hn.tell{s:cH}(b:hn s.bd){fr:aa}{xs:ah aC}(c:hn xs)(bj:fg s.bd):hn (o6 s fr xs).bd:=λe a=>by
 have h1:=(yP (most:=s.most) (now:=0) (vm bj (gy xs (gA s.bd fr))) xs).2 e a;rcases h1 with h1|⟨h1,_⟩
 .exact c e h1
 exact b e ((rG _ _).subset h1)
def hn.FC{s:cH}(b:hn s.bd)(f:aa):hn (jY s f).bd:=λe a=>b e (FE _ _ e a).1
def hn.halt{s:cH}(b:hn s.bd):hn (gJ s).bd:=by
 unfold gJ;split
 .exact b
 intro e a;cases a
def cb.Cs{s:bO}{F:J}{ba us:J->J->aa}(h:cb s F ba us)(j:aa):eH j (s.ld.b2 j):=by
 rw[h.b2];split
 .rename_i aq
  have:=rJ us h.aO j.toNat
  have b:((j.toNat:J):aa)=j:=by have:=h.aS;omega
  rwa [b]at this
 exact⟨Pairwise.nil,aI,λe a=>by cases a⟩
def cb.pL{s:bO}{F:J}{ba us:J->J->aa}(h:cb s F ba us):hn s.ld.bd:=λe a=>((h.Cs e.k.fr).2.2 e (h.lt e a)).1
structure hp(x:ck)(p:ct):ak where
 x:p.1.x=x
 hd:p.1.ld.hd=p.1.b'
 aS:-1<=p.1.ld.aS
 bd:hn p.1.ld.bd
 b2:∀ j,hn (p.1.ld.b2 j)/\(p.1.ld.b2 j).length<=64
 fX:p.1.ld.bd.length<=256
theorem hp.halt{x:ck}{p:ct}(h:hp x p)(r:aa):hp x (fN r p)/\(fN r p).2.length<=p.2.length+256:=by
 unfold fN;split
 .exact⟨h,U⟩
 rename_i aR;refine⟨⟨h.x,by show(gJ p.1.ld).hd=true;unfold gJ;rw[(h.hd.trans (show p.1.b'=false by simpa using aR))];rfl,?_,h.bd.halt,?_,?_⟩,?_⟩
 .show -1<=(gJ p.1.ld).aS;unfold gJ;split<;>exact h.aS
 .show ∀ j,hn ((gJ p.1.ld).b2 j)/\((gJ p.1.ld).b2 j).length<=64;unfold gJ;split<;>exact h.b2
 .show(gJ p.1.ld).bd.length<=256;unfold gJ;split
  .exact h.fX
  simp
 rw[cx];unfold kg;split
 .simp
 rw[hh];have:=h.fX;omega
def hp.hold{x:ck}{p:ct}(h:hp x p)(f v:aa):hp x (ic f v p)/\(ic f v p).2.length<=p.2.length+256:=by
 unfold ic;split
 .split
  .exact⟨h,U⟩
  exact h.halt 13
 split
 .exact LA
 exact⟨h,U⟩
def hp.report{x:ck}{p:ct}(h:hp x p)(f:J):hp x (iY f p)/\(iY f p).2.length<=p.2.length+256:=by
 unfold iY;split
 .exact hp.hold (p:=({r1 p.1 f with wt:=lf p.1.wt f},p.2)) ⟨h.x,h.hd,h.aS,h.bd,h.b2,h.fX⟩ _ _
 exact LA
def FD(L xs:ah aC):(hr L xs).2.length<=xs.length:=by
 rw[<-oo xs]
 induction xs.reverse with
 | nil=>simp[hr]
 | cons e l a=>rw[om,rA,sC,sC,iM,iM];omega
def hp.Aj{x:ck}{p:ct}(h:hp x p):hp x ({p.1 with ld:=jY p.1.ld (p.1.ld.aS+1)},p.2++hQ p.1.ld (p.1.ld.aS+1))/\(p.2++hQ p.1.ld (p.1.ld.aS+1)).length<=p.2.length+64:=by
 refine⟨⟨h.x,h.hd,by show -1<=p.1.ld.aS+1;have:=h.aS;omega,h.bd.FC _,λj=>?_,b7 (Ag _ _).length_le h.fX⟩,?_⟩
 .show hn (h4 p.1.ld.b2 (p.1.ld.aS+1) [] j)/\(h4 p.1.ld.b2 (p.1.ld.aS+1) [] j).length<=64;unfold h4;split
  .exact⟨(λ_ a=>nomatch a),aI⟩
  exact h.b2 j
 have:=FD p.1.ld.bd (p.1.ld.b2 (p.1.ld.aS+1))
 have:=(h.b2 (p.1.ld.aS+1)).2
 rw[cx];unfold hQ;omega
def hp.step{x:ck}{p:ct}(h:hp x p):hp x (eZ p)/\(eZ p).2.length<=p.2.length+320/\(eZ p).1.ld.aS=p.1.ld.aS+1:=by
 have⟨h1,h2⟩:=h.Aj;unfold eZ;dsimp only;split
 .have⟨a,b⟩:=h1.report (p.1.ld.aS+2).toNat;have⟨_,_,c,_,_⟩:=BV (p.1.ld.aS+2).toNat ({p.1 with ld:=jY p.1.ld (p.1.ld.aS+1)},p.2++hQ p.1.ld (p.1.ld.aS+1));exact⟨a,by dsimp only at b;omega,c⟩
 exact⟨h1,by dsimp only;omega,rfl⟩
def cb.yQ{p:ct}{F:J}{ba us:J->J->aa}(h:cb p.1 F ba us):hp p.1.x p:=⟨rfl,h.hd,h.aS.1,h.pL,λj=>⟨λe a=>((h.Cs j).2.2 e a).1,(h.Cs j).2.1⟩,by have:=h.lp;have:=h.most;omega⟩
def jf(s:bO)(ba:J->J->aa)(v:aa):J->J->aa:=λi=>if i=s.x.aJ then b1 (ba s.x.aJ) (c4 s) v else ba i
def Bg(s:bO)(ba:J->J->aa)(v:aa)(i j:J)(h:i≠s.x.aJ\/j≠c4 s):jf s ba v i j=ba i j:=by
 unfold jf;split
 .subst i;exact h3 _ _ U
 rfl
def u8_in(v:aQ)(h:v.toNat<=63):0<=((v.toNat:J):aa)/\((v.toNat:J):aa)<=63:=U
def Ae{s:bO}(h:fW s=true):jB s.x=false/\s.aE.state=1/\so s=false:=by
 unfold fW at h;simp only[ee,gg,nd]at h;exact⟨h.2.2,h.1,h.2.1⟩
def cb.room{s:bO}{F:J}{ba us:J->J->aa}(h:cb s F ba us)(aq:jB s.x=false):s.x.now<bT s+s.x.dA:=by
 unfold jB at aq;rw[FK _ h.aJ]at aq;have h1:=DC aq;have h2:=h.ab;unfold bT;omega
theorem cb.step{s:bO}{F:J}{ba us:J->J->aa}(h:cb s F ba us)(au:h9 s ba us)(a':jB s.x=false)(r':s.x.now<=100000)(lb:s.x.now<=F+s.x.dA+1)(v:aQ)(aX:v.toNat<=63)(o:ah cg):∃ cN,cb (lL (eu s v,o)).1 F (jf s ba v.toNat) cN/\h9 (lL (eu s v,o)).1 (jf s ba v.toNat) cN/\(∀ i j,j<s.x.now->cN i j=us i j)/\hY (eu s v).x s.x.now=hT cN s.x.aO s.x.now/\Can (eu s v).x s.x.now:=by
 have ps:=h.room a';have l':=h.ju;have L:=h.aJ;have Y:=h.mB;have fr:=h.ab;have m':=h.aS;have⟨p,r⟩:=cQ (jf s ba v.toNat);have g:CW (gn s.x s.x.aJ v.toNat) F p us (iZ us s.x.aO):=by
  have:=h.hR.put L (show F<=(s.x.f s.x.aJ).next by unfold c4 at fr;omega) v.toNat
  rw[r];exact this
 obtain⟨b,d⟩:=cQ (gn s.x s.x.aJ v.toNat);rw[<-d]at g;have S:b.now=s.x.now:=by rw[d];rfl
 have T:b.aJ=s.x.aJ:=by rw[d];rfl
 have G:b.aO=s.x.aO:=by rw[d];rfl
 have V:b.eD=s.x.eD:=by rw[d];rfl
 have W:b.dA=s.x.dA:=by rw[d];rfl
 have cy:(b.f s.x.aJ).next=c4 s+1:=by
  rw[d];show(eK s.x.f s.x.aJ _ s.x.aJ).next=_;rw[qU];rfl
 have O:(b.f (1-s.x.aJ)).next=bT s:=by
  rw[d];show(eK s.x.f s.x.aJ _ (1-s.x.aJ)).next=_;rw[qT _ _ U];rfl
 obtain⟨cN,B⟩:∃ cN:J->J->aa,cN=λi=>b1 (us i) s.x.now (jC (p i) (b.f i).next s.x.now):=⟨_,rfl⟩;have hold:∀ i j,j<s.x.now->cN i j=us i j:=λi j a=>by rw[B];exact h3 _ _ U
 have t:∀ i,cN i s.x.now=jC (p i) (b.f i).next s.x.now:=λi=>by rw[B];exact i_ _ _ _
 have hrun:∀ j,j<=s.x.now->iZ cN s.x.aO j=iZ us s.x.aO j:=λj a=>B0 _ _ λi _ k hk=>hold i k U;have N:=g.step U U;rw[S]at N;have M:hY b s.x.now=hT cN s.x.aO s.x.now:=by
  unfold hY hT;rw[g.gQ U U,g.dy (k:=0) U U,g.dy (k:=1) U U,hrun _ bA,t,t]
 have C:∀ k j,0<=p k j/\p k j<=63:=λk j=>by
  rw[r];unfold jf;split
  .unfold b1;split
   .exact u8_in v aX
   exact h.en _ _
  exact h.en _ _
 have X:Can b s.x.now:=by
  have e:=g.gQ (n:=s.x.now) U U;refine⟨by rw[e];exact g.st U U,?_,U,λj a=>?_,λj a=>by rw[g.first a];omega,?_⟩
  .rw[e];exact tX _ h.aO _
  .rw[g.dy a U];exact(xW (C j) _ _).2
  rw[g.eT];unfold e8;omega
 obtain⟨q,A⟩:=cQ (lL (eu s v,o)).1;have m:q.x={iX b s.x.now with now:=s.x.now+1}:=by rw[A,d];rfl
 have w:q.ld=o6 s.ld s.x.now (hT cN s.x.aO s.x.now):=by
  rw[A,<-M,d];rfl
 have g':q.b'=s.b':=by rw[A];rfl
 have Q:∀ i,(q.x.f i).next=(b.f i).next:=λi=>by rw[m];exact(BU b s.x.now).2.2.2.2.2 i
 have l:q.x.now=s.x.now+1:=by rw[m]
 have u:q.x.aJ=s.x.aJ:=by rw[m];exact T
 have R:q.x.aO=s.x.aO:=by rw[m];exact G
 have P:q.x.eD=s.x.eD:=by rw[m];exact V
 have E:q.x.dA=s.x.dA:=by rw[m];exact W
 have h2:c4 q=c4 s+1:=by unfold c4;rw[Q,u];exact cy
 have y:bT q=bT s:=by unfold bT fq;rw[Q,u];exact O
 have z:=uY.tell ⟨h.ef,h.lp,h.lt⟩ s.x.now (hT cN s.x.aO s.x.now) λe Z=>((rJ cN h.aO s.x.now).2.2 e Z).2;rw[<-w]at z;have D:q.ld.aS=s.ld.aS:=by rw[w];rfl
 have gf:h9 q p cN:=λj a H=>by
  rw[u];rw[l]at a;rw[y]at H;by_cases c:j=s.x.now
  .rw[c,t,O];unfold jC;rw[aD U]
  rw[hold _ _ U,r,Bg _ _ _ _ _ (.inl U)];exact au j U H
 rw[<-r,<-A,show(eu s v).x=b from d.symm];refine⟨cN,⟨?_,by rw[R];exact h.aO,by rw[u];exact L,by rw[P,E];exact Y,C,?_,by rw[l,h2,P];omega,by rw[l,y,E];omega,by rw[l,y,E];omega,by rw[l,y];have:=h.uW;omega,?_,?_,by rw[D,l,y];omega,by rw[w,g'];exact h.hd,by rw[w];exact h.most,z.ef,z.lp,λj=>?_,z.lt⟩,gf,hold,M,X⟩
 .rw[m];refine N.congr (λ_ _ _ _=>rfl) (λk _ j _ _=>by rw[B]) (λj _ a=>?_);show _=iZ cN b.aO j;rw[G];unfold b1;split
  .rename_i K;rw[K];show _=jI (cN 0 s.x.now) (cN 1 s.x.now) (iZ cN s.x.aO s.x.now);rw[t,t,hrun _ bA]
  rename_i K;have a:j<=s.x.now+1:=a;exact(hrun j U).symm
 .intro i j;rw[B];simp only[];unfold b1;split
  .exact xW (C i) _ _
  exact h.Kk i j
 .intro j a;rw[u];rw[l]at a;by_cases c:j=s.x.now
  .rw[c,t,cy];unfold jC;rw[aD U]
  rw[hold _ _ U,r,Bg _ _ _ _ _ (.inr U)];exact h.Cy j U
 .intro j a;rw[u];rw[D]at a;rw[hold _ _ U,r,Bg _ _ _ _ _ (.inl U)];exact h.sn j a
 rw[D,l,R,w];show h4 s.ld.b2 s.x.now _ j=_;unfold h4;by_cases a:j=s.x.now
 .rw[aD a,aD U,a];rfl
 rw[aA a,h.b2];by_cases c:s.ld.aS<j/\j<s.x.now
 .rw[aD c,aD U];exact(Az _ _ λi _ k hk=>hold i k U).symm
 rw[aA c,aA U]
def cb.Rj{s:bO}{F:J}{ba us:J->J->aa}(h:cb s F ba us)(D:bT s<F+64)(v:aQ)(aX:v.toNat<=63):cb {s with x:=gn s.x (1-s.x.aJ) v.toNat} F (λi=>if i=1-s.x.aJ then b1 (ba (1-s.x.aJ)) (bT s) v.toNat else ba i) us/\bT {s with x:=gn s.x (1-s.x.aJ) v.toNat}=bT s+1/\c4 {s with x:=gn s.x (1-s.x.aJ) v.toNat}=c4 s:=by
 have m:c4 {s with x:=gn s.x (1-s.x.aJ) v.toNat}=c4 s:=by
  show(eK s.x.f (1-s.x.aJ) _ s.x.aJ).next=_;rw[qT _ _ U];rfl
 have t:bT {s with x:=gn s.x (1-s.x.aJ) v.toNat}=bT s+1:=by
  show(eK s.x.f (1-s.x.aJ) _ (1-s.x.aJ)).next=_;rw[qU];rfl
 refine⟨?_,t,m⟩;have hold:∀ i j,j<bT s\/i=s.x.aJ->(λi=>if i=1-s.x.aJ then b1 (ba (1-s.x.aJ)) (bT s) v.toNat else ba i) i j=ba i j:=λi j C=>by
  simp only[];split
  .subst i;exact h3 _ _ U
  rfl
 have ar:=h.hR.put (k:=1-s.x.aJ) U h.ju.2.2.1 v.toNat;have⟨y,c,d,e,b,g,l,z,A,bP,n,o,B,p,q,r,u,w,b0⟩:=h;refine⟨ar,c,d,e,λk j=>?_,g,by rw[m];exact l,by rw[t];show s.x.now<=bT s+1+s.x.dA;omega,by rw[t];show F<=s.x.now/\s.x.now<=F+s.x.dA+2/\_;omega,by rw[t];show F=0\/F<_/\F<s.x.now;omega,λj a=>?_,λj a=>?_,by rw[t];show -1<=s.ld.aS/\s.ld.aS<s.x.now/\s.ld.aS<_;omega,p,q,r,u,w,b0⟩
 .split
  .unfold b1;split
   .exact u8_in v aX
   exact b _ _
  exact b _ _
 .exact(n j a).trans (hold s.x.aJ j (.inr rfl)).symm
 have a:j<F\/(j:aa)<=s.ld.aS:=a;exact(o j a).trans (hold (1-s.x.aJ) j (.inl U)).symm
structure k8(s s':bO):ak where
 aJ:s'.x.aJ=s.x.aJ
 eD:s'.x.eD=s.x.eD
 dA:s'.x.dA=s.x.dA
 aO:s'.x.aO=s.x.aO
 most:s'.ld.most=s.ld.most
def k8.refl(s:bO):k8 s s:=⟨rfl,rfl,rfl,rfl,rfl⟩
theorem k8.trans{a b c:bO}(h:k8 a b)(k:k8 b c):k8 a c:=⟨k.aJ.trans h.aJ,k.eD.trans h.eD,k.dA.trans h.dA,k.aO.trans h.aO,k.most.trans h.most⟩
def k8.halt(r:aa)(p:ct):k8 p.1 (fN r p).1:=by
 have h:=rM r p;exact⟨by rw[h.1],by rw[h.1],by rw[h.1],by rw[h.1],h.2.2.2.2.2.2.2.2⟩
def xV(p:ct):(e7 p).1.x=p.1.x/\(e7 p).1.aE=p.1.aE/\(e7 p).1.ld.aS=p.1.ld.aS/\k8 p.1 (e7 p).1/\(p.1.b'=true->e7 p=p)/\((e7 p).1.b'=false->p.1.aE.state≠2/\e7 p=p):=by
 unfold e7;split
 .have h:=rM 12 p;exact⟨h.1,h.2.1,h.2.2.1,k8.halt 12 p,h.2.2.2.2.1,λc=>by rw[h.2.2.2.2.2.1]at c;cases c⟩
 rename_i ax;exact⟨rfl,rfl,rfl,k8.refl _,λ_=>rfl,λ_=>⟨ax,rfl⟩⟩
def cb.gone{p:ct}{F:J}{ba us:J->J->aa}(h:cb p.1 F ba us):cb (e7 p).1 F ba us:=by
 unfold e7;split
 .exact h.halt 12 p.2
 exact h
structure w8(s:bO)(v:aQ)(F:J)(ba us cN:J->J->aa)(q:bO):ak where
 cG:cb q F (if dL s then jf s ba v.toNat else ba) cN
 gM:h9 q (if dL s then jf s ba v.toNat else ba) cN
 fix:k8 s q
 now:q.x.now=s.x.now+(if dL s then 1 else 0)
 qK:c4 q=c4 s+(if dL s then 1 else 0)
 uh:bT q=bT s
 aS:s.ld.aS<=q.ld.aS
 Im:∀ i j:J,(j:aa)<=s.ld.aS\/j<F->cN i j=us i j
def vQ{s:bO}{F:J}{ba us:J->J->aa}(h:cb s F ba us)(aR:s.b'=false)(Q:s.x.now<=F+s.x.dA+1)(R:s.x.now<=100000)(v:aQ)(aX:v.toNat<=63):∃ cN,w8 s v F ba us cN (eL v (cW s)).1/\(eL v (cW s)).1.b'=false/\(eL v (cW s)).1.aE=(if dL s then j2 s.aE (c4 s) v else s.aE)/\(eL v (cW s)).1.ld.aS=s.ld.aS:=by
 have⟨H,d,M,C,k,a,n,o,p,g,q,t,u,_,_,_,m⟩:=r0 h;have⟨r,y⟩:=cQ (cW s);rw[<-y]at d k a n o p g q t u m;have z:c4 r.1=c4 s:=by unfold c4;rw[g,a]
 have G:bT r.1=bT s:=by unfold bT fq;rw[g,a]
 have cy:h9 r.1 ba H:=λj l A=>by rw[a];rw[k]at l;rw[G]at A;exact M j l A
 have b:dL s=fW r.1:=by unfold dL;rw[aR,<-y];rfl
 rw[<-y];unfold eL;by_cases aq:fW r.1=true
 .rw[aD aq];have⟨L,_,_⟩:=Ae aq;have⟨P,D,E,N,S,T⟩:=d.step cy L U U v aX r.2;have K:jf r.1 ba v.toNat=jf s ba v.toNat:=by unfold jf;rw[a,z]
  rw[K]at D E;have c:(lL (eu r.1 v,r.2)).1.x={iX (gn r.1.x r.1.x.aJ v.toNat) r.1.x.now with now:=r.1.x.now+1}:=rfl;obtain⟨s1,s2,gO,O,V,iH⟩:=BU (gn r.1.x r.1.x.aJ v.toNat) r.1.x.now;have B:∀ i,((lL (eu r.1 v,r.2)).1.x.f i).next=((gn r.1.x r.1.x.aJ v.toNat).f i).next:=λi=>by rw[c];exact iH i
  have w:(lL (eu r.1 v,r.2)).1.x.aJ=s.x.aJ:=by rw[c];exact O.trans a
  refine⟨P,⟨?_,?_,⟨w,by rw[c];exact s2.trans n,by rw[c];exact gO.trans o,by rw[c];exact s1.trans p,m⟩,by rw[c,b,aq];show r.1.x.now+1=_;rw[k];rfl,?_,?_,by show s.ld.aS<=r.1.ld.aS;omega,λi j l=>?_⟩,?_,?_,?_⟩
  .rw[b,aq];exact D
  .rw[b,aq];exact E
  .rw[b,aq];unfold c4;rw[B,w,<-a];show(eK r.1.x.f r.1.x.aJ _ r.1.x.aJ).next=_;rw[qU,a];rw[g];rfl
  .unfold bT fq;rw[B,w,<-a];show(eK r.1.x.f r.1.x.aJ _ (1-r.1.x.aJ)).next=_
   have:=d.aJ
   rw[qT _ _ U,g,a]
  .rw[N i j (by have:=d.aS;have:=d.ju;omega)];exact C i j l
  .show r.1.b'=false;rw[u,aR]
  .show j2 r.1.aE (c4 r.1) v=_;rw[q,z,b,aq];rfl
  exact t
 rw[aA aq];have e:fW r.1=false:=by simpa using aq
 refine⟨H,⟨?_,?_,⟨a,n,o,p,m⟩,by rw[b,e,k];rfl,by rw[b,e,z];rfl,G,U,C⟩,by rw[u,aR],by rw[q,b,e];rfl,t⟩
 .rw[b,e];exact d
 rw[b,e];exact cy
theorem w8.settle{s:bO}{v:aQ}{F:J}{ba us cN:J->J->aa}{p:ct}(h:w8 s v F ba us cN p.1):w8 s v F ba us cN (ji p).1/\((ji p).1.b'=true\/cY (ji p).1.x=(ji p).1.ld.aS):=by
 have⟨c,a,e,b,g,f⟩:=cb.settle (cY p.1.x-p.1.ld.aS).toNat h.cG h.gM U;unfold ji;have au:h9 (e0 (cY p.1.x-p.1.ld.aS).toNat p).1 (if dL s then jf s ba v.toNat else ba) cN:=by
  have:=h.gM
  unfold h9 bT at *;rw[a];exact this
 refine⟨⟨c,au,⟨by rw[a];exact h.fix.aJ,by rw[a];exact h.fix.eD,by rw[a];exact h.fix.dA,by rw[a];exact h.fix.aO,f.trans h.fix.most⟩,by rw[a];exact h.now,by unfold c4;rw[a];exact h.qK,by unfold bT;rw[a];exact h.uh,zc h.aS e,h.Im⟩,?_⟩;rcases b with b|b
 .exact .inl b
 right;have h1:=c.aS;have h2:=(c.n0 au).2;have d:bT (e0 (cY p.1.x-p.1.ld.aS).toNat p).1=bT p.1:=by unfold bT;rw[a]
 rw[a]at h1 h2⊢;rw[d]at h1 h2;omega
def cb.tick{s:bO}{F:J}{ba us:J->J->aa}(h:cb s F ba us)(aR:s.b'=false)(r:s.x.now<=F+s.x.dA+1)(w:s.x.now<=100000)(v:aQ)(aX:v.toNat<=63):∃ j cN,cb (cJ v s).1 j (if dL s then jf s ba v.toNat else ba) cN/\(cJ v s).1.x.now<=j+s.x.dA+1/\k8 s (cJ v s).1/\(cJ v s).1.x.now=s.x.now+(if dL s then 1 else 0)/\c4 (cJ v s).1=c4 s+(if dL s then 1 else 0)/\bT (cJ v s).1=bT s/\s.ld.aS<=(cJ v s).1.ld.aS/\(cJ v s).1.aE=(c5 (dc v s).1.aE (hV {(dc v s).1 with x:=dW (dc v s).1.x})).2/\((cJ v s).1.b'=false->(cJ v s).1.aE.state≠2):=by
 obtain⟨cN,y,_,_,_⟩:=vQ h aR r w v aX;obtain⟨a,_⟩:=y.settle;have em:ji (eL v (cW s))=dc v s:=rfl;rw[em]at a;obtain⟨f1,f2,f3,g,k⟩:=a.cG.free a.gM;have e:cJ v s=l2 (dc v s):=by unfold cJ;rw[aR];rfl
 generalize dc v s=q at *;obtain⟨b,f⟩:∃ b:ct,b=({q.1 with x:=dW q.1.x,aE:=(c5 q.1.aE (hV {q.1 with x:=dW q.1.x})).2},q.2):=⟨_,rfl⟩;have m:cJ v s=e7 b:=by rw[e,f];rfl
 have u:cb b.1 (if cY q.1.x<0 then F else(cY q.1.x).toNat) (if dL s then jf s ba v.toNat else ba) cN:=by rw[f];exact f1.same rfl rfl rfl
 have⟨g1,l,n,o,A,p⟩:=xV b;have d:b.1.x=dW q.1.x:=by rw[f]
 have z:b.1.x.aJ=s.x.aJ:=by rw[d,g];exact a.fix.aJ
 have i:(dW q.1.x).eD=q.1.x.eD/\(dW q.1.x).dA=q.1.x.dA/\(dW q.1.x).aO=q.1.x.aO:=by
  unfold dW;split<;>exact⟨rfl,rfl,rfl⟩
 have t:k8 s b.1:=⟨z,by rw[d,i.1];exact a.fix.eD,by rw[d,i.2.1];exact a.fix.dA,by rw[d,i.2.2];exact a.fix.aO,by rw[f];exact a.fix.most⟩;rw[m];refine⟨_,cN,u.gone,?_,t.trans o,?_,?_,?_,?_,?_,λc=>?_⟩
 .rw[g1,d,f3,<-a.fix.dA];exact f2
 .rw[g1,d,f3];exact a.now
 .unfold c4;rw[g1,d,g,k _ a.cG.aJ];exact a.qK
 .unfold bT fq;rw[g1,d,g,k _ U];exact a.uh
 .rw[n,f];exact a.aS
 .rw[l,f]
 rw[l];exact(p c).1
def dg(m:aZ):cc:=⟨(dk m).toArray⟩
def gu(cs:cT)(g:aa)(a:ah aZ):cT:=a.foldl (λc m=>hv c 64 g (dg m)) cs
def Wb(cs:cT)(g:aa)(a:ah aZ)(m:aZ):gu cs g (a++[m])=hv (gu cs g a) 64 g (dg m):=by
 unfold gu;rw[nj];rfl
def TD(l:ah aQ)(k:J)(c:aQ)(hk:k<(iI l).length)(aq:c≠(iI l)[k]):opened ((iI l).set k c)=([],15):=by
 have a:((iI l).set k c).length=l.length+4:=by simp[iI,sg]
 unfold opened;rw[aA U,aA];intro h;have au:((iI l).set k c).length-4=l.length:=U;rw[au]at h;refine XL l k c hk aq (((iI l).set k c).take l.length) (((iI l).set k c).drop l.length) (lR _ _) (by simp[iI,sg]) ?_
 have:=cV (List.drop l.length) h
 rw[<-this,iI];exact(wC aI).symm
def YG(x:aQ)(b:J)(aj:b<256)(a:b≠0):lM x b≠x:=by
 intro h;have h1:=cV UInt8.toNat h;unfold lM at h1;rw[Le,ja (Ld (n:=8) x.toNat_lt aj)]at h1;have h2:=cV (λz=>x.toNat ^^^ z) h1;rw[<-Nat.xor_assoc,Nat.xor_self,Nat.zero_xor]at h2;exact a h2
def qY{m:aZ}(h:dh m):0<(dg m).size/\(dg m).size<=256:=by
 have h1:=IQ m h;have h2:=V9 (nV m);unfold dg dk;omega
def WV(m:aZ)(x:aa)(b:J)(aj:b<256)(a:b≠0)(hm:dh m):(fs (o7 (dg m) x b).data.toList).2=15/\(o7 (dg m) x b).size<=256:=by
 have ax:=qY hm;have d:(dk m).length=(dg m).size:=by simp[dg,ByteArray.size]
 have⟨r,_,ar⟩:=Cv x (dk m).length U U;have av:h0 x (dk m).length<(dk m).length:=by
  rcases ar with h|h<;>exact h.2.2
 have e:(o7 (dg m) x b).data.toList=(dk m).set (h0 x (dk m).length) (lM ((dk m).getD (h0 x (dk m).length) 0) b):=rfl;have a1:(dk m).getD (h0 x (dk m).length) 0=(dk m)[h0 x (dk m).length]:=by simp[getD,gb av]
 constructor
 .rw[e,a1];unfold fs;rw[show opened ((dk m).set (h0 x (dk m).length) (lM ((dk m)[h0 x (dk m).length]) b))=([],15)from(TD (nV m) (h0 x (dk m).length) (lM ((dk m)[h0 x (dk m).length]) b) av (YG _ b aj a))];rfl
 have c:(o7 (dg m) x b).size=(dk m).length:=by
  show((sm (dk m) x b).toArray).size=_;simp[sm]
 omega
def Xh(v:J->aa):0<=iJ v/\iJ v<4294967296:=by
 exact vL _ _
structure dZ where
 p:J->bO
 bF:J->ah aQ
 st:J->ah cg
 cs:cT
def da(l:ah cg):ah cg:=l.filter λc=>decide (c.bN=4)
def gC(k:J)(v:aQ)(M:dZ):dZ:={p:=b1 M.p k (cJ v (M.p k)).1,bF:=if dL (M.p k)then b1 M.bF k (M.bF k++[v])else M.bF,st:=b1 M.st k (M.st k++da (cJ v (M.p k)).2),cs:=gu M.cs (1-(k:aa)) (e_ v (M.p k))}
def xZ(k:J)(t:cc)(cs:cT)(M:dZ):dZ:={M with p:=b1 M.p k (dx t.data.toList (M.p k)).1,st:=b1 M.st k (M.st k++da (dx t.data.toList (M.p k)).2),cs:=cs}
def fB(bF:J->ah aQ)(k j:J):aa:=(((bF k).getD j 0).toNat:aa)
structure sZ(n d w:J)(cr:aa)(M:dZ)(k F:J)(us:J->J->aa)(A:J):ak where
 cG:cb (M.p k) F (fB M.bF) us
 E:(M.p k).x.now<=F+w+1
 aE:LkI n k (M.bF k) (bT (M.p k)) A (M.p k).aE
 qK:c4 (M.p k)=(M.bF k).length
 uh:bT (M.p k)<=(M.bF (1-k)).length
 YQ:A<=bT (M.p (1-k))
 NH:bT (M.p k)<=A+(w+d)
 aJ:(M.p k).x.aJ=k
 dl:(M.p k).x.eD=d
 wn:(M.p k).x.dA=w
 sd:(M.p k).x.aO=cr
 lu:(M.p k).b'=false->(M.p k).aE.state≠2
 tI:(M.p k).x.now<=n
structure e'(n d w:J)(cr:aa)(M:dZ):ak where
 ps:∀ k,k<2->∃ F us A,sZ n d w cr M k F us A
 nS:∀ k x,x∈M.bF k->x.toNat<=63
 vv:∀ k:J,k<2->∀ t∈M.cs.get k,∃ m,t=dg m/\iP (w+d) (M.bF (1-k)) (bT (M.p (1-k))) m
 rU:∀ k:J,(M.cs.get k).length<=64
 lost:0<=M.cs.lost/\M.cs.lost<=10*n
def RZ{bF:J->ah aQ}(h:∀ k x,x∈bF k->x.toNat<=63)(k j:J):0<=fB bF k j/\fB bF k j<=63:=by
 unfold fB;rw[oe];cases e:(bF k)[j]? with
 | none=>show(0:aa)<=((0:aQ).toNat:aa)/\((0:aQ).toNat:aa)<=63;decide
 | some x=>
  have:=h k x (ky e)
  show(0:aa)<=(x.toNat:aa)/\(x.toNat:aa)<=63;omega
def cb.O1{s:bO}{F:J}{ba a us:J->J->aa}(h:cb s F ba us)(aj:∀ k j,0<=a k j/\a k j<=63)(b:∀ k,k<2->∀ j,j<(s.x.f k).next->ba k j=a k j):cb s F a us:=by
 have hm:=h.aJ;obtain⟨i,l,m,n,z,o,d,p,e,bP,q,r,g,t,u,v,w,y,b0⟩:=h;refine⟨i.congr b (λ_ _ _ _ _=>rfl) (λ_ _ _=>rfl),l,m,n,aj,o,d,p,e,bP,λj c=>(q j c).trans (b _ hm j ?_),λj c=>(r j c).trans (b _ U j ?_),g,t,u,v,w,y,b0⟩
 .unfold c4 at d;omega
 unfold bT fq at e g;omega
def HI(bF:J->ah aQ)(k:J)(v:aQ):fB (b1 bF k (bF k++[v]))=λi=>if i=k then b1 (fB bF k) (bF k).length v.toNat else fB bF i:=by
 funext i j
 unfold fB b1;by_cases e:i=k
 .subst e;rw[aD rfl,aD rfl,oe,getElem?_append];by_cases h:j<(bF i).length
  .rw[aD h,aA U,<-oe]
  rw[aA h];by_cases h2:j=(bF i).length
  .rw[aD h2,h2,Dy];rfl
  rw[aA h2,sB bU];show _=(((bF i).getD j 0).toNat:aa);rw[oe,sB U]
 rw[aA e,aA e]
def two{k:J}(h:k<2):1-k<2/\1-(1-k)=k/\1-k≠k/\(1:aa)-(k:aa)=((1-k:J):aa):=U
def sZ.cu{n b d w:J}{cr:aa}{M fH:dZ}{k F:J}{us:J->J->aa}{A:J}(h:sZ n d w cr M k F us A)(hk:k<2)(au:n<=b)(a:fH.p k=M.p k)(e:fH.bF k=M.bF k)(aj:∀ k x,x∈fH.bF k->x.toNat<=63)(g:M.bF (1-k) <+: fH.bF (1-k))(O:bT (M.p (1-k))<=bT (fH.p (1-k))):sZ b d w cr fH k F us A:=by
 have hm:=h.aJ;have⟨o,q,s,t,f,L,u,v,y,bP,z,B,N⟩:=h
 have:=g.length_le
 have K:cb (M.p k) F (fB fH.bF) us:=o.O1 (RZ aj) λi av j P=>by
  unfold fB
  have:i=k\/i=1-k:=U
  rcases this with c|c
  .rw[c,e]
  subst c;obtain⟨r,m⟩:=g;have l:j<(M.bF (1-k)).length:=by unfold bT fq at f;rw[hm]at f;omega
  exact Lq
 have H:LkI b k (M.bF k) (bT (M.p k)) A (M.p k).aE:=by
  have⟨b0,bs,ez,dR,fV,dS,c6,fv,e5,d1,d2,C,D,E,G⟩:=s;exact⟨b0,bs,ez,U,U,U,U,U,e5,d1,d2,C,D,E,G⟩
 exact⟨by rw[a];exact K,by rw[a];exact q,by rw[a,e];exact H,by rw[a,e];exact t,by rw[a];omega,U,by rw[a];exact u,by rw[a];exact v,by rw[a];exact y,by rw[a];exact bP,by rw[a];exact z,by rw[a];exact B,by rw[a];omega⟩
def xT(s:cT)(a:aa)(L:ah cc)(k:J)(hk:k<2)(aN:ij a):(s.put a L).get k=if (k:aa)=a then L else s.get k:=by
 unfold cT.put cT.get ij at *;rcases aN with rfl|rfl
 .by_cases e:(k:aa)=0
  .rw[aD rfl,aD e,aD e]
  rw[aD rfl,aA e,aA e,aA e]
 have h1:¬ (1:aa)=0:=U;by_cases e:(k:aa)=0
 .have h2:¬ (k:aa)=1:=U;rw[aA h1,aD e,aD e,aA h2]
 have h2:(k:aa)=1:=U;rw[aA h1,aA e,aA e,aD h2]
def V_(s:cT)(b:aa)(t:cc)(k:J)(hk:k<2)(c:(s.get k).length<=64):(∀ x∈(hv s 64 b t).get k,x∈s.get k\/((k:aa)=b/\x=t))/\((hv s 64 b t).get k).length<=64/\s.lost<=(hv s 64 b t).lost/\(hv s 64 b t).lost<=s.lost+1:=by
 unfold hv;split
 .rename_i h;split
  .rename_i h2;rw[xT _ _ _ _ hk h.1];have d:(s.put b (s.get b++[t])).lost=s.lost:=by unfold cT.put;split<;>rfl
   rw[d];refine⟨λx a=>?_,?_,jm _,U⟩
   .split at a
    .rename_i e;rcases ft.1 a with a|a
     .rw[<-e]at a;exact .inl a
     exact .inr ⟨e,h6.1 a⟩
    exact .inl a
   split
   .rw[cx,iM];omega
   exact c
  exact⟨λx a=>.inl a,c,by show s.lost<=s.lost+1;omega,jm _⟩
 exact⟨λx a=>.inl a,c,jm _,U⟩
theorem v7(a:aa)(k:J)(hk:k<2):∀ (b:ah aZ) (s:cT),(s.get k).length<=64->(∀ x∈(gu s a b).get k,x∈s.get k\/((k:aa)=a/\∃ m∈b,x=dg m))/\((gu s a b).get k).length<=64/\s.lost<=(gu s a b).lost/\(gu s a b).lost<=s.lost+b.length
 | [],s,c=>⟨λx d=>.inl d,c,jm _,by simp[gu]⟩
 | m :: r,s,c=>by
  obtain⟨h1,h2,o,p⟩:=V_ s a (dg m) k hk c;obtain⟨g1,f,l,n⟩:=v7 a k hk r (hv s 64 a (dg m)) h2;have e:gu s a (m :: r)=gu (hv s 64 a (dg m)) a r:=rfl;rw[e];refine⟨λx d=>?_,f,U,by rw[dr];omega⟩;rcases g1 x d with h|⟨h,y,j,i⟩
  .rcases h1 x h with h|⟨h,g⟩
   .exact .inl h
   exact .inr ⟨h,m,oh,g⟩
  exact .inr ⟨h,y,kx _ j,i⟩
end Go.Proofs.YtalagblioepadaaGreatDoor
