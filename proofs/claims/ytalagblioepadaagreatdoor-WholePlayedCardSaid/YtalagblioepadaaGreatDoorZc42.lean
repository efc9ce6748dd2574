/- The proof, part 42. -/
import Derived.Test.YtalagblioepadaaGreatDoorZc40
namespace Go.Proofs.YtalagblioepadaaGreatDoor
set_option linter.all false
open Proofs.Tryz List Go.RowKit
set_option maxRecDepth 100000
def LZ{p:ak}(h:p:=by
 rw[<-m,oD,oD,getElem?_append,aD l]
 ):p:=h
def L6{p:ak}(h:p:=by
 rcases Int.lt_or_le s.ld.aN g with c|c
 .exact c
 exact absurd (h.sC g (.inr c)) D
 ):p:=h
def L9{p:ak}(h:p:=by
 exact⟨⟨h.x,h.hd,h.aN,h.bf,h.bW,h.fQ⟩,by show p.2.length<=_;omega⟩
 ):p:=h
def Me{p:ak}(h:p:=by
 rw[h 0 U n U,h 1 U n U,Cm aG n λk hk j a=>h k hk j U]
 ):p:=h
def Mf{p:ak}(h:p:=by
 have⟨d,hd,h⟩:=a c al;exact⟨d,e5.2 (.inl hd),h⟩
 ):p:=h
def hj(us:J->J->aa)(aG:aa):J->J->aa
 | 0=>lg aG 0
 | j+1=>ix (us 0 j) (us 1 j) (hj us aG j)
def eM(us:J->J->aa)(aG:aa)(j:J):ah aB:=kb (us 0 j) (us 1 j) (hj us aG j)
theorem Cm{us cr:J->J->aa}(aG:aa):∀ n,(∀ k,k<2->∀ j,j<n->us k j=cr k j)->hj us aG n=hj cr aG n
 | 0,_=>rfl
 | n+1,h=>by
  unfold hj;exact Me
def AU{us cr:J->J->aa}(aG:aa)(n:J)(h:∀ k,k<2->∀ j,j<=n->us k j=cr k j):eM us aG n=eM cr aG n:=by
 unfold eM;exact Me
theorem sh(us:J->J->aa){aG:aa}(av:0<=aG/\aG<=4294967295):∀ j:J,∃ r,Mid 2 j r (hj us aG j)/\0<=r/\r<=j
 | 0=>⟨0,Tv aG av,kh,kh⟩
 | j+1=>by
  obtain⟨r,h1,h2,b⟩:=sh us av j;obtain⟨r',a,c,d⟩:=mid_step h1 (us 0 j) (us 1 j);exact⟨r',a,U,U⟩
def V8(us:J->J->aa){aG:aa}(av:0<=aG/\aG<=4294967295)(j:J):hj us aG j 0=j:=by
 have⟨r,h,_⟩:=sh us av j;exact h.f0
def nX(us:J->J->aa){aG:aa}(av:0<=aG/\aG<=4294967295)(j:J):eL j (eM us aG j):=by
 have h:=Uz (us 0 j) (us 1 j) (hj us aG j);rw[V8 us av]at h;exact h
structure b8(s:bJ)(F:J)(a_ us:J->J->aa):ak where
 hy:CW s.x F a_ us (hj us s.x.aG)
 aG:0<=s.x.aG/\s.x.aG<=4294967295
 aL:s.x.aL<2
 lB:s.x.eF<=8/\1<=s.x.dv/\s.x.dv<=16
 er:∀ k j,0<=a_ k j/\a_ k j<=63
 KQ:∀ k j,0<=us k j/\us k j<=63
 ab:s.x.now<=c_ s/\c_ s<=s.x.now+s.x.eF
 p2:s.x.now<=bN s+s.x.dv
 jk:F<=s.x.now/\s.x.now<=F+s.x.dv+2/\F<=bN s/\bN s<=F+64
 vk:F=0\/(F<bN s/\F<s.x.now)
 C0:∀ j,j<s.x.now->us s.x.aL j=a_ s.x.aL j
 sC:∀ j:J,j<F\/(j:aa)<=s.ld.aN->us (1-s.x.aL) j=a_ (1-s.x.aL) j
 aN:-1<=s.ld.aN/\s.ld.aN<s.x.now/\s.ld.aN<bN s
 hd:s.ld.hd=s.b1
 most:1<=s.ld.most/\s.ld.most<=256
 dL:en s.ld.bf
 k5:(s.ld.bf.length:aa)<=s.ld.most
 bW:∀ j:aa,s.ld.bW j=if s.ld.aN<j/\j<s.x.now then eM us s.x.aG j.toNat else []
 lt:∀ e∈s.ld.bf,e∈s.ld.bW e.k.fr
def yg{a_:J->aa}(h:∀ j,0<=a_ j/\a_ j<=63)(n j:J):0<=jM a_ n j/\jM a_ n j<=63:=by
 unfold jM pX;split
 .exact h j
 split
 .omega
 exact h _
def ju(x:ck)(a_ us:J->J->aa)(g e:J):J->J->aa:=λi j=>if g<=j/\j<e then jM (a_ i) (x.f i).next j else us i j
def Cg(x:ck)(n:J):(jd x n).aG=x.aG/\(jd x n).eF=x.eF/\(jd x n).dv=x.dv/\(jd x n).aL=x.aL/\(jd x n).now=x.now/\∀ i,((jd x n).f i).next=(x.f i).next:=by
 refine⟨rfl,rfl,rfl,rfl,rfl,λi=>?_⟩;show(if i<2 then pg (x.f i) n else x.f i).next=_;split<;>rfl
theorem se(x:ck)(g:J):∀ k,(replay x g k).aG=x.aG/\(replay x g k).eF=x.eF/\(replay x g k).dv=x.dv/\(replay x g k).aL=x.aL/\(replay x g k).now=x.now/\∀ i,((replay x g k).f i).next=(x.f i).next
 | 0=>⟨rfl,rfl,rfl,rfl,rfl,λ_=>rfl⟩
 | k+1=>by
  obtain⟨a,b,c,d,e,h⟩:=se x g k;obtain⟨bO,j,l,m,n,o⟩:=Cg (replay x g k) (g+k);exact⟨bO.trans a,j.trans b,l.trans c,m.trans d,n.trans e,λi=>(o i).trans (h i)⟩
theorem xS{x:ck}{F:J}{a_ us:J->J->aa}(h:CW x F a_ us (hj us x.aG)){g:J}(aZ:F<=g)(d:x.now<F+64):∀ k,g+k<=x.now->CW (replay x g k) F a_ (ju x a_ us g (g+k)) (λj=>if j<=g+k then hj (ju x a_ us g x.now) x.aG j else hj us x.aG j)
 | 0,_=>by
  refine h.congr (λ_ _ _ _=>rfl) (λk _ j _ _=>?_) (λj _ _=>?_)
  .unfold ju;rw[az U]
  split
  .refine Cm _ _ λk _ i aw=>?_;unfold ju;rw[az U]
  rfl
 | k+1,hk=>by
  obtain⟨_,_,_,_,e,a⟩:=se x g k;refine((xS h aZ d k U).Vs (n:=g+k) U U U).congr (λ_ _ _ _=>rfl) (λi _ j _ _=>?_) (λj _ _=>?_)
  .unfold b2 ju;rw[a];split
   .rw[aD U];subst j;rfl
   split
   .rw[aD U]
   rw[az U]
  unfold b2;by_cases b:j=g+k+1
  .subst b;rw[aD rfl,aD bs,a,a,aD U];show _=ix (ju x a_ us g x.now 0 (g+k)) (ju x a_ us g x.now 1 (g+k)) _;unfold ju;rw[aD U,aD U]
  rw[az b];by_cases c:j<=g+k
  .exact(aD c).trans (aD U).symm
  exact(az c).trans (az U).symm
def yI{x:ck}{F:J}{a_ us:J->J->aa}(h:CW x F a_ us (hj us x.aG)){g:J}(aZ:F<=g)(b:x.now<F+64)(k:J)(hk:g+k<x.now):hi (replay x g k) (g+k)=eM (ju x a_ us g x.now) x.aG (g+k):=by
 have h1:=xS h aZ b k U;have⟨_,_,_,_,c,a⟩:=se x g k;unfold hi eM;rw[h1.gU U U,h1.dA (k:=0) U U,h1.dA (k:=1) U U,a,a,aD bs];unfold ju;rw[aD U,aD U]
def O1{x:ck}{F:J}{a_ us:J->J->aa}(h:CW x F a_ us (hj us x.aG))(av:0<=x.aG/\x.aG<=4294967295)(b:∀ k j,0<=a_ k j/\a_ k j<=63){g:J}(aZ:F<=g)(c:x.now<F+64)(ar:x.now<=100000)(k:J)(hk:g+k<x.now):Can (replay x g k) (g+k):=by
 have h1:=xS h aZ c k U;have⟨_,_,_,_,d,f⟩:=se x g k;have e:=h1.gU (n:=g+k) U U;refine⟨by rw[e];exact h1.st U U,?_,U,λj a=>?_,λj a=>by rw[h1.first a];omega,?_⟩
 .rw[e,aD bs];exact sh _ av _
 .rw[h1.dA a U];exact(yg (b j) _ _).2
 rw[h1.eQ];unfold fc;omega
def wE{most now:aa}{L:ah aB}(h:en L)(xs:ah aB):en (e9 most now L xs).1/\∀ x∈(e9 most now L xs).1,x∈xs\/(x∈L/\∀ e∈xs,e.k≠x.k):=by
 rw[<-kI xs]
 induction xs.reverse with
 | nil=>exact⟨h,λx a=>.inr ⟨a,λe j=>by simp at j⟩⟩
 | cons e l g=>
  rw[l4,rh];refine⟨XH g.1 e,λx a=>?_⟩;have n:x=e\/(x∈(e9 most now L l.reverse).1/\x.k≠e.k):=by
   have bd:=g.1;revert a;generalize (e9 most now L l.reverse).1=M at bd;intro a;unfold js at a;split at a
   .rename_i o f;split at a
    .rename_i m;by_cases hk:x.k=e.k
     .left;have h1:=GU bd a;rw[hk,f]at h1;cases h1;exact m
     exact .inr ⟨a,hk⟩
    exact v_.1 a
   rename_i f;split at a
   .exact .inr ⟨a,x1 f x a⟩
   exact v_.1 a
  rcases n with rfl|⟨h1,h2⟩
  .exact .inl aK
  rcases g.2 x h1 with b|⟨b,i⟩
  .exact .inl (by simp[mem_reverse.1 b])
  refine .inr ⟨b,λd hd=>?_⟩;rcases e5.1 hd with hd|hd
  .exact i d hd
  simp at hd;subst hd;exact λc=>h2 c.symm
def Kt{most now:aa}{L:ah aB}(h:en L)(a:(L.length:aa)<=most)(xs:ah aB):((e9 most now L xs).1.length:aa)<=most:=by
 rw[<-kI xs]
 induction xs.reverse with
 | nil=>exact a
 | cons e l b=>
  rw[l4,rh];exact XI (wE h l.reverse).1 b e
structure tb(s:cD):ak where
 dL:en s.bf
 k5:(s.bf.length:aa)<=s.most
 lt:∀ e∈s.bf,e∈s.bW e.k.fr
def tb.tell{s:cD}(h:tb s)(fr:aa)(xs:ah aB)(p:∀ e∈xs,e.k.fr=fr):tb (ns s fr xs):=by
 have bd:en (hM s.bf (gg xs (fX s.bf fr))):=tv h.dL _;have o:((hM s.bf (gg xs (fX s.bf fr))).length:aa)<=s.most:=by
  have:=(qP s.bf (gg xs (fX s.bf fr))).length_le
  have:=h.k5
  omega
 obtain⟨h1,h2⟩:=wE (most:=s.most) (now:=0) bd xs;refine⟨h1,Kt bd o xs,λe m=>?_⟩;show e∈fY s.bW fr xs e.k.fr;unfold fY;rcases h2 e m with a|⟨a,g⟩
 .rw[aD (p e a)];exact a
 have c:=(qP _ _).subset a;rw[az]
 .exact h.lt e c
 intro n;have i:e∈fX s.bf fr:=by unfold fX;exact eR.2 ⟨c,by simpa using n⟩
 have j:stays xs e=false:=by
  rw[<-Dp];intro av;have⟨d,hd,b⟩:=wV.1 av;unfold sr at b;simp only[d',fZ]at b;exact g d hd b.1
 have l:e∈gg xs (fX s.bf fr):=by unfold gg;exact eR.2 ⟨i,by simp[j]⟩
 have f:=(eR.1 a).2;simp only[ll,px]at f;exact f ⟨e,l,rfl⟩
def A4{α β:Type}(f:β->α->β)(b:β)(l:List α)(a:α):(l++[a]).foldl f b=f (l.foldl f b) a:=by rw[nB];rfl
structure pH(s:bJ)(us cr:J->J->aa)(g e:J)(p:cl):ak where
 x:p.1.x=s.x
 rest:p.1={s with ld:=p.1.ld}
 aN:p.1.ld.aN=s.ld.aN
 hd:p.1.ld.hd=s.ld.hd
 most:p.1.ld.most=s.ld.most
 vX:tb p.1.ld
 bW:∀ j:aa,p.1.ld.bW j=if s.ld.aN<j/\j<s.x.now then(if (g:aa)<=j/\j<e then eM cr s.x.aG j.toNat else eM us s.x.aG j.toNat)else []
def pH.step{s:bJ}{us cr:J->J->aa}{g e:J}{p:cl}(av:0<=s.x.aG/\s.x.aG<=4294967295)(h:pH s us cr g e p)(c:g<=e)(b:e<s.x.now)(al:s.ld.aN<e):pH s us cr g (e+1) (ib s.x.now p (e,eM cr s.x.aG e)):=by
 refine⟨h.x,?_,h.aN,h.hd,h.most,h.vX.tell _ _ λd hd=>((nX cr av e).2.2 d hd).2,λj=>?_⟩
 .exact cV (λq:bJ=>{q with ld:=ns p.1.ld e (eM cr s.x.aG e)}) h.rest
 show fY p.1.ld.bW e _ j=_;unfold fY;by_cases a:j=e
 .subst a;rw[aD rfl,aD ⟨al,U⟩,aD ⟨U,U⟩];rfl
 rw[az a,h.bW];split
 .by_cases h2:(g:aa)<=j/\j<e
  .rw[aD h2,aD U]
  rw[az h2,az U]
 rfl
theorem CO{s:bJ}{us cr:J->J->aa}(av:0<=s.x.aG/\s.x.aG<=4294967295){g:J}{P:J->J×ah aB}(b:∀ k,g+k<s.x.now->P k=(g+k,eM cr s.x.aG (g+k)))(al:s.ld.aN<g)(a:pH s us cr g g (s,[])):∀ k,g+k<=s.x.now->pH s us cr g (g+k) (((range k).map P).foldl (ib s.x.now) (s,[]))
 | 0,_=>a
 | k+1,hk=>by
  rw[qs,jy,w2,A4,b k U];show pH s us cr g (g+k+1) _;exact(CO av b al a k U).step av U U U
def q5{s:bJ}{F:J}{a_ us:J->J->aa}(h:b8 s F a_ us):∃ cr,b8 (cM s).1 F a_ cr/\(∀ j,j<s.x.now->j<bN s->cr (1-s.x.aL) j=a_ (1-s.x.aL) j)/\(∀ i j:J,(j:aa)<=s.ld.aN\/j<F->cr i j=us i j)/\
  (cM s).1.x.now=s.x.now/\(cM s).1.x.aL=s.x.aL/\(cM s).1.x.eF=s.x.eF/\(cM s).1.x.dv=s.x.dv/\(cM s).1.x.aG=s.x.aG/\(∀ i,((cM s).1.x.f i).next=(s.x.f i).next)/\
  (cM s).1.aE=s.aE/\(cM s).1.ld.aN=s.ld.aN/\(cM s).1.b1=s.b1/\(cM s).1.ct=s.ct/\(cM s).1.own=s.own/\(cM s).1.wt=s.wt/\(cM s).1.ld.most=s.ld.most:=by
 have B:=h.aL;cases hw:fJ s.x with
 | none=>
  have e:cM s=(s,[]):=by unfold cM;rw[hw]
  rw[e];refine⟨us,h,λj a w=>?_,λ_ _ _=>rfl,rfl,rfl,rfl,rfl,rfl,λ_=>rfl,rfl,rfl,rfl,rfl,rfl,rfl,rfl⟩;by_cases Q:j<F
  .exact h.sC j (.inl Q)
  refine Ly λhne=>?_;have h1:jf (fv s.x).K (fv s.x).cQ≠none:=by
   unfold fv;rw[h.hy.K U,h.hy.cQ U];intro ar;refine hne (Lk _ _ _ (s.x.now-F) F (by have:=h.jk;omega) ar j _ U a ?_).symm;rw[qb,aD ⟨U,w⟩]
  exact h1 hw
 | some g=>
  have⟨g1,Y,Z,N,D⟩:=h.hy.zo B h.jk.1 hw;have T:s.ld.aN<g:=by
   exact L6
  have R:=h.jk;have S:=h.lB;have⟨cr,d⟩:=cO (ju s.x a_ us g s.x.now);have⟨u,G,H,L,v,M⟩:=se s.x g (s.x.now-g);have W:∀ k,g+k<s.x.now->(λj=>(g+j,hi (replay s.x g j) (g+j))) k=(g+k,eM cr s.x.aG (g+k)):=λk hk=>by
   rw[d];show(g+k,_)=_;rw[yI h.hy g1 U k hk]
  obtain⟨s1,b⟩:∃ s1:bJ,s1={s with x:=replay s.x g (s.x.now-g)}:=⟨_,rfl⟩;have cp:s1.x.now=s.x.now:=by rw[b];exact v
  have d1:s1.x.aG=s.x.aG:=by rw[b];exact u
  have l:s1.ld=s.ld:=by rw[b]
  have O:pH s1 us cr g g (s1,[]):=⟨rfl,rfl,rfl,rfl,rfl,by rw[l];exact⟨h.dL,h.k5,h.lt⟩,λj=>by rw[l,cp,d1,h.bW];split<;>first|rw[az U]|rfl⟩;have aO:=CO (s:=s1) (by rw[d1];exact h.aG) (P:=λj=>(g+j,hi (replay s.x g j) (g+j))) (λk hk=>by rw[d1];exact W k U) (by rw[l];exact T) O (s.x.now-g) U;have e:cM s=((range (s.x.now-g)).map λj=>(g+j,hi (replay s.x g j) (g+j))).foldl (ib s1.x.now) (s1,[]):=by
   unfold cM;rw[hw,b];simp only[];rw[v];rfl
  rw[<-e]at aO;generalize cM s=p at aO;have au:=aO.rest;have n:p.1.x=replay s.x g (s.x.now-g):=by rw[aO.x,b]
  have V:g+(s.x.now-g)=s.x.now:=U;have y:∀ i,(p.1.x.f i).next=(s.x.f i).next:=λi=>by rw[n];exact M i
  have o:p.1.x.aL=s.x.aL:=by rw[n];exact L
  have m:p.1.x.now=s.x.now:=by rw[n];exact v
  have z:p.1.x.eF=s.x.eF:=by rw[n];exact G
  have t:p.1.x.dv=s.x.dv:=by rw[n];exact H
  have A:p.1.x.aG=s.x.aG:=by rw[n];exact u
  have q:p.1.ld.aN=s.ld.aN:=by rw[aO.aN,l]
  have X:c_ p.1=c_ s:=by unfold c_;rw[y,o]
  have r:bN p.1=bN s:=by unfold bN fv;rw[y,o]
  have C:p.1.b1=s.b1:=by rw[au,b]
  refine⟨cr,⟨?_,by rw[A];exact h.aG,by rw[o];exact B,by rw[z,t];exact S,h.er,?_,by rw[m,X,z];exact h.ab,by rw[m,r,t];exact h.p2,by rw[m,r,t];exact R,by rw[m,r];exact h.vk,?_,?_,by rw[q,m,r];exact h.aN,?_,by rw[aO.most,l];exact h.most,aO.vX.dL,aO.vX.k5,?_,aO.vX.lt⟩,
   λj a w=>?_,λi j a=>?_,m,o,z,t,A,y,by rw[au,b],q,C,by rw[au,b],by rw[au,b],by rw[au,b],by rw[aO.most,l]⟩
  .rw[n];refine(xS h.hy g1 U (s.x.now-g) U).congr (λ_ _ _ _=>rfl) (λi _ j _ a=>by rw[V,d]) (λj _ a=>?_);rw[aD U,d,u]
  .intro i j;rw[d];unfold ju;split
   .exact yg (h.er i) _ _
   exact h.KQ i j
  .intro j a;rw[o,d];rw[m]at a;unfold ju;split
   .unfold jM;rw[aD]
    have:=h.ab.1
    unfold c_ at this;omega
   exact h.C0 j a
  .intro j a;rw[o,d];rw[q]at a;unfold ju;rw[az U];exact h.sC j a
  .rw[aO.hd,l,C];exact h.hd
  .intro j;rw[aO.bW,q,m,A,cp,l,d1];split
   .rename_i a;by_cases c:(g:aa)<=j
    .rw[aD U]
    rw[az U];have al:=h.aN;refine AU _ _ λi _ k hk=>?_;rw[d];unfold ju;rw[az U]
   rfl
  .rw[d];unfold ju;by_cases c:g<=j
   .rw[aD ⟨c,a⟩];exact aD w
   rw[az U];by_cases E:j<F
   .exact h.sC j (.inl E)
   exact N j U U
  rw[d];unfold ju;rw[az U]
def b8.same{s s':bJ}{F:J}{a_ us:J->J->aa}(h:b8 s F a_ us)(a:s'.x=s.x)(w:s'.ld=s.ld)(y:s'.b1=s.b1):b8 s' F a_ us:=by
 have m:c_ s'=c_ s:=by unfold c_;rw[a]
 have t:bN s'=bN s:=by unfold bN;rw[a]
 have⟨b,c,d,e,f,g,i,j,k,bO,l,n,o,p,q,r,u,v,bY⟩:=h;rw[<-a,<-w,<-y,<-m,<-t]at *;exact⟨b,c,d,e,f,g,i,j,k,bO,l,n,o,p,q,r,u,v,bY⟩
def ha(s:bJ)(a_ us:J->J->aa):ak:=∀ j,j<s.x.now->j<bN s->us (1-s.x.aL) j=a_ (1-s.x.aL) j
def Ge(x:ck)(h:x.aL<2):kW x=min (x.f x.aL).next (fv x).next:=by
 unfold kW fv
 have:x.aL=0\/x.aL=1:=U
 rcases this with e|e<;>rw[e]
 exact Nat.min_comm _ _
def b8.oj{s:bJ}{F:J}{a_ us:J->J->aa}(h:b8 s F a_ us)(ar:ha s a_ us):fJ s.x=none/\cY s.x=((min (bN s) s.x.now:J):aa)-1:=by
 have a:=h.hy.Di h.aL h.jk.1 λj _ h1 h2=>ar j h1 h2;refine⟨a,?_⟩;unfold cY;rw[a,Ge _ h.aL]
 have:=h.ab
 unfold c_ at this;show((min (min _ (bN s)) s.x.now:J):aa)-1=_;omega
def b8.halt{s:bJ}{F:J}{a_ us:J->J->aa}(h:b8 s F a_ us)(r:aa)(o:ah ca):b8 (fT r (s,o)).1 F a_ us:=by
 unfold fT;split
 .exact h
 rename_i aJ;have hd:s.ld.hd=false:=by rw[h.hd];simpa using aJ
 have e:gO s.ld={s.ld with hd:=true,bf:=[]}:=by unfold gO;rw[hd];rfl
 simp only[e];obtain⟨a,b,c,d,f,g,i,j,k,bO,l,m,n,u,p,v,w,q,bY⟩:=h;exact⟨a,b,c,d,f,g,i,j,k,bO,l,m,n,rfl,p,Pairwise.nil,by show((([]:ah aB).length:J):aa)<=s.ld.most;simp;omega,q,λ_ t=>nomatch t⟩
def pT(r:aa)(p:cl):(fT r p).1.x=p.1.x/\(fT r p).1.aE=p.1.aE/\(fT r p).1.ld.aN=p.1.ld.aN/\(fT r p).1.ct=p.1.ct/\(p.1.b1=true->fT r p=p)/\(fT r p).1.b1=true/\(fT r p).1.own=p.1.own/\(fT r p).1.wt=p.1.wt/\(fT r p).1.ld.most=p.1.ld.most:=by
 unfold fT;split
 .rename_i h;exact⟨rfl,rfl,rfl,rfl,λ_=>rfl,h,rfl,rfl,rfl⟩
 rename_i h;have e:(gO p.1.ld).aN=p.1.ld.aN/\(gO p.1.ld).most=p.1.ld.most:=by
  unfold gO;split<;>exact⟨rfl,rfl⟩
 exact⟨rfl,rfl,e.1,rfl,λc=>absurd c h,rfl,rfl,rfl,e.2⟩
def b8.hold{s:bJ}{F:J}{a_ us:J->J->aa}(h:b8 s F a_ us)(f v:aa)(o:ah ca):b8 (hB f v (s,o)).1 F a_ us:=by
 unfold hB;split
 .split
  .exact h
  exact h.halt 13 o
 split
 .exact h.same rfl rfl rfl
 exact h
def b8.report{s:bJ}{F:J}{a_ us:J->J->aa}(h:b8 s F a_ us)(f:J)(o:ah ca):b8 (iM f (s,o)).1 F a_ us:=by
 unfold iM;split
 .exact b8.hold (s:={sc s f with wt:=ly s.wt f}) (h.same rfl rfl rfl) _ _ _
 exact h.same rfl rfl rfl
def BA(f v:aa)(p:cl):(hB f v p).1.x=p.1.x/\(hB f v p).1.aE=p.1.aE/\(hB f v p).1.ld.aN=p.1.ld.aN/\(hB f v p).1.ct=p.1.ct/\(hB f v p).1.own=p.1.own/\(hB f v p).1.ld.most=p.1.ld.most:=by
 unfold hB;split
 .split
  .exact⟨rfl,rfl,rfl,rfl,rfl,rfl⟩
  have⟨a,b,c,d,_,_,e,_,g⟩:=pT 13 p;exact⟨a,b,c,d,e,g⟩
 split<;>exact⟨rfl,rfl,rfl,rfl,rfl,rfl⟩
def Ch(f:J)(p:cl):(iM f p).1.x=p.1.x/\(iM f p).1.aE=lT p.1.aE f (iQ (gU p.1.x f))/\(iM f p).1.ld.aN=p.1.ld.aN/\(iM f p).1.ct=p.1.ct/\(iM f p).1.ld.most=p.1.ld.most:=by
 unfold iM;split
 .have⟨a,b,c,d,_,e⟩:=BA f ‹Int› ({sc p.1 f with wt:=ly p.1.wt f},p.2);exact⟨a,b,c,d,e⟩
 exact⟨rfl,rfl,rfl,rfl,rfl⟩
def F6(L xs:ah aB):∀ x∈(gE L xs).1,x∈L/\∀ e∈xs,e.k≠x.k:=by
 rw[<-kI xs]
 induction xs.reverse with
 | nil=>exact λx a=>⟨a,λ_ f=>by simp at f⟩
 | cons e l g=>
  rw[l4,qM];intro x a;obtain⟨h1,h2⟩:=eR.1 a;simp only[ll,px,fL,exists_eq_left]at h2;obtain⟨b,c⟩:=g x h1;refine⟨b,λd hd=>?_⟩;rcases e5.1 hd with hd|hd
  .exact c d hd
  simp at hd;subst hd;exact h2
def xM(L xs:ah aB):(gE L xs).1.Sublist L:=by
 rw[<-kI xs]
 induction xs.reverse with
 | nil=>exact Sublist.refl _
 | cons e l a=>
  rw[l4,qM];exact(qP _ _).trans a
def b8.AG{s:bJ}{F:J}{a_ us:J->J->aa}(h:b8 s F a_ us)(ar:ha s a_ us)(al:s.ld.aN<cY s.x):b8 {s with ld:=jJ s.ld (s.ld.aN+1)} F a_ us:=by
 have av:=(h.oj ar).2;have⟨d,f,g,i,l,m,n,o,p,bO,q,r,z,t,u,v,A,w,bY⟩:=h;refine⟨d,f,g,i,l,m,n,o,p,bO,q,λj a=>?_,⟨by show -1<=s.ld.aN+1;omega,by show s.ld.aN+1<s.x.now;omega,by show s.ld.aN+1<bN s;omega⟩,t,u,v.sublist (xM _ _),?_,λj=>?_,λe y=>?_⟩
 .rcases a with a|a
  .exact r j (.inl a)
  have a:(j:aa)<=s.ld.aN+1:=a;exact ar j U U
 .have:=(xM s.ld.bf (s.ld.bW (s.ld.aN+1))).length_le
  show(((gE s.ld.bf (s.ld.bW (s.ld.aN+1))).1.length:J):aa)<=s.ld.most;omega
 .show fY s.ld.bW (s.ld.aN+1) [] j=if s.ld.aN+1<j/\j<s.x.now then _ else _
  unfold fY;by_cases a:j=s.ld.aN+1
  .rw[aD a,az U]
  rw[az a,w];by_cases c:s.ld.aN<j/\j<s.x.now
  .rw[aD c,aD U]
  rw[az c,az U]
 have⟨h1,h2⟩:=F6 _ _ e y;have b:=bY e h1;show e∈fY s.ld.bW (s.ld.aN+1) [] e.k.fr;unfold fY;rw[az]
 .exact b
 intro c;rw[c]at b;exact h2 e b rfl
theorem b8.eH{s:bJ}{F:J}{a_ us:J->J->aa}(h:b8 s F a_ us)(ar:ha s a_ us)(al:s.ld.aN<cY s.x)(o:ah ca):b8 (eH (s,o)).1 F a_ us/\(eH (s,o)).1.x=s.x/\(eH (s,o)).1.ld.aN=s.ld.aN+1/\(eH (s,o)).1.ct=s.ct/\(eH (s,o)).1.ld.most=s.ld.most:=by
 have h1:=h.AG ar al;unfold Go.Proofs.YtalagblioepadaaGreatDoor.eH;simp only[];split
 .have⟨a,_,c,d,e⟩:=Ch (s.ld.aN+2).toNat ({s with ld:=jJ s.ld (s.ld.aN+1)},o++hL s.ld (s.ld.aN+1));exact⟨h1.report _ _,a,c,d,e⟩
 exact⟨h1,rfl,rfl,rfl,rfl⟩
theorem b8.settle{F:J}{a_ us:J->J->aa}:∀ (n:J) {p:cl},b8 p.1 F a_ us->ha p.1 a_ us->cY p.1.x<=p.1.ld.aN+n->b8 (eA n p).1 F a_ us/\(eA n p).1.x=p.1.x/\p.1.ld.aN<=(eA n p).1.ld.aN/\((eA n p).1.b1=true\/cY p.1.x<=(eA n p).1.ld.aN)/\(eA n p).1.ct=p.1.ct/\(eA n p).1.ld.most=p.1.ld.most
 | 0,p,h,_,f=>⟨h,rfl,jw _,.inr (by show cY p.1.x<=p.1.ld.aN;omega),rfl,rfl⟩
 | n+1,p,h,ar,f=>by
  unfold eA;split
  .rename_i al;exact⟨h,rfl,jw _,by rcases al with c|c<;>simp_all,rfl,rfl⟩
  rename_i al;have e:p.1.ld.aN<cY p.1.x:=U;obtain⟨h1,h2,a,b,d⟩:=h.eH ar e p.2;have g:ha (Go.Proofs.YtalagblioepadaaGreatDoor.eH p).1 a_ us:=by
   unfold ha bN at *;rw[h2];exact ar
  obtain⟨i,j,k,l,m,o⟩:=b8.settle n h1 g (by rw[h2,a];omega);exact⟨i,j.trans h2,zA U k,by rw[<-h2];exact l,m.trans b,o.trans d⟩
def b8.free{s:bJ}{F:J}{a_ us:J->J->aa}(h:b8 s F a_ us)(ar:ha s a_ us):b8 {s with x:=dV s.x} (if cY s.x<0 then F else(cY s.x).toNat) a_ us/\s.x.now<=(if cY s.x<0 then F else(cY s.x).toNat)+s.x.dv+1/\(dV s.x).now=s.x.now/\(dV s.x).aL=s.x.aL/\∀ k,k<2->((dV s.x).f k).next=(s.x.f k).next:=by
 have⟨D,av⟩:=h.oj ar;have B:=h.aL;unfold dV;split
 .exact⟨h.same rfl rfl rfl,by have:=h.p2;have:=h.vk;omega,rfl,rfl,λ_ _=>rfl⟩
 have b:∀ k,k<2->((rU s.x (cY s.x).toNat).f k).next=(s.x.f k).next:=λk hk=>by
  show(if k<2 then oX (s.x.f k) _ else s.x.f k).next=_;rw[aD hk];rfl
 refine⟨?_,by have:=h.p2;omega,rfl,rfl,b⟩;obtain⟨d,g,i,l,n,o,c,p,C,bO,q,r,u,v,w,y,z,A,bY⟩:=h;have m:c_ {s with x:=rU s.x (cY s.x).toNat}=c_ s:=b _ B;have t:bN {s with x:=rU s.x (cY s.x).toNat}=bN s:=b _ (by show 1-s.x.aL<2;omega);have hk:∀ k,k<2->(cY s.x).toNat<=(s.x.f k).next:=λk hk=>by
  have:k=s.x.aL\/k=1-s.x.aL:=U
  rcases this with e|e
  .have:=c;unfold c_ at this;rw[<-e]at this;omega
  have:bN s=(s.x.f k).next:=by rw[e];rfl
  omega
 refine⟨d.cut U U hk,g,i,l,n,o,by rw[m];exact c,by rw[t];exact p,by rw[t];show _<=s.x.now/\s.x.now<=_+s.x.dv+2/\_;omega,by rw[t];show _\/_<_/\_<s.x.now;omega,q,λj a=>?_,by rw[t];exact u,v,w,y,z,A,bY⟩;rcases a with a|a
 .exact ar j U U
 exact r j (.inr a)
structure s7(c:ca):ak where
 bL:1<=c.bL/\c.bL<=4
 cn:fz c.cn=true
 dB:0<=c.dB/\c.dB<=1000000
def hs(L:ah aB):ak:=∀ e∈L,fz e=true
def Ks(most now:aa)(L xs:ah aB):∀ c∈(e9 most now L xs).2,∃ e∈xs,c=⟨2,e,0,false⟩\/c=⟨1,e,now-e.k.fr,false⟩:=by
 rw[<-kI xs]
 induction xs.reverse with
 | nil=>intro c al;cases al
 | cons e l a=>
  rw[l4,rh];intro c al;rcases e5.1 al with al|al
  .exact Mf
  refine⟨e,aK,?_⟩;revert al;unfold lh;split<;>split<;>simp<;>intro h<;>simp[h]
def Pb(L xs:ah aB):∀ c∈(gE L xs).2,∃ e∈xs,∃ p,c=⟨4,e,0,p⟩:=by
 rw[<-kI xs]
 induction xs.reverse with
 | nil=>intro c al;cases al
 | cons e l a=>
  rw[l4,qM];intro c al;rcases e5.1 al with al|al
  .exact Mf
  exact⟨e,aK,_,fL.1 al⟩
def xK{k:aa}(hk:1<=k/\k<=4){e:aB}(a:fz e=true)(p:aY):s7 ⟨k,e,0,p⟩:=⟨hk,a,by show(0:aa)<=0/\(0:aa)<=1000000;omega⟩
def X7{s:cD}(d:hs s.bf){fr now:aa}{xs:ah aB}(b:eL fr xs)(f:0<=fr)(ar:fr<=now/\now<=1000000):∀ c∈kC s fr xs now,s7 c:=λc al=>by
 rcases e5.1 al with al|al
 .obtain⟨e,a,rfl⟩:=e3.1 al;exact xK U (d e (eR.1 (eR.1 a).1).1) _
 obtain⟨e,a,rfl|rfl⟩:=Ks _ _ _ _ c al
 .exact xK U (b.2.2 e a).1 _
 have:=(b.2.2 e a).2
 exact⟨by show(1:aa)<=1/\(1:aa)<=4;omega,(b.2.2 e a).1,by show 0<=now-e.k.fr/\now-e.k.fr<=1000000;omega⟩
def O_{s:cD}{f:aa}(b:hs (s.bW f)):∀ c∈hL s f,s7 c:=λc al=>by
 obtain⟨e,a,p,rfl⟩:=Pb _ _ c al;exact xK U (b e a) _
def R7{s:cD}(b:hs s.bf):∀ c∈kp s,s7 c:=λc al=>by
 unfold kp at al;split at al
 .cases al
 obtain⟨e,a,rfl⟩:=e3.1 al;exact xK U (b e a) _
def hs.tell{s:cD}(b:hs s.bf){fr:aa}{xs:ah aB}(c:hs xs)(bd:en s.bf):hs (ns s fr xs).bf:=λe a=>by
 have h1:=(wE (most:=s.most) (now:=0) (tv bd (gg xs (fX s.bf fr))) xs).2 e a;rcases h1 with h1|⟨h1,_⟩
 .exact c e h1
 exact b e ((qP _ _).subset h1)
def hs.F4{s:cD}(b:hs s.bf)(f:aa):hs (jJ s f).bf:=λe a=>b e (F6 _ _ e a).1
def hs.halt{s:cD}(b:hs s.bf):hs (gO s).bf:=by
 unfold gO;split
 .exact b
 intro e a;cases a
def b8.wJ{s:bJ}{F:J}{a_ us:J->J->aa}(h:b8 s F a_ us)(j:aa):eL j (s.ld.bW j):=by
 rw[h.bW];split
 .rename_i al
  have:=nX us h.aG j.toNat
  have b:((j.toNat:J):aa)=j:=by have:=h.aN;omega
  rwa [b]at this
 exact⟨Pairwise.nil,aK,λe a=>by cases a⟩
def b8.pZ{s:bJ}{F:J}{a_ us:J->J->aa}(h:b8 s F a_ us):hs s.ld.bf:=λe a=>((h.wJ e.k.fr).2.2 e (h.lt e a)).1
structure hv(x:ck)(p:cl):ak where
 x:p.1.x=x
 hd:p.1.ld.hd=p.1.b1
 aN:-1<=p.1.ld.aN
 bf:hs p.1.ld.bf
 bW:∀ j,hs (p.1.ld.bW j)/\(p.1.ld.bW j).length<=64
 fQ:p.1.ld.bf.length<=256
theorem hv.halt{x:ck}{p:cl}(h:hv x p)(r:aa):hv x (fT r p)/\(fT r p).2.length<=p.2.length+256:=by
 unfold fT;split
 .exact⟨h,U⟩
 rename_i aJ;refine⟨⟨h.x,by show(gO p.1.ld).hd=true;unfold gO;rw[(h.hd.trans (show p.1.b1=false by simpa using aJ))];rfl,?_,h.bf.halt,?_,?_⟩,?_⟩
 .show -1<=(gO p.1.ld).aN;unfold gO;split<;>exact h.aN
 .show ∀ j,hs ((gO p.1.ld).bW j)/\((gO p.1.ld).bW j).length<=64;unfold gO;split<;>exact h.bW
 .show(gO p.1.ld).bf.length<=256;unfold gO;split
  .exact h.fQ
  simp
 rw[cx];unfold kp;split
 .simp
 rw[gV];have:=h.fQ;omega
def hv.hold{x:ck}{p:cl}(h:hv x p)(f v:aa):hv x (hB f v p)/\(hB f v p).2.length<=p.2.length+256:=by
 unfold hB;split
 .split
  .exact⟨h,U⟩
  exact h.halt 13
 split
 .exact L9
 exact⟨h,U⟩
def hv.report{x:ck}{p:cl}(h:hv x p)(f:J):hv x (iM f p)/\(iM f p).2.length<=p.2.length+256:=by
 unfold iM;split
 .exact hv.hold (p:=({sc p.1 f with wt:=ly p.1.wt f},p.2)) ⟨h.x,h.hd,h.aN,h.bf,h.bW,h.fQ⟩ _ _
 exact L9
def F5(L xs:ah aB):(gE L xs).2.length<=xs.length:=by
 rw[<-kI xs]
 induction xs.reverse with
 | nil=>simp[gE]
 | cons e l a=>rw[l4,qM,pn,pn,iT,iT];omega
def hv.AG{x:ck}{p:cl}(h:hv x p):hv x ({p.1 with ld:=jJ p.1.ld (p.1.ld.aN+1)},p.2++hL p.1.ld (p.1.ld.aN+1))/\(p.2++hL p.1.ld (p.1.ld.aN+1)).length<=p.2.length+64:=by
 refine⟨⟨h.x,h.hd,by show -1<=p.1.ld.aN+1;have:=h.aN;omega,h.bf.F4 _,λj=>?_,b7 (xM _ _).length_le h.fQ⟩,?_⟩
 .show hs (fY p.1.ld.bW (p.1.ld.aN+1) [] j)/\(fY p.1.ld.bW (p.1.ld.aN+1) [] j).length<=64;unfold fY;split
  .exact⟨(λ_ a=>nomatch a),aK⟩
  exact h.bW j
 have:=F5 p.1.ld.bf (p.1.ld.bW (p.1.ld.aN+1))
 have:=(h.bW (p.1.ld.aN+1)).2
 rw[cx];unfold hL;omega
def hv.step{x:ck}{p:cl}(h:hv x p):hv x (eH p)/\(eH p).2.length<=p.2.length+320/\(eH p).1.ld.aN=p.1.ld.aN+1:=by
 have⟨h1,h2⟩:=h.AG;unfold eH;dsimp only;split
 .have⟨a,b⟩:=h1.report (p.1.ld.aN+2).toNat;have⟨_,_,c,_,_⟩:=Ch (p.1.ld.aN+2).toNat ({p.1 with ld:=jJ p.1.ld (p.1.ld.aN+1)},p.2++hL p.1.ld (p.1.ld.aN+1));exact⟨a,by dsimp only at b;omega,c⟩
 exact⟨h1,by dsimp only;omega,rfl⟩
def b8.y'{p:cl}{F:J}{a_ us:J->J->aa}(h:b8 p.1 F a_ us):hv p.1.x p:=⟨rfl,h.hd,h.aN.1,h.pZ,λj=>⟨λe a=>((h.wJ j).2.2 e a).1,(h.wJ j).2.1⟩,by have:=h.k5;have:=h.most;omega⟩
def jo(s:bJ)(a_:J->J->aa)(v:aa):J->J->aa:=λi=>if i=s.x.aL then b2 (a_ s.x.aL) (c_ s) v else a_ i
def BE(s:bJ)(a_:J->J->aa)(v:aa)(i j:J)(h:i≠s.x.aL\/j≠c_ s):jo s a_ v i j=a_ i j:=by
 unfold jo;split
 .subst i;exact ie _ _ U
 rfl
def u8_in(v:aR)(h:v.toNat<=63):0<=((v.toNat:J):aa)/\((v.toNat:J):aa)<=63:=U
def xI{s:bJ}(h:gd s=true):jn s.x=false/\s.aE.state=1/\sD s=false:=by
 unfold gd at h;simp only[d',fZ,ll]at h;exact⟨h.2.2,h.1,h.2.1⟩
def b8.room{s:bJ}{F:J}{a_ us:J->J->aa}(h:b8 s F a_ us)(al:jn s.x=false):s.x.now<bN s+s.x.dv:=by
 unfold jn at al;rw[Ge _ h.aL]at al;have h1:=D2 al;have h2:=h.ab;unfold bN;omega
theorem b8.step{s:bJ}{F:J}{a_ us:J->J->aa}(h:b8 s F a_ us)(ar:ha s a_ us)(a':jn s.x=false)(ps:s.x.now<=100000)(lb:s.x.now<=F+s.x.dv+1)(v:aR)(aW:v.toNat<=63)(o:ah ca):∃ cr,b8 (lj (ek s v,o)).1 F (jo s a_ v.toNat) cr/\ha (lj (ek s v,o)).1 (jo s a_ v.toNat) cr/\(∀ i j,j<s.x.now->cr i j=us i j)/\hi (ek s v).x s.x.now=eM cr s.x.aG s.x.now/\Can (ek s v).x s.x.now:=by
 have m':=h.room a';have l':=h.jk;have L:=h.aL;have Y:=h.lB;have fr:=h.ab;have mv:=h.aN;have⟨p,r⟩:=cO (jo s a_ v.toNat);have g:CW (gx s.x s.x.aL v.toNat) F p us (hj us s.x.aG):=by
  have:=h.hy.put L (show F<=(s.x.f s.x.aL).next by unfold c_ at fr;omega) v.toNat
  rw[r];exact this
 obtain⟨b,d⟩:=cO (gx s.x s.x.aL v.toNat);rw[<-d]at g;have S:b.now=s.x.now:=by rw[d];rfl
 have T:b.aL=s.x.aL:=by rw[d];rfl
 have G:b.aG=s.x.aG:=by rw[d];rfl
 have V:b.eF=s.x.eF:=by rw[d];rfl
 have W:b.dv=s.x.dv:=by rw[d];rfl
 have cp:(b.f s.x.aL).next=c_ s+1:=by
  rw[d];show(eP s.x.f s.x.aL _ s.x.aL).next=_;rw[ra];rfl
 have O:(b.f (1-s.x.aL)).next=bN s:=by
  rw[d];show(eP s.x.f s.x.aL _ (1-s.x.aL)).next=_;rw[q' _ _ U];rfl
 obtain⟨cr,B⟩:∃ cr:J->J->aa,cr=λi=>b2 (us i) s.x.now (jM (p i) (b.f i).next s.x.now):=⟨_,rfl⟩;have hold:∀ i j,j<s.x.now->cr i j=us i j:=λi j a=>by rw[B];exact ie _ _ U
 have t:∀ i,cr i s.x.now=jM (p i) (b.f i).next s.x.now:=λi=>by rw[B];exact je _ _ _
 have hrun:∀ j,j<=s.x.now->hj cr s.x.aG j=hj us s.x.aG j:=λj a=>Cm _ _ λi _ k hk=>hold i k U;have N:=g.step U U;rw[S]at N;have M:hi b s.x.now=eM cr s.x.aG s.x.now:=by
  unfold hi eM;rw[g.gU U U,g.dA (k:=0) U U,g.dA (k:=1) U U,hrun _ bs,t,t]
 have C:∀ k j,0<=p k j/\p k j<=63:=λk j=>by
  rw[r];unfold jo;split
  .unfold b2;split
   .exact u8_in v aW
   exact h.er _ _
  exact h.er _ _
 have X:Can b s.x.now:=by
  have e:=g.gU (n:=s.x.now) U U;refine⟨by rw[e];exact g.st U U,?_,U,λj a=>?_,λj a=>by rw[g.first a];omega,?_⟩
  .rw[e];exact sh _ h.aG _
  .rw[g.dA a U];exact(yg (C j) _ _).2
  rw[g.eQ];unfold fc;omega
 obtain⟨q,A⟩:=cO (lj (ek s v,o)).1;have m:q.x={jd b s.x.now with now:=s.x.now+1}:=by rw[A,d];rfl
 have w:q.ld=ns s.ld s.x.now (eM cr s.x.aG s.x.now):=by
  rw[A,<-M,d];rfl
 have g':q.b1=s.b1:=by rw[A];rfl
 have Q:∀ i,(q.x.f i).next=(b.f i).next:=λi=>by rw[m];exact(Cg b s.x.now).2.2.2.2.2 i
 have l:q.x.now=s.x.now+1:=by rw[m]
 have u:q.x.aL=s.x.aL:=by rw[m];exact T
 have R:q.x.aG=s.x.aG:=by rw[m];exact G
 have P:q.x.eF=s.x.eF:=by rw[m];exact V
 have E:q.x.dv=s.x.dv:=by rw[m];exact W
 have h2:c_ q=c_ s+1:=by unfold c_;rw[Q,u];exact cp
 have y:bN q=bN s:=by unfold bN fv;rw[Q,u];exact O
 have z:=tb.tell ⟨h.dL,h.k5,h.lt⟩ s.x.now (eM cr s.x.aG s.x.now) λe Z=>((nX cr h.aG s.x.now).2.2 e Z).2;rw[<-w]at z;have D:q.ld.aN=s.ld.aN:=by rw[w];rfl
 have gf:ha q p cr:=λj a H=>by
  rw[u];rw[l]at a;rw[y]at H;by_cases c:j=s.x.now
  .rw[c,t,O];unfold jM;rw[aD U]
  rw[hold _ _ U,r,BE _ _ _ _ _ (.inl U)];exact ar j U H
 rw[<-r,<-A,show(ek s v).x=b from d.symm];refine⟨cr,⟨?_,by rw[R];exact h.aG,by rw[u];exact L,by rw[P,E];exact Y,C,?_,by rw[l,h2,P];omega,by rw[l,y,E];omega,by rw[l,y,E];omega,by rw[l,y];have:=h.vk;omega,?_,?_,by rw[D,l,y];omega,by rw[w,g'];exact h.hd,by rw[w];exact h.most,z.dL,z.k5,λj=>?_,z.lt⟩,gf,hold,M,X⟩
 .rw[m];refine N.congr (λ_ _ _ _=>rfl) (λk _ j _ _=>by rw[B]) (λj _ a=>?_);show _=hj cr b.aG j;rw[G];unfold b2;split
  .rename_i K;rw[K];show _=ix (cr 0 s.x.now) (cr 1 s.x.now) (hj cr s.x.aG s.x.now);rw[t,t,hrun _ bs]
  rename_i K;have a:j<=s.x.now+1:=a;exact(hrun j U).symm
 .intro i j;rw[B];simp only[];unfold b2;split
  .exact yg (C i) _ _
  exact h.KQ i j
 .intro j a;rw[u];rw[l]at a;by_cases c:j=s.x.now
  .rw[c,t,cp];unfold jM;rw[aD U]
  rw[hold _ _ U,r,BE _ _ _ _ _ (.inr U)];exact h.C0 j U
 .intro j a;rw[u];rw[D]at a;rw[hold _ _ U,r,BE _ _ _ _ _ (.inl U)];exact h.sC j a
 rw[D,l,R,w];show fY s.ld.bW s.x.now _ j=_;unfold fY;by_cases a:j=s.x.now
 .rw[aD a,aD U,a];rfl
 rw[az a,h.bW];by_cases c:s.ld.aN<j/\j<s.x.now
 .rw[aD c,aD U];exact(AU _ _ λi _ k hk=>hold i k U).symm
 rw[az c,az U]
def b8.RV{s:bJ}{F:J}{a_ us:J->J->aa}(h:b8 s F a_ us)(D:bN s<F+64)(v:aR)(aW:v.toNat<=63):b8 {s with x:=gx s.x (1-s.x.aL) v.toNat} F (λi=>if i=1-s.x.aL then b2 (a_ (1-s.x.aL)) (bN s) v.toNat else a_ i) us/\bN {s with x:=gx s.x (1-s.x.aL) v.toNat}=bN s+1/\c_ {s with x:=gx s.x (1-s.x.aL) v.toNat}=c_ s:=by
 have m:c_ {s with x:=gx s.x (1-s.x.aL) v.toNat}=c_ s:=by
  show(eP s.x.f (1-s.x.aL) _ s.x.aL).next=_;rw[q' _ _ U];rfl
 have t:bN {s with x:=gx s.x (1-s.x.aL) v.toNat}=bN s+1:=by
  show(eP s.x.f (1-s.x.aL) _ (1-s.x.aL)).next=_;rw[ra];rfl
 refine⟨?_,t,m⟩;have hold:∀ i j,j<bN s\/i=s.x.aL->(λi=>if i=1-s.x.aL then b2 (a_ (1-s.x.aL)) (bN s) v.toNat else a_ i) i j=a_ i j:=λi j C=>by
  simp only[];split
  .subst i;exact ie _ _ U
  rfl
 have au:=h.hy.put (k:=1-s.x.aL) U h.jk.2.2.1 v.toNat;have⟨y,c,d,e,b,g,l,z,A,bO,n,o,B,p,q,r,u,w,bY⟩:=h;refine⟨au,c,d,e,λk j=>?_,g,by rw[m];exact l,by rw[t];show s.x.now<=bN s+1+s.x.dv;omega,by rw[t];show F<=s.x.now/\s.x.now<=F+s.x.dv+2/\_;omega,by rw[t];show F=0\/F<_/\F<s.x.now;omega,λj a=>?_,λj a=>?_,by rw[t];show -1<=s.ld.aN/\s.ld.aN<s.x.now/\s.ld.aN<_;omega,p,q,r,u,w,bY⟩
 .split
  .unfold b2;split
   .exact u8_in v aW
   exact b _ _
  exact b _ _
 .exact(n j a).trans (hold s.x.aL j (.inr rfl)).symm
 have a:j<F\/(j:aa)<=s.ld.aN:=a;exact(o j a).trans (hold (1-s.x.aL) j (.inl U)).symm
structure lq(s s':bJ):ak where
 aL:s'.x.aL=s.x.aL
 eF:s'.x.eF=s.x.eF
 dv:s'.x.dv=s.x.dv
 aG:s'.x.aG=s.x.aG
 most:s'.ld.most=s.ld.most
def lq.refl(s:bJ):lq s s:=⟨rfl,rfl,rfl,rfl,rfl⟩
theorem lq.trans{a b c:bJ}(h:lq a b)(k:lq b c):lq a c:=⟨k.aL.trans h.aL,k.eF.trans h.eF,k.dv.trans h.dv,k.aG.trans h.aG,k.most.trans h.most⟩
def lq.halt(r:aa)(p:cl):lq p.1 (fT r p).1:=by
 have h:=pT r p;exact⟨by rw[h.1],by rw[h.1],by rw[h.1],by rw[h.1],h.2.2.2.2.2.2.2.2⟩
def rZ(p:cl):(eX p).1.x=p.1.x/\(eX p).1.aE=p.1.aE/\(eX p).1.ld.aN=p.1.ld.aN/\lq p.1 (eX p).1/\(p.1.b1=true->eX p=p)/\((eX p).1.b1=false->p.1.aE.state≠2/\eX p=p):=by
 unfold eX;split
 .have h:=pT 12 p;exact⟨h.1,h.2.1,h.2.2.1,lq.halt 12 p,h.2.2.2.2.1,λc=>by rw[h.2.2.2.2.2.1]at c;cases c⟩
 rename_i av;exact⟨rfl,rfl,rfl,lq.refl _,λ_=>rfl,λ_=>⟨av,rfl⟩⟩
def b8.gone{p:cl}{F:J}{a_ us:J->J->aa}(h:b8 p.1 F a_ us):b8 (eX p).1 F a_ us:=by
 unfold eX;split
 .exact h.halt 12 p.2
 exact h
structure xr(s:bJ)(v:aR)(F:J)(a_ us cr:J->J->aa)(q:bJ):ak where
 cK:b8 q F (if dN s then jo s a_ v.toNat else a_) cr
 gH:ha q (if dN s then jo s a_ v.toNat else a_) cr
 fix:lq s q
 now:q.x.now=s.x.now+(if dN s then 1 else 0)
 r7:c_ q=c_ s+(if dN s then 1 else 0)
 uB:bN q=bN s
 aN:s.ld.aN<=q.ld.aN
 IN:∀ i j:J,(j:aa)<=s.ld.aN\/j<F->cr i j=us i j
def t_{s:bJ}{F:J}{a_ us:J->J->aa}(h:b8 s F a_ us)(aJ:s.b1=false)(Q:s.x.now<=F+s.x.dv+1)(R:s.x.now<=100000)(v:aR)(aW:v.toNat<=63):∃ cr,xr s v F a_ us cr (ei v (cM s)).1/\(ei v (cM s)).1.b1=false/\(ei v (cM s)).1.aE=(if dN s then j' s.aE (c_ s) v else s.aE)/\(ei v (cM s)).1.ld.aN=s.ld.aN:=by
 have⟨H,d,M,C,k,a,n,o,p,g,q,t,u,_,_,_,m⟩:=q5 h;have⟨r,y⟩:=cO (cM s);rw[<-y]at d k a n o p g q t u m;have z:c_ r.1=c_ s:=by unfold c_;rw[g,a]
 have G:bN r.1=bN s:=by unfold bN fv;rw[g,a]
 have cp:ha r.1 a_ H:=λj l A=>by rw[a];rw[k]at l;rw[G]at A;exact M j l A
 have b:dN s=gd r.1:=by unfold dN;rw[aJ,<-y];rfl
 rw[<-y];unfold ei;by_cases al:gd r.1=true
 .rw[aD al];have⟨L,_,_⟩:=xI al;have⟨P,D,E,N,S,T⟩:=d.step cp L U U v aW r.2;have K:jo r.1 a_ v.toNat=jo s a_ v.toNat:=by unfold jo;rw[a,z]
  rw[K]at D E;have c:(lj (ek r.1 v,r.2)).1.x={jd (gx r.1.x r.1.x.aL v.toNat) r.1.x.now with now:=r.1.x.now+1}:=rfl;obtain⟨s1,s2,gS,O,V,iN⟩:=Cg (gx r.1.x r.1.x.aL v.toNat) r.1.x.now;have B:∀ i,((lj (ek r.1 v,r.2)).1.x.f i).next=((gx r.1.x r.1.x.aL v.toNat).f i).next:=λi=>by rw[c];exact iN i
  have w:(lj (ek r.1 v,r.2)).1.x.aL=s.x.aL:=by rw[c];exact O.trans a
  refine⟨P,⟨?_,?_,⟨w,by rw[c];exact s2.trans n,by rw[c];exact gS.trans o,by rw[c];exact s1.trans p,m⟩,by rw[c,b,al];show r.1.x.now+1=_;rw[k];rfl,?_,?_,by show s.ld.aN<=r.1.ld.aN;omega,λi j l=>?_⟩,?_,?_,?_⟩
  .rw[b,al];exact D
  .rw[b,al];exact E
  .rw[b,al];unfold c_;rw[B,w,<-a];show(eP r.1.x.f r.1.x.aL _ r.1.x.aL).next=_;rw[ra,a];rw[g];rfl
  .unfold bN fv;rw[B,w,<-a];show(eP r.1.x.f r.1.x.aL _ (1-r.1.x.aL)).next=_
   have:=d.aL
   rw[q' _ _ U,g,a]
  .rw[N i j (by have:=d.aN;have:=d.jk;omega)];exact C i j l
  .show r.1.b1=false;rw[u,aJ]
  .show j' r.1.aE (c_ r.1) v=_;rw[q,z,b,al];rfl
  exact t
 rw[az al];have e:gd r.1=false:=by simpa using al
 refine⟨H,⟨?_,?_,⟨a,n,o,p,m⟩,by rw[b,e,k];rfl,by rw[b,e,z];rfl,G,U,C⟩,by rw[u,aJ],by rw[q,b,e];rfl,t⟩
 .rw[b,e];exact d
 rw[b,e];exact cp
theorem xr.settle{s:bJ}{v:aR}{F:J}{a_ us cr:J->J->aa}{p:cl}(h:xr s v F a_ us cr p.1):xr s v F a_ us cr (jr p).1/\((jr p).1.b1=true\/cY (jr p).1.x=(jr p).1.ld.aN):=by
 have⟨c,a,e,b,g,f⟩:=b8.settle (cY p.1.x-p.1.ld.aN).toNat h.cK h.gH U;unfold jr;have ar:ha (eA (cY p.1.x-p.1.ld.aN).toNat p).1 (if dN s then jo s a_ v.toNat else a_) cr:=by
  have:=h.gH
  unfold ha bN at *;rw[a];exact this
 refine⟨⟨c,ar,⟨by rw[a];exact h.fix.aL,by rw[a];exact h.fix.eF,by rw[a];exact h.fix.dv,by rw[a];exact h.fix.aG,f.trans h.fix.most⟩,by rw[a];exact h.now,by unfold c_;rw[a];exact h.r7,by unfold bN;rw[a];exact h.uB,zA h.aN e,h.IN⟩,?_⟩;rcases b with b|b
 .exact .inl b
 right;have h1:=c.aN;have h2:=(c.oj ar).2;have d:bN (eA (cY p.1.x-p.1.ld.aN).toNat p).1=bN p.1:=by unfold bN;rw[a]
 rw[a]at h1 h2⊢;rw[d]at h1 h2;omega
def b8.tick{s:bJ}{F:J}{a_ us:J->J->aa}(h:b8 s F a_ us)(aJ:s.b1=false)(r:s.x.now<=F+s.x.dv+1)(w:s.x.now<=100000)(v:aR)(aW:v.toNat<=63):∃ j cr,b8 (cA v s).1 j (if dN s then jo s a_ v.toNat else a_) cr/\(cA v s).1.x.now<=j+s.x.dv+1/\lq s (cA v s).1/\(cA v s).1.x.now=s.x.now+(if dN s then 1 else 0)/\c_ (cA v s).1=c_ s+(if dN s then 1 else 0)/\bN (cA v s).1=bN s/\s.ld.aN<=(cA v s).1.ld.aN/\(cA v s).1.aE=(c1 (da v s).1.aE (h8 {(da v s).1 with x:=dV (da v s).1.x})).2/\((cA v s).1.b1=false->(cA v s).1.aE.state≠2):=by
 obtain⟨cr,y,_,_,_⟩:=t_ h aJ r w v aW;obtain⟨a,_⟩:=y.settle;have em:jr (ei v (cM s))=da v s:=rfl;rw[em]at a;obtain⟨f1,f2,f3,g,k⟩:=a.cK.free a.gH;have e:cA v s=kZ (da v s):=by unfold cA;rw[aJ];rfl
 generalize da v s=q at *;obtain⟨b,f⟩:∃ b:cl,b=({q.1 with x:=dV q.1.x,aE:=(c1 q.1.aE (h8 {q.1 with x:=dV q.1.x})).2},q.2):=⟨_,rfl⟩;have m:cA v s=eX b:=by rw[e,f];rfl
 have u:b8 b.1 (if cY q.1.x<0 then F else(cY q.1.x).toNat) (if dN s then jo s a_ v.toNat else a_) cr:=by rw[f];exact f1.same rfl rfl rfl
 have⟨g1,l,n,o,A,p⟩:=rZ b;have d:b.1.x=dV q.1.x:=by rw[f]
 have z:b.1.x.aL=s.x.aL:=by rw[d,g];exact a.fix.aL
 have i:(dV q.1.x).eF=q.1.x.eF/\(dV q.1.x).dv=q.1.x.dv/\(dV q.1.x).aG=q.1.x.aG:=by
  unfold dV;split<;>exact⟨rfl,rfl,rfl⟩
 have t:lq s b.1:=⟨z,by rw[d,i.1];exact a.fix.eF,by rw[d,i.2.1];exact a.fix.dv,by rw[d,i.2.2];exact a.fix.aG,by rw[f];exact a.fix.most⟩;rw[m];refine⟨_,cr,u.gone,?_,t.trans o,?_,?_,?_,?_,?_,λc=>?_⟩
 .rw[g1,d,f3,<-a.fix.dv];exact f2
 .rw[g1,d,f3];exact a.now
 .unfold c_;rw[g1,d,g,k _ a.cK.aL];exact a.r7
 .unfold bN fv;rw[g1,d,g,k _ U];exact a.uB
 .rw[n,f];exact a.aN
 .rw[l,f]
 rw[l];exact(p c).1
def dh(m:a1):cc:=⟨(dn m).toArray⟩
def gB(cs:cT)(g:aa)(a:ah a1):cT:=a.foldl (λc m=>hD c 64 g (dh m)) cs
def WN(cs:cT)(g:aa)(a:ah a1)(m:a1):gB cs g (a++[m])=hD (gB cs g a) 64 g (dh m):=by
 unfold gB;rw[nB];rfl
def Uf(l:ah aR)(k:J)(c:aR)(hk:k<(iO l).length)(al:c≠(iO l)[k]):opened ((iO l).set k c)=([],15):=by
 have a:((iO l).set k c).length=l.length+4:=by simp[iO,sv]
 unfold opened;rw[az U,az];intro h;have ar:((iO l).set k c).length-4=l.length:=U;rw[ar]at h;refine Yn l k c hk al (((iO l).set k c).take l.length) (((iO l).set k c).drop l.length) (l5 _ _) (by simp[iO,sv]) ?_
 have:=cV (List.drop l.length) h
 rw[<-this,iO];exact(wW aK).symm
def Zi(x:aR)(b:J)(aj:b<256)(a:b≠0):lY x b≠x:=by
 intro h;have h1:=cV UInt8.toNat h;unfold lY at h1;rw[LL,jh (LK (n:=8) x.toNat_lt aj)]at h1;have h2:=cV (λz=>x.toNat ^^^ z) h1;rw[<-Nat.xor_assoc,Nat.xor_self,Nat.zero_xor]at h2;exact a h2
def rj{m:a1}(h:di m):0<(dh m).size/\(dh m).size<=256:=by
 have h1:=Jf m h;have h2:=WK (od m);unfold dh dn;omega
def Xv(m:a1)(x:aa)(b:J)(aj:b<256)(a:b≠0)(hm:di m):(fw (ph (dh m) x b).data.toList).2=15/\(ph (dh m) x b).size<=256:=by
 have av:=rj hm;have d:(dn m).length=(dh m).size:=by simp[dh,ByteArray.size]
 have⟨r,_,au⟩:=CV x (dn m).length U U;have aw:ic x (dn m).length<(dn m).length:=by
  rcases au with h|h<;>exact h.2.2
 have e:(ph (dh m) x b).data.toList=(dn m).set (ic x (dn m).length) (lY ((dn m).getD (ic x (dn m).length) 0) b):=rfl;have aZ:(dn m).getD (ic x (dn m).length) 0=(dn m)[ic x (dn m).length]:=by simp[getD,gl aw]
 constructor
 .rw[e,aZ];unfold fw;rw[show opened ((dn m).set (ic x (dn m).length) (lY ((dn m)[ic x (dn m).length]) b))=([],15)from(Uf (od m) (ic x (dn m).length) (lY ((dn m)[ic x (dn m).length]) b) aw (Zi _ b aj a))];rfl
 have c:(ph (dh m) x b).size=(dn m).length:=by
  show((sB (dn m) x b).toArray).size=_;simp[sB]
 omega
def XU(v:J->aa):0<=iQ v/\iQ v<4294967296:=by
 exact wa _ _
structure dX where
 p:J->bJ
 bE:J->ah aR
 st:J->ah ca
 cs:cT
def cZ(l:ah ca):ah ca:=l.filter λc=>decide (c.bL=4)
def gJ(k:J)(v:aR)(M:dX):dX:={p:=b2 M.p k (cA v (M.p k)).1,bE:=if dN (M.p k)then b2 M.bE k (M.bE k++[v])else M.bE,st:=b2 M.st k (M.st k++cZ (cA v (M.p k)).2),cs:=gB M.cs (1-(k:aa)) (ff v (M.p k))}
def yk(k:J)(t:cc)(cs:cT)(M:dX):dX:={M with p:=b2 M.p k (df t.data.toList (M.p k)).1,st:=b2 M.st k (M.st k++cZ (df t.data.toList (M.p k)).2),cs:=cs}
def fE(bE:J->ah aR)(k j:J):aa:=(((bE k).getD j 0).toNat:aa)
structure te(n d w:J)(cy:aa)(M:dX)(k F:J)(us:J->J->aa)(A:J):ak where
 cK:b8 (M.p k) F (fE M.bE) us
 E:(M.p k).x.now<=F+w+1
 aE:LkI n k (M.bE k) (bN (M.p k)) A (M.p k).aE
 r7:c_ (M.p k)=(M.bE k).length
 uB:bN (M.p k)<=(M.bE (1-k)).length
 Zt:A<=bN (M.p (1-k))
 Zs:bN (M.p k)<=A+(w+d)
 aL:(M.p k).x.aL=k
 dl:(M.p k).x.eF=d
 wn:(M.p k).x.dv=w
 sd:(M.p k).x.aG=cy
 lK:(M.p k).b1=false->(M.p k).aE.state≠2
 tZ:(M.p k).x.now<=n
structure fm(n d w:J)(cy:aa)(M:dX):ak where
 ps:∀ k,k<2->∃ F us A,te n d w cy M k F us A
 oa:∀ k x,x∈M.bE k->x.toNat<=63
 vK:∀ k:J,k<2->∀ t∈M.cs.get k,∃ m,t=dh m/\iV (w+d) (M.bE (1-k)) (bN (M.p (1-k))) m
 tS:∀ k:J,(M.cs.get k).length<=64
 lost:0<=M.cs.lost/\M.cs.lost<=10*n
def SC{bE:J->ah aR}(h:∀ k x,x∈bE k->x.toNat<=63)(k j:J):0<=fE bE k j/\fE bE k j<=63:=by
 unfold fE;rw[oD];cases e:(bE k)[j]? with
 | none=>show(0:aa)<=((0:aR).toNat:aa)/\((0:aR).toNat:aa)<=63;decide
 | some x=>
  have:=h k x (kH e)
  show(0:aa)<=(x.toNat:aa)/\(x.toNat:aa)<=63;omega
def b8.PD{s:bJ}{F:J}{a_ a us:J->J->aa}(h:b8 s F a_ us)(aj:∀ k j,0<=a k j/\a k j<=63)(b:∀ k,k<2->∀ j,j<(s.x.f k).next->a_ k j=a k j):b8 s F a us:=by
 have hm:=h.aL;obtain⟨i,l,m,n,z,o,d,p,e,bO,q,r,g,t,u,v,w,y,bY⟩:=h;refine⟨i.congr b (λ_ _ _ _ _=>rfl) (λ_ _ _=>rfl),l,m,n,aj,o,d,p,e,bO,λj c=>(q j c).trans (b _ hm j ?_),λj c=>(r j c).trans (b _ U j ?_),g,t,u,v,w,y,bY⟩
 .unfold c_ at d;omega
 unfold bN fv at e g;omega
def H_(bE:J->ah aR)(k:J)(v:aR):fE (b2 bE k (bE k++[v]))=λi=>if i=k then b2 (fE bE k) (bE k).length v.toNat else fE bE i:=by
 funext i j
 unfold fE b2;by_cases e:i=k
 .subst e;rw[aD rfl,aD rfl,oD,getElem?_append];by_cases h:j<(bE i).length
  .rw[aD h,az U,<-oD]
  rw[az h];by_cases h2:j=(bE i).length
  .rw[aD h2,h2,DY];rfl
  rw[az h2,sN bT];show _=(((bE i).getD j 0).toNat:aa);rw[oD,sN U]
 rw[az e,az e]
def two{k:J}(h:k<2):1-k<2/\1-(1-k)=k/\1-k≠k/\(1:aa)-(k:aa)=((1-k:J):aa):=U
def te.ct{n b d w:J}{cy:aa}{M eK:dX}{k F:J}{us:J->J->aa}{A:J}(h:te n d w cy M k F us A)(hk:k<2)(ar:n<=b)(a:eK.p k=M.p k)(e:eK.bE k=M.bE k)(aj:∀ k x,x∈eK.bE k->x.toNat<=63)(g:M.bE (1-k) <+: eK.bE (1-k))(O:bN (M.p (1-k))<=bN (eK.p (1-k))):te b d w cy eK k F us A:=by
 have hm:=h.aL;have⟨o,q,s,t,f,L,u,v,y,bO,z,B,N⟩:=h
 have:=g.length_le
 have K:b8 (M.p k) F (fE eK.bE) us:=o.PD (SC aj) λi aw j P=>by
  unfold fE
  have:i=k\/i=1-k:=U
  rcases this with c|c
  .rw[c,e]
  subst c;obtain⟨r,m⟩:=g;have l:j<(M.bE (1-k)).length:=by unfold bN fv at f;rw[hm]at f;omega
  exact LZ
 have H:LkI b k (M.bE k) (bN (M.p k)) A (M.p k).aE:=by
  have⟨bY,bo,eo,dM,fN,eb,c5,fy,fa,d1,d2,C,D,E,G⟩:=s;exact⟨bY,bo,eo,U,U,U,U,U,fa,d1,d2,C,D,E,G⟩
 exact⟨by rw[a];exact K,by rw[a];exact q,by rw[a,e];exact H,by rw[a,e];exact t,by rw[a];omega,U,by rw[a];exact u,by rw[a];exact v,by rw[a];exact y,by rw[a];exact bO,by rw[a];exact z,by rw[a];exact B,by rw[a];omega⟩
def yd(s:cT)(a:aa)(L:ah cc)(k:J)(hk:k<2)(aO:iv a):(s.put a L).get k=if (k:aa)=a then L else s.get k:=by
 unfold cT.put cT.get iv at *;rcases aO with rfl|rfl
 .by_cases e:(k:aa)=0
  .rw[aD rfl,aD e,aD e]
  rw[aD rfl,az e,az e,az e]
 have h1:¬ (1:aa)=0:=U;by_cases e:(k:aa)=0
 .have h2:¬ (k:aa)=1:=U;rw[az h1,aD e,aD e,az h2]
 have h2:(k:aa)=1:=U;rw[az h1,az e,az e,aD h2]
def WL(s:cT)(b:aa)(t:cc)(k:J)(hk:k<2)(c:(s.get k).length<=64):(∀ x∈(hD s 64 b t).get k,x∈s.get k\/((k:aa)=b/\x=t))/\((hD s 64 b t).get k).length<=64/\s.lost<=(hD s 64 b t).lost/\(hD s 64 b t).lost<=s.lost+1:=by
 unfold hD;split
 .rename_i h;split
  .rename_i h2;rw[yd _ _ _ _ hk h.1];have d:(s.put b (s.get b++[t])).lost=s.lost:=by unfold cT.put;split<;>rfl
   rw[d];refine⟨λx a=>?_,?_,jw _,U⟩
   .split at a
    .rename_i e;rcases e5.1 a with a|a
     .rw[<-e]at a;exact .inl a
     exact .inr ⟨e,fL.1 a⟩
    exact .inl a
   split
   .rw[cx,iT];omega
   exact c
  exact⟨λx a=>.inl a,c,by show s.lost<=s.lost+1;omega,jw _⟩
 exact⟨λx a=>.inl a,c,jw _,U⟩
theorem wx(a:aa)(k:J)(hk:k<2):∀ (b:ah a1) (s:cT),(s.get k).length<=64->(∀ x∈(gB s a b).get k,x∈s.get k\/((k:aa)=a/\∃ m∈b,x=dh m))/\((gB s a b).get k).length<=64/\s.lost<=(gB s a b).lost/\(gB s a b).lost<=s.lost+b.length
 | [],s,c=>⟨λx d=>.inl d,c,jw _,by simp[gB]⟩
 | m :: r,s,c=>by
  obtain⟨h1,h2,o,p⟩:=WL s a (dh m) k hk c;obtain⟨g1,f,l,n⟩:=wx a k hk r (hD s 64 a (dh m)) h2;have e:gB s a (m :: r)=gB (hD s 64 a (dh m)) a r:=rfl;rw[e];refine⟨λx d=>?_,f,U,by rw[ds];omega⟩;rcases g1 x d with h|⟨h,y,j,i⟩
  .rcases h1 x h with h|⟨h,g⟩
   .exact .inl h
   exact .inr ⟨h,m,mI,g⟩
  exact .inr ⟨h,y,kg _ j,i⟩
def jS(v:J->aa):J->J
 | 0=>0
 | k+1=>jS v k+if v (24+k*6+4)=0 then 0 else 1
theorem Kc(v:J->aa):∀ n,jS v n<=n
 | 0=>bs
 | n+1=>by
  have:=Kc v n
  unfold jS;split<;>omega
theorem wC{v v':J->aa}:∀ n,(∀ k,k<n->v' (24+k*6+4)=v (24+k*6+4))->jS v' n=jS v n
 | 0,_=>rfl
 | n+1,h=>by
  unfold jS;rw[wC n λk hk=>h k U,h n U]
theorem Cz{v v':J->aa}(k:J):∀ n,(∀ j,j<n->j≠k->v' (24+j*6+4)=v (24+j*6+4))->jS v' n+(if k<n/\v (24+k*6+4)≠0 then 1 else 0)=jS v n+(if k<n/\v' (24+k*6+4)≠0 then 1 else 0)
 | 0,_=>by simp[jS]
 | n+1,h=>by
  have d:=Cz k n λj f ar=>h j U ar;unfold jS;by_cases e:k=n
  .subst e;rw[if_neg (λc=>oF _ c.1),if_neg (λc=>oF _ c.1)]at d;by_cases a:v (24+k*6+4)=0<;>by_cases b:v' (24+k*6+4)=0<;>simp[a,b]<;>omega
  rw[h n U λc=>e c.symm];simp only[show(k<n+1)=(k<n)from propext U];omega
def oT(fr:aa)(xs:ah aB)(e:aB):(h0 fr xs e).length<=xs.length+1:=by
 unfold h0;split
 .omega
 split
 .omega
 unfold k0;rw[pn,mG,gn,gm];omega
def fq(s:(J->aa)×ah aB):J:=s.2.length+2*jS s.1 6
def vy{s t:(J->aa)×ah aB}(n:J)(h:∀ j,24<=j->t.1 j=s.1 j)(a:t.2.length<=s.2.length+n):fq t<=fq s+n:=by
 unfold fq;rw[wC (v:=s.1) (v':=t.1) 6 λk _=>h _ U];omega
theorem G3(v:J->aa):∀ n k j,oY v k n=some j->v (24+j*6+4)=0
 | 0,k,j,h=>nomatch h
 | n+1,k,j,h=>by
  unfold oY at h;split at h
  .cases h;assumption
  exact G3 v n _ j h
def Pe(i:J)(aw:i<2)(fr:aa)(s:(J->aa)×ah aB):fq (nZ i fr s)<=fq s+3:=by
 unfold nZ;dsimp only;split
 .omega
 split
 .omega
 rename_i k hk;have a:=G3 _ _ _ _ hk;have h1:=A6 _ _ _ _ hk;have d:=oT fr s.2 (j6 (i+1) 1 1 16384 5 0 (s.1 (4+i*10)));unfold fq
 have:=Cz (v:=s.1) (v':=bF (dy (24+k*6) 6 (rb (dj (s.1 (4+i*10)) (hN (s.1 (4+i*10+4)) 262144)) (dj (s.1 (4+i*10+1)) (hO (s.1 (4+i*10+4)) 262144)) (hN (s.1 (4+i*10+4)) 196608) (hO (s.1 (4+i*10+4)) 196608) (i+1) 40) s.1) (4+i*10+6) 8) k 6 (λj b ar=>by rw[cX _ _ _ _ U,nj _ _ _ _ _ U])
 rw[if_neg (λc=>c.2 a)]at this;split at this<;>dsimp only<;>omega
def Ph{c:aa}{v:J->aa}{o:J}(h:mL c (λq=>v (o+q)))(i:J)(a:o=4+i*10)(aw:i<2)(bS fr:aa)(xs:ah aB):fq (hS i bS fr (v,xs))<=fq (v,xs)+(1+if (v 0).tmod 8=0 then 1 else 0):=by
 have av:=(Ku h i a bS fr xs).1;have d:jt o bS v 0=v 0:=by
  unfold jt rR oe lC qO qh
  repeat (first|split|rw[cX _ _ _ _ U])
 have aO:(kD i o fr (ed bS 4) (jt o bS v,xs)).2.length<=xs.length+if (v 0).tmod 8=0 then 1 else 0:=by
  unfold kD;split
  .have b:h7 o 8192 (jt o bS v) 0=v 0:=by unfold h7 qh;rw[cX _ _ _ _ U,cX _ _ _ _ U,d]
   simp only[b];split
   .rename_i e;rw[if_pos (by simpa using e)];exact oT _ _ _
   omega
  show xs.length<=_;omega
 have hd:(hS i bS fr (v,xs)).2.length<=(kD i o fr (ed bS 4) (jt o bS v,xs)).2.length+1:=by
  unfold hS nV;simp only[<-a];split
  .exact oT _ _ _
  omega
 refine vy (s:=(v,xs)) _ (λj f=>av.same j U U U U U) ?_;show _<=xs.length+_;omega
def F7{c f r:aa}{v:J->aa}(h:Mid c f r v)(i:J)(aw:i<2)(bS fr:aa)(xs:ah aB):fq (h' i bS fr (v,xs))<=fq (v,xs)+5+if (v 0).tmod 8=0 then 1 else 0:=by
 have h1:fq (mY i fr (hS i bS fr (v,xs)))<=fq (v,xs)+2+if (v 0).tmod 8=0 then 1 else 0:=by
  have an:=Ph (h.pl _ (lG i aw)) i rfl aw bS fr xs;have b:fq (mY i fr (hS i bS fr (v,xs)))<=fq (hS i bS fr (v,xs))+1:=by
   refine vy 1 (λj a=>?_) ?_
   .show r6 (4+i*10) _ j=_;unfold r6;rw[cX _ _ _ _ U,cX _ _ _ _ U,cX _ _ _ _ U,cX _ _ _ _ U]
   unfold mY;dsimp only;split
   .exact oT _ _ _
   omega
  omega
 unfold h';split
 .refine rE (vy (s:=(v,xs)) (t:=nQ i fr (v,xs)) 1 (λj a=>?_) ?_) U
  .unfold nQ;dsimp only;split
   .exact cX _ _ _ _ U
   dsimp only;rw[nj _ _ _ _ _ U,cX _ _ _ _ U,cX _ _ _ _ U]
  unfold nQ;dsimp only;split
  .show xs.length<=xs.length+1;omega
  exact oT _ _ _
 split
 .have:=Pe i aw fr (mY i fr (hS i bS fr (v,xs)))
  omega
 omega
def Pd(fr:aa)(s:(J->aa)×ah aB):fq (iY fr s)<=fq s+1:=by
 unfold iY;split
 .omega
 exact vy 1 (λj a=>by dsimp only;rw[cX _ _ _ _ U,cX _ _ _ _ U,cX _ _ _ _ U,cX _ _ _ _ U]) (oT _ _ _)
def Pg{c f r:aa}{s:(J->aa)×ah aB}(h:Mid c f r s.1){k:J}(hk:k<6)(fr:aa):fq (qd k fr s)<=fq s:=by
 have⟨v,xs⟩:=s;unfold qd;split
 .exact bs
 rename_i i;have i:v (24+k*6+4)≠0:=i
 -- the shot is still there,or goes
 have aZ:=Bm (24+k*6) v;have go:∀ (v':J->aa) (ys:ah aB),(∀ j,j<6->j≠k->v' (24+j*6+4)=v (24+j*6+4))->ys.length<=xs.length+2->fq (dy (24+k*6) 6 (λ_=>0) v',ys)<=fq (v,xs):=λv' ys aW o=>by
  have:=Cz (v:=v) (v':=dy (24+k*6) 6 (λ_=>0) v') k 6 (λj g ar=>by rw[nj _ _ _ _ _ U];exact aW j g ar)
  rw[if_pos ⟨hk,i⟩,if_neg (λc=>c.2 (mx _ _ _ _ 4 U))]at this;unfold fq;dsimp only;omega
 have l:∀ j,j<6->fS (24+k*6) v (24+j*6+4)=v (24+j*6+4):=λj g=>aZ.2.2.2 _ U U U;have n:(2-v (24+k*6+4)).toNat<2:=by
  rcases h.pc k hk with e|e
  .exact absurd (e 4 U) i
  have:=e.2.2.2.2.1
  simp only[]at this;omega
 split
 .rename_i d;have m:(i_ k fr (v,xs)).2=(fS (24+k*6) v,xs):=by
   unfold i_ at d⊢;dsimp only at d⊢;split at d
   .cases d
   split at d
   .cases d
   split at d
   .cases d
   rename_i a b c;rw[if_neg a,if_neg b,if_neg c]
  rw[m];refine gD ?_;unfold fq;rw[wC (v:=v) (v':=fS (24+k*6) v) 6 λj g=>l j g]
 refine go _ _ (λj g ar=>?_) ?_
 .unfold i_;dsimp only;split
  .exact cX _ _ _ _ U
  split
  .exact l j g
  split
  .refine Eq.trans ?_ (l j g);unfold mh;dsimp only;split
   .exact cX _ _ _ _ U
   dsimp only;rw[cX _ _ _ _ U,cX _ _ _ _ U,cX _ _ _ _ U]
  exact l j g
 unfold i_;dsimp only;split
 .show xs.length<=_;omega
 split
 .show xs.length<=_;omega
 split
 .unfold mh;dsimp only;split
  .exact rE (oT _ _ _) U
  exact rE (oT _ _ _) (Nat.succ_le_succ (oT _ _ _))
 show xs.length<=_;omega
theorem F9{c f r:aa}{s:(J->aa)×ah aB}(h:Mid c f r s.1)(fr:aa):∀ k:J,k<=6->fq (iP fr s k)<=fq s
 | 0,_=>bs
 | k+1,hk=>rE (Pg (yA h fr k U) U fr) (F9 h fr k U)
def Pf(fr:aa)(s:(J->aa)×ah aB):fq (j_ fr s)<=fq s+1:=by
 unfold j_;split
 .exact rE (vy 0 (λj a=>cX _ _ _ _ U) bs) U
 have b:=oT fr s.2 (j6 0 7 7 32768 12 0 0);unfold fq;dsimp only
 have:∀ v:J->aa,jS (dy 24 36 (λ_=>0) v) 6=0:=λv=>by
  have h1:=wC (v:=λ_=>(0:aa)) (v':=dy 24 36 (λ_=>0) v) 6 λk hk=>by
   rw[show 24+k*6+4=24+(k*6+4)by omega];exact mx _ _ _ _ _ U
  rw[h1];rfl
 rw[this];omega
def Pj{f r:aa}{v:J->aa}(h:Mid 2 f r v)(a b:aa):(kb a b v).length+2*jS (ix a b v) 6<=12+(if (v 0).tmod 8=0 then 2 else 0)+2*jS v 6:=by
 have⟨s1,c⟩:=cO (h' 0 a (v 0) (v,[]));have⟨s2,d⟩:=cO (h' 1 b (v 0) s1);have g:Mid 2 f r s1.1:=by rw[c];exact tW h 0 U a (v 0) []
 have i:Mid 2 f r s2.1:=by rw[d];exact tW g 1 U b (v 0) s1.2
 have bY:fq s1<=fq (v,[])+5+if (v 0).tmod 8=0 then 1 else 0:=by rw[c];exact F7 h 0 U a (v 0) []
 have bo:fq s2<=fq s1+5+if (s1.1 0).tmod 8=0 then 1 else 0:=by rw[d];exact F7 g 1 U b (v 0) s1.2
 rw[g.f0,<-h.f0]at bo;have j:Mid 2 f r (iY (v 0) s2).1:=BO i (v 0) s2.2;have eo:=Pd (v 0) s2;have dM:=F9 j (v 0) 6 bs;have fN:=Pf (v 0) (iP (v 0) (iY (v 0) s2) 6);have e:fq (stepG a b (v 0) v)=(kb a b v).length+2*jS (ix a b v) 6:=by
  unfold fq kb ix;rw[wC (v:=(stepG a b (v 0) v).1) 6 λk _=>cX _ _ _ _ U]
 have l:fq (v,([]:ah aB))=2*jS v 6:=qu _;unfold stepG at e;rw[<-c,<-d]at e;by_cases z:(v 0).tmod 8=0
 .rw[if_pos z]at *;omega
 rw[if_neg z]at *;omega
def j5(T:J->ah aB)(a:J):J->J
 | 0=>0
 | n+1=>j5 T a n+(T (a+n)).length
theorem F8(us:J->J->aa){aG:aa}(av:0<=aG/\aG<=4294967295)(a:J):∀ n,j5 (eM us aG) a n+2*jS (hj us aG (a+n)) 6+2*((a+7) / 8)<=12*n+2*((a+n+7) / 8)+2*jS (hj us aG a) 6
 | 0=>by simp[j5];omega
 | n+1=>by
  have d:=F8 us av a n;obtain⟨r,hm,_⟩:=sh us av (a+n);have h:=Pj hm (us 0 (a+n)) (us 1 (a+n));rw[hm.f0]at h;unfold j5;have e:(kb (us 0 (a+n)) (us 1 (a+n)) (hj us aG (a+n))).length=(eM us aG (a+n)).length:=rfl;have b:ix (us 0 (a+n)) (us 1 (a+n)) (hj us aG (a+n))=hj us aG (a+(n+1)):=rfl;rw[e,b]at h;have c:(((a+n:J):aa).tmod 8=0)=((a+n)%8=0):=by rw[oA U];exact propext U
  simp only[c]at h;split at h<;>omega
def vz(us:J->J->aa){aG:aa}(av:0<=aG/\aG<=4294967295)(a n:J):j5 (eM us aG) a n+2*((a+7) / 8)<=12*n+2*((a+n+7) / 8)+12:=by
 have h:=F8 us av a n
 have:=Kc (hj us aG a) 6
 omega
theorem xN{T T':J->ah aB}(a:J):∀ n,(∀ j,a<=j->j<a+n->T j=T' j)->j5 T a n=j5 T' a n
 | 0,_=>rfl
 | n+1,h=>by
  unfold j5;rw[xN a n λj h1 h2=>h j h1 U,h (a+n) U U]
theorem AD(T:J->ah aB)(a m:J):∀ n,j5 T a (m+n)=j5 T a m+j5 T (a+m) n
 | 0=>rfl
 | n+1=>by
  show j5 T a (m+n)+(T (a+(m+n))).length=j5 T a m+(j5 T (a+m) n+(T (a+m+n)).length);rw[AD T a m n,ih a m n];omega
def qG(T:J->ah aB)(a:J):J->ah aB
 | 0=>[]
 | n+1=>qG T a n++T (a+n)
theorem Ar(T:J->ah aB)(a:J):∀ n,(qG T a n).length=j5 T a n
 | 0=>rfl
 | n+1=>by
  unfold qG j5;rw[pn,Ar T a n]
theorem BL{T:J->ah aB}{a:J}{e:aB}:∀ n j,a<=j->j<a+n->e∈T j->e∈qG T a n
 | 0,j,h1,h2,_=>by omega
 | n+1,j,h1,h2,b=>by
  unfold qG;by_cases c:j=a+n
  .rw[<-c];exact sP _ b
  exact sO _ (BL n j h1 U b)
end Go.Proofs.YtalagblioepadaaGreatDoor
