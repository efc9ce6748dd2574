/- The proof, part 47. -/
import Derived.Test.YtalagblioepadaaGreatDoorZb46
namespace Go.Proofs.YtalagblioepadaaGreatDoor
set_option linter.all false
open Proofs.Tryz List Go.RowKit Go.Maps
set_option maxRecDepth 100000
set_option maxHeartbeats 2000000
def zN{p:ak}(h:p:=by rw[S];exact E):p:=h
def sP{p:ak}(h:p:=by rw[<-q];exact aW _ _):p:=h
def sO{p:ak}(h:p:=by have a:j=w.heap.size+1:=a;omega):p:=h
def DU{p:ak}(h:p:=by rw[a];show(M.p k).x.now<=_;omega):p:=h
def zC{p:ak}(h:p:=by have:=((λj (a:g_ B.c j)=>h.lt (r:=ay.gW B.c M.cs) (ky (i:=11) rfl) a)) _ e;omega):p:=h
def M'{p:ak}(h:p:=by
 have⟨a,c,e,_⟩:=cP (show bn.ownsRow 0 47 12 s c3.length (eA c3)from d.res (r:=ay.cS s c3) aI);exact⟨a,_,c,e⟩
 ):p:=h
def Ng{p:ak}(h:p:=by
 obtain⟨a,c,e,_⟩:=cP (show bn.ownsRow 0 47 12 y c3.length (eA c3)from s.at' 9 rfl);exact⟨a,_,c,e⟩
 ):p:=h
def Lj{p:ak}(h:p:=by
 rcases ft.1 b with b|b
 .exact h.nS k x b
 rw[h6.1 b];exact aX
 ):p:=h
def Lv{p:ak}(h:p:=by
 rw[j,ux]at b;split at b
 .rwa [wE]at b
 cases b
 ):p:=h
def US(Q:b9->ak)(a:∀ (l:b9) (f:aa) (v:J->aa),Q l->Q (lE l f (iJ v)))(f:J)(p:ct)(h:Q p.1.aE):Q (iY f p).1.aE:=by
 rw[(BV f p).2.1];exact a _ _ _ h
theorem JG(Q:b9->ak)(a:∀ (l:b9) (f:aa) (v:J->aa),Q l->Q (lE l f (iJ v))):∀ (n:J) (p:ct),Q p.1.aE->Q (e0 n p).1.aE
 | 0,p,h=>h
 | n+1,p,h=>by
  unfold e0;split
  .exact h
  refine JG Q a n _ ?_;unfold eZ;simp only[];split
  .exact US Q a _ _ h
  exact h
structure NJ(n d w:J)(cr:aa)(M:dZ)(k:J)(v:aQ):ak where
 inv:∃ F us A,sZ (n+1) d w cr (gC k v M) k F us A
 uh:bT (cJ v (M.p k)).1=bT (M.p k)
 snd:∀ m∈e_ v (M.p k),iP (w+d) ((gC k v M).bF k) (bT (M.p k)) m
 fX:(e_ v (M.p k)).length<=10
 HO:(M.p k).b'=true->uZ (M.p k).aE 0
 bm:(M.p k).b'=false->uZ (dc v (M.p k)).1.aE (hV {(dc v (M.p k)).1 with x:=dW (dc v (M.p k)).1.x})
def LkI.kS{n k T A c:J}{o:ah aQ}{l:b9}{lead:aa}(h:LkI n k o T A l)(au:n<=400)(a:∀ m∈(c5 l lead).1,iP c o T m)(b:(c5 l lead).1.length<=10):uZ l lead:=by
 have h1:=h.n4;have h2:=h.hd;exact⟨U,U,λm hm=>(h.TJ m hm).2.2.1,λm hm=>⟨(a m hm).1,(a m hm).2.1⟩,U⟩
def wj{n d w:J}{cr:aa}{M:dZ}(h:e' n d w cr M)(au:n<=400){k:J}(hk:k<2)(v:aQ)(aX:v.toNat<=63):NJ n d w cr M k v:=by
 have⟨F,us,A,i,G,z,j,K,E,L,H,t,bP,N,vl,v'⟩:=h.ps k hk;have⟨w',ys,Q,zd⟩:=two hk;have X:=i.mB;have hd:=i.ab;have h2:=i.oT;rw[t,bP]at X;rw[t,j]at hd;rw[bP]at h2;have a:(gC k v M).p k=(cJ v (M.p k)).1:=i_ _ _ _;have S:(gC k v M).p (1-k)=M.p (1-k):=h3 _ _ Q;by_cases aR:(M.p k).b'=true
 .have u:dL (M.p k)=false:=by unfold dL;rw[aR];rfl
  have e:(gC k v M).bF=M.bF:=by show(if dL (M.p k)then _ else _)=_;rw[u];rfl
  have O:cJ v (M.p k)=({M.p k with aE:=(c5 (M.p k).aE 0).2},[]):=by unfold cJ;rw[aD aR]
  have B:e_ v (M.p k)=(c5 (M.p k).aE 0).1:=by unfold e_;rw[aD aR]
  obtain⟨D,o,q⟩:=z.tick hk (h.nS k) (c:=w+d) U 0;refine⟨⟨F,us,A,?_⟩,by rw[O];rfl,by rw[B,e];exact o,by rw[B];exact q,λ_=>z.kS au o q,λc=>by rw[aR]at c;cases c⟩;rw[O]at a;refine⟨by rw[a,e];exact i.same rfl rfl rfl,by rw[a];exact G,by rw[a,e];exact D,by rw[a,e];exact j,by rw[a,e];exact K,zN,by rw[a];exact L,by rw[a];exact H,by rw[a];exact t,by rw[a];exact bP,by rw[a];exact N,λc=>?_,DU⟩;rw[a]at c;have c:=c;rw[aR]at c;cases c
 have aR:(M.p k).b'=false:=by simpa using aR
 obtain⟨CW,m1,_,m3,_⟩:=vQ i aR (by rw[bP];exact G) U v aX;obtain⟨T,cN,C,l',m,m',R,y,zp,r',sd⟩:=i.tick aR (by rw[bP];exact G) U v aX;have B:e_ v (M.p k)=(c5 (dc v (M.p k)).1.aE (hV {(dc v (M.p k)).1 with x:=dW (dc v (M.p k)).1.x})).1:=by unfold e_;rw[aR];rfl
 have⟨g,e⟩:=cQ (gC k v M).bF;have r:g=if dL (M.p k)then b1 M.bF k (M.bF k++[v])else M.bF:=e
 have Z:(if dL (M.p k)then jf (M.p k) (fB M.bF) v.toNat else fB M.bF)=fB g:=by
  rw[r];split
  .rw[HI];unfold jf;rw[H,j]
  rfl
 have gf:LkI n k (g k) (bT (M.p k)) A (eL v (cW (M.p k))).1.aE:=by
  rw[m3,r];split
  .rename_i u;rw[i_,j];have ax:(M.p k).aE.state=1:=by
    have aq:fW (cW (M.p k)).1=true:=by unfold dL at u;rw[aR]at u;simpa using u
    have⟨_,Aw,_,_,_,_,_,_,_,_,s',_⟩:=r0 i;rw[<-s'];exact(Ae aq).2.1
   exact z.own v aX U ax
  exact z
 have P:LkI n k (g k) (bT (M.p k)) A (dc v (M.p k)).1.aE:=JG (LkI n k (g k) (bT (M.p k)) A) (λl f s a'=>a'.rep f _ (Xh s)) _ _ gf;have fr:(g k).length=(M.bF k).length+if dL (M.p k)then 1 else 0:=by
  rw[r];split
  .rw[i_,cx,iM]
  rfl
 have lb:∀ x∈g k,x.toNat<=63:=by
  rw[r];intro x b;split at b
  .rw[i_]at b;exact Lj
  exact h.nS k x b
 have V:=C.ab;have W:=C.oT;rw[m.eD,t,R,j]at V;rw[y,m.dA,bP]at W;have⟨D,o,q⟩:=P.tick hk lb (c:=w+d) U (hV {(dc v (M.p k)).1 with x:=dW (dc v (M.p k)).1.x});have g':=P.kS au o q;rw[<-B]at o q;rw[<-r']at D;have Y:g (1-k)=M.bF (1-k):=by
  rw[r];split
  .exact h3 _ _ Q
  rfl
 rw[Z]at C;refine⟨⟨T,cN,A,?_⟩,y,by rw[<-e];exact o,q,λc=>absurd c (by rw[aR];simp),λ_=>g'⟩;refine⟨by rw[a,<-e];exact C,by rw[a,<-bP];exact l',by rw[a,<-e,y];exact D,by rw[a,<-e,R,fr,j],by rw[a,<-e,Y,y];exact K,zN,by rw[a,y];exact L,by rw[a,m.aJ];exact H,by rw[a,m.eD];exact t,by rw[a,m.dA];exact bP,by rw[a,m.aO];exact N,by rw[a];exact sd,by rw[a,m'];split<;>omega⟩
def AJ(M:dZ)(k:J)(v:aQ)(j:J):M.bF j <+: (gC k v M).bF j:=by
 show _ <+: (if dL (M.p k)then b1 M.bF k (M.bF k++[v])else M.bF) j;split
 .unfold b1;split
  .subst j;exact prefix_append _ _
  exact wK _
 exact wK _
def e'.tick{n d w:J}{cr:aa}{M:dZ}(h:e' n d w cr M)(au:n<=400){k:J}(hk:k<2)(v:aQ)(aX:v.toNat<=63):e' (n+1) d w cr (gC k v M):=by
 have aN:=wj h au hk v aX;have⟨g,i,l,y⟩:=two hk;have f:∀ j x,x∈(gC k v M).bF j->x.toNat<=63:=by
  intro j x b;have b:x∈(if dL (M.p k)then b1 M.bF k (M.bF k++[v])else M.bF) j:=b;split at b
  .unfold b1 at b;split at b
   .exact Lj
   exact h.nS j x b
  exact h.nS j x b
 have c:∀ j,bT ((gC k v M).p j)=bT (M.p j):=λj=>by
  show bT (b1 M.p k _ j)=_;unfold b1;split
  .subst j;exact aN.uh
  rfl
 have r:(gC k v M).p (1-k)=M.p (1-k):=h3 _ _ l;have o:(gC k v M).bF (1-k)=M.bF (1-k):=by
  show(if dL (M.p k)then b1 M.bF k (M.bF k++[v])else M.bF) (1-k)=_;split
  .exact h3 _ _ l
  rfl
 refine⟨λj a=>?_,f,λj a t u=>?_,λj=>?_,?_⟩
 .have:j=k\/j=1-k:=U
  rcases this with rfl|rfl
  .exact aN.inv
  have⟨F,us,A,av⟩:=h.ps (1-k) g;exact⟨F,us,A,av.cu g U r o f (by rw[i];exact AJ M k v k) (by rw[i,c];exact c9 _)⟩
 .rcases (v7 (1-(k:aa)) j a (e_ v (M.p k)) M.cs (h.rU j)).1 t u with b|⟨b,m,hm,rfl⟩
  .have⟨m,h1,h2⟩:=h.vv j a t b;exact⟨m,h1,h2.mono (AJ M k v (1-j)) (by rw[c];exact c9 _)⟩
  have q:1-j=k:=U;exact⟨m,rfl,by rw[q,c];exact aN.snd m hm⟩
 .by_cases a:j<2
  .exact(v7 (1-(k:aa)) j a (e_ v (M.p k)) M.cs (h.rU j)).2.1
  have e:∀ s:cT,s.get (j:aa)=s.get ((1:J):aa):=λs=>by
   unfold cT.get;rw[aA U,aA U]
  rw[e];exact(v7 (1-(k:aa)) 1 U (e_ v (M.p k)) M.cs (h.rU 1)).2.1
 have⟨_,_,b0,bs⟩:=v7 (1-(k:aa)) 0 U (e_ v (M.p k)) M.cs (h.rU 0)
 have:=h.lost
 have:=aN.fX
 show 0<=(gu M.cs (1-(k:aa)) (e_ v (M.p k))).lost/\(gu M.cs (1-(k:aa)) (e_ v (M.p k))).lost<=10*((n+1:J):aa);omega
def w3(n d w:J)(cr:aa)(M:dZ)(k:J)(s':bO):ak:=(∃ F us A,sZ (n+1) d w cr {M with p:=b1 M.p k s'} k F us A)/\bT (M.p k)<=bT s'
def Hi{n d w:J}{cr:aa}{M:dZ}(h:e' n d w cr M)(au:n<=400){k:J}(hk:k<2){t:ah aQ}(aN:(∃ m,t=dk m/\iP (w+d) (M.bF (1-k)) (bT (M.p (1-k))) m)\/(fs t).2≠0):w3 n d w cr M k (dx t (M.p k)).1:=by
 have⟨F,us,A,l,B,C,u,D,Q,R,v,o,bP,E,G,Q'⟩:=h.ps k hk;have⟨g',hd,h2,Y2⟩:=two hk;have N:∀ s',({M with p:=b1 M.p k s'}:dZ).p (1-k)=M.p (1-k):=λs'=>h3 _ _ h2;have a:∀ s',({M with p:=b1 M.p k s'}:dZ).p k=s':=λs'=>i_ _ _ _;have same:∀ (l':b9) (cA:J),LkI (n+1) k (M.bF k) (bT (M.p k)) cA l'->A<=cA->cA<=bT (M.p (1-k))->((M.p k).b'=false->l'.state≠2)->w3 n d w cr M k {M.p k with aE:=l'}:=λl' cA fr St q ax=>by
  refine⟨⟨F,us,cA,?_⟩,c9 _⟩;exact⟨by rw[a];exact l.same rfl rfl rfl,by rw[a];exact B,by rw[a];exact fr,by rw[a];exact u,by rw[a];exact D,by rw[N];exact q,by rw[a];exact b7 R U,by rw[a];exact v,by rw[a];exact o,by rw[a];exact bP,by rw[a];exact E,by rw[a];exact ax,DU⟩
 by_cases aR:(M.p k).b'=true
 .have e:dx t (M.p k)=(M.p k,[]):=by unfold dx;rw[aD aR]
  rw[e];exact same (M.p k).aE A C.up bA Q G
 have aR:(M.p k).b'=false:=by simpa using aR
 have TS:d<=8/\w<=16:=by have:=l.mB;rw[o,bP]at this;omega
 have W:=l.ab;have Y:=l.oT;rw[o,u]at W;rw[bP]at Y;have⟨CW,Y3,Aw,b0,bs,ez,dR,fV,dS,c6,fv,e5,d1,d2,d3,d4⟩:=h.ps (1-k) g';have X:=b0.ab;have Z:=b0.oT;rw[e5,dR]at X;rw[d1]at Z;rw[hd]at fV dS;have⟨⟨T',cA,z,i2,i3,i4,i5,i6,i7,j,i9⟩,W'⟩:=(C.vD U (M.bF (1-k)) D U (Tq:=bT (M.p (1-k))) (c:=w+d) fV aN);have q:cA<=bT (M.p (1-k)):=U;by_cases g:(cI (M.p k).aE t).2.1≠0
 .have e:dx t (M.p k)=({M.p k with aE:=(cI (M.p k).aE t).2.2},[]):=by
   unfold dx;rw[aA (show ¬ (M.p k).b'=true by rw[aR];simp),aD g]
  rw[(i7 g)]at j;have a':T'=bT (M.p k):=by
   have:=cV length j
   exact LD
  rw[a']at z;rw[e];refine same _ cA z i4 q λ_=>?_
  -- an error leaves the state
  have ax:=G aR;unfold cI;rw[aA ax];by_cases O:(fs t).2≠0
  .rw[aD O];exact ax
  exfalso;apply g;unfold cI;rw[aA ax,aA O];split<;>rfl
 have g:(cI (M.p k).aE t).2.1=0:=by simpa using g
 have e:dx t (M.p k)=e7 (fj (cI (M.p k).aE t).1 {M.p k with x:=fc (M.p k).x (cI (M.p k).aE t).1.a8,aE:=(cI (M.p k).aE t).2.2}):=by
  unfold dx;rw[aA (show ¬ (M.p k).b'=true by rw[aR];simp),aA (λc=>c g)]
 generalize cI (M.p k).aE t=H at *;have V':H.1.a8.length=T'-bT (M.p k):=by rw[j];simp;omega
 have L:∀ i x,H.1.a8[i]?=some x->(M.bF (1-k))[bT (M.p k)+i]?=some x:=λi x b=>by
  exact Lv
 have⟨m',r',sd,P,vl,v',w',ys⟩:=cb.x0 H.1.a8 l U (λi x b=>by
  rw[v];unfold fB;rw[oe,L i x b];rfl) (λx b=>by
  obtain⟨i,av,rfl⟩:=sD.1 b;exact h.nS (1-k) _ (ky (L i _ (gb av))))
 obtain⟨s1,r⟩:∃ s1:bO,s1={M.p k with x:=fc (M.p k).x H.1.a8,aE:=H.2.2}:=⟨_,rfl⟩;rw[<-r]at e;have gf:cb s1 F (fB M.bF) us:=by rw[r];exact m'.same rfl rfl rfl
 have⟨zd,zp,Y4,Y5⟩:=He H.1 s1;have⟨g1,y,S,T,V,K⟩:=xV (fj H.1 s1);rw[<-e]at g1 y S T V K;have f:(dx t (M.p k)).1.x=fc (M.p k).x H.1.a8:=by rw[g1,zd,r]
 have lb:(dx t (M.p k)).1.aE=H.2.2:=by rw[y,zp,r]
 have s:bT (dx t (M.p k)).1=T':=by
  unfold bT at *;rw[f,r'];omega
 have m9:c4 (dx t (M.p k)).1=c4 (M.p k):=by
  unfold c4 at *;rw[f,sd]
 refine⟨⟨F,us,cA,?_⟩,by rw[s];exact i2⟩;refine⟨?_,by rw[a,f,P];exact B,by rw[a,lb,s];exact z,by rw[a,m9];exact u,by rw[a,s];exact i3,by rw[N];exact q,by rw[a,s];omega,by rw[a,f,vl];exact v,by rw[a,f,v'];exact o,by rw[a,f,w'];exact bP,by rw[a,f,ys];exact E,λc=>?_,by rw[a,f,P];omega⟩
 .rw[a,e];exact(gf.fj H.1).gone
 rw[a]at c⊢;rw[y];exact(K c).1
def R'{n d w:J}{cr:aa}{M:dZ}(h:e' n d w cr M){k:J}(hk:k<2):w3 n d w cr M k (fY (M.p k)).1:=by
 have⟨F,us,A,f,g,i,j,l,E,m,o,q,bP,r,u,v⟩:=h.ps k hk;have⟨R,T,O,V⟩:=two hk;have S:∀ s',({M with p:=b1 M.p k s'}:dZ).p (1-k)=M.p (1-k):=λs'=>h3 _ _ O;have a:∀ s',({M with p:=b1 M.p k s'}:dZ).p k=s':=λs'=>i_ _ _ _;by_cases aR:(M.p k).b'=true
 .have e:fY (M.p k)=(M.p k,[]):=by unfold fY;rw[aD aR]
  rw[e];refine⟨⟨F,us,A,?_⟩,c9 _⟩;exact⟨by rw[a];exact f,by rw[a];exact g,by rw[a];exact i.up,by rw[a];exact j,by rw[a];exact l,zN,by rw[a];exact m,by rw[a];exact o,by rw[a];exact q,by rw[a];exact bP,by rw[a];exact r,by rw[a];exact u,DU⟩
 have aR:(M.p k).b'=false:=by simpa using aR
 have e:fY (M.p k)=fN 12 ({M.p k with aE:=mA (M.p k).aE},[]):=by unfold fY;rw[aA (show ¬ (M.p k).b'=true by rw[aR];simp)]
 have⟨g1,y,D,G,Q,z,H,K,L⟩:=rM 12 ({M.p k with aE:=mA (M.p k).aE},[]);rw[<-e]at g1 y D G z H K L;have b:(fY (M.p k)).1.x=(M.p k).x:=g1;have t:bT (fY (M.p k)).1=bT (M.p k):=by unfold bT;rw[b]
 have P:c4 (fY (M.p k)).1=c4 (M.p k):=by unfold c4;rw[b]
 have N:LkI (n+1) k (M.bF k) (bT (M.p k)) A (mA (M.p k).aE):=by
  unfold mA;split
  .exact i.up
  obtain⟨f,g,i,j,l,E,m,o,q,bP,r,u,v,B,C⟩:=i.up;exact⟨f,g,.inr (.inr rfl),j,l,E,m,o,q,bP,r,u,v,B,C⟩
 refine⟨⟨F,us,A,?_⟩,by rw[t];exact c9 _⟩;refine⟨?_,by rw[a,b];exact g,by rw[a,y,t];exact N,by rw[a,P];exact j,by rw[a,t];exact l,zN,by rw[a,t];exact m,by rw[a,b];exact o,by rw[a,b];exact q,by rw[a,b];exact bP,by rw[a,b];exact r,λc=>?_,by rw[a,b];omega⟩
 .rw[a,e];exact cb.halt (s:={M.p k with aE:=mA (M.p k).aE}) (f.same rfl rfl rfl) 12 []
 rw[a,z]at c;cases c
def e'.goes{n d w:J}{cr:aa}{M:dZ}(h:e' n d w cr M){k:J}(hk:k<2){s':bO}(a1:w3 n d w cr M k s')(e:J->ah cg)(a:cT)(aq:∀ j:J,(∀ t∈a.get j,t∈M.cs.get j)/\(a.get j).length<=(M.cs.get j).length)(l:M.cs.lost<=a.lost/\a.lost<=M.cs.lost+1):e' (n+1) d w cr {p:=b1 M.p k s',bF:=M.bF,st:=e,cs:=a}:=by
 have⟨c,o,i,q⟩:=two hk;have⟨⟨F,us,A,av⟩,f⟩:=a1;have aN:∀ j,bT (M.p j)<=bT (b1 M.p k s' j):=λj=>by
  unfold b1;split
  .subst j;exact f
  exact c9 _
 refine⟨λj b=>?_,h.nS,λj b t g=>?_,λj=>b7 (aq j).2 (h.rU j),?_⟩
 .have:j=k\/j=1-k:=U
  rcases this with rfl|rfl
  .exact⟨F,us,A,av.1,av.2,av.3,av.4,av.5,av.6,av.7,av.8,av.9,av.10,av.11,av.12,av.13⟩
  obtain⟨F,us,A,av⟩:=h.ps (1-k) c;exact⟨F,us,A,av.cu c U (h3 _ _ i) rfl h.nS (wK _) (aN _)⟩
 .have⟨m,h1,h2⟩:=h.vv j b t ((aq j).1 t g);exact⟨m,h1,h2.mono (wK _) (aN _)⟩
 have:=h.lost
 show 0<=a.lost/\a.lost<=10*((n+1:J):aa);omega
variable{w w':ai}
structure jt where
 o:Old
 b:J
 c:J
 p:J->fT
def hs(B:jt)(V T:J->aw)(bh:aa):a6 aw:=#[.pointer (some (ad ((B.p 0).p) 0 ab)),V 0,T 0,.pointer (some (ad ((B.p 1).p) 0 ab)),V 1,T 1,B.c,I bh]
def td(l:ah aQ):ah aw:=l.map λx=>aF (x.toNat:aa)
def ay.gW(c:J)(s:cT):ay where
 S:=g_ c
 P w:=eM w c 64 s
 lt h aj:=by
  have h1:=h.mQ.le.2.2.2.1;unfold g_ at aj;omega
 frame h hk ax:=h.keeps hk ax
def ay.row(v:aw)(l:ah aQ):ay where
 S j:=v.ownBlock=some j
 P w:=w.ownsRow 0 5 1 v l.length (td l)
 lt h a:=oX h a
 frame h hk ax:=b3 h hk ax
def lZ(k:J)(B:jt)(M:dZ)(V T:J->aw)(bh:aa)(d:J->gi):ah ay:=ay.kinds B.o :: ay.bc B.b (hs B V T bh,82) :: ay.gW B.c M.cs :: ay.row (V k) (M.bF k) :: ay.cS (T k) (M.st k) :: ay.row (V (1-k)) (M.bF (1-k)) :: ay.cS (T (1-k)) (M.st (1-k)) :: bC (B.p (1-k)) (M.p (1-k)) (d (1-k))
def k'(k:J)(B:jt)(M:dZ)(V T:J->aw)(bh:aa)(d:J->gi)(R:ah ay):ah ay:=bC (B.p k) (M.p k) (d k)++(lZ k B M V T bh d++R)
def cq(w:ai)(B:jt)(M:dZ)(bh:aa)(R:ah ay):ak:=∃ V T d,Sep w (k' 0 B M V T bh d R)
section
variable{k:J}{B:jt}{M:dZ}{V T:J->aw}{bh:aa}{d:J->gi}{R:ah ay}
def Iy(A C R:ah ay)(x y z p q r s:ay):(A++((x :: y :: z :: p :: q :: r :: s :: C)++R)).Perm (C++((x :: y :: z :: r :: s :: p :: q :: A)++R)):=by
 have h2:=oj C [x,y,z,r,s,p,q] (A++R);have a:=((perm_append_comm (l₁:=[p,q]) (l₂:=[r,s])).cons z |>.cons y |>.cons x);exact(oj A [x,y,z,p,q,r,s] (C++R)).trans ((a.append (oj A C R)).trans h2.symm)
def NX(h:Sep w (k' 0 B M V T bh d R)):Sep w (k' 1 B M V T bh d R):=h.perm (Iy _ _ _ _ _ _ _ _ _ _)
def NY(h:Sep w (k' 1 B M V T bh d R)):Sep w (k' 0 B M V T bh d R):=h.perm (Iy _ _ _ _ _ _ _ _ _ _)
def cq.view(h:cq w B M bh R)(hk:k<2):∃ V T d,Sep w (k' k B M V T bh d R):=by
 have⟨V,T,d,h⟩:=h
 have:k=0\/k=1:=U
 rcases this with rfl|rfl
 .exact⟨V,T,d,h⟩
 exact⟨V,T,d,NX h⟩
def cq.of(hk:k<2)(h:Sep w (k' k B M V T bh d R)):cq w B M bh R:=by
 have:k=0\/k=1:=U
 rcases this with rfl|rfl
 .exact⟨V,T,d,h⟩
 exact⟨V,T,d,NY h⟩
theorem cq.keep(h:cq w B M bh R)(hk:Keeps aG w w'):cq w' B M bh R:=by
 have⟨V,T,d,h⟩:=h;exact⟨V,T,d,h.keep hk⟩
def cq.push(h:cq w B M bh R){r:ay}(hk:Keeps aG w w')(c:r.P w')(al:∀ b,r.S b->w.heap.size<=b):cq w' B M bh (r :: R):=by
 have⟨V,T,d,h⟩:=h;exact⟨V,T,d,Sep.perm (h.cons hk (λ_ _ _ _ e=>e) c al) (qb (l₁:=bC (B.p 0) (M.p 0) (d 0)++lZ 0 B M V T bh d) (l₂:=R) (a:=r)).symm⟩
section
variable(aj:w.heap[B.b]?=some (ae (hs B V T bh) 82 (0,0)))
include aj
theorem pF(hk:k<2):w.cell? (ad B.b (k*3) ab)=some (.pointer (some (ad ((B.p k).p) 0 ab))):=by
 have:k=0\/k=1:=U
 rcases this with rfl|rfl<;>exact bb aj rfl
theorem Hb(hk:k<2):w.cell? (ad B.b (k*3+1) ab)=some (V k):=by
 have:k=0\/k=1:=U
 rcases this with rfl|rfl<;>exact bb aj rfl
theorem tu:w.cell? (ad B.b 6 ab)=some (.pointer (some (ad B.c 0 ab))):=bb aj rfl
theorem xX:w.cell? (ad B.b 7 ab)=some (I bh):=bb aj rfl
end
def A7(hk:k<2):(hs B V T bh)[k*3+2]?=some (T k):=by
 have:k=0\/k=1:=U
 rcases this with rfl|rfl<;>rfl
def A8(hk:k<2)(t:aw):(hs B V T bh).setIfInBounds (k*3+2) t=hs B V (b1 T k t) bh:=by
 have:k=0\/k=1:=U
 rcases this with rfl|rfl<;>simp[hs,b1]
def Re(hk:k<2)(t:aw):(hs B V T bh).setIfInBounds (k*3+1) t=hs B (b1 V k t) T bh:=by
 have:k=0\/k=1:=U
 rcases this with rfl|rfl<;>simp[hs,b1]
def Rc(m:aa):(hs B V T bh).setIfInBounds 7 (I m)=hs B V T m:=by simp[hs]
end
def HD:da []=[]:=rfl
def HF(l:ah cg)(c:cg):da (l++[c])=if c.bN=4 then da l++[c]else da l:=by
 unfold da;rw[q5];by_cases h:c.bN=4
 .rw[aD h];simp[h]
 rw[aA h];simp[h]
def Wh{c:a6 aw}{i:J}{v:aw}(h:c[i]?=some v):c.setIfInBounds i v=c:=by
 have⟨h1,h2⟩:=j8.1 h;refine Array.ext aI λj a b=>?_;rw[Array.getElem_setIfInBounds];split
 .rename_i e;subst e;exact h2.symm
 rfl
def B6{bS off:J}{b:a6 aw}{ty:TypeId}{t V sd:aw}{st l:ah cg}{L:ah ay}{m:aY}(aq:b[off+2]?=some t)(h:Sep w (ay.cS V l :: ay.bc bS (b,ty) :: ay.cS t st :: L))(f:st.length+l.length<=100000):az 39 #[.pointer (some (ad bS off ab)),aM #[V,sd,.bool m]] w λe w'=>e=aV #[]/\∃ T',Sep w' (ay.cS V l :: ay.bc bS (b.setIfInBounds (off+2) T',ty) :: ay.cS T' (st++da l) :: L):=by
 obtain⟨A,cap,rfl,_,_⟩:=cP (show w.ownsRow 0 47 12 V l.length (eA l)from h.at' 0 rfl);have Tq:Sep w (ay.cS (ao A l.length cap) l :: ay.bc bS (b.setIfInBounds (off+2) t,ty) :: ay.cS t (st++da []) :: L):=by
  rw[Wh aq,HD,eX];exact h
 have s:=b8 Tq (bD f (show off+2<b.size from(j8.1 aq).1))
 go_in
 go_wp2_with fail;go_loopg [9] l.length (λg i wr=>∃ pre rest:ah cg,l=pre++rest/\g=rest.length/\i=I pre.length/\∃ T',Sep wr (ay.cS (ao A l.length cap) l :: ay.bc bS (b.setIfInBounds (off+2) T',ty) :: ay.cS T' (st++da pre) :: L))
 case atStart=>exact⟨[],l,rfl,rfl,rfl,t,((s.o.1.alloc (ae #[ao A l.length cap,sd,.bool m] 35)))⟩
 obtain⟨pre,rest,d,a1,rfl,T',H⟩:=hrel;cases rest with
 | nil=>
  obtain rfl:l=pre:=by rw[d,eX]
  have Aw:=af H;clear d H;go_wp2_with fail;go_end0;exact⟨rfl,T',Aw.o⟩
 | cons c rest=>
  have V':pre.length<l.length:=by rw[d];simp
  have Y:l[pre.length]=c:=by simp[d]
  have Y7:l.length<=100000:=by have:=s.out.2.1;omega
  have T:l=(pre++[c])++rest:=by rw[d];simp
  have TS:=a1;simp only[dr]at TS;have O:=H.at' 0 rfl;obtain⟨r,rfl⟩:=oY O U;have f:=nW (P:=prog) (enc:=cg.bt) (λ_=>rfl) isAgg47 sizeOf47 O pre.length V';rw[Y]at f;have f:(Instr.loadAt 47 (.pointer (some (ad r (pre.length*12) ab)))).run prog wr=.ok (.agg (di c)) wr:=f;have dF:=yB wr;obtain⟨a,E,B,a',zp⟩:=xk wr c;obtain⟨bM,N⟩:=cQ wr.heap.size;rw[<-N]at B;have Y2:=aP B;have u:=H.keep a';have Y6:(da pre).length<=pre.length:=mv _ _;rw[<-N]at dF E;generalize wr.alloc _=Y8 at dF E;by_cases y:c.bN=4
  .have St:(c.bN == 4)=true:=by rw[y];rfl
   have m':∀ q∈(ay.cS (ao (some (ad r 0 ab)) l.length cap) l :: ay.bc bS (b.setIfInBounds (off+2) T',ty) :: ay.cS T' (st++da pre) :: L),¬ q.S bM:=λq W' Z=>by have:=H.lt W' Z;omega
   have h2:T'.ownBlock≠some bM:=λe=>m' (ay.cS T' (st++da pre)) aI e;have lb:∀ j,T'.ownBlock=some j->j≠bS:=λj e Q'=>u.ru (i:=2) (j:=1) rfl rfl U j e Q';have X:=u.drew 1;have ps:a.drew.cell? (ad bS (off+2) ab)=some T':=bb (show a.drew.heap[bS]?=some (ae (b.setIfInBounds (off+2) T') ty (0,0))from X.at' 1 rfl) (by simp[s.out.2.2]);have hd:a.drew.heap[bM]?=some (ae (di c) 47 (0,0)):=B
   have F:Sep (a.drew.alloc (ae (di c) 47)) (ay.cS (ao (some (ad a 0 ab)) 1 1) [c] :: ay.cS (ao (some (ad r 0 ab)) l.length cap) l :: ay.bc bS (b.setIfInBounds (off+2) T',ty) :: ay.cS T' (st++da pre) :: L):=
    X.cons (r:=ay.cS (ao (some (ad a 0 ab)) 1 1) [c]) ((a_ a.drew).alloc (ae (di c) 47)) (λ_ _ _ _ e=>e) ⟨by simp[eA,cg.bt,di],.inr ⟨a,1,di c,rfl,c' _,aW a.drew _,c9 _,by simp[maxLen],rfl,by simp[eA,cg.bt,di]⟩⟩ (λj Z=>by cases Z;exact c9 _)
   obtain⟨v',k,D,g',fr,l'⟩:=Fu (v:=T') (vl:=ao (some (ad a 0 ab)) 1 1) (cs:=st++da pre) (l:=[c]) 32 (F.at' 3 rfl) (F.at' 0 rfl) (by have:=s.out.2.1;simp;omega);have z:=F.set 3 (r':=ay.cS v' ((st++da pre)++[c])) rfl fr (λ_ _ e=>e) g' l';have z:Sep k (ay.cS (ao (some (ad a 0 ab)) 1 1) [c] :: ay.cS (ao (some (ad r 0 ab)) l.length cap) l :: ay.bc bS (b.setIfInBounds (off+2) T',ty) :: ay.cS v' ((st++da pre)++[c]) :: L):=z;have M:k.heap[bS]?=some (ae (b.setIfInBounds (off+2) T') ty (0,0)):=z.at' 2 rfl;have c6:k.cell? (ad bS (off+2) ab)=some T':=bb M (by simp[s.out.2.2]);have f7:=fJ M (off+2)
   have G:=z.set 2 (r':=ay.bc bS (b.setIfInBounds (off+2) v',ty)) rfl ((Keeps.refl (λj=>j=bS) k).setCell (p:=ad bS (off+2) ab) rfl v') (λ_ _ e=>e) (by
    have:=bW M (off+2) v'
    rw[Array.setIfInBounds_setIfInBounds]at this;exact this) (λ_ e=>.inl e)
   have G:Sep (k.setCell (ad bS (off+2) ab) v') (ay.cS (ao (some (ad r 0 ab)) l.length cap) l :: ay.bc bS (b.setIfInBounds (off+2) v',ty) :: ay.cS v' (st++da (pre++[c])) :: L):=by
    rw[HF,aD y,<-dD];exact Sep.tail G
   have ys:∀ W,(∃ x:gU (λj=>T'.ownBlock=some j) a.drew,W=x.to)->(Instr.loadAt 47 bM).run prog W=.ok (.agg (di c)) W:=λW ⟨x,d⟩=>by
    rw[d];exact HY (x.keeps.heap hd h2)
   have Y3:∀ x:gU (λj=>T'.ownBlock=some j) a.drew,_:=j0 (S:=λj=>T'.ownBlock=some j) (w:=a.drew) ps (λe=>lb _ e rfl);have Q:Keeps (λj=>T'.ownBlock=some j) a.drew (a.alloc (ae (di c) 47)).drew:=(Keeps.refl (λj=>T'.ownBlock=some j) a.drew).alloc (ae (di c) 47);have D:(Builtin.append_ #[32,32] 32 #[T',ao (some (ad a 0 ab)) 1 1]).run prog (a.alloc (ae (di c) 47)).drew=.ok v' k:=D;obtain⟨Y5,Y4,R,_,_⟩:=cP g';obtain⟨n7,zd⟩:=cQ ((st++da pre)++[c]).length;rw[<-zd]at R;have n:=b8 T G;have gf:Keeps (λj=>T'.ownBlock=some j) (a.alloc (ae (di c) 47)).drew k:=fr;clear H O d a1 Y T B a' zp N u X ps hd F z G M g' fr l' m' h2 lb zd y;go_upto_region 5 with(first|((with_reducible refine dm f rfl rfl ?_ ?_);exact rfl)|((with_reducible refine ea dF rfl rfl ?_))|((with_reducible refine c8 E rfl rfl ?_ ?_ ?_);exact rfl;exact rfl)|fail)
   clear f dF E Y2;refine cB 11 ?_;refine oS (λj=>T'.ownBlock=some j) (.range 6) [6,7] 3 ?_
   repeat (first|(refine j7 ys rfl rfl rfl ?_;simp only[Act.put,c_])|go_big_quiet_step (fail))
   refine wpQuiet_nil ?_;simp only[di]at Q D gf;refine f_ λK C=>?_;simp only[di];go_simp;refine C _ _ (cX (Q)) ?_;clear C K;refine km λK C=>?_;refine Lib.wp_append_run _ (.tmp 20) (.tmp 22) 32 32 rfl _ _ rfl rfl _ _ D ?_;refine C _ _ (cX (Q.trans gf)) ?_;clear C K;clear Y3 ys Q D gf;rw[R];rw[R]at n;simp only[Act.put,c_];refine fk (λ_=>False) [8,9] [] 1 (hC ?_);refine cC (ox) [10] 0 1 ?_;refine hX 10 (lY _) ?_;clear c6 f7 R;go_wp2_with fail;go_roundg rest.length
   case measure=>omega
   exact⟨pre++[c],rest,n.o.1,rfl,qg,_,n.o.2⟩
  have St:(c.bN == 4)=false:=by simpa using y
  have n:=b8 T u;have s':da (pre++[c])=da pre:=by rw[HF,aA y]
  have CW:=af s';clear H O d a1 Y T B a' zp N u s';go_wp2_with first|((with_reducible refine dm f rfl rfl ?_ ?_);exact rfl)|(with_reducible refine ea dF rfl rfl ?_)|((with_reducible refine c8 E rfl rfl ?_ ?_ ?_);exact rfl;exact rfl)
  go_roundg rest.length
  case measure=>omega
  exact⟨pre++[c],rest,n.o.1,rfl,qg,T',by rw[CW.o];exact n.o.2⟩
variable{k:J}{B:jt}{M:dZ}{V T:J->aw}{bh:aa}{d:J->gi}{R:ah ay}
theorem T2(x c y z b e r t:ay):([x,c,y,z,b,e,r,t]:ah ay).Perm [c,b,t,x,y,z,e,r]:=
 (show([0,1,2,3,4,5,6,7]:ah J).Perm [1,4,7,0,2,3,5,6]by decide).map λi=>[x,c,y,z,b,e,r,t].getD i x
def BG(A D:ah ay)(x c y z b e r t:ay):(A++x :: c :: y :: z :: b :: e :: r :: t :: D).Perm (c :: b :: t :: (A++x :: y :: z :: e :: r :: D)):=by
 have h2:=(((oj A [x,y,z,e,r] D).cons t).cons b).cons c;exact(oj A [x,c,y,z,b,e,r,t] D).trans (((T2 x c y z b e r t).append_right (A++D)).trans h2.symm)
theorem T3(c b t x y z e r q:ay):([c,b,t,x,y,z,e,r,q]:ah ay).Perm [x,y,q,z,b,e,r,t,c]:=
 (show([0,1,2,3,4,5,6,7,8]:ah J).Perm [3,4,8,5,1,6,7,2,0]by decide).map λi=>[c,b,t,x,y,z,e,r,q].getD i x
def BH(A C R:ah ay)(c b t x y z e r q:ay):(c :: b :: t :: (A++x :: y :: z :: e :: r :: (C++q :: R))).Perm (x :: y :: q :: (A++((z :: b :: e :: r :: t :: C)++c :: R))):=by
 have h1:(c :: b :: t :: (A++x :: y :: z :: e :: r :: (C++q :: R))).Perm ([c,b,t,x,y,z,e,r,q]++(A++(C++R))):=by
  have a:(A++x :: y :: z :: e :: r :: (C++q :: R)).Perm ([x,y,z,e,r]++(A++(C++q :: R))):=oj A [x,y,z,e,r] _;have d:(A++(C++q :: R)).Perm (q :: (A++(C++R))):=by
   rw[<-dD,<-dD];exact qb
  exact(((a.trans (d.append_left [x,y,z,e,r])).cons t).cons b).cons c
 have h2:(x :: y :: q :: (A++((z :: b :: e :: r :: t :: C)++c :: R))).Perm ([x,y,q,z,b,e,r,t,c]++(A++(C++R))):=by
  have a:(A++((z :: b :: e :: r :: t :: C)++c :: R)).Perm ([z,b,e,r,t]++(A++(C++c :: R))):=oj A [z,b,e,r,t] _;have d:(A++(C++c :: R)).Perm (c :: (A++(C++R))):=by
   rw[<-dD,<-dD];exact qb
  exact(((a.trans (d.append_left [z,b,e,r,t])).cons q).cons y).cons x
 exact h1.trans (((T3 c b t x y z e r q).append_right (A++(C++R))).trans h2.symm)
def jT(B:jt)(fH:dZ)(bh:aa)(cs:ah cg)(bZ:aa)(R:ah ay)(e:Ending)(w':ai):ak:=
 ∃ a A n c m,e=aV #[aM #[a,ao A n c,.bool m],I bZ]/\cq w' B fH bh (ay.cS a cs :: R)
def Wa(cs:cT)(g:aa)(t:cc):cs.lost<=(hv cs 64 g t).lost/\(hv cs 64 g t).lost<=cs.lost+1:=by
 unfold hv cT.put;split
 .split
  .split<;>exact⟨aI,uO⟩
  exact⟨uO,aI⟩
 exact⟨jm _,U⟩
theorem Jt(g:aa):∀ (a:ah aZ) (cs:cT),cs.lost<=(gu cs g a).lost/\(gu cs g a).lost<=cs.lost+a.length
 | [],cs=>⟨jm _,by simp[gu]⟩
 | m :: r,cs=>by
  have h1:=Jt g r (hv cs 64 g (dg m));have h2:=Wa cs g (dg m);have e:gu cs g (m :: r)=gu (hv cs 64 g (dg m)) g r:=rfl;rw[e,dr];omega
def RJ:∃ i,prog.info? 5=some i/\i.zero=some (aF 0)/\i.size=1/\i.bytes=1:=by
 have h:(prog.info? 5).map (λi=>(i.zero,i.size,i.bytes))=some (some (aF 0),1,1):=aH;cases aR:prog.info? 5 with
 | none=>rw[aR]at h;cases h
 | some i=>rw[aR]at h;simp only[pb,hi,jq]at h;exact⟨i,rfl,h⟩
def yS(k:J)(B:jt)(s':bO)(d2:gi)(x c y:ay)(M:dZ)(V T:J->aw)(bh:aa)(d:J->gi)(z:ay)(R:ah ay):ah ay:=bC (B.p k) s' d2++x :: c :: y :: (lZ k B M V T bh d++z :: R)
def QP(h:cq w B M bh R)(hk:k<2)(v:aQ)(Zk:∀ W d R,ay.kinds B.o∈R->Sep W (bC (B.p k) (M.p k) d++R)->az 60 #[.pointer (some (ad ((B.p k).p) 0 ab)),aF v.toNat] W (w_ (B.p k) (cJ v (M.p k)).1 (cJ v (M.p k)).2 (e_ v (M.p k)) (dL (M.p k)) R))(G:c4 (cJ v (M.p k)).1=c4 (M.p k)+if dL (M.p k)then 1 else 0)(K:(e_ v (M.p k)).length<=100)(m':0<=M.cs.lost/\M.cs.lost<=900000)(Zp:∀ m∈e_ v (M.p k),(dk m).length<=100000)(Z:(M.bF k).length<=1000)(Zo:(M.st k).length+(cJ v (M.p k)).2.length<=100000):az 37 #[B.b,I k,aF v.toNat] w (jT B (gC k v M) bh (cJ v (M.p k)).2 0 R):=by
 obtain⟨V,T,d,h⟩:=(h.push (r:=ay.bc w.heap.size (cd,35)) ((a_ w).alloc (ae cd 35)) (aW w (ae cd 35)) (λj z=>gE (jK z))).view hk;have Q:=pF (h.at' 10 rfl) hk;have Zy:(k:aa)<2:=U;have cE:=b8 G (bD K (bD m' (bD Zp (bD Z Zo))));have y:=af hk
 go_in
 go_wp2_with fail;generalize w.alloc (ae cd 35)=bl at *;refine br (vC h) ?_;go_wp2_with fail;refine aT ((xp (gX h))) ?_;rintro _ ⟨q,rfl⟩;have h1:=h.drew q;have Q:=pF (h1.at' 10 rfl) y.out;have Y5:=af (Zk _ _ _ (by simp[lZ]) h1);generalize bl.drewN q=an at *;go_wp2_with fail;refine Y5.o.mono ?_;rintro e aB ⟨Zd,A,cap,rfl,d2,h2⟩;obtain⟨n,t,s,rfl⟩:∃ n t s,Zd=ao n t s:=by
  obtain⟨a,c,e,_⟩:=cP (show aB.ownsRow 0 47 12 Zd (cJ v (M.p k)).2.length (eA (cJ v (M.p k)).2)from h2.at' 9 rfl);exact⟨a,_,c,e⟩
 clear Y5 Q;have Za:=(a_ aB).alloc (ae #[ao n t s,.slice A (e_ v (M.p k)).length cap,(dL (M.p k))] 35);have⟨E,w'⟩:=cQ aB.heap.size;have V':=(h2.cons (r:=ay.bc E (#[ao n t s,.slice A (e_ v (M.p k)).length cap,(dL (M.p k))],35)) Za (λ_ _ _ _=>id) (by rw[w'];exact aW aB _) (λj z=>by have z:j=E:=z;omega)).iD;have L:=af V';have St:=af w';clear h2 Za V' w';go_upto_region 6 with fail
 rw[<-St.o];generalize aB.alloc (ae #[ao n t s,.slice A (e_ v (M.p k)).length cap,(dL (M.p k))] 35)=bn at *;have Q:=pF (L.o.at' 13 rfl) y.out;have Y2:=af (vC L.o);have Y4:=af (xp (gX L.o));clear St;go_wp2_with fail;refine br Y2.o ?_;go_wp2_with fail;refine aT Y4.o ?_;rintro _ ⟨Zc,rfl⟩;have H:=L.out.drew Zc;clear L Y2 Y4 Q;generalize bn.drewN Zc=zd at *;go_upto_if 45 with fail
 go_cut [] (λbV=>∃ bF V,bF=(if dL (M.p k)then b1 M.bF k (M.bF k++[v])else M.bF)/\Sep bV (yS k B (cJ v (M.p k)).1 d2 (ay.bc E (#[ao n t s,.slice A (e_ v (M.p k)).length cap,(dL (M.p k))],35)) (ay.cS (ao n t s) (cJ v (M.p k)).2) (ay.cL A (e_ v (M.p k)).length cap (k4 (e_ v (M.p k)))) {M with bF:=bF} V T bh d (ay.bc w.heap.size (cd,35)) R))
 case first=>
  have G:=cE.out.1;unfold c4 at G;cases hm:dL (M.p k)with
  | true=>
   rw[hm,aD rfl]at G;have Zl:(((M.p k).x.f (M.p k).x.aJ).next:aa)<(((cJ v (M.p k)).1.x.f (cJ v (M.p k)).1.x.aJ).next:aa):=U;obtain⟨i0,av,Zq,Zr,Zs⟩:=RJ;have Y6:=H.at' 13 rfl;have ci:=Hb Y6 y.out;have Zi:=af av;have Tq:=af cE.out.2.2.2.2.1;have N:=af H;have fr:=af hm;clear av G H Y6 hm;go_wp2_with (at_builtin;refine CL _ rfl (.tmp 50) (.tmp 52) _ rfl 0 5 i0 _ 1 1 underlying51 Zi.o Zq Zr Zs rfl U _ (M.bF k).length (td (M.bF k)) rfl (b3 ((show zd.ownsRow 0 5 1 (V k) (M.bF k).length (td (M.bF k))from N.o.at' 15 rfl)) ((a_ _).alloc _) (λ_ _=>id)) (some (ad _ 0 ab)) 1 1 [aF (v.toNat:aa)] rfl (Ko _ _ _) mw (by have:=Tq.o;simp only[maxLen];omega) (by have:=Tq.o;omega) (c' _) ?_);intro v' Ze P Y9 Y_;have W':=N.o.alloc (ae #[aF (v.toNat:aa)] 5);have Zt:(zd.alloc (ae #[aF (v.toNat:aa)] 5)).heap.size=zd.heap.size+1:=aI;have Y7:td (M.bF k)++[aF (v.toNat:aa)]=td (M.bF k++[v]):=by simp[td]
   rw[Y7]at P;have K:(M.bF k).length+1=(M.bF k++[v]).length:=aI;rw[K]at P;have gf:=Sep.set (r':=ay.row v' (M.bF k++[v])) W' 15 (r:=ay.row (V k) (M.bF k)) rfl ((Keeps.refl (λj=>(V k).ownBlock=some j) _).grown Y9 (λj e=>.inl e)) (λ_ _ e=>e) P (λj z=>by
    rcases Y_ with e|e
    .exact .inl (show(V k).ownBlock=some j by rw[<-e];exact z)
    .have z:=z;rw[z]at e
     have:=h7 e
     exact .inr U)
   have X:=gf.at' 13 rfl;have D:=gf.set 13 (r':=ay.bc B.b (hs B (b1 V k v') T bh,82)) rfl ((Keeps.refl (λj=>j=B.b) Ze).setCell (p:=ad B.b (k*3+1) ab) rfl v') (λ_ _ e=>e) (by have:=bW X (k*3+1) v';rw[Re y.out]at this;exact this) (λ_ e=>.inl e);have Zw:Ze.cell? (ad B.b (k*3+1) ab)=some (V k):=Hb X y.out;have Zx:=fJ X (k*3+1);obtain⟨a',ys,bs,rfl⟩:∃ a' ys bs,v'=ao a' ys bs:=by
    have⟨a,c,e,_⟩:=cP P;exact⟨a,_,c,e⟩
   have Zg:=af D;clear P Y9 Y_ W' Zt Y7 K gf X D N;go_wp2_with fail;go_meet;refine⟨b1 M.bF k (M.bF k++[v]),b1 V k (ao a' ys bs),by rw[fr.out];rfl,?_⟩;have g':=Zg.o;have hne:1-k≠k:=by have:=y.out;omega
   unfold yS lZ;simp only[i_,h3 _ _ hne];exact g'
  | false=>
   rw[hm,aA aI]at G;have Zl:¬ (((M.p k).x.f (M.p k).x.aJ).next:aa)<(((cJ v (M.p k)).1.x.f (cJ v (M.p k)).1.x.aJ).next:aa):=U;have N:=af H;have fr:=af hm;clear G H hm;go_wp2_with fail;go_meet;exact⟨M.bF,V,by rw[fr.o];rfl,N.o⟩
 obtain⟨bF,F,Z,D⟩:=hcut;obtain⟨l,vl⟩:=cQ (e_ v (M.p k));obtain⟨C,s'⟩:=cQ (dL (M.p k));have cE:=af cE.out.2;have Aw:=b8 Z (bD vl s');rw[<-vl]at cE D;rw[<-s']at D;clear H vl s' Z;have Zu:=aP (D.at' 9 rfl);have CW:=af (show Sep wc (yS k B (cJ v (M.p k)).1 d2 (ay.bc E (#[ao n t s,ao A l.length cap,.bool C],35)) (ay.cS (ao n t s) (cJ v (M.p k)).2) (ay.cL A l.length cap (k4 l)) {M with bF:=bF,cs:=gu M.cs (1-(k:aa)) (l.take 0)} F T bh d (ay.bc w.heap.size (cd,35)) R)from D);clear D;have ZB:IntKind.i64.wrap (1-(k:aa))=1-(k:aa):=et _ U;go_wp2_with fail;clear Zu;go_loopg [13,59] l.length (λg _ i wr=>∃ j:J,g=l.length-j/\j<=l.length/\i=I j/\Sep wr (yS k B (cJ v (M.p k)).1 d2 (ay.bc E (#[ao n t s,ao A l.length cap,.bool C],35)) (ay.cS (ao n t s) (cJ v (M.p k)).2) (ay.cL A l.length cap (k4 l)) {M with bF:=bF,cs:=gu M.cs (1-(k:aa)) (l.take j)} F T bh d (ay.bc w.heap.size (cd,35)) R))
 case atStart=>exact⟨0,rfl,c' _,rfl,CW.o⟩
 obtain⟨j,a1,z,rfl,u⟩:=hrel;clear CW;have K:=cE.o.1;by_cases ps:j<l.length
 .obtain⟨bS,cM,rfl,aq⟩:=(show dQ wr 1 A l.length cap (k4 l)from u.at' 11 rfl).at' U;have Zv:wr.cell? (ad bS (cM+j) ab)=some (.string (dg l[j])):=aq j _ (by simp[k4,dg,ps]);have dS:=tu (u.at' 13 rfl);have m':=Jt (1-(k:aa)) (l.take j) M.cs;have Zm:(l.take j).length<=100:=by rw[gw];omega
  have l':=af (Ov (u.at' 14 rfl) (show 0<=(gu M.cs (1-(k:aa)) (l.take j)).lost/\(gu M.cs (1-(k:aa)) (l.take j)).lost<=1000000 by have:=cE.o.2.1;omega) (1-(k:aa)) (dg l[j]) (by have:=cE.o.2.2.1 l[j] (og ps);unfold dg maxLen;simp[ByteArray.size];omega));have ZA:=mq _ _ Zv;have Zz:=bR (show wr.heap[B.b]?=_ from u.at' 13 rfl);have TS:hv (gu M.cs (1-(k:aa)) (l.take j)) 64 (1-(k:aa)) (dg l[j])=gu M.cs (1-(k:aa)) (l.take (j+1)):=by rw[lS ps,Wb]
  rw[TS]at l';have Q':=af u;clear u aq m' Zm TS;go_wp2_with fail;refine aT l'.o ?_;rintro ZC ⟨Y8,Y'⟩;have Zj:=Q'.out.set 14 (r':=ay.gW B.c (gu M.cs (1-(k:aa)) (l.take (j+1)))) rfl Y' (λ_ _ e=>e) Y8 (λ_ e=>.inl e);clear Q' l' Y8 Y';go_wp2_with fail;go_roundg (l.length-(j+1))
  case rel=>exact⟨j+1,rfl,U,by go_num,Zj⟩
  omega
 obtain rfl:j=l.length:=U;rw[nk]at u;have u:Sep wr (bC (B.p k) (cJ v (M.p k)).1 d2++ay.bc E (#[ao n t s,ao A l.length cap,.bool C],35) :: ay.cS (ao n t s) (cJ v (M.p k)).2 :: ay.cL A l.length cap (k4 l) :: ay.kinds B.o :: ay.bc B.b (hs B F T bh,82) :: ay.gW B.c (gu M.cs (1-(k:aa)) l) :: ay.row (F k) (bF k) :: ay.cS (T k) (M.st k) :: (([ay.row (F (1-k)) (bF (1-k)),ay.cS (T (1-k)) (M.st (1-k))]++bC (B.p (1-k)) (M.p (1-k)) (d (1-k)))++ay.bc w.heap.size (cd,35) :: R)):=u;have hd:=u.perm (BG _ _ _ _ _ _ _ _ _ _);have O:wr.heap[E]?=some (ae #[ao n t s,ao A l.length cap,.bool C] 35 (0,0)):=hd.at' 12 rfl;have Zb:=aP O;have Y3:=af (B6 (sd:=ao A l.length cap) (m:=C) (A7 y.out) hd cE.out.2.2.2.2);clear u hd O K;go_wp2_with fail;refine aT Y3.o ?_;rintro zp ⟨T',lb⟩;rw[A8 y.out]at lb;have S:=lb.perm (BH _ ([ay.row (F (1-k)) (bF (1-k)),ay.cS (T (1-k)) (M.st (1-k))]++bC (B.p (1-k)) (M.p (1-k)) (d (1-k))) R _ _ _ _ _ _ _ _ _);have O:zp.heap[E]?=some (ae #[ao n t s,ao A l.length cap,.bool C] 35 (0,0)):=S.at' 0 rfl;have Y:zp.heap[w.heap.size]?=some (ae cd 35 (0,0)):=S.at' 2 rfl;clear Zb;have Zb:=aP O;have g0:=bJ Y;have z0:=aP Y;have Zh:=af (jx Y (ao n t s) (ao A l.length cap) (.bool C));have Zf:=af (Sep.drop1 (A:=[]) S.tail.tail (jF zp w.heap.size (ao n t s) (ao A l.length cap) (.bool C)));clear Y3 lb S O Y;go_wp2_with fail;have Zn:=dv _ _ _ _ Zh.o 3 rfl;refine dn (v:=aV #[aM #[ao n t s,ao A l.length cap,.bool C],I 0]) Zn ?_;refine⟨_,A,_,cap,C,rfl,cq.of (k:=k) (V:=F) (T:=b1 T k T') (d:=b1 d k d2) y.out ?_⟩;have hne:1-k≠k:=by have:=y.out;omega
 have g':=Zf.o;unfold k' lZ gC;simp only[i_,h3 _ _ hne];rw[<-Aw.out.1,<-Aw.out.2.1];exact g'
def Q2(b:J)(v:aa)(aX:63<v):az 60 #[b,aF v] w λe w'=>e=aV #[aM cd,I 1]/\Keeps aG w w':=by
 have a:=af (aW w (ae cd 35))
 go_in
 go_wp2_with fail;refine dn (v:=aV #[aM cd,I 1]) (dv _ _ _ _ a.o 3 rfl) ?_;exact⟨rfl,((a_ w).alloc (ae cd 35))⟩
theorem cq.void(h:cq w B M bh R):cq w B M bh (ay.cS (ao none 0 0) [] :: R):=
 h.push (a_ w) (gB w 0 _ _) (λj a=>by cases a)
def cq.drop{eJ:J}{z:a6 aw×TypeId}{L:ah ay}(h:cq w B M bh (L++ay.bc eJ z :: R))(hk:Keeps (λj=>j=eJ) w w'):cq w' B M bh (L++R):=by
 have⟨V,T,d,h⟩:=h;have h2:Sep w ((bC (B.p 0) (M.p 0) (d 0)++(lZ 0 B M V T bh d++L))++ay.bc eJ z :: R):=by
  unfold k' at h;simpa only[dD]using h
 refine⟨V,T,d,?_⟩;unfold k';simpa only[dD]using(Sep.drop1 h2 hk)
def QQ(h:cq w B M bh R)(hk:k<2)(v:aa)(aX:63<v):az 37 #[B.b,I k,aF v] w (jT B M bh [] 1 R):=by
 have h1:=h.push (r:=ay.bc w.heap.size (cd,35)) ((a_ w).alloc (ae cd 35)) (aW w (ae cd 35)) (λj l=>gE (jK l));obtain⟨V,T,d,h⟩:=h1.view hk;have f:=pF (h.at' 10 rfl) hk;have c:=af hk
 go_in
 go_wp2_with fail;generalize w.alloc (ae cd 35)=bl at *;refine br (vC h) ?_;go_wp2_with fail;refine aT ((xp (gX h))) ?_;rintro _ ⟨q,rfl⟩;have h1:=h.drew q;have f:=pF (h1.at' 10 rfl) c.out;have i:=af (Q2 (w:=bl.drewN q) (B.p k).p v aX);generalize bl.drewN q=an at *;go_wp2_with fail;refine aT i.o λaB n=>?_;have e:=(h1.keep n).alloc (ae cd 35);go_upto_region 5 with fail
 generalize aB.alloc (ae cd 35)=bn at *;have g:cq bn B M bh ([]++ay.bc w.heap.size (cd,35) :: R):=cq.of c.out e;have a:=e.at' (9+(7+9)) rfl;have g0:=bJ a;have s:=aP a;go_wp2_with fail;have m:=dv _ _ _ _ ((jx a (ao none 0 0) (ao none 0 0) (.bool false))) 3 rfl;refine dn (v:=aV #[aM cd,I 1]) m ?_;exact⟨_,_,_,_,_,rfl,((g.drop (jF bn w.heap.size (ao none 0 0) (ao none 0 0) (.bool false))).void)⟩
def nx(B:jt)(M:dZ)(bh:aa)(R:ah ay)(x:cc)(ok:aY)(cs:cT)(e:Ending)(w':ai):ak:=
 e=aV #[.string x,.bool ok]/\cq w' B {M with cs:=cs} bh R
def AZ(h:cq w B M bh R)(bf i at' bI bB:aa)(x:cc)(ok:aY)(cs:cT)(al:∀ W,eM W B.c 64 M.cs->az 98 #[B.c,I bf,I i] W λe w'=>e=aV #[.string x,.bool ok]/\eM w' B.c 64 cs/\Keeps (g_ B.c) W w'):az 64 #[B.b,aM #[I 2,I bf,I i,I at',aF bI,aF bB]] w (nx B M bh R x ok cs):=by
 obtain⟨V,T,d,h⟩:=h;have y:=aW w (ae #[I 2,I bf,I i,I at',aF bI,aF bB] 40);have q:=af (λj (a:g_ B.c j)=>h.ru (i:=11) (j:=10) (r:=ay.gW B.c M.cs) (s:=ay.bc B.b (hs B V T bh,82)) rfl rfl U j a);have k:=h.keep ((a_ w).alloc (ae #[I 2,I bf,I i,I at',aF bI,aF bB] 40))
 go_in
 go_wp2_with fail;generalize World.alloc w _=bl at *;obtain⟨G,f⟩:=hj (F:=λW=>(W.heap[w.heap.size]?=some (ae #[I 2,I bf,I i,I at',aF bI,aF bB] 40 (0,0))/\W.heap[B.b]?=some (ae (hs B V T bh) 82 (0,0))));have z:∀ x:bp G,x.to.cell? (ad B.b 6 ab)=some (.pointer (some (ad B.c 0 ab))):=λx=>tu ((f _).1 x.held).2;have A:=λx:bp G=>aP (((f _).1 x.held).1);have m:G bl.drew:=(f _).2 ⟨y,k.at' 10 rfl⟩;have u:=af (λ(W W':ai) (l:G W) (hk:Keeps (g_ B.c) W W')=>(f W').2 ⟨hk.heap ((f W).1 l).1 (λe=>zC),hk.heap ((f W).1 l).2 (λe=>q.o _ e rfl)⟩);have g:=af (k.drew 1);have t:=af (al bl.drew (g.o.at' 11 rfl));refine cB 13 ?_;refine cC (G) (.range 13) 0 13 ?_;refine de (m) (.range 8) 5 ?_;refine dC 8 λK v=>?_;go_simp;refine aT t.o ?_;rintro aB ⟨aq,p⟩;have n:=u.out _ _ m p;refine v _ _ (n) ?_;refine de (n) [9,10,11,12] 0 ?_;refine mL ?_;go_wp2;go_ret2;exact⟨rfl,((show cq aB B {M with cs:=cs} bh R from⟨V,T,d,g.out.set 11 (r':=ay.gW B.c (cs)) rfl p (λ_ _ e=>e) aq (λ_ e=>.inl e)⟩))⟩
def GP(h:cq w B M bh R)(bf i at' bI bB:aa)(x:cc)(ok:aY)(cs:cT)(al:∀ W,eM W B.c 64 M.cs->az 99 #[B.c,I bf,I i] W λe w'=>e=aV #[.string x,.bool ok]/\eM w' B.c 64 cs/\Keeps (g_ B.c) W w'):az 64 #[B.b,aM #[I 3,I bf,I i,I at',aF bI,aF bB]] w (nx B M bh R x ok cs):=by
 obtain⟨V,T,d,h⟩:=h;have y:=aW w (ae #[I 3,I bf,I i,I at',aF bI,aF bB] 40);have q:=af (λj (a:g_ B.c j)=>h.ru (i:=11) (j:=10) (r:=ay.gW B.c M.cs) (s:=ay.bc B.b (hs B V T bh,82)) rfl rfl U j a);have k:=h.keep ((a_ w).alloc (ae #[I 3,I bf,I i,I at',aF bI,aF bB] 40))
 go_in
 go_wp2_with fail;generalize World.alloc w _=bl at *;obtain⟨G,f⟩:=hj (F:=λW=>(W.heap[w.heap.size]?=some (ae #[I 3,I bf,I i,I at',aF bI,aF bB] 40 (0,0))/\W.heap[B.b]?=some (ae (hs B V T bh) 82 (0,0))));have z:∀ x:bp G,x.to.cell? (ad B.b 6 ab)=some (.pointer (some (ad B.c 0 ab))):=λx=>tu ((f _).1 x.held).2;have A:=λx:bp G=>aP (((f _).1 x.held).1);have m:G bl.drew:=(f _).2 ⟨y,k.at' 10 rfl⟩;have u:=af (λ(W W':ai) (l:G W) (hk:Keeps (g_ B.c) W W')=>(f W').2 ⟨hk.heap ((f W).1 l).1 (λe=>zC),hk.heap ((f W).1 l).2 (λe=>q.o _ e rfl)⟩);have g:=af (k.drew 1);have t:=af (al bl.drew (g.o.at' 11 rfl));refine cB 13 ?_;refine cC (G) (.range 13) 0 13 ?_;refine de (m) (.range 8) 5 ?_;refine dC 8 λK v=>?_;go_simp;refine aT t.o ?_;rintro aB ⟨aq,p⟩;have n:=u.out _ _ m p;refine v _ _ (n) ?_;refine de (n) [9,10,11,12] 0 ?_;refine mL ?_;go_wp2;go_ret2;exact⟨rfl,((show cq aB B {M with cs:=cs} bh R from⟨V,T,d,g.out.set 11 (r':=ay.gW B.c (cs)) rfl p (λ_ _ e=>e) aq (λ_ e=>.inl e)⟩))⟩
def GR(h:cq w B M bh R)(bf i at' bI bB:aa)(x:cc)(ok:aY)(cs:cT)(al:∀ W,eM W B.c 64 M.cs->az 100 #[B.c,I bf,I i,I at',aF bI] W λe w'=>e=aV #[.string x,.bool ok]/\eM w' B.c 64 cs/\Keeps (g_ B.c) W w'):az 64 #[B.b,aM #[I 5,I bf,I i,I at',aF bI,aF bB]] w (nx B M bh R x ok cs):=by
 obtain⟨V,T,d,h⟩:=h;have y:=aW w (ae #[I 5,I bf,I i,I at',aF bI,aF bB] 40);have q:=af (λj (a:g_ B.c j)=>h.ru (i:=11) (j:=10) (r:=ay.gW B.c M.cs) (s:=ay.bc B.b (hs B V T bh,82)) rfl rfl U j a);have k:=h.keep ((a_ w).alloc (ae #[I 5,I bf,I i,I at',aF bI,aF bB] 40))
 go_in
 go_wp2_with fail;generalize World.alloc w _=bl at *;obtain⟨G,f⟩:=hj (F:=λW=>(W.heap[w.heap.size]?=some (ae #[I 5,I bf,I i,I at',aF bI,aF bB] 40 (0,0))/\W.heap[B.b]?=some (ae (hs B V T bh) 82 (0,0))));have z:∀ x:bp G,x.to.cell? (ad B.b 6 ab)=some (.pointer (some (ad B.c 0 ab))):=λx=>tu ((f _).1 x.held).2;have A:=λx:bp G=>aP (((f _).1 x.held).1);have m:G bl.drew:=(f _).2 ⟨y,k.at' 10 rfl⟩;have u:=af (λ(W W':ai) (l:G W) (hk:Keeps (g_ B.c) W W')=>(f W').2 ⟨hk.heap ((f W).1 l).1 (λe=>zC),hk.heap ((f W).1 l).2 (λe=>q.o _ e rfl)⟩);have g:=af (k.drew 1);have t:=af (al bl.drew (g.o.at' 11 rfl));refine cB 17 ?_;refine cC (G) (.range 17) 0 17 ?_;refine de (m) (.range 12) 5 ?_;refine dC 12 λK v=>?_;go_simp;refine aT t.o ?_;rintro aB ⟨aq,p⟩;have n:=u.out _ _ m p;refine v _ _ (n) ?_;refine de (n) [13,14,15,16] 0 ?_;refine mL ?_;go_wp2;go_ret2;exact⟨rfl,((show cq aB B {M with cs:=cs} bh R from⟨V,T,d,g.out.set 11 (r':=ay.gW B.c (cs)) rfl p (λ_ _ e=>e) aq (λ_ e=>.inl e)⟩))⟩
def GQ(h:cq w B M bh R)(bf i at' bI bB:aa)(z:0<=M.cs.lost/\M.cs.lost<=1000000):az 64 #[B.b,aM #[I 4,I bf,I i,I at',aF bI,aF bB]] w (nx B M bh R ByteArray.empty (fL M.cs bf i).isSome (lh M.cs bf i)):=by
 obtain⟨V,T,d,h⟩:=h;have y:=aW w (ae #[I 4,I bf,I i,I at',aF bI,aF bB] 40);have q:=af (λj (a:g_ B.c j)=>h.ru (i:=11) (j:=10) (r:=ay.gW B.c M.cs) (s:=ay.bc B.b (hs B V T bh,82)) rfl rfl U j a);have l:=h.keep ((a_ w).alloc (ae #[I 4,I bf,I i,I at',aF bI,aF bB] 40))
 go_in
 go_wp2_with fail;generalize World.alloc w _=bl at *;obtain⟨G,f⟩:=hj (F:=λW=>(W.heap[w.heap.size]?=some (ae #[I 4,I bf,I i,I at',aF bI,aF bB] 40 (0,0))/\W.heap[B.b]?=some (ae (hs B V T bh) 82 (0,0))));have A:∀ x:bp G,x.to.cell? (ad B.b 6 ab)=some (.pointer (some (ad B.c 0 ab))):=λx=>tu ((f _).1 x.held).2;have C:=λx:bp G=>aP (((f _).1 x.held).1);have m:G bl.drew:=(f _).2 ⟨y,l.at' 10 rfl⟩;have u:=af (λ(W W':ai) (g:G W) (hk:Keeps (g_ B.c) W W')=>(f W').2 ⟨hk.heap ((f W).1 g).1 (λe=>zC),hk.heap ((f W).1 g).2 (λe=>q.o _ e rfl)⟩);have k:=af (l.drew 1);have t:=af (((λ(W:ai) (g:eM W B.c 64 M.cs)=>Ot g z bf i)) bl.drew (k.o.at' 11 rfl));refine cB 11 ?_;refine cC (G) (.range 11) 0 11 ?_;refine de (m) (.range 8) 3 ?_;refine dC 8 λK v=>?_;go_simp;refine aT t.o ?_;rintro aB ⟨aq,p⟩;have n:=u.out _ _ m p;refine v _ _ (n) ?_;refine de (n) [9,10] 0 ?_;refine mL ?_;go_wp2;go_ret2;exact⟨rfl,((show cq aB B {M with cs:=(lh M.cs bf i)} bh R from⟨V,T,d,k.out.set 11 (r':=ay.gW B.c ((lh M.cs bf i))) rfl p (λ_ _ e=>e) aq (λ_ e=>.inl e)⟩))⟩
def cq.res(h:cq w B M bh R){r:ay}(a:r∈R):r.P w:=by
 have⟨V,T,d,h⟩:=h;exact h.all r (by unfold k';simp[a])
def QJ(h:cq w B M bh R)(bw bf i at' bI bB:aa)(x:cc)(cs:cT)(d:∀ W R,cq W B M bh R->az 64 #[B.b,aM #[I bw,I bf,I i,I at',aF bI,aF bB]] W (nx B M bh R x false cs)):az 40 #[B.b,aM #[I bw,I bf,I i,I at',aF bI,aF bB]] w (jT B {M with cs:=cs} bh [] 6 R):=by
 have q:(w.alloc (ae #[I bw,I bf,I i,I at',aF bI,aF bB] 40)).heap.size=w.heap.size+1:=aI;have h1:=h.push (r:=ay.bc w.heap.size (#[I bw,I bf,I i,I at',aF bI,aF bB],40)) ((a_ w).alloc (ae #[I bw,I bf,I i,I at',aF bI,aF bB] 40)) (aW w _) (λj a=>gE (jK a));have h2:=h1.push (r:=ay.bc (w.heap.size+1) (cd,35)) ((a_ (w.alloc (ae #[I bw,I bf,I i,I at',aF bI,aF bB] 40))).alloc (ae cd 35)) sP (λj a=>sO);have g:=aP (h2.res (r:=ay.bc w.heap.size (#[I bw,I bf,I i,I at',aF bI,aF bB],40)) aI)
 go_in
 go_wp2_with fail;generalize World.alloc (World.alloc w _) _=bl at *;refine aT (d _ _ h2) λan h1=>?_;have f:=h1.res (r:=ay.bc w.heap.size (#[I bw,I bf,I i,I at',aF bI,aF bB],40)) aI;have c:=(h1).res (r:=ay.bc (w.heap.size+1) (cd,35)) aI;have g0:=bJ c;have k:=aP c;go_wp2_with fail;have e:=dv _ _ _ _ ((jx c (ao none 0 0) (ao none 0 0) (.bool false))) 3 rfl;refine dn (v:=aV #[aM cd,I 6]) e ?_;exact⟨_,_,_,_,_,rfl,((((cq.drop (L:=[]) h1 (jF an (w.heap.size+1) (ao none 0 0) (ao none 0 0) (.bool false))).drop (L:=[]) (Keeps.refl (λj=>j=w) _)).void))⟩
def QI(h:cq w B M bh R)(bw bf i at' bI bB:aa)(x:cc)(cs:cT)(d:bw=4)(e:∀ W R,cq W B M bh R->az 64 #[B.b,aM #[I bw,I bf,I i,I at',aF bI,aF bB]] W (nx B M bh R x true cs)):az 40 #[B.b,aM #[I bw,I bf,I i,I at',aF bI,aF bB]] w (jT B {M with cs:=cs} bh [] 0 R):=by
 have k:(bw == 4)=true:=by rw[d];rfl
 clear d;have q:(w.alloc (ae #[I bw,I bf,I i,I at',aF bI,aF bB] 40)).heap.size=w.heap.size+1:=aI;have h1:=h.push (r:=ay.bc w.heap.size (#[I bw,I bf,I i,I at',aF bI,aF bB],40)) ((a_ w).alloc (ae #[I bw,I bf,I i,I at',aF bI,aF bB] 40)) (aW w _) (λj a=>gE (jK a));have h2:=h1.push (r:=ay.bc (w.heap.size+1) (cd,35)) ((a_ (w.alloc (ae #[I bw,I bf,I i,I at',aF bI,aF bB] 40))).alloc (ae cd 35)) sP (λj a=>sO);have g:=aP (h2.res (r:=ay.bc w.heap.size (#[I bw,I bf,I i,I at',aF bI,aF bB],40)) aI)
 go_in
 go_wp2_with fail;generalize World.alloc (World.alloc w _) _=bl at *;refine aT (e _ _ h2) λan h1=>?_;have g:=aP (h1.res (r:=ay.bc w.heap.size (#[I bw,I bf,I i,I at',aF bI,aF bB],40)) aI);have c:=(h1).res (r:=ay.bc (w.heap.size+1) (cd,35)) aI;have g0:=bJ c;have l:=aP c;go_wp2_with fail;have f:=dv _ _ _ _ ((jx c (ao none 0 0) (ao none 0 0) (.bool false))) 3 rfl;refine dn (v:=aV #[aM cd,I 0]) f ?_;exact⟨_,_,_,_,_,rfl,((((cq.drop (L:=[]) h1 (jF an (w.heap.size+1) (ao none 0 0) (ao none 0 0) (.bool false))).drop (L:=[]) (Keeps.refl (λj=>j=w) _)).void))⟩
def QK(h:cq w B M bh R)(hk:k<2)(bw i at' bI bB:aa)(x:cc)(cs:cT)(Y:bw≠4)(u:bO)(c3:ah cg)(bZ:aa)(X:bZ≠0->c3=[])(Z:(M.st k).length+c3.length<=100000)(bf:aa)(a':bf=k)(vl:∀ W R,cq W B M bh R->az 64 #[B.b,aM #[I bw,I bf,I i,I at',aF bI,aF bB]] W (nx B M bh R x true cs))(O:∀ W d R,ay.kinds B.o∈R->Sep W (bC (B.p k) (M.p k) d++R)->az 65 #[.pointer (some (ad ((B.p k).p) 0 ab)),.string x] W (u' (B.p k) u c3 bZ R)):az 40 #[B.b,aM #[I bw,I bf,I i,I at',aF bI,aF bB]] w (jT B {M with p:=b1 M.p k u,st:=b1 M.st k (M.st k++da c3),cs:=cs} bh c3 bZ R):=by
 have zp:(bw == 4)=false:=by simpa using Y
 have hd:=af O;have K:=b8 X Z;have l:=af hk;have zd:(k:aa)<2:=U;have lb:=af a';clear Y O X Z hk a';have q:(w.alloc (ae #[I bw,I bf,I i,I at',aF bI,aF bB] 40)).heap.size=w.heap.size+1:=aI;have h1:=h.push (r:=ay.bc w.heap.size (#[I bw,I bf,I i,I at',aF bI,aF bB],40)) ((a_ w).alloc (ae #[I bw,I bf,I i,I at',aF bI,aF bB] 40)) (aW w _) (λj a=>gE (jK a));have h2:=h1.push (r:=ay.bc (w.heap.size+1) (cd,35)) ((a_ (w.alloc (ae #[I bw,I bf,I i,I at',aF bI,aF bB] 40))).alloc (ae cd 35)) sP (λj a=>sO);have ys:=aP (h2.res (r:=ay.bc w.heap.size (#[I bw,I bf,I i,I at',aF bI,aF bB],40)) aI);have v':=af (vl _ _ h2)
 go_in
 go_wp2_with fail;generalize World.alloc (World.alloc w _) _=bl at *;refine aT v'.o λan h1=>?_;have S:=h1.res (r:=ay.bc w.heap.size (#[I bw,I bf,I i,I at',aF bI,aF bB],40)) aI;have ys:=aP S;obtain rfl:=lb.o;obtain⟨V,T,d,h1⟩:=h1.view l.o;have l':=pF (h1.at' 10 rfl) l.o;have Aw:=bR (show an.heap[B.b]?=some (ae (hs B V T bh) 82 (0,0))from h1.at' 10 rfl);have CW:=bR S;have H1:=af h1;go_wp2_with fail;go_quiet (fail);have h2:=H1.o.drew nq;have l':=pF (h2.at' 10 rfl) l.o;have r':=af (hd.o _ _ _ (by simp[lZ]) h2);generalize an.drewN nq=aB at *;go_wp2_with fail;refine r'.o.mono ?_;rintro e bn ⟨y,rfl,N,s⟩;obtain⟨c,g,f,rfl⟩:∃ c g f,y=ao c g f:=by
  exact Ng
 have fr:=(a_ bn).alloc (ae #[ao c g f,(ao none 0 0),false] 35);have hne:1-k≠k:=by have:=l.out;omega
 by_cases G:bZ=0
 .subst G;have D:=(s.cons (r:=ay.none) (a_ bn) (λ_ _ _ _=>id) trivial (λ_ e=>e.elim)).qI;have t:=(D.cons (r:=ay.bc bn.heap.size (#[ao c g f,(ao none 0 0),false],35)) fr (λ_ _ _ _=>id) (aW bn _) (λj a=>gE (jK a))).iD;go_upto_region 10 with fail
  generalize St:bn.alloc (ae #[ao c g f,(ao none 0 0),false] 35)=gf at *;generalize bn.heap.size=Tq at *;have t:=t;have P:=t.perm (BG _ _ _ _ _ _ _ _ _ _);have F:=P.at' 12 rfl;have w':=aP F;have s':=af (B6 (sd:=(ao none 0 0)) (m:=false) (A7 l.out) P K.out.2);go_wp2_with fail;refine aT s'.o ?_;rintro g' ⟨T',Q⟩;rw[A8 l.out]at Q;have E:=Q.perm (BH _ ([ay.row (V (1-k)) (M.bF (1-k)),ay.cS (T (1-k)) (M.st (1-k))]++bC (B.p (1-k)) (M.p (1-k)) (d (1-k))) _ _ _ _ _ _ _ _ _ _);have F:=E.at' 0 rfl;have n:=E.at' 2 rfl;have w':=aP F;have g0:=bJ n;have z0:=aP n;have z:=af (jx n (ao c g f) (ao none 0 0) (.bool false));have m':=Sep.drop1 (A:=[]) E.tail.tail (jF g' (w.heap.size+1) (ao c g f) (ao none 0 0) (.bool false))
  have ps:cq (((g'.setCell (ad (w+1) 0 ab) (ao c g f)).setCell (ad (w+1) 1 ab) (ao none 0 0)).setCell (ad (w+1) 2 ab) (.bool false)) B {M with p:=b1 M.p k u,st:=b1 M.st k (M.st k++da c3),cs:=cs} bh ([ay.cS (ao c g f) c3]++ay.bc w.heap.size (#[I bw,I (k:aa),I i,I at',aF bI,aF bB],40) :: R):=cq.of (k:=k) (V:=V) (T:=b1 T k T') (d:=b1 d k N) l.out (by
   unfold k' lZ;simp only[i_,h3 _ _ hne];exact m')
  have C:=af (ps.drop (Keeps.refl (λj=>j=w) _));go_wp2_with fail;have H:=dv _ _ _ _ z.o 3 rfl;refine dn (v:=aV #[aM #[ao c g f,(ao none 0 0),false],I 0]) H ?_;exact⟨_,_,_,_,_,rfl,C.o⟩
 obtain rfl:=K.out.1 G;have Q':(bZ != 0)=true:=by simpa using G
 have D:=s.XP.keep fr
 have t:cq _ B {M with p:=b1 M.p k u,st:=b1 M.st k (M.st k++da []),cs:=cs} bh (ay.bc (w.heap.size+1) (cd,35) :: ay.bc w.heap.size (#[I bw,I (k:aa),I i,I at',aF bI,aF bB],40) :: R):=cq.of (k:=k) (V:=V) (T:=T) (d:=b1 d k N) l.out (by
  unfold k' lZ;simp only[i_,h3 _ _ hne,HD,eX];exact D)
 go_upto_region 9 with fail
 generalize bn.alloc (ae #[ao c g f,(ao none 0 0),false] 35)=gf at *;have n:=(t).res (r:=ay.bc (w.heap.size+1) (cd,35)) aI;have g0:=bJ n;have z0:=aP n;have z:=af (jx n (ao none 0 0) (ao none 0 0) (.bool false));have C:=af (((cq.drop (L:=[]) t (jF gf (w.heap.size+1) (ao none 0 0) (ao none 0 0) (.bool false))).drop (L:=[]) (Keeps.refl (λj=>j=w) _)).void);go_wp2_with fail;have H:=dv _ _ _ _ z.o 3 rfl;refine dn (v:=aV #[aM cd,I bZ]) H ?_;exact⟨_,_,_,_,_,rfl,C.o⟩
def vy(b:J)(hk:k<2)(w:ai):az 36 #[b,I k] w λe w'=>e=.returned (.pointer (some (ad b (k*3) ab)))/\w=w':=by
 go_in
 go_wp2;go_ret;exact⟨rfl,rfl⟩
def cq.yI(h:cq w B M bh R)(m:aa):cq (w.setCell (ad B.b 7 ab) (I m)) B M m R:=by
 obtain⟨V,T,d,h⟩:=h;exact⟨V,T,d,h.set 10 (r':=ay.bc B.b (hs B V T m,82)) rfl ((Keeps.refl (λj=>j=B.b) w).setCell (p:=ad B.b 7 ab) rfl _) (λ_ _ e=>e) (by have:=bW (h.at' 10 rfl) 7 (I m);rw[Rc]at this;exact this) (λ_ e=>.inl e)⟩
def cq.bc(h:cq w B M bh R):∃ V T,w.heap[B.b]?=some (ae (hs B V T bh) 82 (0,0)):=by
 obtain⟨V,T,d,h⟩:=h;exact⟨V,T,h.at' 10 rfl⟩
def QO(b:J)(bf:aa)(a:¬ (0<=bf/\bf<2))(w:ai):az 36 #[b,I bf] w λe w'=>e=.returned (.pointer none)/\w=w':=by
 by_cases h1:bf<0
 .go_in
  go_wp2;go_ret;exact⟨rfl,rfl⟩
 have h2:2<=bf:=U
 go_in
 go_wp2;go_ret;exact⟨rfl,rfl⟩
def QE(h:cq w B M bh R)(bw bf i at' bI bB:aa)(t:¬ (0<=bf/\bf<2)\/bw<1\/6<bw):az 10 #[B.b,aM #[I bw,I bf,I i,I at',aF bI,aF bB]] w (jT B M (wrap64 (bh+1)) [] 1 R):=by
 have q:(w.alloc (ae #[I bw,I bf,I i,I at',aF bI,aF bB] 40)).heap.size=w.heap.size+1:=aI;have h2:=(h.push (r:=ay.bc w.heap.size (#[I bw,I bf,I i,I at',aF bI,aF bB],40)) ((a_ w).alloc (ae #[I bw,I bf,I i,I at',aF bI,aF bB] 40)) (aW w _) (λj a=>gE (jK a))).push (r:=ay.bc (w.heap.size+1) (cd,35)) ((a_ (w.alloc (ae #[I bw,I bf,I i,I at',aF bI,aF bB] 40))).alloc (ae cd 35)) sP (λj a=>sO);have⟨V,T,aj⟩:=h2.bc;have c6:=xX aj;have u:=bJ aj;have d:=h2.yI (wrap64 (bh+1));have g:=af d
 go_in
 go_upto_region 4 with fail
 generalize World.setCell (World.alloc (World.alloc w _) _) _ _=an at *;have z:=aP (g.o.res (r:=ay.bc w.heap.size (#[I bw,I bf,I i,I at',aF bI,aF bB],40)) aI);have d:=g.o;by_cases m:0<=bf/\bf<2
 .have⟨k,hk⟩:=lQ m.1;have s:k<2:=U;subst hk;have f:=af (vy B.b s an);by_cases x:bw<1
  .go_wp2_with fail;refine br f.o ?_;have c:=(d).res (r:=ay.bc (w.heap.size+1) (cd,35)) aI;have g0:=bJ c;have n:=aP c;have l:=af (jx c (ao none 0 0) (ao none 0 0) (.bool false));have p:=af (((cq.drop (L:=[]) d (jF an (w.heap.size+1) (ao none 0 0) (ao none 0 0) (.bool false))).drop (L:=[]) (Keeps.refl (λj=>j=w) _)).void);go_wp2_with fail;have e:=dv _ _ _ _ l.o 3 rfl;refine dn (v:=aV #[aM cd,I 1]) e ?_;exact⟨_,_,_,_,_,rfl,p.o⟩
  have y:6<bw:=by have:=t;omega
  go_wp2_with fail;refine br f.o ?_;have c:=(d).res (r:=ay.bc (w.heap.size+1) (cd,35)) aI;have g0:=bJ c;have n:=aP c;have l:=af (jx c (ao none 0 0) (ao none 0 0) (.bool false));go_wp2_with fail;have e:=dv _ _ _ _ l.o 3 rfl;refine dn (v:=aV #[aM cd,I 1]) e ?_;exact⟨_,_,_,_,_,rfl,((((cq.drop (L:=[]) g.o (jF an (w.heap.size+1) (ao none 0 0) (ao none 0 0) (.bool false))).drop (L:=[]) (Keeps.refl (λj=>j=w) _)).void))⟩
 have f:=af (QO B.b bf m an);go_wp2_with fail;refine br f.o ?_;have c:=(d).res (r:=ay.bc (w.heap.size+1) (cd,35)) aI;have g0:=bJ c;have n:=aP c;go_wp2_with fail;have e:=dv _ _ _ _ ((jx c (ao none 0 0) (ao none 0 0) (.bool false))) 3 rfl;refine dn (v:=aV #[aM cd,I 1]) e ?_;exact⟨_,_,_,_,_,rfl,((((cq.drop (L:=[]) d (jF an (w.heap.size+1) (ao none 0 0) (ao none 0 0) (.bool false))).drop (L:=[]) (Keeps.refl (λj=>j=w) _)).void))⟩
def GM(h:cq w B M bh R)(hk:k<2)(i at' bI bB:aa)(fH:dZ)(c3:ah cg)(bZ:aa)(bw bf:aa)(x:bw=1)(y:bf=k)(aU:∀ W R,cq W B M (wrap64 (bh+1)) R->az 37 #[B.b,I bf,aF bB] W (jT B fH (wrap64 (bh+1)) c3 bZ R)):az 10 #[B.b,aM #[I bw,I bf,I i,I at',aF bI,aF bB]] w (jT B fH (wrap64 (bh+1)) c3 bZ R):=by
 have G:(bw == 1)=true:=by rw[x];rfl
 have N:¬ bw<1:=U;have qF:¬ 6<bw:=U;have z:=af aU;have D:=af hk;have E:=af y;clear aU hk x y;have q:(w.alloc (ae #[I bw,I bf,I i,I at',aF bI,aF bB] 40)).heap.size=w.heap.size+1:=aI;have h2:=(h.push (r:=ay.bc w.heap.size (#[I bw,I bf,I i,I at',aF bI,aF bB],40)) ((a_ w).alloc (ae #[I bw,I bf,I i,I at',aF bI,aF bB] 40)) (aW w _) (λj a=>gE (jK a))).push (r:=ay.bc (w.heap.size+1) (cd,35)) ((a_ (w.alloc (ae #[I bw,I bf,I i,I at',aF bI,aF bB] 40))).alloc (ae cd 35)) sP (λj a=>sO);have⟨V,T,aj⟩:=h2.bc;have c6:=xX aj;have H:=bJ aj;have K:=bR aj;have d:=h2.yI (wrap64 (bh+1));have t:=af d
 go_in
 go_upto_region 4 with fail
 generalize World.setCell (World.alloc (World.alloc w _) _) _ _=an at *;have O:=aP (t.o.res (r:=ay.bc w.heap.size (#[I bw,I bf,I i,I at',aF bI,aF bB],40)) aI);have u:=af (vy B.b D.o an);rw[<-E.o]at u;have C:=af (z.o an _ t.o);go_wp2_with fail;refine br u.o ?_;go_wp2_with fail;refine C.o.mono ?_;rintro e bn ⟨s,A,n,c,m,rfl,d⟩;obtain⟨f,l,g,rfl⟩:∃ f l g,s=ao f l g:=by
  exact M'
 have p:=(d).res (r:=ay.bc (w.heap.size+1) (cd,35)) aI;have g0:=bJ p;have P:=aP p;go_wp2_with fail;have F:=dv _ _ _ _ ((jx p (ao f l g) (ao A n c) (.bool m))) 3 rfl;refine dn (v:=aV #[aM #[ao f l g,ao A n c,.bool m],I bZ]) F ?_;exact⟨_,_,_,_,_,rfl,((((cq.drop (L:=[ay.cS (ao f l g) c3]) d (jF bn (w.heap.size+1) (ao f l g) (ao A n c) (.bool m))).drop (L:=[ay.cS (ao f l g) c3]) (Keeps.refl (λj=>j=w) _))))⟩
def AX(h:cq w B M bh R)(hk:k<2)(i at' bI bB:aa)(fH:dZ)(c3:ah cg)(bZ:aa)(bw bf:aa)(E:2<=bw/\bw<=5)(x:bf=k)(aU:∀ W R,cq W B M (wrap64 (bh+1)) R->az 40 #[B.b,aM #[I bw,I bf,I i,I at',aF bI,aF bB]] W (jT B fH (wrap64 (bh+1)) c3 bZ R)):az 10 #[B.b,aM #[I bw,I bf,I i,I at',aF bI,aF bB]] w (jT B fH (wrap64 (bh+1)) c3 bZ R):=by
 have G:(bw == 1)=false:=bU;have H:(bw == 6)=false:=bU;have O:¬ bw<1:=U;have qF:¬ 6<bw:=U;have y:=af aU;have C:=af hk;have D:=af x;clear aU hk E x;have q:(w.alloc (ae #[I bw,I bf,I i,I at',aF bI,aF bB] 40)).heap.size=w.heap.size+1:=aI;have h2:=(h.push (r:=ay.bc w.heap.size (#[I bw,I bf,I i,I at',aF bI,aF bB],40)) ((a_ w).alloc (ae #[I bw,I bf,I i,I at',aF bI,aF bB] 40)) (aW w _) (λj a=>gE (jK a))).push (r:=ay.bc (w.heap.size+1) (cd,35)) ((a_ (w.alloc (ae #[I bw,I bf,I i,I at',aF bI,aF bB] 40))).alloc (ae cd 35)) sP (λj a=>sO);have⟨V,T,aj⟩:=h2.bc;have c6:=xX aj;have K:=bJ aj;have N:=bR aj;have d:=h2.yI (wrap64 (bh+1));have t:=af d
 go_in
 go_upto_region 4 with fail
 generalize World.setCell (World.alloc (World.alloc w _) _) _ _=an at *;have P:=aP (t.o.res (r:=ay.bc w.heap.size (#[I bw,I bf,I i,I at',aF bI,aF bB],40)) aI);have u:=af (vy B.b C.o an);rw[<-D.o]at u;have z:=af (y.o an _ t.o);go_wp2_with fail;refine br u.o ?_;go_wp2_with fail;refine z.o.mono ?_;rintro e bn ⟨s,A,n,c,m,rfl,d⟩;obtain⟨f,l,g,rfl⟩:∃ f l g,s=ao f l g:=by
  exact M'
 have p:=(d).res (r:=ay.bc (w.heap.size+1) (cd,35)) aI;have g0:=bJ p;have Q:=aP p;go_wp2_with fail;have F:=dv _ _ _ _ ((jx p (ao f l g) (ao A n c) (.bool m))) 3 rfl;refine dn (v:=aV #[aM #[ao f l g,ao A n c,.bool m],I bZ]) F ?_;exact⟨_,_,_,_,_,rfl,((((cq.drop (L:=[ay.cS (ao f l g) c3]) d (jF bn (w.heap.size+1) (ao f l g) (ao A n c) (.bool m))).drop (L:=[ay.cS (ao f l g) c3]) (Keeps.refl (λj=>j=w) _))))⟩
end Go.Proofs.YtalagblioepadaaGreatDoor
