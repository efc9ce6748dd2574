/- The proof, part 47. -/
import Derived.Test.YtalagblioepadaaGreatDoorZd46
namespace Go.Proofs.YtalagblioepadaaGreatDoor
set_option linter.all false
open Proofs.Tryz List Go.RowKit Go.Maps
set_option maxRecDepth 100000
set_option maxHeartbeats 2000000
def AG{p:al}(h:p:=by rw[S];exact E):p:=h
def tj{p:al}(h:p:=by rw[<-q];exact aX _ _):p:=h
def ti{p:al}(h:p:=by have a:j=w.heap.size+1:=a;omega):p:=h
def ER{p:al}(h:p:=by rw[a];show(M.p k).x.now<=_;omega):p:=h
def Ar{p:al}(h:p:=by have:=((λj (a:ht B.c j)=>h.lt (r:=az.hp B.c M.cs) (kX (i:=11) rfl) a)) _ e;omega):p:=h
def Ou{p:al}(h:p:=by
 have⟨a,c,e,_⟩:=cS (show bq.ownsRow 0 47 12 s c0.length (dC c0)from d.res (r:=az.cF s c0) aM);exact⟨a,_,c,e⟩
 ):p:=h
def OB{p:al}(h:p:=by
 obtain⟨a,c,e,_⟩:=cS (show bq.ownsRow 0 47 12 y c0.length (dC c0)from s.at' 9 rfl);exact⟨a,_,c,e⟩
 ):p:=h
def Mv{p:al}(h:p:=by
 rcases eJ.1 b with b|b
 .exact h.oB k x b
 rw[gC.1 b];exact aU
 ):p:=h
def MH{p:al}(h:p:=by
 rw[j,u']at b;split at b
 .rwa [xe]at b
 cases b
 ):p:=h
def V9(Q:cd->al)(a:∀ (l:cd) (f:aa) (v:J->aa),Q l->Q (l9 l f (jb v)))(f:J)(p:cq)(h:Q p.1.aF):Q (js f p).1.aF:=by
 rw[(CN f p).2.1];exact a _ _ _ h
theorem KL(Q:cd->al)(a:∀ (l:cd) (f:aa) (v:J->aa),Q l->Q (l9 l f (jb v))):∀ (n:J) (p:cq),Q p.1.aF->Q (fc n p).1.aF
 | 0,p,h=>h
 | n+1,p,h=>by
  unfold fc;split
  .exact h
  refine KL Q a n _ ?_;unfold eR;simp only[];split
  .exact V9 Q a _ _ h
  exact h
structure O2(n d w:J)(cm:aa)(M:dV)(k:J)(v:aT):al where
 inv:∃ F us A,tt (n+1) d w cm (gT k v M) k F us A
 uQ:bS (cH v (M.p k)).1=bS (M.p k)
 snd:∀ m∈fo v (M.p k),jg (w+d) ((gT k v M).bG k) (bS (M.p k)) m
 gn:(fo v (M.p k)).length<=10
 IW:(M.p k).cc=true->vD (M.p k).aF 0
 bo:(M.p k).cc=false->vD (dj v (M.p k)).1.aF (iw {(dj v (M.p k)).1 with x:=dZ (dj v (M.p k)).1.x})
def LkI.lk{n k T A c:J}{o:ah aT}{l:cd}{lead:aa}(h:LkI n k o T A l)(av:n<=400)(a:∀ m∈(c9 l lead).1,jg c o T m)(b:(c9 l lead).1.length<=10):vD l lead:=by
 have h1:=h.oM;have h2:=h.hd;exact⟨U,U,λm hm=>(h.U0 m hm).2.2.1,λm hm=>⟨(a m hm).1,(a m hm).2.1⟩,U⟩
def wX{n d w:J}{cm:aa}{M:dV}(h:eX n d w cm M)(av:n<=400){k:J}(hk:k<2)(v:aT)(aU:v.toNat<=63):O2 n d w cm M k v:=by
 have⟨F,us,A,i,G,z,j,K,E,L,H,t,bR,N,s',vl⟩:=h.ps k hk;have⟨v',w',Q,cP⟩:=two hk;have X:=i.my;have g':=i.ad;have hd:=i.pq;rw[t,bR]at X;rw[t,j]at g';rw[bR]at hd;have a:(gT k v M).p k=(cH v (M.p k)).1:=iB _ _ _;have S:(gT k v M).p (1-k)=M.p (1-k):=hB _ _ Q;by_cases aS:(M.p k).cc=true
 .have u:d_ (M.p k)=false:=by unfold d_;rw[aS];rfl
  have e:(gT k v M).bG=M.bG:=by show(if d_ (M.p k)then _ else _)=_;rw[u];rfl
  have O:cH v (M.p k)=({M.p k with aF:=(c9 (M.p k).aF 0).2},[]):=by unfold cH;rw[aE aS]
  have B:fo v (M.p k)=(c9 (M.p k).aF 0).1:=by unfold fo;rw[aE aS]
  obtain⟨D,o,q⟩:=z.tick hk (h.oB k) (c:=w+d) U 0;refine⟨⟨F,us,A,?_⟩,by rw[O];rfl,by rw[B,e];exact o,by rw[B];exact q,λ_=>z.lk av o q,λc=>by rw[aS]at c;cases c⟩;rw[O]at a;refine⟨by rw[a,e];exact i.same rfl rfl rfl,by rw[a];exact G,by rw[a,e];exact D,by rw[a,e];exact j,by rw[a,e];exact K,AG,by rw[a];exact L,by rw[a];exact H,by rw[a];exact t,by rw[a];exact bR,by rw[a];exact N,λc=>?_,ER⟩;rw[a]at c;have c:=c;rw[aS]at c;cases c
 have aS:(M.p k).cc=false:=by simpa using aS
 obtain⟨zp,m1,_,m3,_⟩:=uo i aS (by rw[bR];exact G) U v aU;obtain⟨T,cB,C,lb,m,l',R,y,ys,m',r'⟩:=i.tick aS (by rw[bR];exact G) U v aU;have B:fo v (M.p k)=(c9 (dj v (M.p k)).1.aF (iw {(dj v (M.p k)).1 with x:=dZ (dj v (M.p k)).1.x})).1:=by unfold fo;rw[aS];rfl
 have⟨g,e⟩:=cT (gT k v M).bG;have r:g=if d_ (M.p k)then bZ M.bG k (M.bG k++[v])else M.bG:=e
 have Z:(if d_ (M.p k)then jF (M.p k) (fC M.bG) v.toNat else fC M.bG)=fC g:=by
  rw[r];split
  .rw[IN];unfold jF;rw[H,j]
  rfl
 have fr:LkI n k (g k) (bS (M.p k)) A (eF v (cL (M.p k))).1.aF:=by
  rw[m3,r];split
  .rename_i u;rw[iB,j];have aw:(M.p k).aF.state=1:=by
    have an:gm (cL (M.p k)).1=true:=by unfold d_ at u;rw[aS]at u;simpa using u
    have⟨_,zd,_,_,_,_,_,_,_,_,sd,_⟩:=rp i;rw[<-sd];exact(xZ an).2.1
   exact z.own v aU U aw
  exact z
 have P:LkI n k (g k) (bS (M.p k)) A (dj v (M.p k)).1.aF:=KL (LkI n k (g k) (bS (M.p k)) A) (λl f s ab=>ab.rep f _ (YD s)) _ _ fr;have a':(g k).length=(M.bG k).length+if d_ (M.p k)then 1 else 0:=by
  rw[r];split
  .rw[iB,cx,jd]
  rfl
 have h2:∀ x∈g k,x.toNat<=63:=by
  rw[r];intro x b;split at b
  .rw[iB]at b;exact Mv
  exact h.oB k x b
 have V:=C.ad;have W:=C.pq;rw[m.eO,t,R,j]at V;rw[y,m.dE,bR]at W;have⟨D,o,q⟩:=P.tick hk h2 (c:=w+d) U (iw {(dj v (M.p k)).1 with x:=dZ (dj v (M.p k)).1.x});have gf:=P.lk av o q;rw[<-B]at o q;rw[<-m']at D;have Y:g (1-k)=M.bG (1-k):=by
  rw[r];split
  .exact hB _ _ Q
  rfl
 rw[Z]at C;refine⟨⟨T,cB,A,?_⟩,y,by rw[<-e];exact o,q,λc=>absurd c (by rw[aS];simp),λ_=>gf⟩;refine⟨by rw[a,<-e];exact C,by rw[a,<-bR];exact lb,by rw[a,<-e,y];exact D,by rw[a,<-e,R,a',j],by rw[a,<-e,Y,y];exact K,AG,by rw[a,y];exact L,by rw[a,m.aN];exact H,by rw[a,m.eO];exact t,by rw[a,m.dE];exact bR,by rw[a,m.aJ];exact N,by rw[a];exact r',by rw[a,l'];split<;>omega⟩
def Bw(M:dV)(k:J)(v:aT)(j:J):M.bG j <+: (gT k v M).bG j:=by
 show _ <+: (if d_ (M.p k)then bZ M.bG k (M.bG k++[v])else M.bG) j;split
 .unfold bZ;split
  .subst j;exact prefix_append _ _
  exact xl _
 exact xl _
def eX.tick{n d w:J}{cm:aa}{M:dV}(h:eX n d w cm M)(av:n<=400){k:J}(hk:k<2)(v:aT)(aU:v.toNat<=63):eX (n+1) d w cm (gT k v M):=by
 have aK:=wX h av hk v aU;have⟨g,i,l,cP⟩:=two hk;have f:∀ j x,x∈(gT k v M).bG j->x.toNat<=63:=by
  intro j x b;have b:x∈(if d_ (M.p k)then bZ M.bG k (M.bG k++[v])else M.bG) j:=b;split at b
  .unfold bZ at b;split at b
   .exact Mv
   exact h.oB j x b
  exact h.oB j x b
 have c:∀ j,bS ((gT k v M).p j)=bS (M.p j):=λj=>by
  show bS (bZ M.p k _ j)=_;unfold bZ;split
  .subst j;exact aK.uQ
  rfl
 have r:(gT k v M).p (1-k)=M.p (1-k):=hB _ _ l;have o:(gT k v M).bG (1-k)=M.bG (1-k):=by
  show(if d_ (M.p k)then bZ M.bG k (M.bG k++[v])else M.bG) (1-k)=_;split
  .exact hB _ _ l
  rfl
 refine⟨λj a=>?_,f,λj a t u=>?_,λj=>?_,?_⟩
 .have:j=k\/j=1-k:=U
  rcases this with rfl|rfl
  .exact aK.inv
  have⟨F,us,A,ax⟩:=h.ps (1-k) g;exact⟨F,us,A,ax.cz g U r o f (by rw[i];exact Bw M k v k) (by rw[i,c];exact df _)⟩
 .rcases (wN (1-(k:aa)) j a (fo v (M.p k)) M.cs (h.ss j)).1 t u with b|⟨b,m,hm,rfl⟩
  .have⟨m,h1,h2⟩:=h.vZ j a t b;exact⟨m,h1,h2.mono (Bw M k v (1-j)) (by rw[c];exact df _)⟩
  have q:1-j=k:=U;exact⟨m,rfl,by rw[q,c];exact aK.snd m hm⟩
 .by_cases a:j<2
  .exact(wN (1-(k:aa)) j a (fo v (M.p k)) M.cs (h.ss j)).2.1
  have e:∀ s:cY,s.get (j:aa)=s.get ((1:J):aa):=λs=>by
   unfold cY.get;rw[aB U,aB U]
  rw[e];exact(wN (1-(k:aa)) 1 U (fo v (M.p k)) M.cs (h.ss 1)).2.1
 have⟨_,_,b6,bw⟩:=wN (1-(k:aa)) 0 U (fo v (M.p k)) M.cs (h.ss 0)
 have:=h.lost
 have:=aK.gn
 show 0<=(gO M.cs (1-(k:aa)) (fo v (M.p k))).lost/\(gO M.cs (1-(k:aa)) (fo v (M.p k))).lost<=10*((n+1:J):aa);omega
def xF(n d w:J)(cm:aa)(M:dV)(k:J)(s':bM):al:=(∃ F us A,tt (n+1) d w cm {M with p:=bZ M.p k s'} k F us A)/\bS (M.p k)<=bS s'
def Iq{n d w:J}{cm:aa}{M:dV}(h:eX n d w cm M)(av:n<=400){k:J}(hk:k<2){t:ah aT}(aK:(∃ m,t=dv m/\jg (w+d) (M.bG (1-k)) (bS (M.p (1-k))) m)\/(fG t).2≠0):xF n d w cm M k (dG t (M.p k)).1:=by
 have⟨F,us,A,l,B,C,u,D,Q,R,v,o,bR,E,G,CW⟩:=h.ps k hk;have⟨gf,g',hd,cP⟩:=two hk;have N:∀ s',({M with p:=bZ M.p k s'}:dV).p (1-k)=M.p (1-k):=λs'=>hB _ _ hd;have a:∀ s',({M with p:=bZ M.p k s'}:dV).p k=s':=λs'=>iB _ _ _;have same:∀ (l':cd) (cG:J),LkI (n+1) k (M.bG k) (bS (M.p k)) cG l'->A<=cG->cG<=bS (M.p (1-k))->((M.p k).cc=false->l'.state≠2)->xF n d w cm M k {M.p k with aF:=l'}:=λl' cG a' Q' q aw=>by
  refine⟨⟨F,us,cG,?_⟩,df _⟩;exact⟨by rw[a];exact l.same rfl rfl rfl,by rw[a];exact B,by rw[a];exact a',by rw[a];exact u,by rw[a];exact D,by rw[N];exact q,by rw[a];exact ca R U,by rw[a];exact v,by rw[a];exact o,by rw[a];exact bR,by rw[a];exact E,by rw[a];exact aw,ER⟩
 by_cases aS:(M.p k).cc=true
 .have e:dG t (M.p k)=(M.p k,[]):=by unfold dG;rw[aE aS]
  rw[e];exact same (M.p k).aF A C.up bx Q G
 have aS:(M.p k).cc=false:=by simpa using aS
 have St:d<=8/\w<=16:=by have:=l.my;rw[o,bR]at this;omega
 have W:=l.ad;have Y:=l.pq;rw[o,u]at W;rw[bR]at Y;have⟨Aw,W',zp,b6,bw,eC,dY,fV,ek,c2,fI,fq,d1,d2,d3,d4⟩:=h.ps (1-k) gf;have X:=b6.ad;have Z:=b6.pq;rw[fq,dY]at X;rw[d1]at Z;rw[g']at fV ek;have⟨⟨T',cG,z,i2,i3,i4,i5,i6,i7,j,i9⟩,V'⟩:=(C.t_ U (M.bG (1-k)) D U (Tq:=bS (M.p (1-k))) (c:=w+d) fV aK);have q:cG<=bS (M.p (1-k)):=U;by_cases g:(cD (M.p k).aF t).2.1≠0
 .have e:dG t (M.p k)=({M.p k with aF:=(cD (M.p k).aF t).2.2},[]):=by
   unfold dG;rw[aB (show ¬ (M.p k).cc=true by rw[aS];simp),aE g]
  rw[(i7 g)]at j;have ab:T'=bS (M.p k):=by
   have:=c5 length j
   exact MS
  rw[ab]at z;rw[e];refine same _ cG z i4 q λ_=>?_
  -- an error leaves the state
  have aw:=G aS;unfold cD;rw[aB aw];by_cases O:(fG t).2≠0
  .rw[aE O];exact aw
  exfalso;apply g;unfold cD;rw[aB aw,aB O];split<;>rfl
 have g:(cD (M.p k).aF t).2.1=0:=by simpa using g
 have e:dG t (M.p k)=fj (fB (cD (M.p k).aF t).1 {M.p k with x:=e' (M.p k).x (cD (M.p k).aF t).1.a_,aF:=(cD (M.p k).aF t).2.2}):=by
  unfold dG;rw[aB (show ¬ (M.p k).cc=true by rw[aS];simp),aB (λc=>c g)]
 generalize cD (M.p k).aF t=H at *;have TS:H.1.a_.length=T'-bS (M.p k):=by rw[j];simp;omega
 have L:∀ i x,H.1.a_[i]?=some x->(M.bG (1-k))[bS (M.p k)+i]?=some x:=λi x b=>by
  exact MH
 have⟨lb,m',r',P,sd,vl,v',w'⟩:=b8.yD H.1.a_ l U (λi x b=>by
  rw[v];unfold fC;rw[oV,L i x b];rfl) (λx b=>by
  obtain⟨i,ax,rfl⟩:=s_.1 b;exact h.oB (1-k) _ (kX (L i _ (gA ax))))
 obtain⟨s1,r⟩:∃ s1:bM,s1={M.p k with x:=e' (M.p k).x H.1.a_,aF:=H.2.2}:=⟨_,rfl⟩;rw[<-r]at e;have fr:b8 s1 F (fC M.bG) us:=by rw[r];exact lb.same rfl rfl rfl
 have⟨ys,zd,aaq,aar⟩:=Ik H.1 s1;have⟨g1,y,S,T,V,K⟩:=yy (fB H.1 s1);rw[<-e]at g1 y S T V K;have f:(dG t (M.p k)).1.x=e' (M.p k).x H.1.a_:=by rw[g1,ys,r]
 have h2:(dG t (M.p k)).1.aF=H.2.2:=by rw[y,zd,r]
 have s:bS (dG t (M.p k)).1=T':=by
  unfold bS at *;rw[f,m'];omega
 have m9:dc (dG t (M.p k)).1=dc (M.p k):=by
  unfold dc at *;rw[f,r']
 refine⟨⟨F,us,cG,?_⟩,by rw[s];exact i2⟩;refine⟨?_,by rw[a,f,P];exact B,by rw[a,h2,s];exact z,by rw[a,m9];exact u,by rw[a,s];exact i3,by rw[N];exact q,by rw[a,s];omega,by rw[a,f,sd];exact v,by rw[a,f,vl];exact o,by rw[a,f,v'];exact bR,by rw[a,f,w'];exact E,λc=>?_,by rw[a,f,P];omega⟩
 .rw[a,e];exact(fr.fB H.1).gone
 rw[a]at c⊢;rw[y];exact(K c).1
def Tv{n d w:J}{cm:aa}{M:dV}(h:eX n d w cm M){k:J}(hk:k<2):xF n d w cm M k (f' (M.p k)).1:=by
 have⟨F,us,A,f,g,i,j,l,E,m,o,q,bR,r,u,v⟩:=h.ps k hk;have⟨R,T,O,cP⟩:=two hk;have S:∀ s',({M with p:=bZ M.p k s'}:dV).p (1-k)=M.p (1-k):=λs'=>hB _ _ O;have a:∀ s',({M with p:=bZ M.p k s'}:dV).p k=s':=λs'=>iB _ _ _;by_cases aS:(M.p k).cc=true
 .have e:f' (M.p k)=(M.p k,[]):=by unfold f';rw[aE aS]
  rw[e];refine⟨⟨F,us,A,?_⟩,df _⟩;exact⟨by rw[a];exact f,by rw[a];exact g,by rw[a];exact i.up,by rw[a];exact j,by rw[a];exact l,AG,by rw[a];exact m,by rw[a];exact o,by rw[a];exact q,by rw[a];exact bR,by rw[a];exact r,by rw[a];exact u,ER⟩
 have aS:(M.p k).cc=false:=by simpa using aS
 have e:f' (M.p k)=fQ 12 ({M.p k with aF:=nd (M.p k).aF},[]):=by unfold f';rw[aB (show ¬ (M.p k).cc=true by rw[aS];simp)]
 have⟨g1,y,D,G,Q,z,H,K,L⟩:=sk 12 ({M.p k with aF:=nd (M.p k).aF},[]);rw[<-e]at g1 y D G z H K L;have b:(f' (M.p k)).1.x=(M.p k).x:=g1;have t:bS (f' (M.p k)).1=bS (M.p k):=by unfold bS;rw[b]
 have P:dc (f' (M.p k)).1=dc (M.p k):=by unfold dc;rw[b]
 have N:LkI (n+1) k (M.bG k) (bS (M.p k)) A (nd (M.p k).aF):=by
  unfold nd;split
  .exact i.up
  obtain⟨f,g,i,j,l,E,m,o,q,bR,r,u,v,B,C⟩:=i.up;exact⟨f,g,.inr (.inr rfl),j,l,E,m,o,q,bR,r,u,v,B,C⟩
 refine⟨⟨F,us,A,?_⟩,by rw[t];exact df _⟩;refine⟨?_,by rw[a,b];exact g,by rw[a,y,t];exact N,by rw[a,P];exact j,by rw[a,t];exact l,AG,by rw[a,t];exact m,by rw[a,b];exact o,by rw[a,b];exact q,by rw[a,b];exact bR,by rw[a,b];exact r,λc=>?_,by rw[a,b];omega⟩
 .rw[a,e];exact b8.halt (s:={M.p k with aF:=nd (M.p k).aF}) (f.same rfl rfl rfl) 12 []
 rw[a,z]at c;cases c
def eX.goes{n d w:J}{cm:aa}{M:dV}(h:eX n d w cm M){k:J}(hk:k<2){s':bM}(aZ:xF n d w cm M k s')(e:J->ah bI)(a:cY)(an:∀ j:J,(∀ t∈a.get j,t∈M.cs.get j)/\(a.get j).length<=(M.cs.get j).length)(l:M.cs.lost<=a.lost/\a.lost<=M.cs.lost+1):eX (n+1) d w cm {p:=bZ M.p k s',bG:=M.bG,st:=e,cs:=a}:=by
 have⟨c,o,i,cP⟩:=two hk;have⟨⟨F,us,A,ax⟩,f⟩:=aZ;have aK:∀ j,bS (M.p j)<=bS (bZ M.p k s' j):=λj=>by
  unfold bZ;split
  .subst j;exact f
  exact df _
 refine⟨λj b=>?_,h.oB,λj b t g=>?_,λj=>ca (an j).2 (h.ss j),?_⟩
 .have:j=k\/j=1-k:=U
  rcases this with rfl|rfl
  .exact⟨F,us,A,ax.1,ax.2,ax.3,ax.4,ax.5,ax.6,ax.7,ax.8,ax.9,ax.10,ax.11,ax.12,ax.13⟩
  obtain⟨F,us,A,ax⟩:=h.ps (1-k) c;exact⟨F,us,A,ax.cz c U (hB _ _ i) rfl h.oB (xl _) (aK _)⟩
 .have⟨m,h1,h2⟩:=h.vZ j b t ((an j).1 t g);exact⟨m,h1,h2.mono (xl _) (aK _)⟩
 have:=h.lost
 show 0<=a.lost/\a.lost<=10*((n+1:J):aa);omega
variable{w w':aj}
structure jB where
 o:Old
 b:J
 c:J
 p:J->gk
def hP(B:jB)(V T:J->ay)(bk:aa):a7 ay:=#[.pointer (some (ae ((B.p 0).p) 0 ad)),V 0,T 0,.pointer (some (ae ((B.p 1).p) 0 ad)),V 1,T 1,B.c,I bk]
def tG(l:ah aT):ah ay:=l.map λx=>aH (x.toNat:aa)
def az.hp(c:J)(s:cY):az where
 S:=ht c
 P w:=eY w c 64 s
 lt h ak:=by
  have h1:=h.nz.le.2.2.2.1;unfold ht at ak;omega
 frame h hk aw:=h.keeps hk aw
def az.row(v:ay)(l:ah aT):az where
 S j:=v.ownBlock=some j
 P w:=w.ownsRow 0 5 1 v l.length (tG l)
 lt h a:=mH h a
 frame h hk aw:=b5 h hk aw
def lN(k:J)(B:jB)(M:dV)(V T:J->ay)(bk:aa)(d:J->gG):ah az:=az.kinds B.o :: az.bd B.b (hP B V T bk,82) :: az.hp B.c M.cs :: az.row (V k) (M.bG k) :: az.cF (T k) (M.st k) :: az.row (V (1-k)) (M.bG (1-k)) :: az.cF (T (1-k)) (M.st (1-k)) :: bH (B.p (1-k)) (M.p (1-k)) (d (1-k))
def lO(k:J)(B:jB)(M:dV)(V T:J->ay)(bk:aa)(d:J->gG)(R:ah az):ah az:=bH (B.p k) (M.p k) (d k)++(lN k B M V T bk d++R)
def cl(w:aj)(B:jB)(M:dV)(bk:aa)(R:ah az):al:=∃ V T d,Sep w (lO 0 B M V T bk d R)
section
variable{k:J}{B:jB}{M:dV}{V T:J->ay}{bk:aa}{d:J->gG}{R:ah az}
def JD(A C R:ah az)(x y z p q r s:az):(A++((x :: y :: z :: p :: q :: r :: s :: C)++R)).Perm (C++((x :: y :: z :: r :: s :: p :: q :: A)++R)):=by
 have h2:=oW C [x,y,z,r,s,p,q] (A++R);have a:=((perm_append_comm (l₁:=[p,q]) (l₂:=[r,s])).cons z |>.cons y |>.cons x);exact(oW A [x,y,z,p,q,r,s] (C++R)).trans ((a.append (oW A C R)).trans h2.symm)
def Pg(h:Sep w (lO 0 B M V T bk d R)):Sep w (lO 1 B M V T bk d R):=h.perm (JD _ _ _ _ _ _ _ _ _ _)
def Ph(h:Sep w (lO 1 B M V T bk d R)):Sep w (lO 0 B M V T bk d R):=h.perm (JD _ _ _ _ _ _ _ _ _ _)
def cl.view(h:cl w B M bk R)(hk:k<2):∃ V T d,Sep w (lO k B M V T bk d R):=by
 have⟨V,T,d,h⟩:=h
 have:k=0\/k=1:=U
 rcases this with rfl|rfl
 .exact⟨V,T,d,h⟩
 exact⟨V,T,d,Pg h⟩
def cl.of(hk:k<2)(h:Sep w (lO k B M V T bk d R)):cl w B M bk R:=by
 have:k=0\/k=1:=U
 rcases this with rfl|rfl
 .exact⟨V,T,d,h⟩
 exact⟨V,T,d,Ph h⟩
theorem cl.keep(h:cl w B M bk R)(hk:Keeps aG w w'):cl w' B M bk R:=by
 have⟨V,T,d,h⟩:=h;exact⟨V,T,d,h.keep hk⟩
def cl.push(h:cl w B M bk R){r:az}(hk:Keeps aG w w')(c:r.P w')(ar:∀ b,r.S b->w.heap.size<=b):cl w' B M bk (r :: R):=by
 have⟨V,T,d,h⟩:=h;exact⟨V,T,d,Sep.perm (h.cons hk (λ_ _ _ _ e=>e) c ar) (qJ (l₁:=bH (B.p 0) (M.p 0) (d 0)++lN 0 B M V T bk d) (l₂:=R) (a:=r)).symm⟩
section
variable(ak:w.heap[B.b]?=some (af (hP B V T bk) 82 (0,0)))
include ak
theorem qa(hk:k<2):w.cell? (ae B.b (k*3) ad)=some (.pointer (some (ae ((B.p k).p) 0 ad))):=by
 have:k=0\/k=1:=U
 rcases this with rfl|rfl<;>exact bf ak rfl
theorem Ih(hk:k<2):w.cell? (ae B.b (k*3+1) ad)=some (V k):=by
 have:k=0\/k=1:=U
 rcases this with rfl|rfl<;>exact bf ak rfl
theorem tY:w.cell? (ae B.b 6 ad)=some (.pointer (some (ae B.c 0 ad))):=bf ak rfl
theorem yA:w.cell? (ae B.b 7 ad)=some (I bk):=bf ak rfl
end
def BY(hk:k<2):(hP B V T bk)[k*3+2]?=some (T k):=by
 have:k=0\/k=1:=U
 rcases this with rfl|rfl<;>rfl
def BZ(hk:k<2)(t:ay):(hP B V T bk).setIfInBounds (k*3+2) t=hP B V (bZ T k t) bk:=by
 have:k=0\/k=1:=U
 rcases this with rfl|rfl<;>simp[hP,bZ]
def Sz(hk:k<2)(t:ay):(hP B V T bk).setIfInBounds (k*3+1) t=hP B (bZ V k t) T bk:=by
 have:k=0\/k=1:=U
 rcases this with rfl|rfl<;>simp[hP,bZ]
def Sy(m:aa):(hP B V T bk).setIfInBounds 7 (I m)=hP B V T m:=by simp[hP]
end
def IJ:dm []=[]:=rfl
def IL(l:ah bI)(c:bI):dm (l++[c])=if c.bp=4 then dm l++[c]else dm l:=by
 unfold dm;rw[rO];by_cases h:c.bp=4
 .rw[aE h];simp[h]
 rw[aB h];simp[h]
def XD{c:a7 ay}{i:J}{v:ay}(h:c[i]?=some v):c.setIfInBounds i v=c:=by
 have⟨h1,h2⟩:=jv.1 h;refine Array.ext aM λj a b=>?_;rw[Array.getElem_setIfInBounds];split
 .rename_i e;subst e;exact h2.symm
 rfl
def CZ{bX off:J}{b:a7 ay}{ty:TypeId}{t V sd:ay}{st l:ah bI}{L:ah az}{m:a1}(an:b[off+2]?=some t)(h:Sep w (az.cF V l :: az.bd bX (b,ty) :: az.cF t st :: L))(f:st.length+l.length<=100000):aA 39 #[.pointer (some (ae bX off ad)),aL #[V,sd,.bool m]] w λe w'=>e=aY #[]/\∃ T',Sep w' (az.cF V l :: az.bd bX (b.setIfInBounds (off+2) T',ty) :: az.cF T' (st++dm l) :: L):=by
 obtain⟨A,cap,rfl,_,_⟩:=cS (show w.ownsRow 0 47 12 V l.length (dC l)from h.at' 0 rfl);have St:Sep w (az.cF (aq A l.length cap) l :: az.bd bX (b.setIfInBounds (off+2) t,ty) :: az.cF t (st++dm []) :: L):=by
  rw[XD an,IJ,eB];exact h
 have s:=bW St (bD f (show off+2<b.size from(jv.1 an).1))
 go_in
 go_wp2_with fail;go_loopg [9] l.length (λg i wr=>∃ pre rest:ah bI,l=pre++rest/\g=rest.length/\i=I pre.length/\∃ T',Sep wr (az.cF (aq A l.length cap) l :: az.bd bX (b.setIfInBounds (off+2) T',ty) :: az.cF T' (st++dm pre) :: L))
 case atStart=>exact⟨[],l,rfl,rfl,rfl,t,((s.o.1.alloc (af #[aq A l.length cap,sd,.bool m] 35)))⟩
 obtain⟨pre,rest,d,aZ,rfl,T',H⟩:=hrel;cases rest with
 | nil=>
  obtain rfl:l=pre:=by rw[d,eB]
  have zp:=ag H;clear d H;go_wp2_with fail;go_end0;exact⟨rfl,T',zp.o⟩
 | cons c rest=>
  have TS:pre.length<l.length:=by rw[d];simp
  have Y:l[pre.length]=c:=by simp[d]
  have aau:l.length<=100000:=by have:=s.out.2.1;omega
  have T:l=(pre++[c])++rest:=by rw[d];simp
  have Tq:=aZ;simp only[dy]at Tq;have O:=H.at' 0 rfl;obtain⟨r,rfl⟩:=nw O U;have f:=mM (P:=prog) (enc:=bI.bu) (λ_=>rfl) isAgg47 sizeOf47 O pre.length TS;rw[Y]at f;have f:(Instr.loadAt 47 (.pointer (some (ae r (pre.length*12) ad)))).run prog wr=.ok (.agg (dg c)) wr:=f;have dp:=wK wr;obtain⟨a,E,B,ab,zd⟩:=vO wr c;obtain⟨bN,N⟩:=cT wr.heap.size;rw[<-N]at B;have W':=aO B;have u:=H.keep ab;have aat:(dm pre).length<=pre.length:=ml _ _;rw[<-N]at dp E;generalize wr.alloc _=aav at dp E;by_cases y:c.bp=4
  .have Q':(c.bp == 4)=true:=by rw[y];rfl
   have l':∀ q∈(az.cF (aq (some (ae r 0 ad)) l.length cap) l :: az.bd bX (b.setIfInBounds (off+2) T',ty) :: az.cF T' (st++dm pre) :: L),¬ q.S bN:=λq V' Z=>by have:=H.lt V' Z;omega
   have hd:T'.ownBlock≠some bN:=λe=>l' (az.cF T' (st++dm pre)) aM e;have h2:∀ j,T'.ownBlock=some j->j≠bX:=λj e CW=>u.p1 (i:=2) (j:=1) rfl rfl U j e CW;have X:=u.drew 1;have m':a.drew.cell? (ae bX (off+2) ad)=some T':=bf (show a.drew.heap[bX]?=some (af (b.setIfInBounds (off+2) T') ty (0,0))from X.at' 1 rfl) (by simp[s.out.2.2]);have g':a.drew.heap[bN]?=some (af (dg c) 47 (0,0)):=B
   have F:Sep (a.drew.alloc (af (dg c) 47)) (az.cF (aq (some (ae a 0 ad)) 1 1) [c] :: az.cF (aq (some (ae r 0 ad)) l.length cap) l :: az.bd bX (b.setIfInBounds (off+2) T',ty) :: az.cF T' (st++dm pre) :: L):=
    X.cons (r:=az.cF (aq (some (ae a 0 ad)) 1 1) [c]) ((bb a.drew).alloc (af (dg c) 47)) (λ_ _ _ _ e=>e) ⟨by simp[dC,bI.bu,dg],.inr ⟨a,1,dg c,rfl,de _,aX a.drew _,df _,by simp[maxLen],rfl,by simp[dC,bI.bu,dg]⟩⟩ (λj Z=>by cases Z;exact df _)
   obtain⟨v',k,D,gf,a',lb⟩:=A4 (v:=T') (vl:=aq (some (ae a 0 ad)) 1 1) (cs:=st++dm pre) (l:=[c]) 32 (F.at' 3 rfl) (F.at' 0 rfl) (by have:=s.out.2.1;simp;omega);have z:=F.set 3 (r':=az.cF v' ((st++dm pre)++[c])) rfl a' (λ_ _ e=>e) gf lb;have z:Sep k (az.cF (aq (some (ae a 0 ad)) 1 1) [c] :: az.cF (aq (some (ae r 0 ad)) l.length cap) l :: az.bd bX (b.setIfInBounds (off+2) T',ty) :: az.cF v' ((st++dm pre)++[c]) :: L):=z;have M:k.heap[bX]?=some (af (b.setIfInBounds (off+2) T') ty (0,0)):=z.at' 2 rfl;have c2:k.cell? (ae bX (off+2) ad)=some T':=bf M (by simp[s.out.2.2]);have f7:=fO M (off+2)
   have G:=z.set 2 (r':=az.bd bX (b.setIfInBounds (off+2) v',ty)) rfl ((Keeps.refl (λj=>j=bX) k).setCell (p:=ae bX (off+2) ad) rfl v') (λ_ _ e=>e) (by
    have:=b3 M (off+2) v'
    rw[Array.setIfInBounds_setIfInBounds]at this;exact this) (λ_ e=>.inl e)
   have G:Sep (k.setCell (ae bX (off+2) ad) v') (az.cF (aq (some (ae r 0 ad)) l.length cap) l :: az.bd bX (b.setIfInBounds (off+2) v',ty) :: az.cF v' (st++dm (pre++[c])) :: L):=by
    rw[IL,aE y,<-dL];exact Sep.tail G
   have s':∀ W,(∃ x:gQ (λj=>T'.ownBlock=some j) a.drew,W=x.to)->(Instr.loadAt 47 bN).run prog W=.ok (.agg (dg c)) W:=λW ⟨x,d⟩=>by
    rw[d];exact I6 (x.keeps.heap g' hd)
   have aaq:∀ x:gQ (λj=>T'.ownBlock=some j) a.drew,_:=jE (S:=λj=>T'.ownBlock=some j) (w:=a.drew) m' (λe=>h2 _ e rfl);have Q:Keeps (λj=>T'.ownBlock=some j) a.drew (a.alloc (af (dg c) 47)).drew:=(Keeps.refl (λj=>T'.ownBlock=some j) a.drew).alloc (af (dg c) 47);have D:(Builtin.append_ #[32,32] 32 #[T',aq (some (ae a 0 ad)) 1 1]).run prog (a.alloc (af (dg c) 47)).drew=.ok v' k:=D;obtain⟨aas,aar,R,_,_⟩:=cS gf;obtain⟨n7,ys⟩:=cT ((st++dm pre)++[c]).length;rw[<-ys]at R;have n:=bW T G;have fr:Keeps (λj=>T'.ownBlock=some j) (a.alloc (af (dg c) 47)).drew k:=a';clear H O d aZ Y T B ab zd N u X m' g' F z G M gf a' lb l' hd h2 ys y;go_upto_region 5 with(first|((with_reducible refine dn f rfl rfl ?_ ?_);exact rfl)|((with_reducible refine dU dp rfl rfl ?_))|((with_reducible refine c7 E rfl rfl ?_ ?_ ?_);exact rfl;exact rfl)|fail)
   clear f dp E W';refine cJ 11 ?_;refine ow (λj=>T'.ownBlock=some j) (.range 6) [6,7] 3 ?_
   repeat (first|(refine jL s' rfl rfl rfl ?_;simp only[Act.put,c8])|go_big_quiet_step (fail))
   refine wpQuiet_nil ?_;simp only[dg]at Q D fr;refine gu λK C=>?_;simp only[dg];go_simp;refine C _ _ (c6 (Q)) ?_;clear C K;refine ko λK C=>?_;refine Lib.wp_append_run _ (.tmp 20) (.tmp 22) 32 32 rfl _ _ rfl rfl _ _ D ?_;refine C _ _ (c6 (Q.trans fr)) ?_;clear C K;clear aaq s' Q D fr;rw[R];rw[R]at n;simp only[Act.put,c8];refine fu (λ_=>False) [8,9] [] 1 (hQ ?_);refine cK (n3) [10] 0 1 ?_;refine h9 10 (lM _) ?_;clear c2 f7 R;go_wp2_with fail;go_roundg rest.length
   case measure=>omega
   exact⟨pre++[c],rest,n.o.1,rfl,qO,_,n.o.2⟩
  have Q':(c.bp == 4)=false:=by simpa using y
  have n:=bW T u;have ps:dm (pre++[c])=dm pre:=by rw[IL,aB y]
  have Aw:=ag ps;clear H O d aZ Y T B ab zd N u ps;go_wp2_with first|((with_reducible refine dn f rfl rfl ?_ ?_);exact rfl)|(with_reducible refine dU dp rfl rfl ?_)|((with_reducible refine c7 E rfl rfl ?_ ?_ ?_);exact rfl;exact rfl)
  go_roundg rest.length
  case measure=>omega
  exact⟨pre++[c],rest,n.o.1,rfl,qO,T',by rw[Aw.o];exact n.o.2⟩
variable{k:J}{B:jB}{M:dV}{V T:J->ay}{bk:aa}{d:J->gG}{R:ah az}
theorem Vg(x c y z b e r t:az):([x,c,y,z,b,e,r,t]:ah az).Perm [c,b,t,x,y,z,e,r]:=
 (show([0,1,2,3,4,5,6,7]:ah J).Perm [1,4,7,0,2,3,5,6]by decide).map λi=>[x,c,y,z,b,e,r,t].getD i x
def Cy(A D:ah az)(x c y z b e r t:az):(A++x :: c :: y :: z :: b :: e :: r :: t :: D).Perm (c :: b :: t :: (A++x :: y :: z :: e :: r :: D)):=by
 have h2:=(((oW A [x,y,z,e,r] D).cons t).cons b).cons c;exact(oW A [x,c,y,z,b,e,r,t] D).trans (((Vg x c y z b e r t).append_right (A++D)).trans h2.symm)
theorem Vh(c b t x y z e r q:az):([c,b,t,x,y,z,e,r,q]:ah az).Perm [x,y,q,z,b,e,r,t,c]:=
 (show([0,1,2,3,4,5,6,7,8]:ah J).Perm [3,4,8,5,1,6,7,2,0]by decide).map λi=>[c,b,t,x,y,z,e,r,q].getD i x
def Cz(A C R:ah az)(c b t x y z e r q:az):(c :: b :: t :: (A++x :: y :: z :: e :: r :: (C++q :: R))).Perm (x :: y :: q :: (A++((z :: b :: e :: r :: t :: C)++c :: R))):=by
 have h1:(c :: b :: t :: (A++x :: y :: z :: e :: r :: (C++q :: R))).Perm ([c,b,t,x,y,z,e,r,q]++(A++(C++R))):=by
  have a:(A++x :: y :: z :: e :: r :: (C++q :: R)).Perm ([x,y,z,e,r]++(A++(C++q :: R))):=oW A [x,y,z,e,r] _;have d:(A++(C++q :: R)).Perm (q :: (A++(C++R))):=by
   rw[<-dL,<-dL];exact qJ
  exact(((a.trans (d.append_left [x,y,z,e,r])).cons t).cons b).cons c
 have h2:(x :: y :: q :: (A++((z :: b :: e :: r :: t :: C)++c :: R))).Perm ([x,y,q,z,b,e,r,t,c]++(A++(C++R))):=by
  have a:(A++((z :: b :: e :: r :: t :: C)++c :: R)).Perm ([z,b,e,r,t]++(A++(C++c :: R))):=oW A [z,b,e,r,t] _;have d:(A++(C++c :: R)).Perm (c :: (A++(C++R))):=by
   rw[<-dL,<-dL];exact qJ
  exact(((a.trans (d.append_left [z,b,e,r,t])).cons q).cons y).cons x
 exact h1.trans (((Vh c b t x y z e r q).append_right (A++(C++R))).trans h2.symm)
def kf(B:jB)(fp:dV)(bk:aa)(cs:ah bI)(b0:aa)(R:ah az)(e:Ending)(w':aj):al:=
 ∃ a A n c m,e=aY #[aL #[a,aq A n c,.bool m],I b0]/\cl w' B fp bk (az.cF a cs :: R)
def Xw(cs:cY)(g:aa)(t:ch):cs.lost<=(hT cs 64 g t).lost/\(hT cs 64 g t).lost<=cs.lost+1:=by
 unfold hT cY.put;split
 .split
  .split<;>exact⟨aM,vs⟩
  exact⟨vs,aM⟩
 exact⟨jw _,U⟩
theorem Ky(g:aa):∀ (a:ah a6) (cs:cY),cs.lost<=(gO cs g a).lost/\(gO cs g a).lost<=cs.lost+a.length
 | [],cs=>⟨jw _,by simp[gO]⟩
 | m :: r,cs=>by
  have h1:=Ky g r (hT cs 64 g (dr m));have h2:=Xw cs g (dr m);have e:gO cs g (m :: r)=gO (hT cs 64 g (dr m)) g r:=rfl;rw[e,dy];omega
def S5:∃ i,prog.info? 5=some i/\i.zero=some (aH 0)/\i.size=1/\i.bytes=1:=by
 have h:(prog.info? 5).map (λi=>(i.zero,i.size,i.bytes))=some (some (aH 0),1,1):=aI;cases aS:prog.info? 5 with
 | none=>rw[aS]at h;cases h
 | some i=>rw[aS]at h;simp only[pN,hI,jR]at h;exact⟨i,rfl,h⟩
def zy(k:J)(B:jB)(s':bM)(d2:gG)(x c y:az)(M:dV)(V T:J->ay)(bk:aa)(d:J->gG)(z:az)(R:ah az):ah az:=bH (B.p k) s' d2++x :: c :: y :: (lN k B M V T bk d++z :: R)
def R'(h:cl w B M bk R)(hk:k<2)(v:aT)(aaJ:∀ W d R,az.kinds B.o∈R->Sep W (bH (B.p k) (M.p k) d++R)->aA 60 #[.pointer (some (ae ((B.p k).p) 0 ad)),aH v.toNat] W (xK (B.p k) (cH v (M.p k)).1 (cH v (M.p k)).2 (fo v (M.p k)) (d_ (M.p k)) R))(G:dc (cH v (M.p k)).1=dc (M.p k)+if d_ (M.p k)then 1 else 0)(K:(fo v (M.p k)).length<=100)(l':0<=M.cs.lost/\M.cs.lost<=900000)(aaN:∀ m∈fo v (M.p k),(dv m).length<=100000)(Z:(M.bG k).length<=1000)(aaM:(M.st k).length+(cH v (M.p k)).2.length<=100000):aA 37 #[B.b,I k,aH v.toNat] w (kf B (gT k v M) bk (cH v (M.p k)).2 0 R):=by
 obtain⟨V,T,d,h⟩:=(h.push (r:=az.bd w.heap.size (cj,35)) ((bb w).alloc (af cj 35)) (aX w (af cj 35)) (λj z=>gD (jM z))).view hk;have Q:=qa (h.at' 10 rfl) hk;have aaW:(k:aa)<2:=U;have cI:=bW G (bD K (bD l' (bD aaN (bD Z aaM))));have y:=ag hk
 go_in
 go_wp2_with fail;generalize w.alloc (af cj 35)=bn at *;refine bE (wh h) ?_;go_wp2_with fail;refine aW ((A_ (hq h))) ?_;rintro _ ⟨q,rfl⟩;have h1:=h.drew q;have Q:=qa (h1.at' 10 rfl) y.out;have aas:=ag (aaJ _ _ _ (by simp[lN]) h1);generalize bn.drewN q=ao at *;go_wp2_with fail;refine aas.o.mono ?_;rintro e aD ⟨aaC,A,cap,rfl,d2,h2⟩;obtain⟨n,t,s,rfl⟩:∃ n t s,aaC=aq n t s:=by
  obtain⟨a,c,e,_⟩:=cS (show aD.ownsRow 0 47 12 aaC (cH v (M.p k)).2.length (dC (cH v (M.p k)).2)from h2.at' 9 rfl);exact⟨a,_,c,e⟩
 clear aas Q;have aaz:=(bb aD).alloc (af #[aq n t s,.slice A (fo v (M.p k)).length cap,(d_ (M.p k))] 35);have⟨E,vl⟩:=cT aD.heap.size;have TS:=(h2.cons (r:=az.bd E (#[aq n t s,.slice A (fo v (M.p k)).length cap,(d_ (M.p k))],35)) aaz (λ_ _ _ _=>id) (by rw[vl];exact aX aD _) (λj z=>by have z:j=E:=z;omega)).iY;have L:=ag TS;have Q':=ag vl;clear h2 aaz TS vl;go_upto_region 6 with fail
 rw[<-Q'.o];generalize aD.alloc (af #[aq n t s,.slice A (fo v (M.p k)).length cap,(d_ (M.p k))] 35)=bq at *;have Q:=qa (L.o.at' 13 rfl) y.out;have W':=ag (wh L.o);have aar:=ag (A_ (hq L.o));clear Q';go_wp2_with fail;refine bE W'.o ?_;go_wp2_with fail;refine aW aar.o ?_;rintro _ ⟨aaB,rfl⟩;have H:=L.out.drew aaB;clear L W' aar Q;generalize bq.drewN aaB=ys at *;go_upto_if 45 with fail
 go_cut [] (λb2=>∃ bG V,bG=(if d_ (M.p k)then bZ M.bG k (M.bG k++[v])else M.bG)/\Sep b2 (zy k B (cH v (M.p k)).1 d2 (az.bd E (#[aq n t s,.slice A (fo v (M.p k)).length cap,(d_ (M.p k))],35)) (az.cF (aq n t s) (cH v (M.p k)).2) (az.cQ A (fo v (M.p k)).length cap (lB (fo v (M.p k)))) {M with bG:=bG} V T bk d (az.bd w.heap.size (cj,35)) R))
 case first=>
  have G:=cI.out.1;unfold dc at G;cases hm:d_ (M.p k)with
  | true=>
   rw[hm,aE rfl]at G;have aaK:(((M.p k).x.f (M.p k).x.aN).next:aa)<(((cH v (M.p k)).1.x.f (cH v (M.p k)).1.x.aN).next:aa):=U;obtain⟨i0,ax,aaO,aaP,aaQ⟩:=S5;have aat:=H.at' 13 rfl;have ci:=Ih aat y.out;have aaH:=ag ax;have St:=ag cI.out.2.2.2.2.1;have N:=ag H;have a':=ag hm;clear ax G H aat hm;go_wp2_with (at_builtin;refine DI _ rfl (.tmp 50) (.tmp 52) _ rfl 0 5 i0 _ 1 1 underlying51 aaH.o aaO aaP aaQ rfl U _ (M.bG k).length (tG (M.bG k)) rfl (b5 ((show ys.ownsRow 0 5 1 (V k) (M.bG k).length (tG (M.bG k))from N.o.at' 15 rfl)) ((bb _).alloc _) (λ_ _=>id)) (some (ae _ 0 ad)) 1 1 [aH (v.toNat:aa)] rfl (Lv _ _ _) mZ (by have:=St.o;simp only[maxLen];omega) (by have:=St.o;omega) (de _) ?_);intro v' aaD P aaw aax;have V':=N.o.alloc (af #[aH (v.toNat:aa)] 5);have aaR:(ys.alloc (af #[aH (v.toNat:aa)] 5)).heap.size=ys.heap.size+1:=aM;have aau:tG (M.bG k)++[aH (v.toNat:aa)]=tG (M.bG k++[v]):=by simp[tG]
   rw[aau]at P;have K:(M.bG k).length+1=(M.bG k++[v]).length:=aM;rw[K]at P;have fr:=Sep.set (r':=az.row v' (M.bG k++[v])) V' 15 (r:=az.row (V k) (M.bG k)) rfl ((Keeps.refl (λj=>(V k).ownBlock=some j) _).grown aaw (λj e=>.inl e)) (λ_ _ e=>e) P (λj z=>by
    rcases aax with e|e
    .exact .inl (show(V k).ownBlock=some j by rw[<-e];exact z)
    .have z:=z;rw[z]at e
     have:=hi e
     exact .inr U)
   have X:=fr.at' 13 rfl;have D:=fr.set 13 (r':=az.bd B.b (hP B (bZ V k v') T bk,82)) rfl ((Keeps.refl (λj=>j=B.b) aaD).setCell (p:=ae B.b (k*3+1) ad) rfl v') (λ_ _ e=>e) (by have:=b3 X (k*3+1) v';rw[Sz y.out]at this;exact this) (λ_ e=>.inl e);have aaU:aaD.cell? (ae B.b (k*3+1) ad)=some (V k):=Ih X y.out;have aaV:=fO X (k*3+1);obtain⟨ab,w',bw,rfl⟩:∃ ab w' bw,v'=aq ab w' bw:=by
    have⟨a,c,e,_⟩:=cS P;exact⟨a,_,c,e⟩
   have aaF:=ag D;clear P aaw aax V' aaR aau K fr X D N;go_wp2_with fail;go_meet;refine⟨bZ M.bG k (M.bG k++[v]),bZ V k (aq ab w' bw),by rw[a'.out];rfl,?_⟩;have gf:=aaF.o;have hne:1-k≠k:=by have:=y.out;omega
   unfold zy lN;simp only[iB,hB _ _ hne];exact gf
  | false=>
   rw[hm,aB aM]at G;have aaK:¬ (((M.p k).x.f (M.p k).x.aN).next:aa)<(((cH v (M.p k)).1.x.f (cH v (M.p k)).1.x.aN).next:aa):=U;have N:=ag H;have a':=ag hm;clear G H hm;go_wp2_with fail;go_meet;exact⟨M.bG,V,by rw[a'.o];rfl,N.o⟩
 obtain⟨bG,F,Z,D⟩:=hcut;obtain⟨l,s'⟩:=cT (fo v (M.p k));obtain⟨C,ps⟩:=cT (d_ (M.p k));have cI:=ag cI.out.2;have zp:=bW Z (bD s' ps);rw[<-s']at cI D;rw[<-ps]at D;clear H s' ps Z;have aaS:=aO (D.at' 9 rfl);have Aw:=ag (show Sep wc (zy k B (cH v (M.p k)).1 d2 (az.bd E (#[aq n t s,aq A l.length cap,.bool C],35)) (az.cF (aq n t s) (cH v (M.p k)).2) (az.cQ A l.length cap (lB l)) {M with bG:=bG,cs:=gO M.cs (1-(k:aa)) (l.take 0)} F T bk d (az.bd w.heap.size (cj,35)) R)from D);clear D;have aaZ:IntKind.i64.wrap (1-(k:aa))=1-(k:aa):=eG _ U;go_wp2_with fail;clear aaS;go_loopg [13,59] l.length (λg _ i wr=>∃ j:J,g=l.length-j/\j<=l.length/\i=I j/\Sep wr (zy k B (cH v (M.p k)).1 d2 (az.bd E (#[aq n t s,aq A l.length cap,.bool C],35)) (az.cF (aq n t s) (cH v (M.p k)).2) (az.cQ A l.length cap (lB l)) {M with bG:=bG,cs:=gO M.cs (1-(k:aa)) (l.take j)} F T bk d (az.bd w.heap.size (cj,35)) R))
 case atStart=>exact⟨0,rfl,de _,rfl,Aw.o⟩
 obtain⟨j,aZ,z,rfl,u⟩:=hrel;clear Aw;have K:=cI.o.1;by_cases m':j<l.length
 .obtain⟨bX,cR,rfl,an⟩:=(show eb wr 1 A l.length cap (lB l)from u.at' 11 rfl).at' U;have aaT:wr.cell? (ae bX (cR+j) ad)=some (.string (dr l[j])):=an j _ (by simp[lB,dr,m']);have ek:=tY (u.at' 13 rfl);have l':=Ky (1-(k:aa)) (l.take j) M.cs;have hle:(l.take j).length<=100:=by rw[gB];omega
  have lb:=ag (PL (u.at' 14 rfl) (show 0<=(gO M.cs (1-(k:aa)) (l.take j)).lost/\(gO M.cs (1-(k:aa)) (l.take j)).lost<=1000000 by have:=cI.o.2.1;omega) (1-(k:aa)) (dr l[j]) (by have:=cI.o.2.2.1 l[j] (mY m');unfold dr maxLen;simp[ByteArray.size];omega));have aaY:=mU _ _ aaT;have aaX:=bT (show wr.heap[B.b]?=_ from u.at' 13 rfl);have Tq:hT (gO M.cs (1-(k:aa)) (l.take j)) 64 (1-(k:aa)) (dr l[j])=gO M.cs (1-(k:aa)) (l.take (j+1)):=by rw[kY m',Xx]
  rw[Tq]at lb;have CW:=ag u;clear u an l' hle Tq;go_wp2_with fail;refine aW lb.o ?_;rintro aa0 ⟨aav,aay⟩;have aaI:=CW.out.set 14 (r':=az.hp B.c (gO M.cs (1-(k:aa)) (l.take (j+1)))) rfl aay (λ_ _ e=>e) aav (λ_ e=>.inl e);clear CW lb aav aay;go_wp2_with fail;go_roundg (l.length-(j+1))
  case rel=>exact⟨j+1,rfl,U,by go_num,aaI⟩
  omega
 obtain rfl:j=l.length:=U;rw[nU]at u;have u:Sep wr (bH (B.p k) (cH v (M.p k)).1 d2++az.bd E (#[aq n t s,aq A l.length cap,.bool C],35) :: az.cF (aq n t s) (cH v (M.p k)).2 :: az.cQ A l.length cap (lB l) :: az.kinds B.o :: az.bd B.b (hP B F T bk,82) :: az.hp B.c (gO M.cs (1-(k:aa)) l) :: az.row (F k) (bG k) :: az.cF (T k) (M.st k) :: (([az.row (F (1-k)) (bG (1-k)),az.cF (T (1-k)) (M.st (1-k))]++bH (B.p (1-k)) (M.p (1-k)) (d (1-k)))++az.bd w.heap.size (cj,35) :: R)):=u;have g':=u.perm (Cy _ _ _ _ _ _ _ _ _ _);have O:wr.heap[E]?=some (af #[aq n t s,aq A l.length cap,.bool C] 35 (0,0)):=g'.at' 12 rfl;have aaA:=aO O;have aaq:=ag (CZ (sd:=aq A l.length cap) (m:=C) (BY y.out) g' cI.out.2.2.2.2);clear u g' O K;go_wp2_with fail;refine aW aaq.o ?_;rintro zd ⟨T',hd⟩;rw[BZ y.out]at hd;have S:=hd.perm (Cz _ ([az.row (F (1-k)) (bG (1-k)),az.cF (T (1-k)) (M.st (1-k))]++bH (B.p (1-k)) (M.p (1-k)) (d (1-k))) R _ _ _ _ _ _ _ _ _);have O:zd.heap[E]?=some (af #[aq n t s,aq A l.length cap,.bool C] 35 (0,0)):=S.at' 0 rfl;have Y:zd.heap[w.heap.size]?=some (af cj 35 (0,0)):=S.at' 2 rfl;clear aaA;have aaA:=aO O;have g0:=bP Y;have z0:=aO Y;have aaG:=ag (jV Y (aq n t s) (aq A l.length cap) (.bool C));have aaE:=ag (Sep.drop1 (A:=[]) S.tail.tail (j5 zd w.heap.size (aq n t s) (aq A l.length cap) (.bool C)));clear aaq hd S O Y;go_wp2_with fail;have aaL:=dF _ _ _ _ aaG.o 3 rfl;refine dx (v:=aY #[aL #[aq n t s,aq A l.length cap,.bool C],I 0]) aaL ?_;refine⟨_,A,_,cap,C,rfl,cl.of (k:=k) (V:=F) (T:=bZ T k T') (d:=bZ d k d2) y.out ?_⟩;have hne:1-k≠k:=by have:=y.out;omega
 have gf:=aaE.o;unfold lO lN gT;simp only[iB,hB _ _ hne];rw[<-zp.out.1,<-zp.out.2.1];exact gf
def Sm(b:J)(v:aa)(aU:63<v):aA 60 #[b,aH v] w λe w'=>e=aY #[aL cj,I 1]/\Keeps aG w w':=by
 have a:=ag (aX w (af cj 35))
 go_in
 go_wp2_with fail;refine dx (v:=aY #[aL cj,I 1]) (dF _ _ _ _ a.o 3 rfl) ?_;exact⟨rfl,((bb w).alloc (af cj 35))⟩
theorem cl.void(h:cl w B M bk R):cl w B M bk (az.cF (aq none 0 0) [] :: R):=
 h.push (bb w) (gx w 0 _ _) (λj a=>by cases a)
def cl.drop{eV:J}{z:a7 ay×TypeId}{L:ah az}(h:cl w B M bk (L++az.bd eV z :: R))(hk:Keeps (λj=>j=eV) w w'):cl w' B M bk (L++R):=by
 have⟨V,T,d,h⟩:=h;have h2:Sep w ((bH (B.p 0) (M.p 0) (d 0)++(lN 0 B M V T bk d++L))++az.bd eV z :: R):=by
  unfold lO at h;simpa only[dL]using h
 refine⟨V,T,d,?_⟩;unfold lO;simpa only[dL]using(Sep.drop1 h2 hk)
def Sa(h:cl w B M bk R)(hk:k<2)(v:aa)(aU:63<v):aA 37 #[B.b,I k,aH v] w (kf B M bk [] 1 R):=by
 have h1:=h.push (r:=az.bd w.heap.size (cj,35)) ((bb w).alloc (af cj 35)) (aX w (af cj 35)) (λj l=>gD (jM l));obtain⟨V,T,d,h⟩:=h1.view hk;have f:=qa (h.at' 10 rfl) hk;have c:=ag hk
 go_in
 go_wp2_with fail;generalize w.alloc (af cj 35)=bn at *;refine bE (wh h) ?_;go_wp2_with fail;refine aW ((A_ (hq h))) ?_;rintro _ ⟨q,rfl⟩;have h1:=h.drew q;have f:=qa (h1.at' 10 rfl) c.out;have i:=ag (Sm (w:=bn.drewN q) (B.p k).p v aU);generalize bn.drewN q=ao at *;go_wp2_with fail;refine aW i.o λaD n=>?_;have e:=(h1.keep n).alloc (af cj 35);go_upto_region 5 with fail
 generalize aD.alloc (af cj 35)=bq at *;have g:cl bq B M bk ([]++az.bd w.heap.size (cj,35) :: R):=cl.of c.out e;have a:=e.at' (9+(7+9)) rfl;have g0:=bP a;have s:=aO a;go_wp2_with fail;have m:=dF _ _ _ _ ((jV a (aq none 0 0) (aq none 0 0) (.bool false))) 3 rfl;refine dx (v:=aY #[aL cj,I 1]) m ?_;exact⟨_,_,_,_,_,rfl,((g.drop (j5 bq w.heap.size (aq none 0 0) (aq none 0 0) (.bool false))).void)⟩
def n_(B:jB)(M:dV)(bk:aa)(R:ah az)(x:ch)(ok:a1)(cs:cY)(e:Ending)(w':aj):al:=
 e=aY #[.string x,.bool ok]/\cl w' B {M with cs:=cs} bk R
def BP(h:cl w B M bk R)(bj i at' bO bF:aa)(x:ch)(ok:a1)(cs:cY)(ar:∀ W,eY W B.c 64 M.cs->aA 98 #[B.c,I bj,I i] W λe w'=>e=aY #[.string x,.bool ok]/\eY w' B.c 64 cs/\Keeps (ht B.c) W w'):aA 64 #[B.b,aL #[I 2,I bj,I i,I at',aH bO,aH bF]] w (n_ B M bk R x ok cs):=by
 obtain⟨V,T,d,h⟩:=h;have y:=aX w (af #[I 2,I bj,I i,I at',aH bO,aH bF] 40);have q:=ag (λj (a:ht B.c j)=>h.p1 (i:=11) (j:=10) (r:=az.hp B.c M.cs) (s:=az.bd B.b (hP B V T bk,82)) rfl rfl U j a);have k:=h.keep ((bb w).alloc (af #[I 2,I bj,I i,I at',aH bO,aH bF] 40))
 go_in
 go_wp2_with fail;generalize World.alloc w _=bn at *;obtain⟨G,f⟩:=h0 (F:=λW=>(W.heap[w.heap.size]?=some (af #[I 2,I bj,I i,I at',aH bO,aH bF] 40 (0,0))/\W.heap[B.b]?=some (af (hP B V T bk) 82 (0,0))));have z:∀ x:bs G,x.to.cell? (ae B.b 6 ad)=some (.pointer (some (ae B.c 0 ad))):=λx=>tY ((f _).1 x.held).2;have A:=λx:bs G=>aO (((f _).1 x.held).1);have m:G bn.drew:=(f _).2 ⟨y,k.at' 10 rfl⟩;have u:=ag (λ(W W':aj) (l:G W) (hk:Keeps (ht B.c) W W')=>(f W').2 ⟨hk.heap ((f W).1 l).1 (λe=>Ar),hk.heap ((f W).1 l).2 (λe=>q.o _ e rfl)⟩);have g:=ag (k.drew 1);have t:=ag (ar bn.drew (g.o.at' 11 rfl));refine cJ 13 ?_;refine cK (G) (.range 13) 0 13 ?_;refine dK (m) (.range 8) 5 ?_;refine eH 8 λK v=>?_;go_simp;refine aW t.o ?_;rintro aD ⟨an,p⟩;have n:=u.out _ _ m p;refine v _ _ (n) ?_;refine dK (n) [9,10,11,12] 0 ?_;refine ox ?_;go_wp2;go_ret2;exact⟨rfl,((show cl aD B {M with cs:=cs} bk R from⟨V,T,d,g.out.set 11 (r':=az.hp B.c (cs)) rfl p (λ_ _ e=>e) an (λ_ e=>.inl e)⟩))⟩
def HW(h:cl w B M bk R)(bj i at' bO bF:aa)(x:ch)(ok:a1)(cs:cY)(ar:∀ W,eY W B.c 64 M.cs->aA 99 #[B.c,I bj,I i] W λe w'=>e=aY #[.string x,.bool ok]/\eY w' B.c 64 cs/\Keeps (ht B.c) W w'):aA 64 #[B.b,aL #[I 3,I bj,I i,I at',aH bO,aH bF]] w (n_ B M bk R x ok cs):=by
 obtain⟨V,T,d,h⟩:=h;have y:=aX w (af #[I 3,I bj,I i,I at',aH bO,aH bF] 40);have q:=ag (λj (a:ht B.c j)=>h.p1 (i:=11) (j:=10) (r:=az.hp B.c M.cs) (s:=az.bd B.b (hP B V T bk,82)) rfl rfl U j a);have k:=h.keep ((bb w).alloc (af #[I 3,I bj,I i,I at',aH bO,aH bF] 40))
 go_in
 go_wp2_with fail;generalize World.alloc w _=bn at *;obtain⟨G,f⟩:=h0 (F:=λW=>(W.heap[w.heap.size]?=some (af #[I 3,I bj,I i,I at',aH bO,aH bF] 40 (0,0))/\W.heap[B.b]?=some (af (hP B V T bk) 82 (0,0))));have z:∀ x:bs G,x.to.cell? (ae B.b 6 ad)=some (.pointer (some (ae B.c 0 ad))):=λx=>tY ((f _).1 x.held).2;have A:=λx:bs G=>aO (((f _).1 x.held).1);have m:G bn.drew:=(f _).2 ⟨y,k.at' 10 rfl⟩;have u:=ag (λ(W W':aj) (l:G W) (hk:Keeps (ht B.c) W W')=>(f W').2 ⟨hk.heap ((f W).1 l).1 (λe=>Ar),hk.heap ((f W).1 l).2 (λe=>q.o _ e rfl)⟩);have g:=ag (k.drew 1);have t:=ag (ar bn.drew (g.o.at' 11 rfl));refine cJ 13 ?_;refine cK (G) (.range 13) 0 13 ?_;refine dK (m) (.range 8) 5 ?_;refine eH 8 λK v=>?_;go_simp;refine aW t.o ?_;rintro aD ⟨an,p⟩;have n:=u.out _ _ m p;refine v _ _ (n) ?_;refine dK (n) [9,10,11,12] 0 ?_;refine ox ?_;go_wp2;go_ret2;exact⟨rfl,((show cl aD B {M with cs:=cs} bk R from⟨V,T,d,g.out.set 11 (r':=az.hp B.c (cs)) rfl p (λ_ _ e=>e) an (λ_ e=>.inl e)⟩))⟩
def HY(h:cl w B M bk R)(bj i at' bO bF:aa)(x:ch)(ok:a1)(cs:cY)(ar:∀ W,eY W B.c 64 M.cs->aA 100 #[B.c,I bj,I i,I at',aH bO] W λe w'=>e=aY #[.string x,.bool ok]/\eY w' B.c 64 cs/\Keeps (ht B.c) W w'):aA 64 #[B.b,aL #[I 5,I bj,I i,I at',aH bO,aH bF]] w (n_ B M bk R x ok cs):=by
 obtain⟨V,T,d,h⟩:=h;have y:=aX w (af #[I 5,I bj,I i,I at',aH bO,aH bF] 40);have q:=ag (λj (a:ht B.c j)=>h.p1 (i:=11) (j:=10) (r:=az.hp B.c M.cs) (s:=az.bd B.b (hP B V T bk,82)) rfl rfl U j a);have k:=h.keep ((bb w).alloc (af #[I 5,I bj,I i,I at',aH bO,aH bF] 40))
 go_in
 go_wp2_with fail;generalize World.alloc w _=bn at *;obtain⟨G,f⟩:=h0 (F:=λW=>(W.heap[w.heap.size]?=some (af #[I 5,I bj,I i,I at',aH bO,aH bF] 40 (0,0))/\W.heap[B.b]?=some (af (hP B V T bk) 82 (0,0))));have z:∀ x:bs G,x.to.cell? (ae B.b 6 ad)=some (.pointer (some (ae B.c 0 ad))):=λx=>tY ((f _).1 x.held).2;have A:=λx:bs G=>aO (((f _).1 x.held).1);have m:G bn.drew:=(f _).2 ⟨y,k.at' 10 rfl⟩;have u:=ag (λ(W W':aj) (l:G W) (hk:Keeps (ht B.c) W W')=>(f W').2 ⟨hk.heap ((f W).1 l).1 (λe=>Ar),hk.heap ((f W).1 l).2 (λe=>q.o _ e rfl)⟩);have g:=ag (k.drew 1);have t:=ag (ar bn.drew (g.o.at' 11 rfl));refine cJ 17 ?_;refine cK (G) (.range 17) 0 17 ?_;refine dK (m) (.range 12) 5 ?_;refine eH 12 λK v=>?_;go_simp;refine aW t.o ?_;rintro aD ⟨an,p⟩;have n:=u.out _ _ m p;refine v _ _ (n) ?_;refine dK (n) [13,14,15,16] 0 ?_;refine ox ?_;go_wp2;go_ret2;exact⟨rfl,((show cl aD B {M with cs:=cs} bk R from⟨V,T,d,g.out.set 11 (r':=az.hp B.c (cs)) rfl p (λ_ _ e=>e) an (λ_ e=>.inl e)⟩))⟩
def HX(h:cl w B M bk R)(bj i at' bO bF:aa)(z:0<=M.cs.lost/\M.cs.lost<=1000000):aA 64 #[B.b,aL #[I 4,I bj,I i,I at',aH bO,aH bF]] w (n_ B M bk R ByteArray.empty (fX M.cs bj i).isSome (lS M.cs bj i)):=by
 obtain⟨V,T,d,h⟩:=h;have y:=aX w (af #[I 4,I bj,I i,I at',aH bO,aH bF] 40);have q:=ag (λj (a:ht B.c j)=>h.p1 (i:=11) (j:=10) (r:=az.hp B.c M.cs) (s:=az.bd B.b (hP B V T bk,82)) rfl rfl U j a);have l:=h.keep ((bb w).alloc (af #[I 4,I bj,I i,I at',aH bO,aH bF] 40))
 go_in
 go_wp2_with fail;generalize World.alloc w _=bn at *;obtain⟨G,f⟩:=h0 (F:=λW=>(W.heap[w.heap.size]?=some (af #[I 4,I bj,I i,I at',aH bO,aH bF] 40 (0,0))/\W.heap[B.b]?=some (af (hP B V T bk) 82 (0,0))));have A:∀ x:bs G,x.to.cell? (ae B.b 6 ad)=some (.pointer (some (ae B.c 0 ad))):=λx=>tY ((f _).1 x.held).2;have C:=λx:bs G=>aO (((f _).1 x.held).1);have m:G bn.drew:=(f _).2 ⟨y,l.at' 10 rfl⟩;have u:=ag (λ(W W':aj) (g:G W) (hk:Keeps (ht B.c) W W')=>(f W').2 ⟨hk.heap ((f W).1 g).1 (λe=>Ar),hk.heap ((f W).1 g).2 (λe=>q.o _ e rfl)⟩);have k:=ag (l.drew 1);have t:=ag (((λ(W:aj) (g:eY W B.c 64 M.cs)=>PJ g z bj i)) bn.drew (k.o.at' 11 rfl));refine cJ 11 ?_;refine cK (G) (.range 11) 0 11 ?_;refine dK (m) (.range 8) 3 ?_;refine eH 8 λK v=>?_;go_simp;refine aW t.o ?_;rintro aD ⟨an,p⟩;have n:=u.out _ _ m p;refine v _ _ (n) ?_;refine dK (n) [9,10] 0 ?_;refine ox ?_;go_wp2;go_ret2;exact⟨rfl,((show cl aD B {M with cs:=(lS M.cs bj i)} bk R from⟨V,T,d,k.out.set 11 (r':=az.hp B.c ((lS M.cs bj i))) rfl p (λ_ _ e=>e) an (λ_ e=>.inl e)⟩))⟩
def cl.res(h:cl w B M bk R){r:az}(a:r∈R):r.P w:=by
 have⟨V,T,d,h⟩:=h;exact h.all r (by unfold lO;simp[a])
def R5(h:cl w B M bk R)(bA bj i at' bO bF:aa)(x:ch)(cs:cY)(d:∀ W R,cl W B M bk R->aA 64 #[B.b,aL #[I bA,I bj,I i,I at',aH bO,aH bF]] W (n_ B M bk R x false cs)):aA 40 #[B.b,aL #[I bA,I bj,I i,I at',aH bO,aH bF]] w (kf B {M with cs:=cs} bk [] 6 R):=by
 have q:(w.alloc (af #[I bA,I bj,I i,I at',aH bO,aH bF] 40)).heap.size=w.heap.size+1:=aM;have h1:=h.push (r:=az.bd w.heap.size (#[I bA,I bj,I i,I at',aH bO,aH bF],40)) ((bb w).alloc (af #[I bA,I bj,I i,I at',aH bO,aH bF] 40)) (aX w _) (λj a=>gD (jM a));have h2:=h1.push (r:=az.bd (w.heap.size+1) (cj,35)) ((bb (w.alloc (af #[I bA,I bj,I i,I at',aH bO,aH bF] 40))).alloc (af cj 35)) tj (λj a=>ti);have g:=aO (h2.res (r:=az.bd w.heap.size (#[I bA,I bj,I i,I at',aH bO,aH bF],40)) aM)
 go_in
 go_wp2_with fail;generalize World.alloc (World.alloc w _) _=bn at *;refine aW (d _ _ h2) λao h1=>?_;have f:=h1.res (r:=az.bd w.heap.size (#[I bA,I bj,I i,I at',aH bO,aH bF],40)) aM;have c:=(h1).res (r:=az.bd (w.heap.size+1) (cj,35)) aM;have g0:=bP c;have k:=aO c;go_wp2_with fail;have e:=dF _ _ _ _ ((jV c (aq none 0 0) (aq none 0 0) (.bool false))) 3 rfl;refine dx (v:=aY #[aL cj,I 6]) e ?_;exact⟨_,_,_,_,_,rfl,((((cl.drop (L:=[]) h1 (j5 ao (w.heap.size+1) (aq none 0 0) (aq none 0 0) (.bool false))).drop (L:=[]) (Keeps.refl (λj=>j=w) _)).void))⟩
def R4(h:cl w B M bk R)(bA bj i at' bO bF:aa)(x:ch)(cs:cY)(d:bA=4)(e:∀ W R,cl W B M bk R->aA 64 #[B.b,aL #[I bA,I bj,I i,I at',aH bO,aH bF]] W (n_ B M bk R x true cs)):aA 40 #[B.b,aL #[I bA,I bj,I i,I at',aH bO,aH bF]] w (kf B {M with cs:=cs} bk [] 0 R):=by
 have k:(bA == 4)=true:=by rw[d];rfl
 clear d;have q:(w.alloc (af #[I bA,I bj,I i,I at',aH bO,aH bF] 40)).heap.size=w.heap.size+1:=aM;have h1:=h.push (r:=az.bd w.heap.size (#[I bA,I bj,I i,I at',aH bO,aH bF],40)) ((bb w).alloc (af #[I bA,I bj,I i,I at',aH bO,aH bF] 40)) (aX w _) (λj a=>gD (jM a));have h2:=h1.push (r:=az.bd (w.heap.size+1) (cj,35)) ((bb (w.alloc (af #[I bA,I bj,I i,I at',aH bO,aH bF] 40))).alloc (af cj 35)) tj (λj a=>ti);have g:=aO (h2.res (r:=az.bd w.heap.size (#[I bA,I bj,I i,I at',aH bO,aH bF],40)) aM)
 go_in
 go_wp2_with fail;generalize World.alloc (World.alloc w _) _=bn at *;refine aW (e _ _ h2) λao h1=>?_;have g:=aO (h1.res (r:=az.bd w.heap.size (#[I bA,I bj,I i,I at',aH bO,aH bF],40)) aM);have c:=(h1).res (r:=az.bd (w.heap.size+1) (cj,35)) aM;have g0:=bP c;have l:=aO c;go_wp2_with fail;have f:=dF _ _ _ _ ((jV c (aq none 0 0) (aq none 0 0) (.bool false))) 3 rfl;refine dx (v:=aY #[aL cj,I 0]) f ?_;exact⟨_,_,_,_,_,rfl,((((cl.drop (L:=[]) h1 (j5 ao (w.heap.size+1) (aq none 0 0) (aq none 0 0) (.bool false))).drop (L:=[]) (Keeps.refl (λj=>j=w) _)).void))⟩
def R6(h:cl w B M bk R)(hk:k<2)(bA i at' bO bF:aa)(x:ch)(cs:cY)(Y:bA≠4)(u:bM)(c0:ah bI)(b0:aa)(X:b0≠0->c0=[])(Z:(M.st k).length+c0.length<=100000)(bj:aa)(ab:bj=k)(s':∀ W R,cl W B M bk R->aA 64 #[B.b,aL #[I bA,I bj,I i,I at',aH bO,aH bF]] W (n_ B M bk R x true cs))(O:∀ W d R,az.kinds B.o∈R->Sep W (bH (B.p k) (M.p k) d++R)->aA 65 #[.pointer (some (ae ((B.p k).p) 0 ad)),.string x] W (vF (B.p k) u c0 b0 R)):aA 40 #[B.b,aL #[I bA,I bj,I i,I at',aH bO,aH bF]] w (kf B {M with p:=bZ M.p k u,st:=bZ M.st k (M.st k++dm c0),cs:=cs} bk c0 b0 R):=by
 have zd:(bA == 4)=false:=by simpa using Y
 have g':=ag O;have K:=bW X Z;have l:=ag hk;have ys:(k:aa)<2:=U;have hd:=ag ab;clear Y O X Z hk ab;have q:(w.alloc (af #[I bA,I bj,I i,I at',aH bO,aH bF] 40)).heap.size=w.heap.size+1:=aM;have h1:=h.push (r:=az.bd w.heap.size (#[I bA,I bj,I i,I at',aH bO,aH bF],40)) ((bb w).alloc (af #[I bA,I bj,I i,I at',aH bO,aH bF] 40)) (aX w _) (λj a=>gD (jM a));have h2:=h1.push (r:=az.bd (w.heap.size+1) (cj,35)) ((bb (w.alloc (af #[I bA,I bj,I i,I at',aH bO,aH bF] 40))).alloc (af cj 35)) tj (λj a=>ti);have w':=aO (h2.res (r:=az.bd w.heap.size (#[I bA,I bj,I i,I at',aH bO,aH bF],40)) aM);have vl:=ag (s' _ _ h2)
 go_in
 go_wp2_with fail;generalize World.alloc (World.alloc w _) _=bn at *;refine aW vl.o λao h1=>?_;have S:=h1.res (r:=az.bd w.heap.size (#[I bA,I bj,I i,I at',aH bO,aH bF],40)) aM;have w':=aO S;obtain rfl:=hd.o;obtain⟨V,T,d,h1⟩:=h1.view l.o;have lb:=qa (h1.at' 10 rfl) l.o;have zp:=bT (show ao.heap[B.b]?=some (af (hP B V T bk) 82 (0,0))from h1.at' 10 rfl);have Aw:=bT S;have H1:=ag h1;go_wp2_with fail;go_quiet (fail);have h2:=H1.o.drew nq;have lb:=qa (h2.at' 10 rfl) l.o;have ps:=ag (g'.o _ _ _ (by simp[lN]) h2);generalize ao.drewN nq=aD at *;go_wp2_with fail;refine ps.o.mono ?_;rintro e bq ⟨y,rfl,N,s⟩;obtain⟨c,g,f,rfl⟩:∃ c g f,y=aq c g f:=by
  exact OB
 have a':=(bb bq).alloc (af #[aq c g f,(aq none 0 0),false] 35);have hne:1-k≠k:=by have:=l.out;omega
 by_cases G:b0=0
 .subst G;have D:=(s.cons (r:=az.none) (bb bq) (λ_ _ _ _=>id) trivial (λ_ e=>e.elim)).rj;have t:=(D.cons (r:=az.bd bq.heap.size (#[aq c g f,(aq none 0 0),false],35)) a' (λ_ _ _ _=>id) (aX bq _) (λj a=>gD (jM a))).iY;go_upto_region 10 with fail
  generalize Q':bq.alloc (af #[aq c g f,(aq none 0 0),false] 35)=fr at *;generalize bq.heap.size=St at *;have t:=t;have P:=t.perm (Cy _ _ _ _ _ _ _ _ _ _);have F:=P.at' 12 rfl;have v':=aO F;have r':=ag (CZ (sd:=(aq none 0 0)) (m:=false) (BY l.out) P K.out.2);go_wp2_with fail;refine aW r'.o ?_;rintro gf ⟨T',Q⟩;rw[BZ l.out]at Q;have E:=Q.perm (Cz _ ([az.row (V (1-k)) (M.bG (1-k)),az.cF (T (1-k)) (M.st (1-k))]++bH (B.p (1-k)) (M.p (1-k)) (d (1-k))) _ _ _ _ _ _ _ _ _ _);have F:=E.at' 0 rfl;have n:=E.at' 2 rfl;have v':=aO F;have g0:=bP n;have z0:=aO n;have z:=ag (jV n (aq c g f) (aq none 0 0) (.bool false));have l':=Sep.drop1 (A:=[]) E.tail.tail (j5 gf (w.heap.size+1) (aq c g f) (aq none 0 0) (.bool false))
  have m':cl (((gf.setCell (ae (w+1) 0 ad) (aq c g f)).setCell (ae (w+1) 1 ad) (aq none 0 0)).setCell (ae (w+1) 2 ad) (.bool false)) B {M with p:=bZ M.p k u,st:=bZ M.st k (M.st k++dm c0),cs:=cs} bk ([az.cF (aq c g f) c0]++az.bd w.heap.size (#[I bA,I (k:aa),I i,I at',aH bO,aH bF],40) :: R):=cl.of (k:=k) (V:=V) (T:=bZ T k T') (d:=bZ d k N) l.out (by
   unfold lO lN;simp only[iB,hB _ _ hne];exact l')
  have C:=ag (m'.drop (Keeps.refl (λj=>j=w) _));go_wp2_with fail;have H:=dF _ _ _ _ z.o 3 rfl;refine dx (v:=aY #[aL #[aq c g f,(aq none 0 0),false],I 0]) H ?_;exact⟨_,_,_,_,_,rfl,C.o⟩
 obtain rfl:=K.out.1 G;have CW:(b0 != 0)=true:=by simpa using G
 have D:=s.Za.keep a'
 have t:cl _ B {M with p:=bZ M.p k u,st:=bZ M.st k (M.st k++dm []),cs:=cs} bk (az.bd (w.heap.size+1) (cj,35) :: az.bd w.heap.size (#[I bA,I (k:aa),I i,I at',aH bO,aH bF],40) :: R):=cl.of (k:=k) (V:=V) (T:=T) (d:=bZ d k N) l.out (by
  unfold lO lN;simp only[iB,hB _ _ hne,IJ,eB];exact D)
 go_upto_region 9 with fail
 generalize bq.alloc (af #[aq c g f,(aq none 0 0),false] 35)=fr at *;have n:=(t).res (r:=az.bd (w.heap.size+1) (cj,35)) aM;have g0:=bP n;have z0:=aO n;have z:=ag (jV n (aq none 0 0) (aq none 0 0) (.bool false));have C:=ag (((cl.drop (L:=[]) t (j5 fr (w.heap.size+1) (aq none 0 0) (aq none 0 0) (.bool false))).drop (L:=[]) (Keeps.refl (λj=>j=w) _)).void);go_wp2_with fail;have H:=dF _ _ _ _ z.o 3 rfl;refine dx (v:=aY #[aL cj,I b0]) H ?_;exact⟨_,_,_,_,_,rfl,C.o⟩
def wa(b:J)(hk:k<2)(w:aj):aA 36 #[b,I k] w λe w'=>e=.returned (.pointer (some (ae b (k*3) ad)))/\w=w':=by
 go_in
 go_wp2;go_ret;exact⟨rfl,rfl⟩
def cl.zm(h:cl w B M bk R)(m:aa):cl (w.setCell (ae B.b 7 ad) (I m)) B M m R:=by
 obtain⟨V,T,d,h⟩:=h;exact⟨V,T,d,h.set 10 (r':=az.bd B.b (hP B V T m,82)) rfl ((Keeps.refl (λj=>j=B.b) w).setCell (p:=ae B.b 7 ad) rfl _) (λ_ _ e=>e) (by have:=b3 (h.at' 10 rfl) 7 (I m);rw[Sy]at this;exact this) (λ_ e=>.inl e)⟩
def cl.bd(h:cl w B M bk R):∃ V T,w.heap[B.b]?=some (af (hP B V T bk) 82 (0,0)):=by
 obtain⟨V,T,d,h⟩:=h;exact⟨V,T,h.at' 10 rfl⟩
def R_(b:J)(bj:aa)(a:¬ (0<=bj/\bj<2))(w:aj):aA 36 #[b,I bj] w λe w'=>e=.returned (.pointer none)/\w=w':=by
 by_cases h1:bj<0
 .go_in
  go_wp2;go_ret;exact⟨rfl,rfl⟩
 have h2:2<=bj:=U
 go_in
 go_wp2;go_ret;exact⟨rfl,rfl⟩
def RZ(h:cl w B M bk R)(bA bj i at' bO bF:aa)(t:¬ (0<=bj/\bj<2)\/bA<1\/6<bA):aA 10 #[B.b,aL #[I bA,I bj,I i,I at',aH bO,aH bF]] w (kf B M (wrap64 (bk+1)) [] 1 R):=by
 have q:(w.alloc (af #[I bA,I bj,I i,I at',aH bO,aH bF] 40)).heap.size=w.heap.size+1:=aM;have h2:=(h.push (r:=az.bd w.heap.size (#[I bA,I bj,I i,I at',aH bO,aH bF],40)) ((bb w).alloc (af #[I bA,I bj,I i,I at',aH bO,aH bF] 40)) (aX w _) (λj a=>gD (jM a))).push (r:=az.bd (w.heap.size+1) (cj,35)) ((bb (w.alloc (af #[I bA,I bj,I i,I at',aH bO,aH bF] 40))).alloc (af cj 35)) tj (λj a=>ti);have⟨V,T,ak⟩:=h2.bd;have c2:=yA ak;have u:=bP ak;have d:=h2.zm (wrap64 (bk+1));have g:=ag d
 go_in
 go_upto_region 4 with fail
 generalize World.setCell (World.alloc (World.alloc w _) _) _ _=ao at *;have z:=aO (g.o.res (r:=az.bd w.heap.size (#[I bA,I bj,I i,I at',aH bO,aH bF],40)) aM);have d:=g.o;by_cases m:0<=bj/\bj<2
 .have⟨k,hk⟩:=mj m.1;have s:k<2:=U;subst hk;have f:=ag (wa B.b s ao);by_cases x:bA<1
  .go_wp2_with fail;refine bE f.o ?_;have c:=(d).res (r:=az.bd (w.heap.size+1) (cj,35)) aM;have g0:=bP c;have n:=aO c;have l:=ag (jV c (aq none 0 0) (aq none 0 0) (.bool false));have p:=ag (((cl.drop (L:=[]) d (j5 ao (w.heap.size+1) (aq none 0 0) (aq none 0 0) (.bool false))).drop (L:=[]) (Keeps.refl (λj=>j=w) _)).void);go_wp2_with fail;have e:=dF _ _ _ _ l.o 3 rfl;refine dx (v:=aY #[aL cj,I 1]) e ?_;exact⟨_,_,_,_,_,rfl,p.o⟩
  have y:6<bA:=by have:=t;omega
  go_wp2_with fail;refine bE f.o ?_;have c:=(d).res (r:=az.bd (w.heap.size+1) (cj,35)) aM;have g0:=bP c;have n:=aO c;have l:=ag (jV c (aq none 0 0) (aq none 0 0) (.bool false));go_wp2_with fail;have e:=dF _ _ _ _ l.o 3 rfl;refine dx (v:=aY #[aL cj,I 1]) e ?_;exact⟨_,_,_,_,_,rfl,((((cl.drop (L:=[]) g.o (j5 ao (w.heap.size+1) (aq none 0 0) (aq none 0 0) (.bool false))).drop (L:=[]) (Keeps.refl (λj=>j=w) _)).void))⟩
 have f:=ag (R_ B.b bj m ao);go_wp2_with fail;refine bE f.o ?_;have c:=(d).res (r:=az.bd (w.heap.size+1) (cj,35)) aM;have g0:=bP c;have n:=aO c;go_wp2_with fail;have e:=dF _ _ _ _ ((jV c (aq none 0 0) (aq none 0 0) (.bool false))) 3 rfl;refine dx (v:=aY #[aL cj,I 1]) e ?_;exact⟨_,_,_,_,_,rfl,((((cl.drop (L:=[]) d (j5 ao (w.heap.size+1) (aq none 0 0) (aq none 0 0) (.bool false))).drop (L:=[]) (Keeps.refl (λj=>j=w) _)).void))⟩
def HU(h:cl w B M bk R)(hk:k<2)(i at' bO bF:aa)(fp:dV)(c0:ah bI)(b0:aa)(bA bj:aa)(x:bA=1)(y:bj=k)(aV:∀ W R,cl W B M (wrap64 (bk+1)) R->aA 37 #[B.b,I bj,aH bF] W (kf B fp (wrap64 (bk+1)) c0 b0 R)):aA 10 #[B.b,aL #[I bA,I bj,I i,I at',aH bO,aH bF]] w (kf B fp (wrap64 (bk+1)) c0 b0 R):=by
 have G:(bA == 1)=true:=by rw[x];rfl
 have N:¬ bA<1:=U;have rf:¬ 6<bA:=U;have z:=ag aV;have D:=ag hk;have E:=ag y;clear aV hk x y;have q:(w.alloc (af #[I bA,I bj,I i,I at',aH bO,aH bF] 40)).heap.size=w.heap.size+1:=aM;have h2:=(h.push (r:=az.bd w.heap.size (#[I bA,I bj,I i,I at',aH bO,aH bF],40)) ((bb w).alloc (af #[I bA,I bj,I i,I at',aH bO,aH bF] 40)) (aX w _) (λj a=>gD (jM a))).push (r:=az.bd (w.heap.size+1) (cj,35)) ((bb (w.alloc (af #[I bA,I bj,I i,I at',aH bO,aH bF] 40))).alloc (af cj 35)) tj (λj a=>ti);have⟨V,T,ak⟩:=h2.bd;have c2:=yA ak;have H:=bP ak;have K:=bT ak;have d:=h2.zm (wrap64 (bk+1));have t:=ag d
 go_in
 go_upto_region 4 with fail
 generalize World.setCell (World.alloc (World.alloc w _) _) _ _=ao at *;have O:=aO (t.o.res (r:=az.bd w.heap.size (#[I bA,I bj,I i,I at',aH bO,aH bF],40)) aM);have u:=ag (wa B.b D.o ao);rw[<-E.o]at u;have C:=ag (z.o ao _ t.o);go_wp2_with fail;refine bE u.o ?_;go_wp2_with fail;refine C.o.mono ?_;rintro e bq ⟨s,A,n,c,m,rfl,d⟩;obtain⟨f,l,g,rfl⟩:∃ f l g,s=aq f l g:=by
  exact Ou
 have p:=(d).res (r:=az.bd (w.heap.size+1) (cj,35)) aM;have g0:=bP p;have P:=aO p;go_wp2_with fail;have F:=dF _ _ _ _ ((jV p (aq f l g) (aq A n c) (.bool m))) 3 rfl;refine dx (v:=aY #[aL #[aq f l g,aq A n c,.bool m],I b0]) F ?_;exact⟨_,_,_,_,_,rfl,((((cl.drop (L:=[az.cF (aq f l g) c0]) d (j5 bq (w.heap.size+1) (aq f l g) (aq A n c) (.bool m))).drop (L:=[az.cF (aq f l g) c0]) (Keeps.refl (λj=>j=w) _))))⟩
def BN(h:cl w B M bk R)(hk:k<2)(i at' bO bF:aa)(fp:dV)(c0:ah bI)(b0:aa)(bA bj:aa)(E:2<=bA/\bA<=5)(x:bj=k)(aV:∀ W R,cl W B M (wrap64 (bk+1)) R->aA 40 #[B.b,aL #[I bA,I bj,I i,I at',aH bO,aH bF]] W (kf B fp (wrap64 (bk+1)) c0 b0 R)):aA 10 #[B.b,aL #[I bA,I bj,I i,I at',aH bO,aH bF]] w (kf B fp (wrap64 (bk+1)) c0 b0 R):=by
 have G:(bA == 1)=false:=b1;have H:(bA == 6)=false:=b1;have O:¬ bA<1:=U;have rf:¬ 6<bA:=U;have y:=ag aV;have C:=ag hk;have D:=ag x;clear aV hk E x;have q:(w.alloc (af #[I bA,I bj,I i,I at',aH bO,aH bF] 40)).heap.size=w.heap.size+1:=aM;have h2:=(h.push (r:=az.bd w.heap.size (#[I bA,I bj,I i,I at',aH bO,aH bF],40)) ((bb w).alloc (af #[I bA,I bj,I i,I at',aH bO,aH bF] 40)) (aX w _) (λj a=>gD (jM a))).push (r:=az.bd (w.heap.size+1) (cj,35)) ((bb (w.alloc (af #[I bA,I bj,I i,I at',aH bO,aH bF] 40))).alloc (af cj 35)) tj (λj a=>ti);have⟨V,T,ak⟩:=h2.bd;have c2:=yA ak;have K:=bP ak;have N:=bT ak;have d:=h2.zm (wrap64 (bk+1));have t:=ag d
 go_in
 go_upto_region 4 with fail
 generalize World.setCell (World.alloc (World.alloc w _) _) _ _=ao at *;have P:=aO (t.o.res (r:=az.bd w.heap.size (#[I bA,I bj,I i,I at',aH bO,aH bF],40)) aM);have u:=ag (wa B.b C.o ao);rw[<-D.o]at u;have z:=ag (y.o ao _ t.o);go_wp2_with fail;refine bE u.o ?_;go_wp2_with fail;refine z.o.mono ?_;rintro e bq ⟨s,A,n,c,m,rfl,d⟩;obtain⟨f,l,g,rfl⟩:∃ f l g,s=aq f l g:=by
  exact Ou
 have p:=(d).res (r:=az.bd (w.heap.size+1) (cj,35)) aM;have g0:=bP p;have Q:=aO p;go_wp2_with fail;have F:=dF _ _ _ _ ((jV p (aq f l g) (aq A n c) (.bool m))) 3 rfl;refine dx (v:=aY #[aL #[aq f l g,aq A n c,.bool m],I b0]) F ?_;exact⟨_,_,_,_,_,rfl,((((cl.drop (L:=[az.cF (aq f l g) c0]) d (j5 bq (w.heap.size+1) (aq f l g) (aq A n c) (.bool m))).drop (L:=[az.cF (aq f l g) c0]) (Keeps.refl (λj=>j=w) _))))⟩
end Go.Proofs.YtalagblioepadaaGreatDoor
