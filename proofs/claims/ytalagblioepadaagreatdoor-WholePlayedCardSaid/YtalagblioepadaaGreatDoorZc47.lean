/- The proof, part 47. -/
import Derived.Test.YtalagblioepadaaGreatDoorZc46
namespace Go.Proofs.YtalagblioepadaaGreatDoor
set_option linter.all false
open Proofs.Tryz List Go.RowKit Go.Maps
set_option maxRecDepth 100000
set_option maxHeartbeats 2000000
def Ac{p:ak}(h:p:=by rw[S];exact E):p:=h
def s3{p:ak}(h:p:=by rw[<-q];exact aX _ _):p:=h
def s0{p:ak}(h:p:=by have a:j=w.heap.size+1:=a;omega):p:=h
def Ei{p:ak}(h:p:=by rw[a];show(M.p k).x.now<=_;omega):p:=h
def zW{p:ak}(h:p:=by have:=((λj (a:hh B.c j)=>h.lt (r:=ay.hc B.c M.cs) (kH (i:=11) rfl) a)) _ e;omega):p:=h
def NK{p:ak}(h:p:=by
 have⟨a,c,e,_⟩:=cS (show bm.ownsRow 0 47 12 s cW.length (ep cW)from d.res (r:=ay.cR s cW) aK);exact⟨a,_,c,e⟩
 ):p:=h
def NQ{p:ak}(h:p:=by
 obtain⟨a,c,e,_⟩:=cS (show bm.ownsRow 0 47 12 y cW.length (ep cW)from s.at' 9 rfl);exact⟨a,_,c,e⟩
 ):p:=h
def LR{p:ak}(h:p:=by
 rcases e5.1 b with b|b
 .exact h.oa k x b
 rw[fL.1 b];exact aW
 ):p:=h
def L4{p:ak}(h:p:=by
 rw[j,uM]at b;split at b
 .rwa [wY]at b
 cases b
 ):p:=h
def Vt(Q:b9->ak)(a:∀ (l:b9) (f:aa) (v:J->aa),Q l->Q (lT l f (iQ v)))(f:J)(p:cl)(h:Q p.1.aE):Q (iM f p).1.aE:=by
 rw[(Ch f p).2.1];exact a _ _ _ h
theorem J9(Q:b9->ak)(a:∀ (l:b9) (f:aa) (v:J->aa),Q l->Q (lT l f (iQ v))):∀ (n:J) (p:cl),Q p.1.aE->Q (eA n p).1.aE
 | 0,p,h=>h
 | n+1,p,h=>by
  unfold eA;split
  .exact h
  refine J9 Q a n _ ?_;unfold eH;simp only[];split
  .exact Vt Q a _ _ h
  exact h
structure Oe(n d w:J)(cy:aa)(M:dX)(k:J)(v:aR):ak where
 inv:∃ F us A,te (n+1) d w cy (gJ k v M) k F us A
 uB:bN (cA v (M.p k)).1=bN (M.p k)
 snd:∀ m∈ff v (M.p k),iV (w+d) ((gJ k v M).bE k) (bN (M.p k)) m
 fQ:(ff v (M.p k)).length<=10
 Ih:(M.p k).b1=true->vn (M.p k).aE 0
 bl:(M.p k).b1=false->vn (da v (M.p k)).1.aE (h8 {(da v (M.p k)).1 with x:=dV (da v (M.p k)).1.x})
def LkI.k4{n k T A c:J}{o:ah aR}{l:b9}{lead:aa}(h:LkI n k o T A l)(ar:n<=400)(a:∀ m∈(c1 l lead).1,iV c o T m)(b:(c1 l lead).1.length<=10):vn l lead:=by
 have h1:=h.ot;have h2:=h.hd;exact⟨U,U,λm hm=>(h.Ul m hm).2.2.1,λm hm=>⟨(a m hm).1,(a m hm).2.1⟩,U⟩
def wI{n d w:J}{cy:aa}{M:dX}(h:fm n d w cy M)(ar:n<=400){k:J}(hk:k<2)(v:aR)(aW:v.toNat<=63):Oe n d w cy M k v:=by
 have⟨F,us,A,i,G,z,j,K,E,L,H,t,bO,N,s',vl⟩:=h.ps k hk;have⟨v',w',Q,ys⟩:=two hk;have X:=i.lB;have hd:=i.ab;have h2:=i.p2;rw[t,bO]at X;rw[t,j]at hd;rw[bO]at h2;have a:(gJ k v M).p k=(cA v (M.p k)).1:=je _ _ _;have S:(gJ k v M).p (1-k)=M.p (1-k):=ie _ _ Q;by_cases aJ:(M.p k).b1=true
 .have u:dN (M.p k)=false:=by unfold dN;rw[aJ];rfl
  have e:(gJ k v M).bE=M.bE:=by show(if dN (M.p k)then _ else _)=_;rw[u];rfl
  have O:cA v (M.p k)=({M.p k with aE:=(c1 (M.p k).aE 0).2},[]):=by unfold cA;rw[aD aJ]
  have B:ff v (M.p k)=(c1 (M.p k).aE 0).1:=by unfold ff;rw[aD aJ]
  obtain⟨D,o,q⟩:=z.tick hk (h.oa k) (c:=w+d) U 0;refine⟨⟨F,us,A,?_⟩,by rw[O];rfl,by rw[B,e];exact o,by rw[B];exact q,λ_=>z.k4 ar o q,λc=>by rw[aJ]at c;cases c⟩;rw[O]at a;refine⟨by rw[a,e];exact i.same rfl rfl rfl,by rw[a];exact G,by rw[a,e];exact D,by rw[a,e];exact j,by rw[a,e];exact K,Ac,by rw[a];exact L,by rw[a];exact H,by rw[a];exact t,by rw[a];exact bO,by rw[a];exact N,λc=>?_,Ei⟩;rw[a]at c;have c:=c;rw[aJ]at c;cases c
 have aJ:(M.p k).b1=false:=by simpa using aJ
 obtain⟨Aw,m1,_,m3,_⟩:=t_ i aJ (by rw[bO];exact G) U v aW;obtain⟨T,cr,C,l',m,mv,R,y,zd,m',r'⟩:=i.tick aJ (by rw[bO];exact G) U v aW;have B:ff v (M.p k)=(c1 (da v (M.p k)).1.aE (h8 {(da v (M.p k)).1 with x:=dV (da v (M.p k)).1.x})).1:=by unfold ff;rw[aJ];rfl
 have⟨g,e⟩:=cO (gJ k v M).bE;have r:g=if dN (M.p k)then b2 M.bE k (M.bE k++[v])else M.bE:=e
 have Z:(if dN (M.p k)then jo (M.p k) (fE M.bE) v.toNat else fE M.bE)=fE g:=by
  rw[r];split
  .rw[H_];unfold jo;rw[H,j]
  rfl
 have gf:LkI n k (g k) (bN (M.p k)) A (ei v (cM (M.p k))).1.aE:=by
  rw[m3,r];split
  .rename_i u;rw[je,j];have av:(M.p k).aE.state=1:=by
    have al:gd (cM (M.p k)).1=true:=by unfold dN at u;rw[aJ]at u;simpa using u
    have⟨_,zp,_,_,_,_,_,_,_,_,sd,_⟩:=q5 i;rw[<-sd];exact(xI al).2.1
   exact z.own v aW U av
  exact z
 have P:LkI n k (g k) (bN (M.p k)) A (da v (M.p k)).1.aE:=J9 (LkI n k (g k) (bN (M.p k)) A) (λl f s a'=>a'.rep f _ (XU s)) _ _ gf;have fr:(g k).length=(M.bE k).length+if dN (M.p k)then 1 else 0:=by
  rw[r];split
  .rw[je,cx,iT]
  rfl
 have lb:∀ x∈g k,x.toNat<=63:=by
  rw[r];intro x b;split at b
  .rw[je]at b;exact LR
  exact h.oa k x b
 have V:=C.ab;have W:=C.p2;rw[m.eF,t,R,j]at V;rw[y,m.dv,bO]at W;have⟨D,o,q⟩:=P.tick hk lb (c:=w+d) U (h8 {(da v (M.p k)).1 with x:=dV (da v (M.p k)).1.x});have g':=P.k4 ar o q;rw[<-B]at o q;rw[<-m']at D;have Y:g (1-k)=M.bE (1-k):=by
  rw[r];split
  .exact ie _ _ Q
  rfl
 rw[Z]at C;refine⟨⟨T,cr,A,?_⟩,y,by rw[<-e];exact o,q,λc=>absurd c (by rw[aJ];simp),λ_=>g'⟩;refine⟨by rw[a,<-e];exact C,by rw[a,<-bO];exact l',by rw[a,<-e,y];exact D,by rw[a,<-e,R,fr,j],by rw[a,<-e,Y,y];exact K,Ac,by rw[a,y];exact L,by rw[a,m.aL];exact H,by rw[a,m.eF];exact t,by rw[a,m.dv];exact bO,by rw[a,m.aG];exact N,by rw[a];exact r',by rw[a,mv];split<;>omega⟩
def A3(M:dX)(k:J)(v:aR)(j:J):M.bE j <+: (gJ k v M).bE j:=by
 show _ <+: (if dN (M.p k)then b2 M.bE k (M.bE k++[v])else M.bE) j;split
 .unfold b2;split
  .subst j;exact prefix_append _ _
  exact w4 _
 exact w4 _
def fm.tick{n d w:J}{cy:aa}{M:dX}(h:fm n d w cy M)(ar:n<=400){k:J}(hk:k<2)(v:aR)(aW:v.toNat<=63):fm (n+1) d w cy (gJ k v M):=by
 have aO:=wI h ar hk v aW;have⟨g,i,l,y⟩:=two hk;have f:∀ j x,x∈(gJ k v M).bE j->x.toNat<=63:=by
  intro j x b;have b:x∈(if dN (M.p k)then b2 M.bE k (M.bE k++[v])else M.bE) j:=b;split at b
  .unfold b2 at b;split at b
   .exact LR
   exact h.oa j x b
  exact h.oa j x b
 have c:∀ j,bN ((gJ k v M).p j)=bN (M.p j):=λj=>by
  show bN (b2 M.p k _ j)=_;unfold b2;split
  .subst j;exact aO.uB
  rfl
 have r:(gJ k v M).p (1-k)=M.p (1-k):=ie _ _ l;have o:(gJ k v M).bE (1-k)=M.bE (1-k):=by
  show(if dN (M.p k)then b2 M.bE k (M.bE k++[v])else M.bE) (1-k)=_;split
  .exact ie _ _ l
  rfl
 refine⟨λj a=>?_,f,λj a t u=>?_,λj=>?_,?_⟩
 .have:j=k\/j=1-k:=U
  rcases this with rfl|rfl
  .exact aO.inv
  have⟨F,us,A,aw⟩:=h.ps (1-k) g;exact⟨F,us,A,aw.ct g U r o f (by rw[i];exact A3 M k v k) (by rw[i,c];exact c9 _)⟩
 .rcases (wx (1-(k:aa)) j a (ff v (M.p k)) M.cs (h.tS j)).1 t u with b|⟨b,m,hm,rfl⟩
  .have⟨m,h1,h2⟩:=h.vK j a t b;exact⟨m,h1,h2.mono (A3 M k v (1-j)) (by rw[c];exact c9 _)⟩
  have q:1-j=k:=U;exact⟨m,rfl,by rw[q,c];exact aO.snd m hm⟩
 .by_cases a:j<2
  .exact(wx (1-(k:aa)) j a (ff v (M.p k)) M.cs (h.tS j)).2.1
  have e:∀ s:cT,s.get (j:aa)=s.get ((1:J):aa):=λs=>by
   unfold cT.get;rw[az U,az U]
  rw[e];exact(wx (1-(k:aa)) 1 U (ff v (M.p k)) M.cs (h.tS 1)).2.1
 have⟨_,_,bY,bo⟩:=wx (1-(k:aa)) 0 U (ff v (M.p k)) M.cs (h.tS 0)
 have:=h.lost
 have:=aO.fQ
 show 0<=(gB M.cs (1-(k:aa)) (ff v (M.p k))).lost/\(gB M.cs (1-(k:aa)) (ff v (M.p k))).lost<=10*((n+1:J):aa);omega
def xm(n d w:J)(cy:aa)(M:dX)(k:J)(s':bJ):ak:=(∃ F us A,te (n+1) d w cy {M with p:=b2 M.p k s'} k F us A)/\bN (M.p k)<=bN s'
def HK{n d w:J}{cy:aa}{M:dX}(h:fm n d w cy M)(ar:n<=400){k:J}(hk:k<2){t:ah aR}(aO:(∃ m,t=dn m/\iV (w+d) (M.bE (1-k)) (bN (M.p (1-k))) m)\/(fw t).2≠0):xm n d w cy M k (df t (M.p k)).1:=by
 have⟨F,us,A,l,B,C,u,D,Q,R,v,o,bO,E,G,CW⟩:=h.ps k hk;have⟨g',hd,h2,W'⟩:=two hk;have N:∀ s',({M with p:=b2 M.p k s'}:dX).p (1-k)=M.p (1-k):=λs'=>ie _ _ h2;have a:∀ s',({M with p:=b2 M.p k s'}:dX).p k=s':=λs'=>je _ _ _;have same:∀ (l':b9) (cB:J),LkI (n+1) k (M.bE k) (bN (M.p k)) cB l'->A<=cB->cB<=bN (M.p (1-k))->((M.p k).b1=false->l'.state≠2)->xm n d w cy M k {M.p k with aE:=l'}:=λl' cB fr Q' q av=>by
  refine⟨⟨F,us,cB,?_⟩,c9 _⟩;exact⟨by rw[a];exact l.same rfl rfl rfl,by rw[a];exact B,by rw[a];exact fr,by rw[a];exact u,by rw[a];exact D,by rw[N];exact q,by rw[a];exact b7 R U,by rw[a];exact v,by rw[a];exact o,by rw[a];exact bO,by rw[a];exact E,by rw[a];exact av,Ei⟩
 by_cases aJ:(M.p k).b1=true
 .have e:df t (M.p k)=(M.p k,[]):=by unfold df;rw[aD aJ]
  rw[e];exact same (M.p k).aE A C.up bs Q G
 have aJ:(M.p k).b1=false:=by simpa using aJ
 have St:d<=8/\w<=16:=by have:=l.lB;rw[o,bO]at this;omega
 have W:=l.ab;have Y:=l.p2;rw[o,u]at W;rw[bO]at Y;have⟨Aw,ZG,zp,bY,bo,eo,dM,fN,eb,c5,fy,fa,d1,d2,d3,d4⟩:=h.ps (1-k) g';have X:=bY.ab;have Z:=bY.p2;rw[fa,dM]at X;rw[d1]at Z;rw[hd]at fN eb;have⟨⟨T',cB,z,i2,i3,i4,i5,i6,i7,j,i9⟩,V'⟩:=(C.tL U (M.bE (1-k)) D U (Tq:=bN (M.p (1-k))) (c:=w+d) fN aO);have q:cB<=bN (M.p (1-k)):=U;by_cases g:(cJ (M.p k).aE t).2.1≠0
 .have e:df t (M.p k)=({M.p k with aE:=(cJ (M.p k).aE t).2.2},[]):=by
   unfold df;rw[az (show ¬ (M.p k).b1=true by rw[aJ];simp),aD g]
  rw[(i7 g)]at j;have a':T'=bN (M.p k):=by
   have:=cV length j
   exact Ma
  rw[a']at z;rw[e];refine same _ cB z i4 q λ_=>?_
  -- an error leaves the state
  have av:=G aJ;unfold cJ;rw[az av];by_cases O:(fw t).2≠0
  .rw[aD O];exact av
  exfalso;apply g;unfold cJ;rw[az av,az O];split<;>rfl
 have g:(cJ (M.p k).aE t).2.1=0:=by simpa using g
 have e:df t (M.p k)=eX (fj (cJ (M.p k).aE t).1 {M.p k with x:=fk (M.p k).x (cJ (M.p k).aE t).1.a8,aE:=(cJ (M.p k).aE t).2.2}):=by
  unfold df;rw[az (show ¬ (M.p k).b1=true by rw[aJ];simp),az (λc=>c g)]
 generalize cJ (M.p k).aE t=H at *;have TS:H.1.a8.length=T'-bN (M.p k):=by rw[j];simp;omega
 have L:∀ i x,H.1.a8[i]?=some x->(M.bE (1-k))[bN (M.p k)+i]?=some x:=λi x b=>by
  exact L4
 have⟨mv,m',r',P,sd,vl,v',w'⟩:=b8.yl H.1.a8 l U (λi x b=>by
  rw[v];unfold fE;rw[oD,L i x b];rfl) (λx b=>by
  obtain⟨i,aw,rfl⟩:=sQ.1 b;exact h.oa (1-k) _ (kH (L i _ (gl aw))))
 obtain⟨s1,r⟩:∃ s1:bJ,s1={M.p k with x:=fk (M.p k).x H.1.a8,aE:=H.2.2}:=⟨_,rfl⟩;rw[<-r]at e;have gf:b8 s1 F (fE M.bE) us:=by rw[r];exact mv.same rfl rfl rfl
 have⟨ys,zd,ZH,ZI⟩:=HG H.1 s1;have⟨g1,y,S,T,V,K⟩:=rZ (fj H.1 s1);rw[<-e]at g1 y S T V K;have f:(df t (M.p k)).1.x=fk (M.p k).x H.1.a8:=by rw[g1,ys,r]
 have lb:(df t (M.p k)).1.aE=H.2.2:=by rw[y,zd,r]
 have s:bN (df t (M.p k)).1=T':=by
  unfold bN at *;rw[f,m'];omega
 have m9:c_ (df t (M.p k)).1=c_ (M.p k):=by
  unfold c_ at *;rw[f,r']
 refine⟨⟨F,us,cB,?_⟩,by rw[s];exact i2⟩;refine⟨?_,by rw[a,f,P];exact B,by rw[a,lb,s];exact z,by rw[a,m9];exact u,by rw[a,s];exact i3,by rw[N];exact q,by rw[a,s];omega,by rw[a,f,sd];exact v,by rw[a,f,vl];exact o,by rw[a,f,v'];exact bO,by rw[a,f,w'];exact E,λc=>?_,by rw[a,f,P];omega⟩
 .rw[a,e];exact(gf.fj H.1).gone
 rw[a]at c⊢;rw[y];exact(K c).1
def SM{n d w:J}{cy:aa}{M:dX}(h:fm n d w cy M){k:J}(hk:k<2):xm n d w cy M k (fV (M.p k)).1:=by
 have⟨F,us,A,f,g,i,j,l,E,m,o,q,bO,r,u,v⟩:=h.ps k hk;have⟨R,T,O,V⟩:=two hk;have S:∀ s',({M with p:=b2 M.p k s'}:dX).p (1-k)=M.p (1-k):=λs'=>ie _ _ O;have a:∀ s',({M with p:=b2 M.p k s'}:dX).p k=s':=λs'=>je _ _ _;by_cases aJ:(M.p k).b1=true
 .have e:fV (M.p k)=(M.p k,[]):=by unfold fV;rw[aD aJ]
  rw[e];refine⟨⟨F,us,A,?_⟩,c9 _⟩;exact⟨by rw[a];exact f,by rw[a];exact g,by rw[a];exact i.up,by rw[a];exact j,by rw[a];exact l,Ac,by rw[a];exact m,by rw[a];exact o,by rw[a];exact q,by rw[a];exact bO,by rw[a];exact r,by rw[a];exact u,Ei⟩
 have aJ:(M.p k).b1=false:=by simpa using aJ
 have e:fV (M.p k)=fT 12 ({M.p k with aE:=mc (M.p k).aE},[]):=by unfold fV;rw[az (show ¬ (M.p k).b1=true by rw[aJ];simp)]
 have⟨g1,y,D,G,Q,z,H,K,L⟩:=pT 12 ({M.p k with aE:=mc (M.p k).aE},[]);rw[<-e]at g1 y D G z H K L;have b:(fV (M.p k)).1.x=(M.p k).x:=g1;have t:bN (fV (M.p k)).1=bN (M.p k):=by unfold bN;rw[b]
 have P:c_ (fV (M.p k)).1=c_ (M.p k):=by unfold c_;rw[b]
 have N:LkI (n+1) k (M.bE k) (bN (M.p k)) A (mc (M.p k).aE):=by
  unfold mc;split
  .exact i.up
  obtain⟨f,g,i,j,l,E,m,o,q,bO,r,u,v,B,C⟩:=i.up;exact⟨f,g,.inr (.inr rfl),j,l,E,m,o,q,bO,r,u,v,B,C⟩
 refine⟨⟨F,us,A,?_⟩,by rw[t];exact c9 _⟩;refine⟨?_,by rw[a,b];exact g,by rw[a,y,t];exact N,by rw[a,P];exact j,by rw[a,t];exact l,Ac,by rw[a,t];exact m,by rw[a,b];exact o,by rw[a,b];exact q,by rw[a,b];exact bO,by rw[a,b];exact r,λc=>?_,by rw[a,b];omega⟩
 .rw[a,e];exact b8.halt (s:={M.p k with aE:=mc (M.p k).aE}) (f.same rfl rfl rfl) 12 []
 rw[a,z]at c;cases c
def fm.goes{n d w:J}{cy:aa}{M:dX}(h:fm n d w cy M){k:J}(hk:k<2){s':bJ}(aZ:xm n d w cy M k s')(e:J->ah ca)(a:cT)(al:∀ j:J,(∀ t∈a.get j,t∈M.cs.get j)/\(a.get j).length<=(M.cs.get j).length)(l:M.cs.lost<=a.lost/\a.lost<=M.cs.lost+1):fm (n+1) d w cy {p:=b2 M.p k s',bE:=M.bE,st:=e,cs:=a}:=by
 have⟨c,o,i,q⟩:=two hk;have⟨⟨F,us,A,aw⟩,f⟩:=aZ;have aO:∀ j,bN (M.p j)<=bN (b2 M.p k s' j):=λj=>by
  unfold b2;split
  .subst j;exact f
  exact c9 _
 refine⟨λj b=>?_,h.oa,λj b t g=>?_,λj=>b7 (al j).2 (h.tS j),?_⟩
 .have:j=k\/j=1-k:=U
  rcases this with rfl|rfl
  .exact⟨F,us,A,aw.1,aw.2,aw.3,aw.4,aw.5,aw.6,aw.7,aw.8,aw.9,aw.10,aw.11,aw.12,aw.13⟩
  obtain⟨F,us,A,aw⟩:=h.ps (1-k) c;exact⟨F,us,A,aw.ct c U (ie _ _ i) rfl h.oa (w4 _) (aO _)⟩
 .have⟨m,h1,h2⟩:=h.vK j b t ((al j).1 t g);exact⟨m,h1,h2.mono (w4 _) (aO _)⟩
 have:=h.lost
 show 0<=a.lost/\a.lost<=10*((n+1:J):aa);omega
variable{w w':ai}
structure jE where
 o:Old
 b:J
 c:J
 p:J->ga
def hA(B:jE)(V T:J->ax)(mv:aa):a6 ax:=#[.pointer (some (ad ((B.p 0).p) 0 ab)),V 0,T 0,.pointer (some (ad ((B.p 1).p) 0 ab)),V 1,T 1,B.c,I mv]
def tr(l:ah aR):ah ax:=l.map λx=>aF (x.toNat:aa)
def ay.hc(c:J)(s:cT):ay where
 S:=hh c
 P w:=eS w c 64 s
 lt h aj:=by
  have h1:=h.nd.le.2.2.2.1;unfold hh at aj;omega
 frame h hk av:=h.keeps hk av
def ay.row(v:ax)(l:ah aR):ay where
 S j:=v.ownBlock=some j
 P w:=w.ownsRow 0 5 1 v l.length (tr l)
 lt h a:=o' h a
 frame h hk av:=b4 h hk av
def mb(k:J)(B:jE)(M:dX)(V T:J->ax)(mv:aa)(d:J->gq):ah ay:=ay.kinds B.o :: ay.bc B.b (hA B V T mv,82) :: ay.hc B.c M.cs :: ay.row (V k) (M.bE k) :: ay.cR (T k) (M.st k) :: ay.row (V (1-k)) (M.bE (1-k)) :: ay.cR (T (1-k)) (M.st (1-k)) :: bC (B.p (1-k)) (M.p (1-k)) (d (1-k))
def lv(k:J)(B:jE)(M:dX)(V T:J->ax)(mv:aa)(d:J->gq)(R:ah ay):ah ay:=bC (B.p k) (M.p k) (d k)++(mb k B M V T mv d++R)
def cu(w:ai)(B:jE)(M:dX)(mv:aa)(R:ah ay):ak:=∃ V T d,Sep w (lv 0 B M V T mv d R)
section
variable{k:J}{B:jE}{M:dX}{V T:J->ax}{mv:aa}{d:J->gq}{R:ah ay}
def I0(A C R:ah ay)(x y z p q r s:ay):(A++((x :: y :: z :: p :: q :: r :: s :: C)++R)).Perm (C++((x :: y :: z :: r :: s :: p :: q :: A)++R)):=by
 have h2:=oE C [x,y,z,r,s,p,q] (A++R);have a:=((perm_append_comm (l₁:=[p,q]) (l₂:=[r,s])).cons z |>.cons y |>.cons x);exact(oE A [x,y,z,p,q,r,s] (C++R)).trans ((a.append (oE A C R)).trans h2.symm)
def Ox(h:Sep w (lv 0 B M V T mv d R)):Sep w (lv 1 B M V T mv d R):=h.perm (I0 _ _ _ _ _ _ _ _ _ _)
def Oy(h:Sep w (lv 1 B M V T mv d R)):Sep w (lv 0 B M V T mv d R):=h.perm (I0 _ _ _ _ _ _ _ _ _ _)
def cu.view(h:cu w B M mv R)(hk:k<2):∃ V T d,Sep w (lv k B M V T mv d R):=by
 have⟨V,T,d,h⟩:=h
 have:k=0\/k=1:=U
 rcases this with rfl|rfl
 .exact⟨V,T,d,h⟩
 exact⟨V,T,d,Ox h⟩
def cu.of(hk:k<2)(h:Sep w (lv k B M V T mv d R)):cu w B M mv R:=by
 have:k=0\/k=1:=U
 rcases this with rfl|rfl
 .exact⟨V,T,d,h⟩
 exact⟨V,T,d,Oy h⟩
theorem cu.keep(h:cu w B M mv R)(hk:Keeps aI w w'):cu w' B M mv R:=by
 have⟨V,T,d,h⟩:=h;exact⟨V,T,d,h.keep hk⟩
def cu.push(h:cu w B M mv R){r:ay}(hk:Keeps aI w w')(c:r.P w')(an:∀ b,r.S b->w.heap.size<=b):cu w' B M mv (r :: R):=by
 have⟨V,T,d,h⟩:=h;exact⟨V,T,d,Sep.perm (h.cons hk (λ_ _ _ _ e=>e) c an) (qq (l₁:=bC (B.p 0) (M.p 0) (d 0)++mb 0 B M V T mv d) (l₂:=R) (a:=r)).symm⟩
section
variable(aj:w.heap[B.b]?=some (ae (hA B V T mv) 82 (0,0)))
include aj
theorem pS(hk:k<2):w.cell? (ad B.b (k*3) ab)=some (.pointer (some (ad ((B.p k).p) 0 ab))):=by
 have:k=0\/k=1:=U
 rcases this with rfl|rfl<;>exact bb aj rfl
theorem HD(hk:k<2):w.cell? (ad B.b (k*3+1) ab)=some (V k):=by
 have:k=0\/k=1:=U
 rcases this with rfl|rfl<;>exact bb aj rfl
theorem tJ:w.cell? (ad B.b 6 ab)=some (.pointer (some (ad B.c 0 ab))):=bb aj rfl
theorem yi:w.cell? (ad B.b 7 ab)=some (I mv):=bb aj rfl
end
def yh(hk:k<2):(hA B V T mv)[k*3+2]?=some (T k):=by
 have:k=0\/k=1:=U
 rcases this with rfl|rfl<;>rfl
def Bt(hk:k<2)(t:ax):(hA B V T mv).setIfInBounds (k*3+2) t=hA B V (b2 T k t) mv:=by
 have:k=0\/k=1:=U
 rcases this with rfl|rfl<;>simp[hA,b2]
def RQ(hk:k<2)(t:ax):(hA B V T mv).setIfInBounds (k*3+1) t=hA B (b2 V k t) T mv:=by
 have:k=0\/k=1:=U
 rcases this with rfl|rfl<;>simp[hA,b2]
def RP(m:aa):(hA B V T mv).setIfInBounds 7 (I m)=hA B V T m:=by simp[hA]
end
def H5:cZ []=[]:=rfl
def H7(l:ah ca)(c:ca):cZ (l++[c])=if c.bL=4 then cZ l++[c]else cZ l:=by
 unfold cZ;rw[rr];by_cases h:c.bL=4
 .rw[aD h];simp[h]
 rw[az h];simp[h]
def WU{c:a6 ax}{i:J}{v:ax}(h:c[i]?=some v):c.setIfInBounds i v=c:=by
 have⟨h1,h2⟩:=kf.1 h;refine Array.ext aK λj a b=>?_;rw[Array.getElem_setIfInBounds];split
 .rename_i e;subst e;exact h2.symm
 rfl
def Cs{bR off:J}{b:a6 ax}{ty:TypeId}{t V sd:ax}{st l:ah ca}{L:ah ay}{m:aY}(al:b[off+2]?=some t)(h:Sep w (ay.cR V l :: ay.bc bR (b,ty) :: ay.cR t st :: L))(f:st.length+l.length<=100000):aA 39 #[.pointer (some (ad bR off ab)),aQ #[V,sd,.bool m]] w λe w'=>e=aV #[]/\∃ T',Sep w' (ay.cR V l :: ay.bc bR (b.setIfInBounds (off+2) T',ty) :: ay.cR T' (st++cZ l) :: L):=by
 obtain⟨A,cap,rfl,_,_⟩:=cS (show w.ownsRow 0 47 12 V l.length (ep l)from h.at' 0 rfl);have St:Sep w (ay.cR (aq A l.length cap) l :: ay.bc bR (b.setIfInBounds (off+2) t,ty) :: ay.cR t (st++cZ []) :: L):=by
  rw[WU al,H5,e4];exact h
 have s:=b6 St (bB f (show off+2<b.size from(kf.1 al).1))
 go_in
 go_wp2_with fail;go_loopg [9] l.length (λg i wr=>∃ pre rest:ah ca,l=pre++rest/\g=rest.length/\i=I pre.length/\∃ T',Sep wr (ay.cR (aq A l.length cap) l :: ay.bc bR (b.setIfInBounds (off+2) T',ty) :: ay.cR T' (st++cZ pre) :: L))
 case atStart=>exact⟨[],l,rfl,rfl,rfl,t,((s.o.1.alloc (ae #[aq A l.length cap,sd,.bool m] 35)))⟩
 obtain⟨pre,rest,d,aZ,rfl,T',H⟩:=hrel;cases rest with
 | nil=>
  obtain rfl:l=pre:=by rw[d,e4]
  have zp:=af H;clear d H;go_wp2_with fail;go_end0;exact⟨rfl,T',zp.o⟩
 | cons c rest=>
  have TS:pre.length<l.length:=by rw[d];simp
  have Y:l[pre.length]=c:=by simp[d]
  have ZK:l.length<=100000:=by have:=s.out.2.1;omega
  have T:l=(pre++[c])++rest:=by rw[d];simp
  have Tq:=aZ;simp only[ds]at Tq;have O:=H.at' 0 rfl;obtain⟨r,rfl⟩:=pa O U;have f:=og (P:=prog) (enc:=ca.br) (λ_=>rfl) isAgg47 sizeOf47 O pre.length TS;rw[Y]at f;have f:(Instr.loadAt 47 (.pointer (some (ad r (pre.length*12) ab)))).run prog wr=.ok (.agg (dk c)) wr:=f;have dw:=yX wr;obtain⟨a,E,B,a',zd⟩:=xG wr c;obtain⟨bM,N⟩:=cO wr.heap.size;rw[<-N]at B;have W':=aS B;have u:=H.keep a';have ZJ:(cZ pre).length<=pre.length:=mH _ _;rw[<-N]at dw E;generalize wr.alloc _=ZL at dw E;by_cases y:c.bL=4
  .have Q':(c.bL == 4)=true:=by rw[y];rfl
   have mv:∀ q∈(ay.cR (aq (some (ad r 0 ab)) l.length cap) l :: ay.bc bR (b.setIfInBounds (off+2) T',ty) :: ay.cR T' (st++cZ pre) :: L),¬ q.S bM:=λq V' Z=>by have:=H.lt V' Z;omega
   have h2:T'.ownBlock≠some bM:=λe=>mv (ay.cR T' (st++cZ pre)) aK e;have lb:∀ j,T'.ownBlock=some j->j≠bR:=λj e CW=>u.rO (i:=2) (j:=1) rfl rfl U j e CW;have X:=u.drew 1;have m':a.drew.cell? (ad bR (off+2) ab)=some T':=bb (show a.drew.heap[bR]?=some (ae (b.setIfInBounds (off+2) T') ty (0,0))from X.at' 1 rfl) (by simp[s.out.2.2]);have hd:a.drew.heap[bM]?=some (ae (dk c) 47 (0,0)):=B
   have F:Sep (a.drew.alloc (ae (dk c) 47)) (ay.cR (aq (some (ad a 0 ab)) 1 1) [c] :: ay.cR (aq (some (ad r 0 ab)) l.length cap) l :: ay.bc bR (b.setIfInBounds (off+2) T',ty) :: ay.cR T' (st++cZ pre) :: L):=
    X.cons (r:=ay.cR (aq (some (ad a 0 ab)) 1 1) [c]) ((ba a.drew).alloc (ae (dk c) 47)) (λ_ _ _ _ e=>e) ⟨by simp[ep,ca.br,dk],.inr ⟨a,1,dk c,rfl,c' _,aX a.drew _,c9 _,by simp[maxLen],rfl,by simp[ep,ca.br,dk]⟩⟩ (λj Z=>by cases Z;exact c9 _)
   obtain⟨v',k,D,g',fr,l'⟩:=FW (v:=T') (vl:=aq (some (ad a 0 ab)) 1 1) (cs:=st++cZ pre) (l:=[c]) 32 (F.at' 3 rfl) (F.at' 0 rfl) (by have:=s.out.2.1;simp;omega);have z:=F.set 3 (r':=ay.cR v' ((st++cZ pre)++[c])) rfl fr (λ_ _ e=>e) g' l';have z:Sep k (ay.cR (aq (some (ad a 0 ab)) 1 1) [c] :: ay.cR (aq (some (ad r 0 ab)) l.length cap) l :: ay.bc bR (b.setIfInBounds (off+2) T',ty) :: ay.cR v' ((st++cZ pre)++[c]) :: L):=z;have M:k.heap[bR]?=some (ae (b.setIfInBounds (off+2) T') ty (0,0)):=z.at' 2 rfl;have c5:k.cell? (ad bR (off+2) ab)=some T':=bb M (by simp[s.out.2.2]);have f7:=fx M (off+2)
   have G:=z.set 2 (r':=ay.bc bR (b.setIfInBounds (off+2) v',ty)) rfl ((Keeps.refl (λj=>j=bR) k).setCell (p:=ad bR (off+2) ab) rfl v') (λ_ _ e=>e) (by
    have:=bV M (off+2) v'
    rw[Array.setIfInBounds_setIfInBounds]at this;exact this) (λ_ e=>.inl e)
   have G:Sep (k.setCell (ad bR (off+2) ab) v') (ay.cR (aq (some (ad r 0 ab)) l.length cap) l :: ay.bc bR (b.setIfInBounds (off+2) v',ty) :: ay.cR v' (st++cZ (pre++[c])) :: L):=by
    rw[H7,aD y,<-dD];exact Sep.tail G
   have s':∀ W,(∃ x:g_ (λj=>T'.ownBlock=some j) a.drew,W=x.to)->(Instr.loadAt 47 bM).run prog W=.ok (.agg (dk c)) W:=λW ⟨x,d⟩=>by
    rw[d];exact Is (x.keeps.heap hd h2)
   have ZG:∀ x:g_ (λj=>T'.ownBlock=some j) a.drew,_:=j8 (S:=λj=>T'.ownBlock=some j) (w:=a.drew) m' (λe=>lb _ e rfl);have Q:Keeps (λj=>T'.ownBlock=some j) a.drew (a.alloc (ae (dk c) 47)).drew:=(Keeps.refl (λj=>T'.ownBlock=some j) a.drew).alloc (ae (dk c) 47);have D:(Builtin.append_ #[32,32] 32 #[T',aq (some (ad a 0 ab)) 1 1]).run prog (a.alloc (ae (dk c) 47)).drew=.ok v' k:=D;obtain⟨ZI,ZH,R,_,_⟩:=cS g';obtain⟨n7,ys⟩:=cO ((st++cZ pre)++[c]).length;rw[<-ys]at R;have n:=b6 T G;have gf:Keeps (λj=>T'.ownBlock=some j) (a.alloc (ae (dk c) 47)).drew k:=fr;clear H O d aZ Y T B a' zd N u X m' hd F z G M g' fr l' mv h2 lb ys y;go_upto_region 5 with(first|((with_reducible refine dp f rfl rfl ?_ ?_);exact rfl)|((with_reducible refine d_ dw rfl rfl ?_))|((with_reducible refine c8 E rfl rfl ?_ ?_ ?_);exact rfl;exact rfl)|fail)
   clear f dw E W';refine cH 11 ?_;refine o7 (λj=>T'.ownBlock=some j) (.range 6) [6,7] 3 ?_
   repeat (first|(refine ke s' rfl rfl rfl ?_;simp only[Act.put,c7])|go_big_quiet_step (fail))
   refine wpQuiet_nil ?_;simp only[dk]at Q D gf;refine gi λK C=>?_;simp only[dk];go_simp;refine C _ _ (c0 (Q)) ?_;clear C K;refine kv λK C=>?_;refine Lib.wp_append_run _ (.tmp 20) (.tmp 22) 32 32 rfl _ _ rfl rfl _ _ D ?_;refine C _ _ (c0 (Q.trans gf)) ?_;clear C K;clear ZG s' Q D gf;rw[R];rw[R]at n;simp only[Act.put,c7];refine fs (λ_=>False) [8,9] [] 1 (hP ?_);refine cI (oL) [10] 0 1 ?_;refine h_ 10 (ma _) ?_;clear c5 f7 R;go_wp2_with fail;go_roundg rest.length
   case measure=>omega
   exact⟨pre++[c],rest,n.o.1,rfl,qx,_,n.o.2⟩
  have Q':(c.bL == 4)=false:=by simpa using y
  have n:=b6 T u;have ps:cZ (pre++[c])=cZ pre:=by rw[H7,az y]
  have Aw:=af ps;clear H O d aZ Y T B a' zd N u ps;go_wp2_with first|((with_reducible refine dp f rfl rfl ?_ ?_);exact rfl)|(with_reducible refine d_ dw rfl rfl ?_)|((with_reducible refine c8 E rfl rfl ?_ ?_ ?_);exact rfl;exact rfl)
  go_roundg rest.length
  case measure=>omega
  exact⟨pre++[c],rest,n.o.1,rfl,qx,T',by rw[Aw.o];exact n.o.2⟩
variable{k:J}{B:jE}{M:dX}{V T:J->ax}{mv:aa}{d:J->gq}{R:ah ay}
theorem UD(x c y z b e r t:ay):([x,c,y,z,b,e,r,t]:ah ay).Perm [c,b,t,x,y,z,e,r]:=
 (show([0,1,2,3,4,5,6,7]:ah J).Perm [1,4,7,0,2,3,5,6]by decide).map λi=>[x,c,y,z,b,e,r,t].getD i x
def B4(A D:ah ay)(x c y z b e r t:ay):(A++x :: c :: y :: z :: b :: e :: r :: t :: D).Perm (c :: b :: t :: (A++x :: y :: z :: e :: r :: D)):=by
 have h2:=(((oE A [x,y,z,e,r] D).cons t).cons b).cons c;exact(oE A [x,c,y,z,b,e,r,t] D).trans (((UD x c y z b e r t).append_right (A++D)).trans h2.symm)
theorem UE(c b t x y z e r q:ay):([c,b,t,x,y,z,e,r,q]:ah ay).Perm [x,y,q,z,b,e,r,t,c]:=
 (show([0,1,2,3,4,5,6,7,8]:ah J).Perm [3,4,8,5,1,6,7,2,0]by decide).map λi=>[c,b,t,x,y,z,e,r,q].getD i x
def B5(A C R:ah ay)(c b t x y z e r q:ay):(c :: b :: t :: (A++x :: y :: z :: e :: r :: (C++q :: R))).Perm (x :: y :: q :: (A++((z :: b :: e :: r :: t :: C)++c :: R))):=by
 have h1:(c :: b :: t :: (A++x :: y :: z :: e :: r :: (C++q :: R))).Perm ([c,b,t,x,y,z,e,r,q]++(A++(C++R))):=by
  have a:(A++x :: y :: z :: e :: r :: (C++q :: R)).Perm ([x,y,z,e,r]++(A++(C++q :: R))):=oE A [x,y,z,e,r] _;have d:(A++(C++q :: R)).Perm (q :: (A++(C++R))):=by
   rw[<-dD,<-dD];exact qq
  exact(((a.trans (d.append_left [x,y,z,e,r])).cons t).cons b).cons c
 have h2:(x :: y :: q :: (A++((z :: b :: e :: r :: t :: C)++c :: R))).Perm ([x,y,q,z,b,e,r,t,c]++(A++(C++R))):=by
  have a:(A++((z :: b :: e :: r :: t :: C)++c :: R)).Perm ([z,b,e,r,t]++(A++(C++c :: R))):=oE A [z,b,e,r,t] _;have d:(A++(C++c :: R)).Perm (c :: (A++(C++R))):=by
   rw[<-dD,<-dD];exact qq
  exact(((a.trans (d.append_left [z,b,e,r,t])).cons q).cons y).cons x
 exact h1.trans (((UE c b t x y z e r q).append_right (A++(C++R))).trans h2.symm)
def j0(B:jE)(eK:dX)(mv:aa)(cs:ah ca)(b0:aa)(R:ah ay)(e:Ending)(w':ai):ak:=
 ∃ a A n c m,e=aV #[aQ #[a,aq A n c,.bool m],I b0]/\cu w' B eK mv (ay.cR a cs :: R)
def WM(cs:cT)(g:aa)(t:cc):cs.lost<=(hD cs 64 g t).lost/\(hD cs 64 g t).lost<=cs.lost+1:=by
 unfold hD cT.put;split
 .split
  .split<;>exact⟨aK,vb⟩
  exact⟨vb,aK⟩
 exact⟨jw _,U⟩
theorem JV(g:aa):∀ (a:ah a1) (cs:cT),cs.lost<=(gB cs g a).lost/\(gB cs g a).lost<=cs.lost+a.length
 | [],cs=>⟨jw _,by simp[gB]⟩
 | m :: r,cs=>by
  have h1:=JV g r (hD cs 64 g (dh m));have h2:=WM cs g (dh m);have e:gB cs g (m :: r)=gB (hD cs 64 g (dh m)) g r:=rfl;rw[e,ds];omega
def Sk:∃ i,prog.info? 5=some i/\i.zero=some (aF 0)/\i.size=1/\i.bytes=1:=by
 have h:(prog.info? 5).map (λi=>(i.zero,i.size,i.bytes))=some (some (aF 0),1,1):=aH;cases aJ:prog.info? 5 with
 | none=>rw[aJ]at h;cases h
 | some i=>rw[aJ]at h;simp only[pw,hr,jA]at h;exact⟨i,rfl,h⟩
def zb(k:J)(B:jE)(s':bJ)(d2:gq)(x c y:ay)(M:dX)(V T:J->ax)(mv:aa)(d:J->gq)(z:ay)(R:ah ay):ah ay:=bC (B.p k) s' d2++x :: c :: y :: (mb k B M V T mv d++z :: R)
def Rr(h:cu w B M mv R)(hk:k<2)(v:aR)(Z0:∀ W d R,ay.kinds B.o∈R->Sep W (bC (B.p k) (M.p k) d++R)->aA 60 #[.pointer (some (ad ((B.p k).p) 0 ab)),aF v.toNat] W (xv (B.p k) (cA v (M.p k)).1 (cA v (M.p k)).2 (ff v (M.p k)) (dN (M.p k)) R))(G:c_ (cA v (M.p k)).1=c_ (M.p k)+if dN (M.p k)then 1 else 0)(K:(ff v (M.p k)).length<=100)(m':0<=M.cs.lost/\M.cs.lost<=900000)(Z5:∀ m∈ff v (M.p k),(dn m).length<=100000)(Z:(M.bE k).length<=1000)(Z4:(M.st k).length+(cA v (M.p k)).2.length<=100000):aA 37 #[B.b,I k,aF v.toNat] w (j0 B (gJ k v M) mv (cA v (M.p k)).2 0 R):=by
 obtain⟨V,T,d,h⟩:=(h.push (r:=ay.bc w.heap.size (cd,35)) ((ba w).alloc (ae cd 35)) (aX w (ae cd 35)) (λj z=>gD (jT z))).view hk;have Q:=pS (h.at' 10 rfl) hk;have aac:(k:aa)<2:=U;have cF:=b6 G (bB K (bB m' (bB Z5 (bB Z Z4))));have y:=af hk
 go_in
 go_wp2_with fail;generalize w.alloc (ae cd 35)=bk at *;refine bA (yf h) ?_;go_wp2_with fail;refine aU ((AF (hz h))) ?_;rintro _ ⟨q,rfl⟩;have h1:=h.drew q;have Q:=pS (h1.at' 10 rfl) y.out;have ZJ:=af (Z0 _ _ _ (by simp[mb]) h1);generalize bk.drewN q=ao at *;go_wp2_with fail;refine ZJ.o.mono ?_;rintro e aC ⟨ZT,A,cap,rfl,d2,h2⟩;obtain⟨n,t,s,rfl⟩:∃ n t s,ZT=aq n t s:=by
  obtain⟨a,c,e,_⟩:=cS (show aC.ownsRow 0 47 12 ZT (cA v (M.p k)).2.length (ep (cA v (M.p k)).2)from h2.at' 9 rfl);exact⟨a,_,c,e⟩
 clear ZJ Q;have ZQ:=(ba aC).alloc (ae #[aq n t s,.slice A (ff v (M.p k)).length cap,(dN (M.p k))] 35);have⟨E,w'⟩:=cO aC.heap.size;have V':=(h2.cons (r:=ay.bc E (#[aq n t s,.slice A (ff v (M.p k)).length cap,(dN (M.p k))],35)) ZQ (λ_ _ _ _=>id) (by rw[w'];exact aX aC _) (λj z=>by have z:j=E:=z;omega)).iI;have L:=af V';have St:=af w';clear h2 ZQ V' w';go_upto_region 6 with fail
 rw[<-St.o];generalize aC.alloc (ae #[aq n t s,.slice A (ff v (M.p k)).length cap,(dN (M.p k))] 35)=bm at *;have Q:=pS (L.o.at' 13 rfl) y.out;have ZG:=af (yf L.o);have ZI:=af (AF (hz L.o));clear St;go_wp2_with fail;refine bA ZG.o ?_;go_wp2_with fail;refine aU ZI.o ?_;rintro _ ⟨ZS,rfl⟩;have H:=L.out.drew ZS;clear L ZG ZI Q;generalize bm.drewN ZS=zd at *;go_upto_if 45 with fail
 go_cut [] (λbU=>∃ bE V,bE=(if dN (M.p k)then b2 M.bE k (M.bE k++[v])else M.bE)/\Sep bU (zb k B (cA v (M.p k)).1 d2 (ay.bc E (#[aq n t s,.slice A (ff v (M.p k)).length cap,(dN (M.p k))],35)) (ay.cR (aq n t s) (cA v (M.p k)).2) (ay.cC A (ff v (M.p k)).length cap (lk (ff v (M.p k)))) {M with bE:=bE} V T mv d (ay.bc w.heap.size (cd,35)) R))
 case first=>
  have G:=cF.out.1;unfold c_ at G;cases hm:dN (M.p k)with
  | true=>
   rw[hm,aD rfl]at G;have Z1:(((M.p k).x.f (M.p k).x.aL).next:aa)<(((cA v (M.p k)).1.x.f (cA v (M.p k)).1.x.aL).next:aa):=U;obtain⟨i0,aw,Z6,Z7,Z8⟩:=Sk;have ZK:=H.at' 13 rfl;have ci:=HD ZK y.out;have ZY:=af aw;have Tq:=af cF.out.2.2.2.2.1;have N:=af H;have fr:=af hm;clear aw G H ZK hm;go_wp2_with (at_builtin;refine Db _ rfl (.tmp 50) (.tmp 52) _ rfl 0 5 i0 _ 1 1 underlying51 ZY.o Z6 Z7 Z8 rfl U _ (M.bE k).length (tr (M.bE k)) rfl (b4 ((show zd.ownsRow 0 5 1 (V k) (M.bE k).length (tr (M.bE k))from N.o.at' 15 rfl)) ((ba _).alloc _) (λ_ _=>id)) (some (ad _ 0 ab)) 1 1 [aF (v.toNat:aa)] rfl (KU _ _ _) mJ (by have:=Tq.o;simp only[maxLen];omega) (by have:=Tq.o;omega) (c' _) ?_);intro v' ZU P ZN ZO;have W':=N.o.alloc (ae #[aF (v.toNat:aa)] 5);have Z9:(zd.alloc (ae #[aF (v.toNat:aa)] 5)).heap.size=zd.heap.size+1:=aK;have ZL:tr (M.bE k)++[aF (v.toNat:aa)]=tr (M.bE k++[v]):=by simp[tr]
   rw[ZL]at P;have K:(M.bE k).length+1=(M.bE k++[v]).length:=aK;rw[K]at P;have gf:=Sep.set (r':=ay.row v' (M.bE k++[v])) W' 15 (r:=ay.row (V k) (M.bE k)) rfl ((Keeps.refl (λj=>(V k).ownBlock=some j) _).grown ZN (λj e=>.inl e)) (λ_ _ e=>e) P (λj z=>by
    rcases ZO with e|e
    .exact .inl (show(V k).ownBlock=some j by rw[<-e];exact z)
    .have z:=z;rw[z]at e
     have:=ij e
     exact .inr U)
   have X:=gf.at' 13 rfl;have D:=gf.set 13 (r':=ay.bc B.b (hA B (b2 V k v') T mv,82)) rfl ((Keeps.refl (λj=>j=B.b) ZU).setCell (p:=ad B.b (k*3+1) ab) rfl v') (λ_ _ e=>e) (by have:=bV X (k*3+1) v';rw[RQ y.out]at this;exact this) (λ_ e=>.inl e);have aaa:ZU.cell? (ad B.b (k*3+1) ab)=some (V k):=HD X y.out;have aab:=fx X (k*3+1);obtain⟨a',ys,bo,rfl⟩:∃ a' ys bo,v'=aq a' ys bo:=by
    have⟨a,c,e,_⟩:=cS P;exact⟨a,_,c,e⟩
   have ZW:=af D;clear P ZN ZO W' Z9 ZL K gf X D N;go_wp2_with fail;go_meet;refine⟨b2 M.bE k (M.bE k++[v]),b2 V k (aq a' ys bo),by rw[fr.out];rfl,?_⟩;have g':=ZW.o;have hne:1-k≠k:=by have:=y.out;omega
   unfold zb mb;simp only[je,ie _ _ hne];exact g'
  | false=>
   rw[hm,az aK]at G;have Z1:¬ (((M.p k).x.f (M.p k).x.aL).next:aa)<(((cA v (M.p k)).1.x.f (cA v (M.p k)).1.x.aL).next:aa):=U;have N:=af H;have fr:=af hm;clear G H hm;go_wp2_with fail;go_meet;exact⟨M.bE,V,by rw[fr.o];rfl,N.o⟩
 obtain⟨bE,F,Z,D⟩:=hcut;obtain⟨l,vl⟩:=cO (ff v (M.p k));obtain⟨C,s'⟩:=cO (dN (M.p k));have cF:=af cF.out.2;have Aw:=b6 Z (bB vl s');rw[<-vl]at cF D;rw[<-s']at D;clear H vl s' Z;have Z_:=aS (D.at' 9 rfl);have CW:=af (show Sep wc (zb k B (cA v (M.p k)).1 d2 (ay.bc E (#[aq n t s,aq A l.length cap,.bool C],35)) (ay.cR (aq n t s) (cA v (M.p k)).2) (ay.cC A l.length cap (lk l)) {M with bE:=bE,cs:=gB M.cs (1-(k:aa)) (l.take 0)} F T mv d (ay.bc w.heap.size (cd,35)) R)from D);clear D;have aaf:IntKind.i64.wrap (1-(k:aa))=1-(k:aa):=ev _ U;go_wp2_with fail;clear Z_;go_loopg [13,59] l.length (λg _ i wr=>∃ j:J,g=l.length-j/\j<=l.length/\i=I j/\Sep wr (zb k B (cA v (M.p k)).1 d2 (ay.bc E (#[aq n t s,aq A l.length cap,.bool C],35)) (ay.cR (aq n t s) (cA v (M.p k)).2) (ay.cC A l.length cap (lk l)) {M with bE:=bE,cs:=gB M.cs (1-(k:aa)) (l.take j)} F T mv d (ay.bc w.heap.size (cd,35)) R))
 case atStart=>exact⟨0,rfl,c' _,rfl,CW.o⟩
 obtain⟨j,aZ,z,rfl,u⟩:=hrel;clear CW;have K:=cF.o.1;by_cases ps:j<l.length
 .obtain⟨bR,cN,rfl,al⟩:=(show dR wr 1 A l.length cap (lk l)from u.at' 11 rfl).at' U;have Z':wr.cell? (ad bR (cN+j) ab)=some (.string (dh l[j])):=al j _ (by simp[lk,dh,ps]);have eb:=tJ (u.at' 13 rfl);have m':=JV (1-(k:aa)) (l.take j) M.cs;have Z2:(l.take j).length<=100:=by rw[gn];omega
  have l':=af (OY (u.at' 14 rfl) (show 0<=(gB M.cs (1-(k:aa)) (l.take j)).lost/\(gB M.cs (1-(k:aa)) (l.take j)).lost<=1000000 by have:=cF.o.2.1;omega) (1-(k:aa)) (dh l[j]) (by have:=cF.o.2.2.1 l[j] (nC ps);unfold dh maxLen;simp[ByteArray.size];omega));have aae:=mE _ _ Z';have aad:=bP (show wr.heap[B.b]?=_ from u.at' 13 rfl);have TS:hD (gB M.cs (1-(k:aa)) (l.take j)) 64 (1-(k:aa)) (dh l[j])=gB M.cs (1-(k:aa)) (l.take (j+1)):=by rw[l6 ps,WN]
  rw[TS]at l';have Q':=af u;clear u al m' Z2 TS;go_wp2_with fail;refine aU l'.o ?_;rintro aag ⟨ZM,ZP⟩;have ZZ:=Q'.out.set 14 (r':=ay.hc B.c (gB M.cs (1-(k:aa)) (l.take (j+1)))) rfl ZP (λ_ _ e=>e) ZM (λ_ e=>.inl e);clear Q' l' ZM ZP;go_wp2_with fail;go_roundg (l.length-(j+1))
  case rel=>exact⟨j+1,rfl,U,by go_num,ZZ⟩
  omega
 obtain rfl:j=l.length:=U;rw[nE]at u;have u:Sep wr (bC (B.p k) (cA v (M.p k)).1 d2++ay.bc E (#[aq n t s,aq A l.length cap,.bool C],35) :: ay.cR (aq n t s) (cA v (M.p k)).2 :: ay.cC A l.length cap (lk l) :: ay.kinds B.o :: ay.bc B.b (hA B F T mv,82) :: ay.hc B.c (gB M.cs (1-(k:aa)) l) :: ay.row (F k) (bE k) :: ay.cR (T k) (M.st k) :: (([ay.row (F (1-k)) (bE (1-k)),ay.cR (T (1-k)) (M.st (1-k))]++bC (B.p (1-k)) (M.p (1-k)) (d (1-k)))++ay.bc w.heap.size (cd,35) :: R)):=u;have hd:=u.perm (B4 _ _ _ _ _ _ _ _ _ _);have O:wr.heap[E]?=some (ae #[aq n t s,aq A l.length cap,.bool C] 35 (0,0)):=hd.at' 12 rfl;have ZR:=aS O;have ZH:=af (Cs (sd:=aq A l.length cap) (m:=C) (yh y.out) hd cF.out.2.2.2.2);clear u hd O K;go_wp2_with fail;refine aU ZH.o ?_;rintro zp ⟨T',lb⟩;rw[Bt y.out]at lb;have S:=lb.perm (B5 _ ([ay.row (F (1-k)) (bE (1-k)),ay.cR (T (1-k)) (M.st (1-k))]++bC (B.p (1-k)) (M.p (1-k)) (d (1-k))) R _ _ _ _ _ _ _ _ _);have O:zp.heap[E]?=some (ae #[aq n t s,aq A l.length cap,.bool C] 35 (0,0)):=S.at' 0 rfl;have Y:zp.heap[w.heap.size]?=some (ae cd 35 (0,0)):=S.at' 2 rfl;clear ZR;have ZR:=aS O;have g0:=bI Y;have z0:=aS Y;have ZX:=af (jH Y (aq n t s) (aq A l.length cap) (.bool C));have ZV:=af (Sep.drop1 (A:=[]) S.tail.tail (jP zp w.heap.size (aq n t s) (aq A l.length cap) (.bool C)));clear ZH lb S O Y;go_wp2_with fail;have Z3:=dx _ _ _ _ ZX.o 3 rfl;refine dq (v:=aV #[aQ #[aq n t s,aq A l.length cap,.bool C],I 0]) Z3 ?_;refine⟨_,A,_,cap,C,rfl,cu.of (k:=k) (V:=F) (T:=b2 T k T') (d:=b2 d k d2) y.out ?_⟩;have hne:1-k≠k:=by have:=y.out;omega
 have g':=ZV.o;unfold lv mb gJ;simp only[je,ie _ _ hne];rw[<-Aw.out.1,<-Aw.out.2.1];exact g'
def RF(b:J)(v:aa)(aW:63<v):aA 60 #[b,aF v] w λe w'=>e=aV #[aQ cd,I 1]/\Keeps aI w w':=by
 have a:=af (aX w (ae cd 35))
 go_in
 go_wp2_with fail;refine dq (v:=aV #[aQ cd,I 1]) (dx _ _ _ _ a.o 3 rfl) ?_;exact⟨rfl,((ba w).alloc (ae cd 35))⟩
theorem cu.void(h:cu w B M mv R):cu w B M mv (ay.cR (aq none 0 0) [] :: R):=
 h.push (ba w) (gI w 0 _ _) (λj a=>by cases a)
def cu.drop{eO:J}{z:a6 ax×TypeId}{L:ah ay}(h:cu w B M mv (L++ay.bc eO z :: R))(hk:Keeps (λj=>j=eO) w w'):cu w' B M mv (L++R):=by
 have⟨V,T,d,h⟩:=h;have h2:Sep w ((bC (B.p 0) (M.p 0) (d 0)++(mb 0 B M V T mv d++L))++ay.bc eO z :: R):=by
  unfold lv at h;simpa only[dD]using h
 refine⟨V,T,d,?_⟩;unfold lv;simpa only[dD]using(Sep.drop1 h2 hk)
def Rs(h:cu w B M mv R)(hk:k<2)(v:aa)(aW:63<v):aA 37 #[B.b,I k,aF v] w (j0 B M mv [] 1 R):=by
 have h1:=h.push (r:=ay.bc w.heap.size (cd,35)) ((ba w).alloc (ae cd 35)) (aX w (ae cd 35)) (λj l=>gD (jT l));obtain⟨V,T,d,h⟩:=h1.view hk;have f:=pS (h.at' 10 rfl) hk;have c:=af hk
 go_in
 go_wp2_with fail;generalize w.alloc (ae cd 35)=bk at *;refine bA (yf h) ?_;go_wp2_with fail;refine aU ((AF (hz h))) ?_;rintro _ ⟨q,rfl⟩;have h1:=h.drew q;have f:=pS (h1.at' 10 rfl) c.out;have i:=af (RF (w:=bk.drewN q) (B.p k).p v aW);generalize bk.drewN q=ao at *;go_wp2_with fail;refine aU i.o λaC n=>?_;have e:=(h1.keep n).alloc (ae cd 35);go_upto_region 5 with fail
 generalize aC.alloc (ae cd 35)=bm at *;have g:cu bm B M mv ([]++ay.bc w.heap.size (cd,35) :: R):=cu.of c.out e;have a:=e.at' (9+(7+9)) rfl;have g0:=bI a;have s:=aS a;go_wp2_with fail;have m:=dx _ _ _ _ ((jH a (aq none 0 0) (aq none 0 0) (.bool false))) 3 rfl;refine dq (v:=aV #[aQ cd,I 1]) m ?_;exact⟨_,_,_,_,_,rfl,((g.drop (jP bm w.heap.size (aq none 0 0) (aq none 0 0) (.bool false))).void)⟩
def nO(B:jE)(M:dX)(mv:aa)(R:ah ay)(x:cc)(ok:aY)(cs:cT)(e:Ending)(w':ai):ak:=
 e=aV #[.string x,.bool ok]/\cu w' B {M with cs:=cs} mv R
def Bj(h:cu w B M mv R)(bg i at' bH bz:aa)(x:cc)(ok:aY)(cs:cT)(an:∀ W,eS W B.c 64 M.cs->aA 98 #[B.c,I bg,I i] W λe w'=>e=aV #[.string x,.bool ok]/\eS w' B.c 64 cs/\Keeps (hh B.c) W w'):aA 64 #[B.b,aQ #[I 2,I bg,I i,I at',aF bH,aF bz]] w (nO B M mv R x ok cs):=by
 obtain⟨V,T,d,h⟩:=h;have y:=aX w (ae #[I 2,I bg,I i,I at',aF bH,aF bz] 40);have q:=af (λj (a:hh B.c j)=>h.rO (i:=11) (j:=10) (r:=ay.hc B.c M.cs) (s:=ay.bc B.b (hA B V T mv,82)) rfl rfl U j a);have k:=h.keep ((ba w).alloc (ae #[I 2,I bg,I i,I at',aF bH,aF bz] 40))
 go_in
 go_wp2_with fail;generalize World.alloc w _=bk at *;obtain⟨G,f⟩:=hJ (F:=λW=>(W.heap[w.heap.size]?=some (ae #[I 2,I bg,I i,I at',aF bH,aF bz] 40 (0,0))/\W.heap[B.b]?=some (ae (hA B V T mv) 82 (0,0))));have z:∀ x:bp G,x.to.cell? (ad B.b 6 ab)=some (.pointer (some (ad B.c 0 ab))):=λx=>tJ ((f _).1 x.held).2;have A:=λx:bp G=>aS (((f _).1 x.held).1);have m:G bk.drew:=(f _).2 ⟨y,k.at' 10 rfl⟩;have u:=af (λ(W W':ai) (l:G W) (hk:Keeps (hh B.c) W W')=>(f W').2 ⟨hk.heap ((f W).1 l).1 (λe=>zW),hk.heap ((f W).1 l).2 (λe=>q.o _ e rfl)⟩);have g:=af (k.drew 1);have t:=af (an bk.drew (g.o.at' 11 rfl));refine cH 13 ?_;refine cI (G) (.range 13) 0 13 ?_;refine dC (m) (.range 8) 5 ?_;refine ew 8 λK v=>?_;go_simp;refine aU t.o ?_;rintro aC ⟨al,p⟩;have n:=u.out _ _ m p;refine v _ _ (n) ?_;refine dC (n) [9,10,11,12] 0 ?_;refine n5 ?_;go_wp2;go_ret2;exact⟨rfl,((show cu aC B {M with cs:=cs} mv R from⟨V,T,d,g.out.set 11 (r':=ay.hc B.c (cs)) rfl p (λ_ _ e=>e) al (λ_ e=>.inl e)⟩))⟩
def Hi(h:cu w B M mv R)(bg i at' bH bz:aa)(x:cc)(ok:aY)(cs:cT)(an:∀ W,eS W B.c 64 M.cs->aA 99 #[B.c,I bg,I i] W λe w'=>e=aV #[.string x,.bool ok]/\eS w' B.c 64 cs/\Keeps (hh B.c) W w'):aA 64 #[B.b,aQ #[I 3,I bg,I i,I at',aF bH,aF bz]] w (nO B M mv R x ok cs):=by
 obtain⟨V,T,d,h⟩:=h;have y:=aX w (ae #[I 3,I bg,I i,I at',aF bH,aF bz] 40);have q:=af (λj (a:hh B.c j)=>h.rO (i:=11) (j:=10) (r:=ay.hc B.c M.cs) (s:=ay.bc B.b (hA B V T mv,82)) rfl rfl U j a);have k:=h.keep ((ba w).alloc (ae #[I 3,I bg,I i,I at',aF bH,aF bz] 40))
 go_in
 go_wp2_with fail;generalize World.alloc w _=bk at *;obtain⟨G,f⟩:=hJ (F:=λW=>(W.heap[w.heap.size]?=some (ae #[I 3,I bg,I i,I at',aF bH,aF bz] 40 (0,0))/\W.heap[B.b]?=some (ae (hA B V T mv) 82 (0,0))));have z:∀ x:bp G,x.to.cell? (ad B.b 6 ab)=some (.pointer (some (ad B.c 0 ab))):=λx=>tJ ((f _).1 x.held).2;have A:=λx:bp G=>aS (((f _).1 x.held).1);have m:G bk.drew:=(f _).2 ⟨y,k.at' 10 rfl⟩;have u:=af (λ(W W':ai) (l:G W) (hk:Keeps (hh B.c) W W')=>(f W').2 ⟨hk.heap ((f W).1 l).1 (λe=>zW),hk.heap ((f W).1 l).2 (λe=>q.o _ e rfl)⟩);have g:=af (k.drew 1);have t:=af (an bk.drew (g.o.at' 11 rfl));refine cH 13 ?_;refine cI (G) (.range 13) 0 13 ?_;refine dC (m) (.range 8) 5 ?_;refine ew 8 λK v=>?_;go_simp;refine aU t.o ?_;rintro aC ⟨al,p⟩;have n:=u.out _ _ m p;refine v _ _ (n) ?_;refine dC (n) [9,10,11,12] 0 ?_;refine n5 ?_;go_wp2;go_ret2;exact⟨rfl,((show cu aC B {M with cs:=cs} mv R from⟨V,T,d,g.out.set 11 (r':=ay.hc B.c (cs)) rfl p (λ_ _ e=>e) al (λ_ e=>.inl e)⟩))⟩
def Hk(h:cu w B M mv R)(bg i at' bH bz:aa)(x:cc)(ok:aY)(cs:cT)(an:∀ W,eS W B.c 64 M.cs->aA 100 #[B.c,I bg,I i,I at',aF bH] W λe w'=>e=aV #[.string x,.bool ok]/\eS w' B.c 64 cs/\Keeps (hh B.c) W w'):aA 64 #[B.b,aQ #[I 5,I bg,I i,I at',aF bH,aF bz]] w (nO B M mv R x ok cs):=by
 obtain⟨V,T,d,h⟩:=h;have y:=aX w (ae #[I 5,I bg,I i,I at',aF bH,aF bz] 40);have q:=af (λj (a:hh B.c j)=>h.rO (i:=11) (j:=10) (r:=ay.hc B.c M.cs) (s:=ay.bc B.b (hA B V T mv,82)) rfl rfl U j a);have k:=h.keep ((ba w).alloc (ae #[I 5,I bg,I i,I at',aF bH,aF bz] 40))
 go_in
 go_wp2_with fail;generalize World.alloc w _=bk at *;obtain⟨G,f⟩:=hJ (F:=λW=>(W.heap[w.heap.size]?=some (ae #[I 5,I bg,I i,I at',aF bH,aF bz] 40 (0,0))/\W.heap[B.b]?=some (ae (hA B V T mv) 82 (0,0))));have z:∀ x:bp G,x.to.cell? (ad B.b 6 ab)=some (.pointer (some (ad B.c 0 ab))):=λx=>tJ ((f _).1 x.held).2;have A:=λx:bp G=>aS (((f _).1 x.held).1);have m:G bk.drew:=(f _).2 ⟨y,k.at' 10 rfl⟩;have u:=af (λ(W W':ai) (l:G W) (hk:Keeps (hh B.c) W W')=>(f W').2 ⟨hk.heap ((f W).1 l).1 (λe=>zW),hk.heap ((f W).1 l).2 (λe=>q.o _ e rfl)⟩);have g:=af (k.drew 1);have t:=af (an bk.drew (g.o.at' 11 rfl));refine cH 17 ?_;refine cI (G) (.range 17) 0 17 ?_;refine dC (m) (.range 12) 5 ?_;refine ew 12 λK v=>?_;go_simp;refine aU t.o ?_;rintro aC ⟨al,p⟩;have n:=u.out _ _ m p;refine v _ _ (n) ?_;refine dC (n) [13,14,15,16] 0 ?_;refine n5 ?_;go_wp2;go_ret2;exact⟨rfl,((show cu aC B {M with cs:=cs} mv R from⟨V,T,d,g.out.set 11 (r':=ay.hc B.c (cs)) rfl p (λ_ _ e=>e) al (λ_ e=>.inl e)⟩))⟩
def Hj(h:cu w B M mv R)(bg i at' bH bz:aa)(z:0<=M.cs.lost/\M.cs.lost<=1000000):aA 64 #[B.b,aQ #[I 4,I bg,I i,I at',aF bH,aF bz]] w (nO B M mv R ByteArray.empty (fP M.cs bg i).isSome (lA M.cs bg i)):=by
 obtain⟨V,T,d,h⟩:=h;have y:=aX w (ae #[I 4,I bg,I i,I at',aF bH,aF bz] 40);have q:=af (λj (a:hh B.c j)=>h.rO (i:=11) (j:=10) (r:=ay.hc B.c M.cs) (s:=ay.bc B.b (hA B V T mv,82)) rfl rfl U j a);have l:=h.keep ((ba w).alloc (ae #[I 4,I bg,I i,I at',aF bH,aF bz] 40))
 go_in
 go_wp2_with fail;generalize World.alloc w _=bk at *;obtain⟨G,f⟩:=hJ (F:=λW=>(W.heap[w.heap.size]?=some (ae #[I 4,I bg,I i,I at',aF bH,aF bz] 40 (0,0))/\W.heap[B.b]?=some (ae (hA B V T mv) 82 (0,0))));have A:∀ x:bp G,x.to.cell? (ad B.b 6 ab)=some (.pointer (some (ad B.c 0 ab))):=λx=>tJ ((f _).1 x.held).2;have C:=λx:bp G=>aS (((f _).1 x.held).1);have m:G bk.drew:=(f _).2 ⟨y,l.at' 10 rfl⟩;have u:=af (λ(W W':ai) (g:G W) (hk:Keeps (hh B.c) W W')=>(f W').2 ⟨hk.heap ((f W).1 g).1 (λe=>zW),hk.heap ((f W).1 g).2 (λe=>q.o _ e rfl)⟩);have k:=af (l.drew 1);have t:=af (((λ(W:ai) (g:eS W B.c 64 M.cs)=>OW g z bg i)) bk.drew (k.o.at' 11 rfl));refine cH 11 ?_;refine cI (G) (.range 11) 0 11 ?_;refine dC (m) (.range 8) 3 ?_;refine ew 8 λK v=>?_;go_simp;refine aU t.o ?_;rintro aC ⟨al,p⟩;have n:=u.out _ _ m p;refine v _ _ (n) ?_;refine dC (n) [9,10] 0 ?_;refine n5 ?_;go_wp2;go_ret2;exact⟨rfl,((show cu aC B {M with cs:=(lA M.cs bg i)} mv R from⟨V,T,d,k.out.set 11 (r':=ay.hc B.c ((lA M.cs bg i))) rfl p (λ_ _ e=>e) al (λ_ e=>.inl e)⟩))⟩
def cu.res(h:cu w B M mv R){r:ay}(a:r∈R):r.P w:=by
 have⟨V,T,d,h⟩:=h;exact h.all r (by unfold lv;simp[a])
def Rl(h:cu w B M mv R)(bu bg i at' bH bz:aa)(x:cc)(cs:cT)(d:∀ W R,cu W B M mv R->aA 64 #[B.b,aQ #[I bu,I bg,I i,I at',aF bH,aF bz]] W (nO B M mv R x false cs)):aA 40 #[B.b,aQ #[I bu,I bg,I i,I at',aF bH,aF bz]] w (j0 B {M with cs:=cs} mv [] 6 R):=by
 have q:(w.alloc (ae #[I bu,I bg,I i,I at',aF bH,aF bz] 40)).heap.size=w.heap.size+1:=aK;have h1:=h.push (r:=ay.bc w.heap.size (#[I bu,I bg,I i,I at',aF bH,aF bz],40)) ((ba w).alloc (ae #[I bu,I bg,I i,I at',aF bH,aF bz] 40)) (aX w _) (λj a=>gD (jT a));have h2:=h1.push (r:=ay.bc (w.heap.size+1) (cd,35)) ((ba (w.alloc (ae #[I bu,I bg,I i,I at',aF bH,aF bz] 40))).alloc (ae cd 35)) s3 (λj a=>s0);have g:=aS (h2.res (r:=ay.bc w.heap.size (#[I bu,I bg,I i,I at',aF bH,aF bz],40)) aK)
 go_in
 go_wp2_with fail;generalize World.alloc (World.alloc w _) _=bk at *;refine aU (d _ _ h2) λao h1=>?_;have f:=h1.res (r:=ay.bc w.heap.size (#[I bu,I bg,I i,I at',aF bH,aF bz],40)) aK;have c:=(h1).res (r:=ay.bc (w.heap.size+1) (cd,35)) aK;have g0:=bI c;have k:=aS c;go_wp2_with fail;have e:=dx _ _ _ _ ((jH c (aq none 0 0) (aq none 0 0) (.bool false))) 3 rfl;refine dq (v:=aV #[aQ cd,I 6]) e ?_;exact⟨_,_,_,_,_,rfl,((((cu.drop (L:=[]) h1 (jP ao (w.heap.size+1) (aq none 0 0) (aq none 0 0) (.bool false))).drop (L:=[]) (Keeps.refl (λj=>j=w) _)).void))⟩
def Rk(h:cu w B M mv R)(bu bg i at' bH bz:aa)(x:cc)(cs:cT)(d:bu=4)(e:∀ W R,cu W B M mv R->aA 64 #[B.b,aQ #[I bu,I bg,I i,I at',aF bH,aF bz]] W (nO B M mv R x true cs)):aA 40 #[B.b,aQ #[I bu,I bg,I i,I at',aF bH,aF bz]] w (j0 B {M with cs:=cs} mv [] 0 R):=by
 have k:(bu == 4)=true:=by rw[d];rfl
 clear d;have q:(w.alloc (ae #[I bu,I bg,I i,I at',aF bH,aF bz] 40)).heap.size=w.heap.size+1:=aK;have h1:=h.push (r:=ay.bc w.heap.size (#[I bu,I bg,I i,I at',aF bH,aF bz],40)) ((ba w).alloc (ae #[I bu,I bg,I i,I at',aF bH,aF bz] 40)) (aX w _) (λj a=>gD (jT a));have h2:=h1.push (r:=ay.bc (w.heap.size+1) (cd,35)) ((ba (w.alloc (ae #[I bu,I bg,I i,I at',aF bH,aF bz] 40))).alloc (ae cd 35)) s3 (λj a=>s0);have g:=aS (h2.res (r:=ay.bc w.heap.size (#[I bu,I bg,I i,I at',aF bH,aF bz],40)) aK)
 go_in
 go_wp2_with fail;generalize World.alloc (World.alloc w _) _=bk at *;refine aU (e _ _ h2) λao h1=>?_;have g:=aS (h1.res (r:=ay.bc w.heap.size (#[I bu,I bg,I i,I at',aF bH,aF bz],40)) aK);have c:=(h1).res (r:=ay.bc (w.heap.size+1) (cd,35)) aK;have g0:=bI c;have l:=aS c;go_wp2_with fail;have f:=dx _ _ _ _ ((jH c (aq none 0 0) (aq none 0 0) (.bool false))) 3 rfl;refine dq (v:=aV #[aQ cd,I 0]) f ?_;exact⟨_,_,_,_,_,rfl,((((cu.drop (L:=[]) h1 (jP ao (w.heap.size+1) (aq none 0 0) (aq none 0 0) (.bool false))).drop (L:=[]) (Keeps.refl (λj=>j=w) _)).void))⟩
def Rm(h:cu w B M mv R)(hk:k<2)(bu i at' bH bz:aa)(x:cc)(cs:cT)(Y:bu≠4)(u:bJ)(cW:ah ca)(b0:aa)(X:b0≠0->cW=[])(Z:(M.st k).length+cW.length<=100000)(bg:aa)(a':bg=k)(vl:∀ W R,cu W B M mv R->aA 64 #[B.b,aQ #[I bu,I bg,I i,I at',aF bH,aF bz]] W (nO B M mv R x true cs))(O:∀ W d R,ay.kinds B.o∈R->Sep W (bC (B.p k) (M.p k) d++R)->aA 65 #[.pointer (some (ad ((B.p k).p) 0 ab)),.string x] W (vp (B.p k) u cW b0 R)):aA 40 #[B.b,aQ #[I bu,I bg,I i,I at',aF bH,aF bz]] w (j0 B {M with p:=b2 M.p k u,st:=b2 M.st k (M.st k++cZ cW),cs:=cs} mv cW b0 R):=by
 have zp:(bu == 4)=false:=by simpa using Y
 have hd:=af O;have K:=b6 X Z;have l:=af hk;have zd:(k:aa)<2:=U;have lb:=af a';clear Y O X Z hk a';have q:(w.alloc (ae #[I bu,I bg,I i,I at',aF bH,aF bz] 40)).heap.size=w.heap.size+1:=aK;have h1:=h.push (r:=ay.bc w.heap.size (#[I bu,I bg,I i,I at',aF bH,aF bz],40)) ((ba w).alloc (ae #[I bu,I bg,I i,I at',aF bH,aF bz] 40)) (aX w _) (λj a=>gD (jT a));have h2:=h1.push (r:=ay.bc (w.heap.size+1) (cd,35)) ((ba (w.alloc (ae #[I bu,I bg,I i,I at',aF bH,aF bz] 40))).alloc (ae cd 35)) s3 (λj a=>s0);have ys:=aS (h2.res (r:=ay.bc w.heap.size (#[I bu,I bg,I i,I at',aF bH,aF bz],40)) aK);have v':=af (vl _ _ h2)
 go_in
 go_wp2_with fail;generalize World.alloc (World.alloc w _) _=bk at *;refine aU v'.o λao h1=>?_;have S:=h1.res (r:=ay.bc w.heap.size (#[I bu,I bg,I i,I at',aF bH,aF bz],40)) aK;have ys:=aS S;obtain rfl:=lb.o;obtain⟨V,T,d,h1⟩:=h1.view l.o;have l':=pS (h1.at' 10 rfl) l.o;have Aw:=bP (show ao.heap[B.b]?=some (ae (hA B V T mv) 82 (0,0))from h1.at' 10 rfl);have CW:=bP S;have H1:=af h1;go_wp2_with fail;go_quiet (fail);have h2:=H1.o.drew nq;have l':=pS (h2.at' 10 rfl) l.o;have r':=af (hd.o _ _ _ (by simp[mb]) h2);generalize ao.drewN nq=aC at *;go_wp2_with fail;refine r'.o.mono ?_;rintro e bm ⟨y,rfl,N,s⟩;obtain⟨c,g,f,rfl⟩:∃ c g f,y=aq c g f:=by
  exact NQ
 have fr:=(ba bm).alloc (ae #[aq c g f,(aq none 0 0),false] 35);have hne:1-k≠k:=by have:=l.out;omega
 by_cases G:b0=0
 .subst G;have D:=(s.cons (r:=ay.none) (ba bm) (λ_ _ _ _=>id) trivial (λ_ e=>e.elim)).q1;have t:=(D.cons (r:=ay.bc bm.heap.size (#[aq c g f,(aq none 0 0),false],35)) fr (λ_ _ _ _=>id) (aX bm _) (λj a=>gD (jT a))).iI;go_upto_region 10 with fail
  generalize St:bm.alloc (ae #[aq c g f,(aq none 0 0),false] 35)=gf at *;generalize bm.heap.size=Tq at *;have t:=t;have P:=t.perm (B4 _ _ _ _ _ _ _ _ _ _);have F:=P.at' 12 rfl;have w':=aS F;have s':=af (Cs (sd:=(aq none 0 0)) (m:=false) (yh l.out) P K.out.2);go_wp2_with fail;refine aU s'.o ?_;rintro g' ⟨T',Q⟩;rw[Bt l.out]at Q;have E:=Q.perm (B5 _ ([ay.row (V (1-k)) (M.bE (1-k)),ay.cR (T (1-k)) (M.st (1-k))]++bC (B.p (1-k)) (M.p (1-k)) (d (1-k))) _ _ _ _ _ _ _ _ _ _);have F:=E.at' 0 rfl;have n:=E.at' 2 rfl;have w':=aS F;have g0:=bI n;have z0:=aS n;have z:=af (jH n (aq c g f) (aq none 0 0) (.bool false));have m':=Sep.drop1 (A:=[]) E.tail.tail (jP g' (w.heap.size+1) (aq c g f) (aq none 0 0) (.bool false))
  have ps:cu (((g'.setCell (ad (w+1) 0 ab) (aq c g f)).setCell (ad (w+1) 1 ab) (aq none 0 0)).setCell (ad (w+1) 2 ab) (.bool false)) B {M with p:=b2 M.p k u,st:=b2 M.st k (M.st k++cZ cW),cs:=cs} mv ([ay.cR (aq c g f) cW]++ay.bc w.heap.size (#[I bu,I (k:aa),I i,I at',aF bH,aF bz],40) :: R):=cu.of (k:=k) (V:=V) (T:=b2 T k T') (d:=b2 d k N) l.out (by
   unfold lv mb;simp only[je,ie _ _ hne];exact m')
  have C:=af (ps.drop (Keeps.refl (λj=>j=w) _));go_wp2_with fail;have H:=dx _ _ _ _ z.o 3 rfl;refine dq (v:=aV #[aQ #[aq c g f,(aq none 0 0),false],I 0]) H ?_;exact⟨_,_,_,_,_,rfl,C.o⟩
 obtain rfl:=K.out.1 G;have Q':(b0 != 0)=true:=by simpa using G
 have D:=s.Yr.keep fr
 have t:cu _ B {M with p:=b2 M.p k u,st:=b2 M.st k (M.st k++cZ []),cs:=cs} mv (ay.bc (w.heap.size+1) (cd,35) :: ay.bc w.heap.size (#[I bu,I (k:aa),I i,I at',aF bH,aF bz],40) :: R):=cu.of (k:=k) (V:=V) (T:=T) (d:=b2 d k N) l.out (by
  unfold lv mb;simp only[je,ie _ _ hne,H5,e4];exact D)
 go_upto_region 9 with fail
 generalize bm.alloc (ae #[aq c g f,(aq none 0 0),false] 35)=gf at *;have n:=(t).res (r:=ay.bc (w.heap.size+1) (cd,35)) aK;have g0:=bI n;have z0:=aS n;have z:=af (jH n (aq none 0 0) (aq none 0 0) (.bool false));have C:=af (((cu.drop (L:=[]) t (jP gf (w.heap.size+1) (aq none 0 0) (aq none 0 0) (.bool false))).drop (L:=[]) (Keeps.refl (λj=>j=w) _)).void);go_wp2_with fail;have H:=dx _ _ _ _ z.o 3 rfl;refine dq (v:=aV #[aQ cd,I b0]) H ?_;exact⟨_,_,_,_,_,rfl,C.o⟩
def tH(b:J)(hk:k<2)(w:ai):aA 36 #[b,I k] w λe w'=>e=.returned (.pointer (some (ad b (k*3) ab)))/\w=w':=by
 go_in
 go_wp2;go_ret;exact⟨rfl,rfl⟩
def cu.y4(h:cu w B M mv R)(m:aa):cu (w.setCell (ad B.b 7 ab) (I m)) B M m R:=by
 obtain⟨V,T,d,h⟩:=h;exact⟨V,T,d,h.set 10 (r':=ay.bc B.b (hA B V T m,82)) rfl ((Keeps.refl (λj=>j=B.b) w).setCell (p:=ad B.b 7 ab) rfl _) (λ_ _ e=>e) (by have:=bV (h.at' 10 rfl) 7 (I m);rw[RP]at this;exact this) (λ_ e=>.inl e)⟩
def cu.bc(h:cu w B M mv R):∃ V T,w.heap[B.b]?=some (ae (hA B V T mv) 82 (0,0)):=by
 obtain⟨V,T,d,h⟩:=h;exact⟨V,T,h.at' 10 rfl⟩
def Rq(b:J)(bg:aa)(a:¬ (0<=bg/\bg<2))(w:ai):aA 36 #[b,I bg] w λe w'=>e=.returned (.pointer none)/\w=w':=by
 by_cases h1:bg<0
 .go_in
  go_wp2;go_ret;exact⟨rfl,rfl⟩
 have h2:2<=bg:=U
 go_in
 go_wp2;go_ret;exact⟨rfl,rfl⟩
def Rf(h:cu w B M mv R)(bu bg i at' bH bz:aa)(t:¬ (0<=bg/\bg<2)\/bu<1\/6<bu):aA 10 #[B.b,aQ #[I bu,I bg,I i,I at',aF bH,aF bz]] w (j0 B M (wrap64 (mv+1)) [] 1 R):=by
 have q:(w.alloc (ae #[I bu,I bg,I i,I at',aF bH,aF bz] 40)).heap.size=w.heap.size+1:=aK;have h2:=(h.push (r:=ay.bc w.heap.size (#[I bu,I bg,I i,I at',aF bH,aF bz],40)) ((ba w).alloc (ae #[I bu,I bg,I i,I at',aF bH,aF bz] 40)) (aX w _) (λj a=>gD (jT a))).push (r:=ay.bc (w.heap.size+1) (cd,35)) ((ba (w.alloc (ae #[I bu,I bg,I i,I at',aF bH,aF bz] 40))).alloc (ae cd 35)) s3 (λj a=>s0);have⟨V,T,aj⟩:=h2.bc;have c5:=yi aj;have u:=bI aj;have d:=h2.y4 (wrap64 (mv+1));have g:=af d
 go_in
 go_upto_region 4 with fail
 generalize World.setCell (World.alloc (World.alloc w _) _) _ _=ao at *;have z:=aS (g.o.res (r:=ay.bc w.heap.size (#[I bu,I bg,I i,I at',aF bH,aF bz],40)) aK);have d:=g.o;by_cases m:0<=bg/\bg<2
 .have⟨k,hk⟩:=l2 m.1;have s:k<2:=U;subst hk;have f:=af (tH B.b s ao);by_cases x:bu<1
  .go_wp2_with fail;refine bA f.o ?_;have c:=(d).res (r:=ay.bc (w.heap.size+1) (cd,35)) aK;have g0:=bI c;have n:=aS c;have l:=af (jH c (aq none 0 0) (aq none 0 0) (.bool false));have p:=af (((cu.drop (L:=[]) d (jP ao (w.heap.size+1) (aq none 0 0) (aq none 0 0) (.bool false))).drop (L:=[]) (Keeps.refl (λj=>j=w) _)).void);go_wp2_with fail;have e:=dx _ _ _ _ l.o 3 rfl;refine dq (v:=aV #[aQ cd,I 1]) e ?_;exact⟨_,_,_,_,_,rfl,p.o⟩
  have y:6<bu:=by have:=t;omega
  go_wp2_with fail;refine bA f.o ?_;have c:=(d).res (r:=ay.bc (w.heap.size+1) (cd,35)) aK;have g0:=bI c;have n:=aS c;have l:=af (jH c (aq none 0 0) (aq none 0 0) (.bool false));go_wp2_with fail;have e:=dx _ _ _ _ l.o 3 rfl;refine dq (v:=aV #[aQ cd,I 1]) e ?_;exact⟨_,_,_,_,_,rfl,((((cu.drop (L:=[]) g.o (jP ao (w.heap.size+1) (aq none 0 0) (aq none 0 0) (.bool false))).drop (L:=[]) (Keeps.refl (λj=>j=w) _)).void))⟩
 have f:=af (Rq B.b bg m ao);go_wp2_with fail;refine bA f.o ?_;have c:=(d).res (r:=ay.bc (w.heap.size+1) (cd,35)) aK;have g0:=bI c;have n:=aS c;go_wp2_with fail;have e:=dx _ _ _ _ ((jH c (aq none 0 0) (aq none 0 0) (.bool false))) 3 rfl;refine dq (v:=aV #[aQ cd,I 1]) e ?_;exact⟨_,_,_,_,_,rfl,((((cu.drop (L:=[]) d (jP ao (w.heap.size+1) (aq none 0 0) (aq none 0 0) (.bool false))).drop (L:=[]) (Keeps.refl (λj=>j=w) _)).void))⟩
def Hf(h:cu w B M mv R)(hk:k<2)(i at' bH bz:aa)(eK:dX)(cW:ah ca)(b0:aa)(bu bg:aa)(x:bu=1)(y:bg=k)(aT:∀ W R,cu W B M (wrap64 (mv+1)) R->aA 37 #[B.b,I bg,aF bz] W (j0 B eK (wrap64 (mv+1)) cW b0 R)):aA 10 #[B.b,aQ #[I bu,I bg,I i,I at',aF bH,aF bz]] w (j0 B eK (wrap64 (mv+1)) cW b0 R):=by
 have G:(bu == 1)=true:=by rw[x];rfl
 have N:¬ bu<1:=U;have qY:¬ 6<bu:=U;have z:=af aT;have D:=af hk;have E:=af y;clear aT hk x y;have q:(w.alloc (ae #[I bu,I bg,I i,I at',aF bH,aF bz] 40)).heap.size=w.heap.size+1:=aK;have h2:=(h.push (r:=ay.bc w.heap.size (#[I bu,I bg,I i,I at',aF bH,aF bz],40)) ((ba w).alloc (ae #[I bu,I bg,I i,I at',aF bH,aF bz] 40)) (aX w _) (λj a=>gD (jT a))).push (r:=ay.bc (w.heap.size+1) (cd,35)) ((ba (w.alloc (ae #[I bu,I bg,I i,I at',aF bH,aF bz] 40))).alloc (ae cd 35)) s3 (λj a=>s0);have⟨V,T,aj⟩:=h2.bc;have c5:=yi aj;have H:=bI aj;have K:=bP aj;have d:=h2.y4 (wrap64 (mv+1));have t:=af d
 go_in
 go_upto_region 4 with fail
 generalize World.setCell (World.alloc (World.alloc w _) _) _ _=ao at *;have O:=aS (t.o.res (r:=ay.bc w.heap.size (#[I bu,I bg,I i,I at',aF bH,aF bz],40)) aK);have u:=af (tH B.b D.o ao);rw[<-E.o]at u;have C:=af (z.o ao _ t.o);go_wp2_with fail;refine bA u.o ?_;go_wp2_with fail;refine C.o.mono ?_;rintro e bm ⟨s,A,n,c,m,rfl,d⟩;obtain⟨f,l,g,rfl⟩:∃ f l g,s=aq f l g:=by
  exact NK
 have p:=(d).res (r:=ay.bc (w.heap.size+1) (cd,35)) aK;have g0:=bI p;have P:=aS p;go_wp2_with fail;have F:=dx _ _ _ _ ((jH p (aq f l g) (aq A n c) (.bool m))) 3 rfl;refine dq (v:=aV #[aQ #[aq f l g,aq A n c,.bool m],I b0]) F ?_;exact⟨_,_,_,_,_,rfl,((((cu.drop (L:=[ay.cR (aq f l g) cW]) d (jP bm (w.heap.size+1) (aq f l g) (aq A n c) (.bool m))).drop (L:=[ay.cR (aq f l g) cW]) (Keeps.refl (λj=>j=w) _))))⟩
def Bi(h:cu w B M mv R)(hk:k<2)(i at' bH bz:aa)(eK:dX)(cW:ah ca)(b0:aa)(bu bg:aa)(E:2<=bu/\bu<=5)(x:bg=k)(aT:∀ W R,cu W B M (wrap64 (mv+1)) R->aA 40 #[B.b,aQ #[I bu,I bg,I i,I at',aF bH,aF bz]] W (j0 B eK (wrap64 (mv+1)) cW b0 R)):aA 10 #[B.b,aQ #[I bu,I bg,I i,I at',aF bH,aF bz]] w (j0 B eK (wrap64 (mv+1)) cW b0 R):=by
 have G:(bu == 1)=false:=bT;have H:(bu == 6)=false:=bT;have O:¬ bu<1:=U;have qY:¬ 6<bu:=U;have y:=af aT;have C:=af hk;have D:=af x;clear aT hk E x;have q:(w.alloc (ae #[I bu,I bg,I i,I at',aF bH,aF bz] 40)).heap.size=w.heap.size+1:=aK;have h2:=(h.push (r:=ay.bc w.heap.size (#[I bu,I bg,I i,I at',aF bH,aF bz],40)) ((ba w).alloc (ae #[I bu,I bg,I i,I at',aF bH,aF bz] 40)) (aX w _) (λj a=>gD (jT a))).push (r:=ay.bc (w.heap.size+1) (cd,35)) ((ba (w.alloc (ae #[I bu,I bg,I i,I at',aF bH,aF bz] 40))).alloc (ae cd 35)) s3 (λj a=>s0);have⟨V,T,aj⟩:=h2.bc;have c5:=yi aj;have K:=bI aj;have N:=bP aj;have d:=h2.y4 (wrap64 (mv+1));have t:=af d
 go_in
 go_upto_region 4 with fail
 generalize World.setCell (World.alloc (World.alloc w _) _) _ _=ao at *;have P:=aS (t.o.res (r:=ay.bc w.heap.size (#[I bu,I bg,I i,I at',aF bH,aF bz],40)) aK);have u:=af (tH B.b C.o ao);rw[<-D.o]at u;have z:=af (y.o ao _ t.o);go_wp2_with fail;refine bA u.o ?_;go_wp2_with fail;refine z.o.mono ?_;rintro e bm ⟨s,A,n,c,m,rfl,d⟩;obtain⟨f,l,g,rfl⟩:∃ f l g,s=aq f l g:=by
  exact NK
 have p:=(d).res (r:=ay.bc (w.heap.size+1) (cd,35)) aK;have g0:=bI p;have Q:=aS p;go_wp2_with fail;have F:=dx _ _ _ _ ((jH p (aq f l g) (aq A n c) (.bool m))) 3 rfl;refine dq (v:=aV #[aQ #[aq f l g,aq A n c,.bool m],I b0]) F ?_;exact⟨_,_,_,_,_,rfl,((((cu.drop (L:=[ay.cR (aq f l g) cW]) d (jP bm (w.heap.size+1) (aq f l g) (aq A n c) (.bool m))).drop (L:=[ay.cR (aq f l g) cW]) (Keeps.refl (λj=>j=w) _))))⟩
end Go.Proofs.YtalagblioepadaaGreatDoor
