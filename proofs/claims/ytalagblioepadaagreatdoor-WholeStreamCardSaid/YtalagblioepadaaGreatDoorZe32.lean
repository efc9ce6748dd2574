/- The proof, part 32. -/
import Derived.Test.YtalagblioepadaaGreatDoorZe31
namespace Go.Proofs.YtalagblioepadaaGreatDoor
set_option linter.all false
open Proofs.Tryz List Go.RowKit Go.Maps
set_option maxRecDepth 100000
set_option maxHeartbeats 2000000
variable{ww:Prop}
def ve(h:ww:=by have Q':j=w.heap.size+1:=Q';omega):=h
def CN(h:ww:=by have:=((λj (a:iG B.c j)=>h.lt (r:=aC.ij B.c M.cs) (mK (i:=11) rfl) a)) _ e;omega):=h
variable{arr:a6 ay}{t:cl}{r:U}{l:ai cq}{m:ba}{j:J}{bk us:J->J->U}{fu:Old}{s s':ch}
def Af(n d w:J)(se:U)(M:fj)(k:J)(s':ch):ae:=(∃ F us A,vE (n+1) d w se {M with p:=b' M.p k s'} k F us A)/\b1 (M.p k)<=b1 s'
def Mu{n d w:J}{se:U}{M:fj}(h:gi n d w se M)(aw:n<=400){k:J}(hk:k<2){t:ai aR}(aW:(∃ m,t=ec m/\j5 (w+d) (M.fo (1-k)) (b1 (M.p (1-k))) m)\/(gG t).2≠0):Af n d w se M k (ek t (M.p k)).1:=by
 refine Wz;have same:∀ (l':cj) (cV:J),fC (n+1) k (M.fo k) (b1 (M.p k)) cV l'->A<=cV->cV<=b1 (M.p (1-k))->((M.p k).cn=false->l'.state≠2)->Af n d w se M k {M.p k with aJ:=l'}:=λl' cV hd Q' v aA=>by
  refine⟨⟨F,us,cV,?_⟩,dm _⟩;exact⟨by rw[a];exact b.same rfl rfl rfl,by rw[a];exact r,by rw[a];exact hd,by rw[a];exact g,by rw[a];exact u,by rw[Q];exact v,by rw[a];exact cu z I,by rw[a];exact q,by rw[a];exact j,by rw[a];exact bS,by rw[a];exact y,by rw[a];exact aA,HY⟩
 by_cases aT:(M.p k).cn=true
 .have e:ek t (M.p k)=(M.p k,[]):=by unfold ek;rw[aD aT]
  rw[e];exact same (M.p k).aJ A o.up bu P K
 refine DH;have TS:d<=8/\w<=16:=by have:=b.ot;rw[j,bS]at this;omega
 have a':=b.db;have gf:=b.ry;rw[j,g]at a';rw[bS]at gf;have⟨zp,ajR,zd,bP,bB,e3,e4,hA,eI,dv,gQ,fY,D,d2,d3,d4⟩:=h.ps (1-k) ys;have fr:=bP.db;have N:=bP.ry;rw[fY,e4]at fr;refine ed;rw[bK]at hA eI;have⟨⟨T',cV,G,i2,i3,i4,i5,i6,i7,s,i9⟩,W'⟩:=(o.Ba I (M.fo (1-k)) u I (Tq:=b1 (M.p (1-k))) (c:=w+d) hA aW);have v:cV<=b1 (M.p (1-k)):=I;by_cases l:(cX (M.p k).aJ t).2.1≠0
 .have e:ek t (M.p k)=({M.p k with aJ:=(cX (M.p k).aJ t).2.2},[]):=by
   unfold ek;rw[az (show ¬ (M.p k).cn=true by rw[aT];simp),aD l]
  rw[(i7 l)]at s;have g':T'=b1 (M.p k):=by
   have:=c6 length s
   exact Rr
  rw[g']at G;rw[e];refine same _ cV G i4 v λ_=>?_
  -- an error leaves the state
  have aA:=K aT;unfold cX;rw[az aA];by_cases T:(gG t).2≠0
  .rw[aD T];exact aA
  exfalso;apply l;unfold cX;rw[az aA,az T];split<;>rfl
 have l:(cX (M.p k).aJ t).2.1=0:=by simpa using l
 have e:ek t (M.p k)=gy (hD (cX (M.p k).aJ t).1 {M.p k with x:=gz (M.p k).x (cX (M.p k).aJ t).1.bm,aJ:=(cX (M.p k).aJ t).2.2}):=by
  unfold ek;rw[az (show ¬ (M.p k).cn=true by rw[aT];simp),az (λc=>c l)]
 generalize cX (M.p k).aJ t=H at *;have V':H.1.bm.length=T'-b1 (M.p k):=by rw[s];simp;omega
 have S:∀ i x,H.1.bm[i]?=some x->(M.fo (1-k))[b1 (M.p k)+i]?=some x:=λi x ak=>by
  exact T2
 have⟨mv,m',r',V,sd,ajV,vl,vs⟩:=ck.Bc H.1.bm b I (λi x ak=>by
  rw[q];unfold gn;rw[n9,S i x ak];rfl) (λx ak=>by
  obtain⟨i,av,rfl⟩:=zo.1 ak;exact h.oF (1-k) _ (mK (S i _ (gW av))))
 obtain⟨s1,B⟩:∃ s1:ch,s1={M.p k with x:=gz (M.p k).x H.1.bm,aJ:=H.2.2}:=⟨_,rfl⟩;rw[<-B]at e;have h2:ck s1 F (gn M.fo) us:=by rw[B];exact mv.same rfl rfl rfl
 have⟨v',w',ajS,ajT⟩:=Mq H.1 s1;have⟨g1,E,X,Y,Z,L⟩:=A5 (hD H.1 s1);rw[<-e]at g1 E X Y Z L;have f:(ek t (M.p k)).1.x=gz (M.p k).x H.1.bm:=by rw[g1,v',B]
 have lb:(ek t (M.p k)).1.aJ=H.2.2:=by rw[E,w',B]
 have C:b1 (ek t (M.p k)).1=T':=by
  unfold b1 at *;rw[f,m'];omega
 have m9:dp (ek t (M.p k)).1=dp (M.p k):=by
  unfold dp at *;rw[f,r']
 refine⟨⟨F,us,cV,?_⟩,by rw[C];exact i2⟩;refine⟨?_,by rw[a,f,V];exact r,by rw[a,lb,C];exact G,by rw[a,m9];exact g,by rw[a,C];exact i3,by rw[Q];exact v,by rw[a,C];omega,by rw[a,f,sd];exact q,by rw[a,f,ajV];exact j,by rw[a,f,vl];exact bS,by rw[a,f,vs];exact y,λc=>?_,by rw[a,f,V];omega⟩
 .rw[a,e];exact(h2.hD H.1).gone
 rw[a]at c⊢;rw[E];exact(L c).1
def ab5{n d w:J}{se:U}{M:fj}(h:gi n d w se M){k:J}(hk:k<2):Af n d w se M k (hF (M.p k)).1:=by
 refine Wz;by_cases aT:(M.p k).cn=true
 .have e:hF (M.p k)=(M.p k,[]):=by unfold hF;rw[aD aT]
  rw[e];refine⟨⟨F,us,A,?_⟩,dm _⟩;exact⟨by rw[a];exact b,by rw[a];exact r,by rw[a];exact o.up,by rw[a];exact g,by rw[a];exact u,C5,by rw[a];exact z,by rw[a];exact q,by rw[a];exact j,by rw[a];exact bS,by rw[a];exact y,by rw[a];exact K,HY⟩
 refine DH;have e:hF (M.p k)=hC 12 ({M.p k with aJ:=oo (M.p k).aJ},[]):=by unfold hF;rw[az (show ¬ (M.p k).cn=true by rw[aT];simp)]
 have⟨g1,l,B,C,N,m,D,E,G⟩:=tU 12 ({M.p k with aJ:=oo (M.p k).aJ},[]);rw[<-e]at g1 l B C m D E G;have f:(hF (M.p k)).1.x=(M.p k).x:=g1;have i:b1 (hF (M.p k)).1=b1 (M.p k):=by unfold b1;rw[f]
 have L:dp (hF (M.p k)).1=dp (M.p k):=by unfold dp;rw[f]
 have H:fC (n+1) k (M.fo k) (b1 (M.p k)) A (oo (M.p k).aJ):=by
  unfold oo;split
  .exact o.up
  obtain⟨b,r,o,g,u,P,z,q,j,bS,y,K,W,t,v⟩:=o.up;exact⟨b,r,.inr (.inr rfl),g,u,P,z,q,j,bS,y,K,W,t,v⟩
 refine⟨⟨F,us,A,?_⟩,by rw[i];exact dm _⟩;refine⟨?_,by rw[a,f];exact r,by rw[a,l,i];exact H,by rw[a,L];exact g,by rw[a,i];exact u,C5,by rw[a,i];exact z,by rw[a,f];exact q,by rw[a,f];exact j,by rw[a,f];exact bS,by rw[a,f];exact y,λc=>?_,by rw[a,f];omega⟩
 .rw[a,e];exact ck.halt (s:={M.p k with aJ:=oo (M.p k).aJ}) (b.same rfl rfl rfl) 12 []
 rw[a,m]at c;cases c
def gi.goes{n d w:J}{se:U}{M:fj}(h:gi n d w se M){k:J}(hk:k<2)(a7:Af n d w se M k s')(e:J->ai cq)(a:dd)(an:∀ j:J,(∀ t∈a.get j,t∈M.cs.get j)/\(a.get j).length<=(M.cs.get j).length)(l:M.cs.lost<=a.lost/\a.lost<=M.cs.lost+1):gi (n+1) d w se {p:=b' M.p k s',fo:=M.fo,st:=e,cs:=a}:=by
 have⟨c,bK,i,o⟩:=two hk;have⟨⟨F,us,A,av⟩,f⟩:=a7;have aW:∀ j,b1 (M.p j)<=b1 (b' M.p k s' j):=λj=>by
  unfold b';split
  .subst j;exact f
  exact dm _
 refine⟨λj b=>?_,h.oF,λj b t g=>?_,λj=>cu (an j).2 (h.wy j),?_⟩
 .have:j=k\/j=1-k:=I
  rcases this with rfl|rfl
  .exact⟨F,us,A,av.1,av.2,av.3,av.4,av.5,av.6,av.7,av.8,av.9,av.10,av.11,av.12,av.13⟩
  obtain⟨F,us,A,av⟩:=h.ps (1-k) c;exact⟨F,us,A,av.cC c I (jD _ _ i) rfl h.oF (zq _) (aW _)⟩
 .have⟨m,h1,h2⟩:=h.yf j b t ((an j).1 t g);exact⟨m,h1,h2.mono (zq _) (aW _)⟩
 exact Vq
variable{w w':aj}
structure k8 where
 o:Old
 b:J
 c:J
 p:J->hg
def iS(B:k8)(V T:J->ay)(mv:U):a6 ay:=#[.pointer (some (eo ((B.p 0).p) 0 db)),V 0,T 0,.pointer (some (eo ((B.p 1).p) 0 db)),V 1,T 1,B.c,aa mv]
def nG(l:ai aR):ai ay:=l.map λx=>bf (x.toNat:U)
def aC.ij(c:J)(s:dd):aC where
 S:=iG c
 P w:=fK w c 64 s
 lt h al:=by
  have h1:=h.oK.le.2.2.2.1;unfold iG at al;omega
 frame h hk aA:=h.keeps hk aA
def aC.row(v:ay)(l:ai aR):aC where
 S j:=v.ownBlock=some j
 P w:=w.ownsRow 0 5 1 v l.length (nG l)
 lt h a:=qA h a
 frame h hk aA:=b7 h hk aA
def nE(k:J)(B:k8)(M:fj)(V T:J->ay)(mv:U)(d:J->hQ):ai aC:=aC.kinds B.o :: aC.bh B.b (iS B V T mv,82) :: aC.ij B.c M.cs :: aC.row (V k) (M.fo k) :: aC.dn (T k) (M.st k) :: aC.row (V (1-k)) (M.fo (1-k)) :: aC.dn (T (1-k)) (M.st (1-k)) :: bO (B.p (1-k)) (M.p (1-k)) (d (1-k))
def mW(k:J)(B:k8)(M:fj)(V T:J->ay)(mv:U)(d:J->hQ)(R:ai aC):ai aC:=bO (B.p k) (M.p k) (d k)++(nE k B M V T mv d++R)
def cy(w:aj)(B:k8)(M:fj)(mv:U)(R:ai aC):ae:=∃ V T d,Sep w (mW 0 B M V T mv d R)
section
variable{k:J}{B:k8}{M:fj}{V T:J->ay}{mv:U}{d:J->hQ}{R:ai aC}
def NI(A C R:ai aC)(x y z p q r s:aC):(A++((x :: y :: z :: p :: q :: r :: s :: C)++R)).Perm (C++((x :: y :: z :: r :: s :: p :: q :: A)++R)):=by
 have h2:=p3 C [x,y,z,r,s,p,q] (A++R);have a:=((perm_append_comm (l₁:=[p,q]) (l₂:=[r,s])).cons z |>.cons y |>.cons x);exact(p3 A [x,y,z,p,q,r,s] (C++R)).trans ((a.append (p3 A C R)).trans h2.symm)
def XA(h:Sep w (mW 0 B M V T mv d R)):Sep w (mW 1 B M V T mv d R):=h.perm (NI _ _ _ _ _ _ _ _ _ _)
def XB(h:Sep w (mW 1 B M V T mv d R)):Sep w (mW 0 B M V T mv d R):=h.perm (NI _ _ _ _ _ _ _ _ _ _)
def cy.view(h:cy w B M mv R)(hk:k<2):∃ V T d,Sep w (mW k B M V T mv d R):=by
 refine p_;refine oc;rcases this with rfl|rfl
 .exact⟨V,T,d,h⟩
 exact⟨V,T,d,XA h⟩
def cy.of(hk:k<2)(h:Sep w (mW k B M V T mv d R)):cy w B M mv R:=by
 refine oc;rcases this with rfl|rfl
 .exact⟨V,T,d,h⟩
 exact⟨V,T,d,XB h⟩
theorem cy.keep(h:cy w B M mv R)(hk:ag aH w w'):cy w' B M mv R:=by
 refine p_;exact⟨V,T,d,h.keep hk⟩
def cy.push(h:cy w B M mv R){r:aC}(hk:ag aH w w')(c:r.P w')(ax:∀ b,r.S b->w.heap.size<=b):cy w' B M mv (r :: R):=by
 refine p_;exact⟨V,T,d,Sep.perm (h.cons hk (λ_ _ _ _ e=>e) c ax) (qR (l₁:=bO (B.p 0) (M.p 0) (d 0)++nE 0 B M V T mv d) (l₂:=R) (a:=r)).symm⟩
section
variable(al:w.heap[B.b]?=some (ab (iS B V T mv) 82 (0,0)))
include al
theorem ri(hk:k<2):w.cell? (ah B.b (k*3))=some (bM ((B.p k).p)):=by
 exact Vy
theorem E'(hk:k<2):w.cell? (ah B.b (k*3+1))=some (V k):=by
 exact Vy
theorem wm:w.cell? (ah B.b 6)=some (bM B.c):=bb al rfl
theorem A9:w.cell? (ah B.b 7)=some (aa mv):=bb al rfl
end
def A8(hk:k<2):(iS B V T mv)[k*3+2]?=some (T k):=by
 exact IW
def Fa(hk:k<2)(t:ay):(iS B V T mv).setIfInBounds (k*3+2) t=iS B V (b' T k t) mv:=by
 exact VJ
def aa8(hk:k<2)(t:ay):(iS B V T mv).setIfInBounds (k*3+1) t=iS B (b' V k t) T mv:=by
 exact VJ
def aa7(m:U):(iS B V T mv).setIfInBounds 7 (aa m)=iS B V T m:=by simp[iS]
end
def MM:dI []=[]:=rfl
def MO(l:ai cq)(c:cq):dI (l++[c])=if c.bq=4 then dI l++[c]else dI l:=by
 unfold dI;rw[rZ];by_cases h:c.bq=4
 .rw[aD h];simp[h]
 rw[az h];simp[h]
def agM{i:J}{v:ay}(h:arr[i]?=some v):arr.setIfInBounds i v=arr:=by
 have⟨h1,h2⟩:=mI.1 h;refine Array.ext aM λj a b=>?_;rw[Array.getElem_setIfInBounds];split
 .rename_i e;subst e;exact h2.symm
 rfl
def Gf{b6 off:J}{ty:TypeId}{f ajT sd:ay}{st:ai cq}{L:ai aC}{m:aY}(an:arr[off+2]?=some f)(h:Sep w (aC.dn ajT l :: aC.bh b6 (arr,ty) :: aC.dn f st :: L))(D:st.length+l.length<=100000):aB 39 #[.pointer (dk b6 off),aG #[ajT,sd,.bool m]] w λe w'=>e=aV #[]/\∃ T',Sep w' (aC.dn ajT l :: aC.bh b6 (arr.setIfInBounds (off+2) T',ty) :: aC.dn T' (st++dI l) :: L):=by
 obtain⟨A,cap,rfl,_,_⟩:=dA (show w.ownsRow 0 47 12 ajT l.length (eY l)from h.at' 0 rfl);have zp:Sep w (aC.dn (au A l.length cap) l :: aC.bh b6 (arr.setIfInBounds (off+2) f,ty) :: aC.dn f (st++dI []) :: L):=by
  rw[agM an,MM,gq];exact h
 have d:=bN zp (bx D (show off+2<arr.size from(mI.1 an).1))
 go_in
 go_wp2_with fail;go_loopg [9] l.length (λg i wr=>∃ pre rest:ai cq,l=pre++rest/\g=rest.length/\i=aa pre.length/\∃ T',Sep wr (aC.dn (au A l.length cap) l :: aC.bh b6 (arr.setIfInBounds (off+2) T',ty) :: aC.dn T' (st++dI pre) :: L))
 case atStart=>exact⟨[],l,rfl,rfl,rfl,f,((d.o.1.alloc (ab #[au A l.length cap,sd,.bool m] 35)))⟩
 obtain⟨pre,rest,y,a7,rfl,T',F⟩:=hrel;cases rest with
 | nil=>
  obtain rfl:l=pre:=by rw[y,gq]
  refine zU;go_end0;exact⟨rfl,T',G.o⟩
 | cons c rest=>
  have ys:pre.length<l.length:=by rw[y];simp
  have X:l[pre.length]=c:=by simp[y]
  have ajR:l.length<=100000:=by have:=d.o.2.1;omega
  have fo:l=(pre++[c])++rest:=by rw[y];simp
  refine xO;have T:=F.at' 0 rfl;refine Wc;obtain⟨bD,B⟩:=c8 wr.heap.size;rw[<-B]at V;have Tq:=aX V;have ak:=F.keep Y;have W':(dI pre).length<=pre.length:=oZ _ _;rw[<-B]at e2 N;generalize wr.alloc _=ajS at e2 N;by_cases k:c.bq=4
  .have vs:(c.bq == 4)=true:=by rw[k];rfl
   have l':∀ q∈(aC.dn (au (bT r) l.length cap) l :: aC.bh b6 (arr.setIfInBounds (off+2) T',ty) :: aC.dn T' (st++dI pre) :: L),¬ q.S bD:=λq Q' Z=>by have:=F.lt Q' Z;omega
   have hd:T'.ownBlock≠some bD:=λe=>l' (aC.dn T' (st++dI pre)) aM e;have h2:∀ j,T'.ownBlock=some j->j≠b6:=λj e s'=>ak.tL (i:=2) (j:=1) rfl rfl I j e s';have R:=ak.drew 1;have ps:a.drew.cell? (ah b6 (off+2))=some T':=bb (show a.drew.heap[b6]?=some (ab (arr.setIfInBounds (off+2) T') ty (0,0))from R.at' 1 rfl) (by simp[d.o.2.2]);have g':a.drew.heap[bD]?=some (ab (dL c) 47 (0,0)):=V
   have u:Sep (a.drew.alloc (ab (dL c) 47)) (aC.dn (au (bT a) 1 1) [c] :: aC.dn (au (bT r) l.length cap) l :: aC.bh b6 (arr.setIfInBounds (off+2) T',ty) :: aC.dn T' (st++dI pre) :: L):=
    R.cons (r:=aC.dn (au (bT a) 1 1) [c]) ((bd a.drew).alloc (ab (dL c) 47)) (λ_ _ _ _ e=>e) ⟨by simp[eY,cq.bC,dL],.inr ⟨a,1,dL c,rfl,c3 _,aP a.drew _,dm _,by simp[maxLen],rfl,by simp[eY,cq.bC,dL]⟩⟩ (λj Z=>by cases Z;exact dm _)
   obtain⟨v',b,s,gf,a',lb⟩:=KN (v:=T') (vl:=au (bT a) 1 1) (cs:=st++dI pre) (l:=[c]) 32 (u.at' 3 rfl) (u.at' 0 rfl) (by have:=d.o.2.1;simp;omega);have n:=u.set 3 (r':=aC.dn v' ((st++dI pre)++[c])) rfl a' (λ_ _ e=>e) gf lb;have n:Sep b (aC.dn (au (bT a) 1 1) [c] :: aC.dn (au (bT r) l.length cap) l :: aC.bh b6 (arr.setIfInBounds (off+2) T',ty) :: aC.dn v' ((st++dI pre)++[c]) :: L):=n;have z:b.heap[b6]?=some (ab (arr.setIfInBounds (off+2) T') ty (0,0)):=n.at' 2 rfl;have dv:b.cell? (ah b6 (off+2))=some T':=bb z (by simp[d.o.2.2]);have f7:=gY z (off+2)
   have mv:=n.set 2 (r':=aC.bh b6 (arr.setIfInBounds (off+2) v',ty)) rfl ((ag.refl (λj=>j=b6) b).setCell (p:=ah b6 (off+2)) rfl v') (λ_ _ e=>e) (by
    have:=bX z (off+2) v'
    rw[Array.setIfInBounds_setIfInBounds]at this;exact this) (λ_ e=>.inl e)
   have mv:Sep (b.setCell (ah b6 (off+2)) v') (aC.dn (au (bT r) l.length cap) l :: aC.bh b6 (arr.setIfInBounds (off+2) v',ty) :: aC.dn v' (st++dI (pre++[c])) :: L):=by
    rw[MO,aD k,<-eh];exact Sep.tail mv
   have M:∀ W,(∃ x:ie (λj=>T'.ownBlock=some j) a.drew,W=x.to)->(Instr.loadAt 47 bD).run prog W=.ok (.agg (dL c)) W:=λW ⟨x,y⟩=>by
    rw[y];exact M8 (x.keeps.heap g' hd)
   have bR:∀ x:ie (λj=>T'.ownBlock=some j) a.drew,_:=lQ (S:=λj=>T'.ownBlock=some j) (w:=a.drew) ps (λe=>h2 _ e rfl);have t:ag (λj=>T'.ownBlock=some j) a.drew (a.alloc (ab (dL c) 47)).drew:=(ag.refl (λj=>T'.ownBlock=some j) a.drew).alloc (ab (dL c) 47);have s:(Builtin.append_ #[32,32] 32 #[T',au (bT a) 1 1]).run prog (a.alloc (ab (dL c) 47)).drew=.ok v' b:=s;obtain⟨V',TS,H,_,_⟩:=dA gf;obtain⟨n7,se⟩:=c8 ((st++dI pre)++[c]).length;rw[<-se]at H;refine p9;have fr:ag (λj=>T'.ownBlock=some j) (a.alloc (ab (dL c) 47)).drew b:=a';clear F T y a7 X fo V Y zd B ak R ps g' u n mv z gf a' lb l' hd h2 se k;go_upto_region 5 with(first|((with_reducible refine dg D rfl rfl ?_ ?_);exact rfl)|((with_reducible refine eL e2 rfl rfl ?_))|((with_reducible refine c' N rfl rfl ?_ ?_ ?_);exact rfl;exact rfl)|fail)
   clear D e2 N Tq;refine cS 11 ?_;refine rq (λj=>T'.ownBlock=some j) (.range 6) [6,7] 3 ?_;refine Db;simp only[dL]at t s fr;refine iU λK E=>?_;simp only[dL];go_simp;refine DP;refine lU λK E=>?_;refine Lib.wp_append_run _ (.tmp 20) (.tmp 22) 32 32 rfl _ _ rfl rfl _ _ s ?_;refine E _ _ (dB (t.trans fr)) ?_;clear E K;clear bR M t s fr;rw[H];rw[H]at Q;refine xS;refine hU (λ_=>False) [8,9] [] 1 (mx ?_);refine cJ (qb) [10] 0 1 ?_;refine iV 10 (nD _) ?_;clear dv f7 H;refine aK;go_roundg rest.length
   case measure=>omega
   exact⟨pre++[c],rest,Q.o.1,rfl,tp,_,Q.o.2⟩
  have vs:(c.bq == 4)=false:=by simpa using k
  have Q:=bN fo ak;have C:dI (pre++[c])=dI pre:=by rw[MO,az k]
  refine dU;clear F T y a7 X fo V Y zd B ak C;go_wp2_with first|((with_reducible refine dg D rfl rfl ?_ ?_);exact rfl)|(with_reducible refine eL e2 rfl rfl ?_)|((with_reducible refine c' N rfl rfl ?_ ?_ ?_);exact rfl;exact rfl)
  go_roundg rest.length
  case measure=>omega
  exact⟨pre++[c],rest,Q.o.1,rfl,tp,T',by rw[m'.o];exact Q.o.2⟩
variable{k:J}{B:k8}{M:fj}{V T:J->ay}{mv:U}{d:J->hQ}{R:ai aC}
theorem ad1(x c y z b e r t:aC):([x,c,y,z,b,e,r,t]:ai aC).Perm [c,b,t,x,y,z,e,r]:=
 (show([0,1,2,3,4,5,6,7]:ai J).Perm [1,4,7,0,2,3,5,6]by decide).map λi=>[x,c,y,z,b,e,r,t].getD i x
def FM(A D:ai aC)(x c y z b e r t:aC):(A++x :: c :: y :: z :: b :: e :: r :: t :: D).Perm (c :: b :: t :: (A++x :: y :: z :: e :: r :: D)):=by
 have h2:=(((p3 A [x,y,z,e,r] D).cons t).cons b).cons c;exact(p3 A [x,c,y,z,b,e,r,t] D).trans (((ad1 x c y z b e r t).append_right (A++D)).trans h2.symm)
theorem ad2(c b t x y z e r q:aC):([c,b,t,x,y,z,e,r,q]:ai aC).Perm [x,y,q,z,b,e,r,t,c]:=
 (show([0,1,2,3,4,5,6,7,8]:ai J).Perm [3,4,8,5,1,6,7,2,0]by decide).map λi=>[c,b,t,x,y,z,e,r,q].getD i x
def FN(A C R:ai aC)(c b t x y z e r q:aC):(c :: b :: t :: (A++x :: y :: z :: e :: r :: (C++q :: R))).Perm (x :: y :: q :: (A++((z :: b :: e :: r :: t :: C)++c :: R))):=by
 have h1:(c :: b :: t :: (A++x :: y :: z :: e :: r :: (C++q :: R))).Perm ([c,b,t,x,y,z,e,r,q]++(A++(C++R))):=by
  have a:(A++x :: y :: z :: e :: r :: (C++q :: R)).Perm ([x,y,z,e,r]++(A++(C++q :: R))):=p3 A [x,y,z,e,r] _;have d:(A++(C++q :: R)).Perm (q :: (A++(C++R))):=by
   rw[<-eh,<-eh];exact qR
  exact(((a.trans (d.append_left [x,y,z,e,r])).cons t).cons b).cons c
 have h2:(x :: y :: q :: (A++((z :: b :: e :: r :: t :: C)++c :: R))).Perm ([x,y,q,z,b,e,r,t,c]++(A++(C++R))):=by
  have a:(A++((z :: b :: e :: r :: t :: C)++c :: R)).Perm ([z,b,e,r,t]++(A++(C++c :: R))):=p3 A [z,b,e,r,t] _;have d:(A++(C++c :: R)).Perm (c :: (A++(C++R))):=by
   rw[<-eh,<-eh];exact qR
  exact(((a.trans (d.append_left [z,b,e,r,t])).cons q).cons y).cons x
 exact h1.trans (((ad2 c b t x y z e r q).append_right (A++(C++R))).trans h2.symm)
def k9(B:k8)(hv:fj)(mv:U)(cs:ai cq)(ca:U)(R:ai aC)(e:Ending)(w':aj):ae:=
 ∃ a A n c m,e=aV #[aG #[a,au A n c,.bool m],aa ca]/\cy w' B hv mv (aC.dn a cs :: R)
def agF(cs:dd)(g:U)(t:cl):cs.lost<=(iK cs 64 g t).lost/\(iK cs 64 g t).lost<=cs.lost+1:=by
 unfold iK dd.put;split
 .split
  .split<;>exact⟨aM,xp⟩
  exact⟨xp,aM⟩
 exact⟨kA _,I⟩
theorem OR(g:U):∀ (a:ai ba) (cs:dd),cs.lost<=(hL cs g a).lost/\(hL cs g a).lost<=cs.lost+a.length
 | [],cs=>⟨kA _,by simp[hL]⟩
 | m :: r,cs=>by
  have h1:=OR g r (iK cs 64 g (dW m));have h2:=agF cs g (dW m);have e:hL cs g (m :: r)=hL (iK cs 64 g (dW m)) g r:=rfl;rw[e,eA];omega
def MA:∃ i,prog.info? 5=some i/\i.zero=some (bf 0)/\i.size=1/\i.bytes=1:=by
 have h:(prog.info? 5).map (λi=>(i.zero,i.size,i.bytes))=some (some (bf 0),1,1):=bc;cases aT:prog.info? 5 with
 | none=>rw[aT]at h;cases h
 | some i=>rw[aT]at h;simp only[r7,jn,mM]at h;exact⟨i,rfl,h⟩
def B4(k:J)(B:k8)(s':ch)(d2:hQ)(x c y:aC)(M:fj)(V T:J->ay)(mv:U)(d:J->hQ)(z:aC)(R:ai aC):ai aC:=bO (B.p k) s' d2++x :: c :: y :: (nE k B M V T mv d++z :: R)
def aaE(h:cy w B M mv R)(hm:k<2)(v:aR)(akc:∀ W d R,aC.kinds B.o∈R->Sep W (bO (B.p k) (M.p k) d++R)->aB 60 #[bM ((B.p k).p),bf v.toNat] W (Am (B.p k) (c2 v (M.p k)).1 (c2 v (M.p k)).2 (f' v (M.p k)) (eF (M.p k)) R))(S:dp (c2 v (M.p k)).1=dp (M.p k)+if eF (M.p k)then 1 else 0)(X:(f' v (M.p k)).length<=100)(w':0<=M.cs.lost/\M.cs.lost<=900000)(akf:∀ m∈f' v (M.p k),(ec m).length<=100000)(hd:(M.fo k).length<=1000)(ake:(M.st k).length+(c2 v (M.p k)).2.length<=100000):aB 37 #[B.b,aa k,bf v.toNat] w (k9 B (hX k v M) mv (c2 v (M.p k)).2 0 R):=by
 obtain⟨V,T,d,h⟩:=(h.push (r:=aC.bh w (ct,35)) ((bd w).alloc (ab ct 35)) (aP w (ab ct 35)) (λj z=>hO (k0 z))).view hm;have Z:=ri (h.at' 10 rfl) hm;have ako:(k:U)<2:=I;have b5:=bN S (bx X (bx w' (bx akf (bx hd ake))));have y:=ad hm
 go_in
 go_wp2_with fail;generalize w.alloc (ab ct 35)=bo at *;refine bJ (A6 h) ?_;go_wp2_with fail;refine aS ((Ek (iE h))) ?_;rintro _ ⟨q,rfl⟩;have h1:=h.drew q;have Z:=ri (h1.at' 10 rfl) y.o;have aj1:=ad (akc _ _ _ (by simp[nE]) h1);generalize bo.drewN q=aq at *;go_wp2_with fail;refine aj1.o.mono ?_;rintro e aF ⟨aj9,A,cap,rfl,d2,h2⟩;obtain⟨n,t,s,rfl⟩:∃ n t s,aj9=au n t s:=by
  obtain⟨a,c,e,_⟩:=dA (show aF.ownsRow 0 47 12 aj9 (c2 v (M.p k)).2.length (eY (c2 v (M.p k)).2)from h2.at' 9 rfl);exact⟨a,_,c,e⟩
 clear aj1 Z;have aj7:=(bd aF).alloc (ab #[au n t s,.slice A (f' v (M.p k)).length cap,(eF (M.p k))] 35);have⟨K,Q'⟩:=c8 aF.heap.size;have ajW:=(h2.cons (r:=aC.bh K (#[au n t s,.slice A (f' v (M.p k)).length cap,(eF (M.p k))],35)) aj7 (λ_ _ _ _=>id) (by rw[Q'];exact aP aF _) (λj z=>by have z:j=K:=z;omega)).jS;have Y:=ad ajW;have ajS:=ad Q';clear h2 aj7 ajW Q';go_upto_region 6 with fail
 rw[<-ajS.o];generalize aF.alloc (ab #[au n t s,.slice A (f' v (M.p k)).length cap,(eF (M.p k))] 35)=br at *;have Z:=ri (Y.o.at' 13 rfl) y.o;have ajY:=ad (A6 Y.o);have aj0:=ad (Ek (iE Y.o));clear ajS;go_wp2_with fail;refine bJ ajY.o ?_;go_wp2_with fail;refine aS aj0.o ?_;rintro _ ⟨aj8,rfl⟩;have gf:=Y.o.drew aj8;clear Y ajY aj0 Z;generalize br.drewN aj8=TS at *;go_upto_if 45 with fail
 go_cut [] (λbE=>∃ fo V,fo=(if eF (M.p k)then b' M.fo k (M.fo k++[v])else M.fo)/\Sep bE (B4 k B (c2 v (M.p k)).1 d2 (aC.bh K (#[au n t s,.slice A (f' v (M.p k)).length cap,(eF (M.p k))],35)) (aC.dn (au n t s) (c2 v (M.p k)).2) (aC.cz A (f' v (M.p k)).length cap (nw (f' v (M.p k)))) {M with fo:=fo} V T mv d (aC.bh w (ct,35)) R))
 case first=>
  have S:=b5.o.1;unfold dp at S;cases hk:eF (M.p k)with
  | true=>
   rw[hk,aD rfl]at S;have akd:(((M.p k).x.f (M.p k).x.aL).next:U)<(((c2 v (M.p k)).1.x.f (c2 v (M.p k)).1.x.aL).next:U):=I;obtain⟨i0,C,akg,akh,aki⟩:=MA;have aj2:=gf.at' 13 rfl;have ci:=E' aj2 y.o;refine dU;have ajT:=ad b5.o.2.2.2.2.1;refine ob;clear C S gf aj2 hk;go_wp2_with (at_builtin;refine G1 _ rfl (.tmp 50) (.tmp 52) _ rfl 0 5 i0 _ 1 1 underlying51 m'.o akg akh aki rfl I _ (M.fo k).length (nG (M.fo k)) rfl (b7 ((show TS.ownsRow 0 5 1 (V k) (M.fo k).length (nG (M.fo k))from g'.o.at' 15 rfl)) ((bd _).alloc _) (λ_ _=>id)) (bT _) 1 1 [bf (v.toNat:U)] rfl (PN _ _ _) p7 (by have:=ajT.o;simp only[maxLen];omega) (by have:=ajT.o;omega) (c3 _) ?_);intro v' aj_ N aj4 aj5;have ajX:=g'.o.alloc (ab #[bf (v.toNat:U)] 5);have akj:(TS.alloc (ab #[bf (v.toNat:U)] 5)).heap.size=TS.heap.size+1:=aM;have D:nG (M.fo k)++[bf (v.toNat:U)]=nG (M.fo k++[v]):=by simp[nG]
   refine ed;have X:(M.fo k).length+1=(M.fo k++[v]).length:=aM;rw[X]at N;have se:=Sep.set (r':=aC.row v' (M.fo k++[v])) ajX 15 (r:=aC.row (V k) (M.fo k)) rfl ((ag.refl (λj=>(V k).ownBlock=some j) _).grown aj4 (λj e=>.inl e)) (λ_ _ e=>e) N (λj z=>by
    rcases aj5 with e|e
    .exact .inl (show(V k).ownBlock=some j by rw[<-e];exact z)
    .have z:=z;rw[z]at e
     have:=l8 e
     exact .inr I)
   have fr:=se.at' 13 rfl;have G:=se.set 13 (r':=aC.bh B.b (iS B (b' V k v') T mv,82)) rfl ((ag.refl (λj=>j=B.b) aj_).setCell (p:=ah B.b (k*3+1)) rfl v') (λ_ _ e=>e) (by have:=bX fr (k*3+1) v';rw[aa8 y.o]at this;exact this) (λ_ e=>.inl e);have akm:aj_.cell? (ah B.b (k*3+1))=some (V k):=E' fr y.o;have akn:=gY fr (k*3+1);obtain⟨l',Tq,bB,rfl⟩:∃ l' Tq bB,v'=au l' Tq bB:=by
    have⟨a,c,e,_⟩:=dA N;exact⟨a,_,c,e⟩
   have aka:=ad G;clear N aj4 aj5 ajX akj D X se fr G g';refine aK;go_meet;refine⟨b' M.fo k (M.fo k++[v]),b' V k (au l' Tq bB),by rw[lb.o];rfl,?_⟩;have s':=aka.o;have hne:1-k≠k:=by have:=y.o;omega
   unfold B4 nE;simp only[ky,jD _ _ hne];exact s'
  | false=>
   rw[hk,az aM]at S;have akd:¬ (((M.p k).x.f (M.p k).x.aL).next:U)<(((c2 v (M.p k)).1.x.f (c2 v (M.p k)).1.x.aL).next:U):=I;refine ob;clear S gf hk;refine aK;go_meet;exact⟨M.fo,V,by rw[lb.o];rfl,g'.o⟩
 obtain⟨fo,Q,hd,G⟩:=hcut;obtain⟨l,zp⟩:=c8 (f' v (M.p k));obtain⟨F,zd⟩:=c8 (eF (M.p k));have b5:=ad b5.o.2;have W':=bN hd (bx zp zd);rw[<-zp]at b5 G;rw[<-zd]at G;clear gf zp zd hd;have akk:=aX (G.at' 9 rfl);have ajU:=ad (show Sep wc (B4 k B (c2 v (M.p k)).1 d2 (aC.bh K (#[au n t s,au A l.length cap,.bool F],35)) (aC.dn (au n t s) (c2 v (M.p k)).2) (aC.cz A l.length cap (nw l)) {M with fo:=fo,cs:=hL M.cs (1-(k:U)) (l.take 0)} Q T mv d (aC.bh w (ct,35)) R)from G);clear G;have akr:IntKind.i64.wrap (1-(k:U))=1-(k:U):=e0 _ I;refine aK;clear akk;go_loopg [13,59] l.length (λg _ i wr=>∃ j:J,g=l.length-j/\j<=l.length/\i=aa j/\Sep wr (B4 k B (c2 v (M.p k)).1 d2 (aC.bh K (#[au n t s,au A l.length cap,.bool F],35)) (aC.dn (au n t s) (c2 v (M.p k)).2) (aC.cz A l.length cap (nw l)) {M with fo:=fo,cs:=hL M.cs (1-(k:U)) (l.take j)} Q T mv d (aC.bh w (ct,35)) R))
 case atStart=>exact⟨0,rfl,c3 _,rfl,ajU.o⟩
 obtain⟨j,a7,z,rfl,u⟩:=hrel;clear ajU;have X:=b5.o.1;by_cases ys:j<l.length
 .obtain⟨b6,di,rfl,an⟩:=(show ey wr 1 A l.length cap (nw l)from u.at' 11 rfl).at' I;have akl:wr.cell? (ah b6 (di+j))=some (.string (dW l[j])):=an j _ (by simp[nw,dW,ys]);have eI:=wm (u.at' 13 rfl);have w':=OR (1-(k:U)) (l.take j) M.cs;have hle:(l.take j).length<=100:=by rw[h3];omega
  have H:=ad (X8 (u.at' 14 rfl) (show 0<=(hL M.cs (1-(k:U)) (l.take j)).lost/\(hL M.cs (1-(k:U)) (l.take j)).lost<=1000000 by have:=b5.o.2.1;omega) (1-(k:U)) (dW l[j]) (by have:=b5.o.2.2.1 l[j] (oY ys);unfold dW maxLen;simp[ByteArray.size];omega));have akq:=oT _ _ akl;have akp:=bZ (show wr.heap[B.b]?=_ from u.at' 13 rfl);have ajV:iK (hL M.cs (1-(k:U)) (l.take j)) 64 (1-(k:U)) (dW l[j])=hL M.cs (1-(k:U)) (l.take (j+1)):=by rw[l7 ys,agG]
  rw[ajV]at H;have ajR:=ad u;clear u an w' hle ajV;refine xF;rintro aks ⟨aj3,aj6⟩;have akb:=ajR.o.set 14 (r':=aC.ij B.c (hL M.cs (1-(k:U)) (l.take (j+1)))) rfl aj6 (λ_ _ e=>e) aj3 (λ_ e=>.inl e);clear ajR H aj3 aj6;refine aK;go_roundg (l.length-(j+1))
  case rel=>exact⟨j+1,rfl,I,cT,akb⟩
  omega
 obtain rfl:j=l.length:=I;rw[qS]at u;have u:Sep wr (bO (B.p k) (c2 v (M.p k)).1 d2++aC.bh K (#[au n t s,au A l.length cap,.bool F],35) :: aC.dn (au n t s) (c2 v (M.p k)).2 :: aC.cz A l.length cap (nw l) :: aC.kinds B.o :: aC.bh B.b (iS B Q T mv,82) :: aC.ij B.c (hL M.cs (1-(k:U)) l) :: aC.row (Q k) (fo k) :: aC.dn (T k) (M.st k) :: (([aC.row (Q (1-k)) (fo (1-k)),aC.dn (T (1-k)) (M.st (1-k))]++bO (B.p (1-k)) (M.p (1-k)) (d (1-k)))++aC.bh w (ct,35) :: R)):=u;have vl:=u.perm (FM _ _ _ _ _ _ _ _ _ _);have L:wr.heap[K]?=some (ab #[au n t s,au A l.length cap,.bool F] 35 (0,0)):=vl.at' 12 rfl;refine j1;have ajZ:=ad (Gf (sd:=au A l.length cap) (m:=F) (A8 y.o) vl b5.o.2.2.2.2);clear u vl L X;refine aK;refine aS ajZ.o ?_;rintro V' ⟨T',vs⟩;rw[Fa y.o]at vs;have a':=vs.perm (FN _ ([aC.row (Q (1-k)) (fo (1-k)),aC.dn (T (1-k)) (M.st (1-k))]++bO (B.p (1-k)) (M.p (1-k)) (d (1-k))) R _ _ _ _ _ _ _ _ _);have L:V'.heap[K]?=some (ab #[au n t s,au A l.length cap,.bool F] 35 (0,0)):=a'.at' 0 rfl;have E:V'.heap[w.heap.size]?=some (ab ct 35 (0,0)):=a'.at' 2 rfl;clear dq;refine j1;refine z7;have ps:=ad (mX E (au n t s) (au A l.length cap) (.bool F));have aj':=ad (Sep.drop1 (A:=[]) a'.tail.tail (ln V' w (au n t s) (au A l.length cap) (.bool F)));clear ajZ vs a' L E;refine zW;refine dj (v:=aV #[aG #[au n t s,au A l.length cap,.bool F],aa 0]) P ?_;refine⟨_,A,_,cap,F,rfl,cy.of (k:=k) (V:=Q) (T:=b' T k T') (d:=b' d k d2) y.o ?_⟩;have hne:1-k≠k:=by have:=y.o;omega
 have s':=aj'.o;unfold mW nE hX;simp only[ky,jD _ _ hne];rw[<-W'.o.1,<-W'.o.2.1];exact s'
def aaX(b:J)(v:U)(a_:63<v):aB 60 #[b,bf v] w λe w'=>e=aV #[aG ct,aa 1]/\ag aH w w':=by
 have a:=ad (aP w (ab ct 35));refine cg;refine dj (v:=aV #[aG ct,aa 1]) (fN _ _ _ _ a.o 3 rfl) ?_;exact⟨rfl,((bd w).alloc (ab ct 35))⟩
theorem cy.void(h:cy w B M mv R):cy w B M mv (aC.dn (au none 0 0) [] :: R):=
 h.push (bd w) (il w 0 _ _) (λj a=>by cases a)
def cy.drop{dq:J}{z:a6 ay×TypeId}{L:ai aC}(h:cy w B M mv (L++aC.bh dq z :: R))(hk:ag (λj=>j=dq) w w'):cy w' B M mv (L++R):=by
 refine p_;have h2:Sep w ((bO (B.p 0) (M.p 0) (d 0)++(nE 0 B M V T mv d++L))++aC.bh dq z :: R):=by
  unfold mW at h;simpa only[eh]using h
 refine⟨V,T,d,?_⟩;unfold mW;simpa only[eh]using(Sep.drop1 h2 hk)
def aaF(h:cy w B M mv R)(a:k<2)(v:U)(a_:63<v):aB 37 #[B.b,aa k,bf v] w (k9 B M mv [] 1 R):=by
 have h1:=h.push (r:=aC.bh w (ct,35)) ((bd w).alloc (ab ct 35)) (aP w (ab ct 35)) (λj f=>hO (k0 f));obtain⟨V,T,d,h⟩:=h1.view a;have e:=ri (h.at' 10 rfl) a;refine z6;generalize w.alloc (ab ct 35)=bo at *;refine bJ (A6 h) ?_;refine aK;refine aS ((Ek (iE h))) ?_;rintro _ ⟨q,rfl⟩;have h1:=h.drew q;have e:=ri (h1.at' 10 rfl) m.o;have u:=ad (aaX (w:=bo.drewN q) (B.p k).p v a_);generalize bo.drewN q=aq at *;refine tx;have c:=(h1.keep y).alloc (ab ct 35);go_upto_region 5 with fail
 generalize Q.alloc (ab ct 35)=br at *;have bK:cy br B M mv ([]++aC.bh w (ct,35) :: R):=cy.of m.o c;have E:=c.at' (9+(7+9)) rfl;refine RP;exact⟨_,_,_,_,_,rfl,((bK.drop (ln br w (au none 0 0) (au none 0 0) (.bool false))).void)⟩
def pc(B:k8)(M:fj)(mv:U)(R:ai aC)(x:cl)(ok:aY)(cs:dd)(e:Ending)(w':aj):ae:=
 e=aV #[.string x,.bool ok]/\cy w' B {M with cs:=cs} mv R
def E3(h:cy w B M mv R)(bp i at' bQ bL:U)(x:cl)(ok:aY)(cs:dd)(ax:∀ W,fK W B.c 64 M.cs->aB 98 #[B.c,aa bp,aa i] W λe w'=>e=aV #[.string x,.bool ok]/\fK w' B.c 64 cs/\ag (iG B.c) W w'):aB 64 #[B.b,aG (cQ 2 bp i at' bQ bL)] w (pc B M mv R x ok cs):=by
 obtain⟨V,T,d,h⟩:=h;have y:=aP w (ab (cQ 2 bp i at' bQ bL) 40);have q:=ad (λj (a:iG B.c j)=>h.tL (i:=11) (j:=10) (r:=aC.ij B.c M.cs) (s:=aC.bh B.b (iS B V T mv,82)) rfl rfl I j a);have k:=h.keep ((bd w).alloc (ab (cQ 2 bp i at' bQ bL) 40))
 go_in
 go_wp2_with fail;generalize World.alloc w _=bo at *;obtain⟨G,f⟩:=gg (F:=λW=>(W.heap[w.heap.size]?=some (ab (cQ 2 bp i at' bQ bL) 40 (0,0))/\W.heap[B.b]?=some (ab (iS B V T mv) 82 (0,0))));have bR:∀ x:bA G,x.to.cell? (ah B.b 6)=some (bM B.c):=λx=>wm ((f _).1 x.held).2;have bI:=λx:bA G=>aX (((f _).1 x.held).1);have m:G bo.drew:=(f _).2 ⟨y,k.at' 10 rfl⟩;have u:=ad (λ(W W':aj) (l:G W) (hk:ag (iG B.c) W W')=>(f W').2 ⟨hk.heap ((f W).1 l).1 (λe=>CN),hk.heap ((f W).1 l).2 (λe=>q.o _ e rfl)⟩);have g:=ad (k.drew 1);have t:=ad (ax bo.drew (g.o.at' 11 rfl));refine cS 13 ?_;refine cJ (G) (.range 13) 0 13 ?_;refine dN (m) (.range 8) 5 ?_;refine eK 8 λK v=>?_;go_simp;refine aS t.o ?_;rintro aF ⟨an,p⟩;have n:=u.o _ _ m p;refine v _ _ (n) ?_;refine dN (n) [9,10,11,12] 0 ?_;refine pA ?_;go_wp2;go_ret2;exact⟨rfl,((show cy aF B {M with cs:=cs} mv R from⟨V,T,d,g.o.set 11 (r':=aC.ij B.c (cs)) rfl p (λ_ _ e=>e) an (λ_ e=>.inl e)⟩))⟩
def L9(h:cy w B M mv R)(bp i at' bQ bL:U)(x:cl)(ok:aY)(cs:dd)(ax:∀ W,fK W B.c 64 M.cs->aB 99 #[B.c,aa bp,aa i] W λe w'=>e=aV #[.string x,.bool ok]/\fK w' B.c 64 cs/\ag (iG B.c) W w'):aB 64 #[B.b,aG (cQ 3 bp i at' bQ bL)] w (pc B M mv R x ok cs):=by
 obtain⟨V,T,d,h⟩:=h;have y:=aP w (ab (cQ 3 bp i at' bQ bL) 40);have q:=ad (λj (a:iG B.c j)=>h.tL (i:=11) (j:=10) (r:=aC.ij B.c M.cs) (s:=aC.bh B.b (iS B V T mv,82)) rfl rfl I j a);have k:=h.keep ((bd w).alloc (ab (cQ 3 bp i at' bQ bL) 40))
 go_in
 go_wp2_with fail;generalize World.alloc w _=bo at *;obtain⟨G,f⟩:=gg (F:=λW=>(W.heap[w.heap.size]?=some (ab (cQ 3 bp i at' bQ bL) 40 (0,0))/\W.heap[B.b]?=some (ab (iS B V T mv) 82 (0,0))));have bR:∀ x:bA G,x.to.cell? (ah B.b 6)=some (bM B.c):=λx=>wm ((f _).1 x.held).2;have bI:=λx:bA G=>aX (((f _).1 x.held).1);have m:G bo.drew:=(f _).2 ⟨y,k.at' 10 rfl⟩;have u:=ad (λ(W W':aj) (l:G W) (hk:ag (iG B.c) W W')=>(f W').2 ⟨hk.heap ((f W).1 l).1 (λe=>CN),hk.heap ((f W).1 l).2 (λe=>q.o _ e rfl)⟩);have g:=ad (k.drew 1);have t:=ad (ax bo.drew (g.o.at' 11 rfl));refine cS 13 ?_;refine cJ (G) (.range 13) 0 13 ?_;refine dN (m) (.range 8) 5 ?_;refine eK 8 λK v=>?_;go_simp;refine aS t.o ?_;rintro aF ⟨an,p⟩;have n:=u.o _ _ m p;refine v _ _ (n) ?_;refine dN (n) [9,10,11,12] 0 ?_;refine pA ?_;go_wp2;go_ret2;exact⟨rfl,((show cy aF B {M with cs:=cs} mv R from⟨V,T,d,g.o.set 11 (r':=aC.ij B.c (cs)) rfl p (λ_ _ e=>e) an (λ_ e=>.inl e)⟩))⟩
def L'(h:cy w B M mv R)(bp i at' bQ bL:U)(x:cl)(ok:aY)(cs:dd)(ax:∀ W,fK W B.c 64 M.cs->aB 100 #[B.c,aa bp,aa i,aa at',bf bQ] W λe w'=>e=aV #[.string x,.bool ok]/\fK w' B.c 64 cs/\ag (iG B.c) W w'):aB 64 #[B.b,aG (cQ 5 bp i at' bQ bL)] w (pc B M mv R x ok cs):=by
 obtain⟨V,T,d,h⟩:=h;have y:=aP w (ab (cQ 5 bp i at' bQ bL) 40);have q:=ad (λj (a:iG B.c j)=>h.tL (i:=11) (j:=10) (r:=aC.ij B.c M.cs) (s:=aC.bh B.b (iS B V T mv,82)) rfl rfl I j a);have k:=h.keep ((bd w).alloc (ab (cQ 5 bp i at' bQ bL) 40))
 go_in
 go_wp2_with fail;generalize World.alloc w _=bo at *;obtain⟨G,f⟩:=gg (F:=λW=>(W.heap[w.heap.size]?=some (ab (cQ 5 bp i at' bQ bL) 40 (0,0))/\W.heap[B.b]?=some (ab (iS B V T mv) 82 (0,0))));have bR:∀ x:bA G,x.to.cell? (ah B.b 6)=some (bM B.c):=λx=>wm ((f _).1 x.held).2;have bI:=λx:bA G=>aX (((f _).1 x.held).1);have m:G bo.drew:=(f _).2 ⟨y,k.at' 10 rfl⟩;have u:=ad (λ(W W':aj) (l:G W) (hk:ag (iG B.c) W W')=>(f W').2 ⟨hk.heap ((f W).1 l).1 (λe=>CN),hk.heap ((f W).1 l).2 (λe=>q.o _ e rfl)⟩);have g:=ad (k.drew 1);have t:=ad (ax bo.drew (g.o.at' 11 rfl));refine cS 17 ?_;refine cJ (G) (.range 17) 0 17 ?_;refine dN (m) (.range 12) 5 ?_;refine eK 12 λK v=>?_;go_simp;refine aS t.o ?_;rintro aF ⟨an,p⟩;have n:=u.o _ _ m p;refine v _ _ (n) ?_;refine dN (n) [13,14,15,16] 0 ?_;refine pA ?_;go_wp2;go_ret2;exact⟨rfl,((show cy aF B {M with cs:=cs} mv R from⟨V,T,d,g.o.set 11 (r':=aC.ij B.c (cs)) rfl p (λ_ _ e=>e) an (λ_ e=>.inl e)⟩))⟩
def L_(h:cy w B M mv R)(bp i at' bQ bL:U)(z:0<=M.cs.lost/\M.cs.lost<=1000000):aB 64 #[B.b,aG (cQ 4 bp i at' bQ bL)] w (pc B M mv R ByteArray.empty (hB M.cs bp i).isSome (m_ M.cs bp i)):=by
 obtain⟨V,T,d,h⟩:=h;have y:=aP w (ab (cQ 4 bp i at' bQ bL) 40);have q:=ad (λj (a:iG B.c j)=>h.tL (i:=11) (j:=10) (r:=aC.ij B.c M.cs) (s:=aC.bh B.b (iS B V T mv,82)) rfl rfl I j a);have l:=h.keep ((bd w).alloc (ab (cQ 4 bp i at' bQ bL) 40))
 go_in
 go_wp2_with fail;generalize World.alloc w _=bo at *;obtain⟨G,f⟩:=gg (F:=λW=>(W.heap[w.heap.size]?=some (ab (cQ 4 bp i at' bQ bL) 40 (0,0))/\W.heap[B.b]?=some (ab (iS B V T mv) 82 (0,0))));have bR:∀ x:bA G,x.to.cell? (ah B.b 6)=some (bM B.c):=λx=>wm ((f _).1 x.held).2;have bI:=λx:bA G=>aX (((f _).1 x.held).1);have m:G bo.drew:=(f _).2 ⟨y,l.at' 10 rfl⟩;have u:=ad (λ(W W':aj) (g:G W) (hk:ag (iG B.c) W W')=>(f W').2 ⟨hk.heap ((f W).1 g).1 (λe=>CN),hk.heap ((f W).1 g).2 (λe=>q.o _ e rfl)⟩);have k:=ad (l.drew 1);have t:=ad (((λ(W:aj) (g:fK W B.c 64 M.cs)=>X6 g z bp i)) bo.drew (k.o.at' 11 rfl));refine cS 11 ?_;refine cJ (G) (.range 11) 0 11 ?_;refine dN (m) (.range 8) 3 ?_;refine eK 8 λK v=>?_;go_simp;refine aS t.o ?_;rintro aF ⟨an,p⟩;have n:=u.o _ _ m p;refine v _ _ (n) ?_;refine dN (n) [9,10] 0 ?_;refine pA ?_;go_wp2;go_ret2;exact⟨rfl,((show cy aF B {M with cs:=(m_ M.cs bp i)} mv R from⟨V,T,d,k.o.set 11 (r':=aC.ij B.c ((m_ M.cs bp i))) rfl p (λ_ _ e=>e) an (λ_ e=>.inl e)⟩))⟩
def cy.res(h:cy w B M mv R){r:aC}(a:r∈R):r.P w:=by
 refine p_;exact h.all r (by unfold mW;simp[a])
def aax(h:cy w B M mv R)(bH bp i at' bQ bL:U)(x:cl)(cs:dd)(d:∀ W R,cy W B M mv R->aB 64 #[B.b,aG (cQ bH bp i at' bQ bL)] W (pc B M mv R x false cs)):aB 40 #[B.b,aG (cQ bH bp i at' bQ bL)] w (k9 B {M with cs:=cs} mv [] 6 R):=by
 have q:(w.alloc (ab (cQ bH bp i at' bQ bL) 40)).heap.size=w.heap.size+1:=aM;have h1:=h.push (r:=aC.bh w (cQ bH bp i at' bQ bL,40)) ((bd w).alloc (ab (cQ bH bp i at' bQ bL) 40)) (aP w _) (λj Q'=>hO (k0 Q'));have h2:=h1.push (r:=aC.bh (w.heap.size+1) (ct,35)) ((bd (w.alloc (ab (cQ bH bp i at' bQ bL) 40))).alloc (ab ct 35)) tr (λj Q'=>ve);have cx:=aX (h2.res (r:=aC.bh w (cQ bH bp i at' bQ bL,40)) aM)
 go_in
 go_wp2_with fail;generalize World.alloc (World.alloc w _) _=bo at *;refine aS (d _ _ h2) λaq h1=>?_;have f:=h1.res (r:=aC.bh w (cQ bH bp i at' bQ bL,40)) aM;have c:=(h1).res (r:=aC.bh (w.heap.size+1) (ct,35)) aM;have g0:=bV c;have z0:=aX c;go_wp2_with fail;have e:=fN _ _ _ _ ((mX c (au none 0 0) (au none 0 0) (.bool false))) 3 rfl;refine dj (v:=aV #[aG ct,aa 6]) e ?_;exact⟨_,_,_,_,_,rfl,((((cy.drop (L:=[]) h1 (ln aq (w.heap.size+1) (au none 0 0) (au none 0 0) (.bool false))).drop (L:=[]) (ag.refl (λj=>j=w) _)).void))⟩
def aaw(h:cy w B M mv R)(bH bp i at' bQ bL:U)(x:cl)(cs:dd)(d:bH=4)(e:∀ W R,cy W B M mv R->aB 64 #[B.b,aG (cQ bH bp i at' bQ bL)] W (pc B M mv R x true cs)):aB 40 #[B.b,aG (cQ bH bp i at' bQ bL)] w (k9 B {M with cs:=cs} mv [] 0 R):=by
 have g:(bH == 4)=true:=by rw[d];rfl
 clear d;have q:(w.alloc (ab (cQ bH bp i at' bQ bL) 40)).heap.size=w.heap.size+1:=aM;have h1:=h.push (r:=aC.bh w (cQ bH bp i at' bQ bL,40)) ((bd w).alloc (ab (cQ bH bp i at' bQ bL) 40)) (aP w _) (λj Q'=>hO (k0 Q'));have h2:=h1.push (r:=aC.bh (w.heap.size+1) (ct,35)) ((bd (w.alloc (ab (cQ bH bp i at' bQ bL) 40))).alloc (ab ct 35)) tr (λj Q'=>ve);have cx:=aX (h2.res (r:=aC.bh w (cQ bH bp i at' bQ bL,40)) aM)
 go_in
 go_wp2_with fail;generalize World.alloc (World.alloc w _) _=bo at *;refine aS (e _ _ h2) λaq h1=>?_;have cx:=aX (h1.res (r:=aC.bh w (cQ bH bp i at' bQ bL,40)) aM);have c:=(h1).res (r:=aC.bh (w.heap.size+1) (ct,35)) aM;have g0:=bV c;have z0:=aX c;go_wp2_with fail;have f:=fN _ _ _ _ ((mX c (au none 0 0) (au none 0 0) (.bool false))) 3 rfl;refine dj (v:=aV #[aG ct,aa 0]) f ?_;exact⟨_,_,_,_,_,rfl,((((cy.drop (L:=[]) h1 (ln aq (w.heap.size+1) (au none 0 0) (au none 0 0) (.bool false))).drop (L:=[]) (ag.refl (λj=>j=w) _)).void))⟩
def aay(h:cy w B M mv R)(hk:k<2)(bH i at' bQ bL:U)(x:cl)(cs:dd)(Y:bH≠4)(s:ch)(dz:ai cq)(ca:U)(X:ca≠0->dz=[])(Z:(M.st k).length+dz.length<=100000)(bp:U)(a':bp=k)(s':∀ W R,cy W B M mv R->aB 64 #[B.b,aG (cQ bH bp i at' bQ bL)] W (pc B M mv R x true cs))(K:∀ W d R,aC.kinds B.o∈R->Sep W (bO (B.p k) (M.p k) d++R)->aB 65 #[bM ((B.p k).p),.string x] W (x0 (B.p k) s dz ca R)):aB 40 #[B.b,aG (cQ bH bp i at' bQ bL)] w (k9 B {M with p:=b' M.p k s,st:=b' M.st k (M.st k++dI dz),cs:=cs} mv dz ca R):=by
 have v':(bH == 4)=false:=by simpa using Y
 have hd:=ad K;have F:=bN X Z;have f:=ad hk;have vs:(k:U)<2:=I;have lb:=ad a';clear Y K X Z hk a';have q:(w.alloc (ab (cQ bH bp i at' bQ bL) 40)).heap.size=w.heap.size+1:=aM;have g:=h.push (r:=aC.bh w (cQ bH bp i at' bQ bL,40)) ((bd w).alloc (ab (cQ bH bp i at' bQ bL) 40)) (aP w _) (λj Q'=>hO (k0 Q'));have h2:=g.push (r:=aC.bh (w.heap.size+1) (ct,35)) ((bd (w.alloc (ab (cQ bH bp i at' bQ bL) 40))).alloc (ab ct 35)) tr (λj Q'=>ve);have cx:=aX (h2.res (r:=aC.bh w (cQ bH bp i at' bQ bL,40)) aM);have vl:=ad (s' _ _ h2)
 go_in
 go_wp2_with fail;generalize World.alloc (World.alloc w _) _=bo at *;refine aS vl.o λaq g=>?_;have S:=g.res (r:=aC.bh w (cQ bH bp i at' bQ bL,40)) aM;have cx:=aX S;obtain rfl:=lb.o;obtain⟨V,T,d,g⟩:=g.view f.o;have l':=ri (g.at' 10 rfl) f.o;have w':=bZ (show aq.heap[B.b]?=some (ab (iS B V T mv) 82 (0,0))from g.at' 10 rfl);have ys:=bZ S;have H1:=ad g;go_wp2_with fail;go_quiet (fail);have h2:=H1.o.drew nq;have l':=ri (h2.at' 10 rfl) f.o;have se:=ad (hd.o _ _ _ (by simp[nE]) h2);generalize aq.drewN nq=aF at *;go_wp2_with fail;refine se.o.mono ?_;rintro e br ⟨t,rfl,G,n⟩;obtain⟨u,z,y,rfl⟩:∃ u z y,t=au u z y:=by
  exact Ts
 have fr:=(bd br).alloc (ab #[au u z y,(au none 0 0),false] 35);have hne:1-k≠k:=by have:=f.o;omega
 by_cases h1:ca=0
 .subst h1;have C:=(n.cons (r:=aC.none) (bd br) (λ_ _ _ _=>id) trivial (λ_ e=>e.elim)).sS;have c:=(C.cons (r:=aC.bh br (#[au u z y,(au none 0 0),false],35)) fr (λ_ _ _ _=>id) (aP br _) (λj Q'=>hO (k0 Q'))).jS;go_upto_region 10 with fail
  generalize zd:br.alloc (ab #[au u z y,(au none 0 0),false] 35)=l at *;generalize br.heap.size=zp at *;have c:=c;have N:=c.perm (FM _ _ _ _ _ _ _ _ _ _);have L:=N.at' 12 rfl;refine j1;have H:=ad (Gf (sd:=(au none 0 0)) (m:=false) (A8 f.o) N F.o.2);refine xF;rintro gf ⟨T',Q⟩;rw[Fa f.o]at Q;have D:=Q.perm (FN _ ([aC.row (V (1-k)) (M.fo (1-k)),aC.dn (T (1-k)) (M.st (1-k))]++bO (B.p (1-k)) (M.p (1-k)) (d (1-k))) _ _ _ _ _ _ _ _ _ _);have L:=D.at' 0 rfl;have E:=D.at' 2 rfl;refine j1;refine z7;have ps:=ad (mX E (au u z y) (au none 0 0) (.bool false));have m':=Sep.drop1 (A:=[]) D.tail.tail (ln gf (w.heap.size+1) (au u z y) (au none 0 0) (.bool false))
  have r':cy (((gf.setCell (ah (w+1) 0) (au u z y)).setCell (ah (w+1) 1) (au none 0 0)).setCell (ah (w+1) 2) (.bool false)) B {M with p:=b' M.p k s,st:=b' M.st k (M.st k++dI dz),cs:=cs} mv ([aC.dn (au u z y) dz]++aC.bh w (cQ bH (k:U) i at' bQ bL,40) :: R):=cy.of (k:=k) (V:=V) (T:=b' T k T') (d:=b' d k G) f.o (by
   unfold mW nE;simp only[ky,jD _ _ hne];exact m')
  have g':=ad (r'.drop (ag.refl (λj=>j=w) _));refine SX;exact Jk
 obtain rfl:=F.o.1 h1;refine DJ;have C:=n.ain.keep fr
 have c:cy _ B {M with p:=b' M.p k s,st:=b' M.st k (M.st k++dI []),cs:=cs} mv (aC.bh (w.heap.size+1) (ct,35) :: aC.bh w (cQ bH (k:U) i at' bQ bL,40) :: R):=cy.of (k:=k) (V:=V) (T:=T) (d:=b' d k G) f.o (by
  unfold mW nE;simp only[ky,jD _ _ hne,MM,gq];exact C)
 go_upto_region 9 with fail
 generalize br.alloc (ab #[au u z y,(au none 0 0),false] 35)=l at *;refine Vk;refine dj (v:=aV #[aG ct,aa ca]) P ?_;exact Jk
def tT(b:J)(hk:k<2)(w:aj):aB 36 #[b,aa k] w λe w'=>e=.returned (.pointer (dk b (k*3)))/\w=w':=by
 exact er
def cy.BT(h:cy w B M mv R)(m:U):cy (w.setCell (ah B.b 7) (aa m)) B M m R:=by
 refine p_;exact⟨V,T,d,h.set 10 (r':=aC.bh B.b (iS B V T m,82)) rfl ((ag.refl (λj=>j=B.b) w).setCell (p:=ah B.b 7) rfl _) (λ_ _ e=>e) (by have:=bX (h.at' 10 rfl) 7 (aa m);rw[aa7]at this;exact this) (λ_ e=>.inl e)⟩
def cy.bh(h:cy w B M mv R):∃ V T,w.heap[B.b]?=some (ab (iS B V T mv) 82 (0,0)):=by
 refine p_;exact⟨V,T,h.at' 10 rfl⟩
def aaD(b:J)(bp:U)(a:¬ (0<=bp/\bp<2))(w:aj):aB 36 #[b,aa bp] w λe w'=>e=.returned (.pointer none)/\w=w':=by
 by_cases h1:bp<0
 .exact er
 have h2:2<=bp:=I;exact er
def aar(h:cy w B M mv R)(bH bp i at' bQ bL:U)(m:¬ (0<=bp/\bp<2)\/bH<1\/6<bH):aB 10 #[B.b,aG (cQ bH bp i at' bQ bL)] w (k9 B M (wrap64 (mv+1)) [] 1 R):=by
 have q:(w.alloc (ab (cQ bH bp i at' bQ bL) 40)).heap.size=w.heap.size+1:=aM;have h2:=(h.push (r:=aC.bh w (cQ bH bp i at' bQ bL,40)) ((bd w).alloc (ab (cQ bH bp i at' bQ bL) 40)) (aP w _) (λj Q'=>hO (k0 Q'))).push (r:=aC.bh (w.heap.size+1) (ct,35)) ((bd (w.alloc (ab (cQ bH bp i at' bQ bL) 40))).alloc (ab ct 35)) tr (λj Q'=>ve);have⟨V,T,al⟩:=h2.bh;have dv:=A9 al;have n:=bV al;have c:=h2.BT (wrap64 (mv+1));have d:=ad c
 go_in
 go_upto_region 4 with fail
 generalize World.setCell (World.alloc (World.alloc w _) _) _ _=l at *;have cx:=aX (d.o.res (r:=aC.bh w (cQ bH bp i at' bQ bL,40)) aM);have c:=d.o;by_cases e:0<=bp/\bp<2
 .have⟨k,hk⟩:=mJ e.1;have g:k<2:=I;subst hk;have f:=ad (tT B.b g l);by_cases p:bH<1
  .refine xH;refine Vk;refine dj (v:=aV #[aG ct,aa 1]) P ?_;exact Jk
  have s:6<bH:=by have:=m;omega
  refine xH;refine Sp;refine zW;refine dj (v:=aV #[aG ct,aa 1]) P ?_;exact⟨_,_,_,_,_,rfl,((((cy.drop (L:=[]) d.o (ln l (w.heap.size+1) (au none 0 0) (au none 0 0) (.bool false))).drop (L:=[]) (ag.refl (λj=>j=w) _)).void))⟩
 have f:=ad (aaD B.b bp e l);refine xH;have E:=(c).res (r:=aC.bh (w.heap.size+1) (ct,35)) aM;refine RP;exact⟨_,_,_,_,_,rfl,((((cy.drop (L:=[]) c (ln l (w.heap.size+1) (au none 0 0) (au none 0 0) (.bool false))).drop (L:=[]) (ag.refl (λj=>j=w) _)).void))⟩
def L7(h:cy w B M mv R)(hk:k<2)(i at' bQ bL:U)(hv:fj)(dz:ai cq)(ca:U)(bH bp:U)(x:bH=1)(y:bp=k)(aU:∀ W R,cy W B M (wrap64 (mv+1)) R->aB 37 #[B.b,aa bp,bf bL] W (k9 B hv (wrap64 (mv+1)) dz ca R)):aB 10 #[B.b,aG (cQ bH bp i at' bQ bL)] w (k9 B hv (wrap64 (mv+1)) dz ca R):=by
 have G:(bH == 1)=true:=by rw[x];rfl
 have N:¬ bH<1:=I;have sP:¬ 6<bH:=I;have z:=ad aU;have D:=ad hk;have E:=ad y;clear aU hk x y;have q:(w.alloc (ab (cQ bH bp i at' bQ bL) 40)).heap.size=w.heap.size+1:=aM;have h2:=(h.push (r:=aC.bh w (cQ bH bp i at' bQ bL,40)) ((bd w).alloc (ab (cQ bH bp i at' bQ bL) 40)) (aP w _) (λj Q'=>hO (k0 Q'))).push (r:=aC.bh (w.heap.size+1) (ct,35)) ((bd (w.alloc (ab (cQ bH bp i at' bQ bL) 40))).alloc (ab ct 35)) tr (λj Q'=>ve);have⟨V,T,al⟩:=h2.bh;have dv:=A9 al;have H:=bV al;have K:=bZ al;have d:=h2.BT (wrap64 (mv+1));have t:=ad d
 go_in
 go_upto_region 4 with fail
 generalize World.setCell (World.alloc (World.alloc w _) _) _ _=aq at *;have cx:=aX (t.o.res (r:=aC.bh w (cQ bH bp i at' bQ bL,40)) aM);have u:=ad (tT B.b D.o aq);rw[<-E.o]at u;have C:=ad (z.o aq _ t.o);go_wp2_with fail;refine bJ u.o ?_;go_wp2_with fail;refine C.o.mono ?_;rintro e br ⟨s,A,n,c,m,rfl,d⟩;obtain⟨f,l,g,rfl⟩:∃ f l g,s=au f l g:=by
  exact Sl
 have p:=(d).res (r:=aC.bh (w.heap.size+1) (ct,35)) aM;have g0:=bV p;have z0:=aX p;go_wp2_with fail;have F:=fN _ _ _ _ ((mX p (au f l g) (au A n c) (.bool m))) 3 rfl;refine dj (v:=aV #[aG #[au f l g,au A n c,.bool m],aa ca]) F ?_;exact⟨_,_,_,_,_,rfl,((((cy.drop (L:=[aC.dn (au f l g) dz]) d (ln br (w.heap.size+1) (au f l g) (au A n c) (.bool m))).drop (L:=[aC.dn (au f l g) dz]) (ag.refl (λj=>j=w) _))))⟩
def E1(h:cy w B M mv R)(hk:k<2)(i at' bQ bL:U)(hv:fj)(dz:ai cq)(ca:U)(bH bp:U)(E:2<=bH/\bH<=5)(x:bp=k)(aU:∀ W R,cy W B M (wrap64 (mv+1)) R->aB 40 #[B.b,aG (cQ bH bp i at' bQ bL)] W (k9 B hv (wrap64 (mv+1)) dz ca R)):aB 10 #[B.b,aG (cQ bH bp i at' bQ bL)] w (k9 B hv (wrap64 (mv+1)) dz ca R):=by
 have G:(bH == 1)=false:=b_;have H:(bH == 6)=false:=b_;have O:¬ bH<1:=I;have sP:¬ 6<bH:=I;have y:=ad aU;have C:=ad hk;have D:=ad x;clear aU hk E x;have q:(w.alloc (ab (cQ bH bp i at' bQ bL) 40)).heap.size=w.heap.size+1:=aM;have h2:=(h.push (r:=aC.bh w (cQ bH bp i at' bQ bL,40)) ((bd w).alloc (ab (cQ bH bp i at' bQ bL) 40)) (aP w _) (λj Q'=>hO (k0 Q'))).push (r:=aC.bh (w.heap.size+1) (ct,35)) ((bd (w.alloc (ab (cQ bH bp i at' bQ bL) 40))).alloc (ab ct 35)) tr (λj Q'=>ve);have⟨V,T,al⟩:=h2.bh;have dv:=A9 al;have K:=bV al;have N:=bZ al;have d:=h2.BT (wrap64 (mv+1));have t:=ad d
 go_in
 go_upto_region 4 with fail
 generalize World.setCell (World.alloc (World.alloc w _) _) _ _=aq at *;have cx:=aX (t.o.res (r:=aC.bh w (cQ bH bp i at' bQ bL,40)) aM);have u:=ad (tT B.b C.o aq);rw[<-D.o]at u;have z:=ad (y.o aq _ t.o);go_wp2_with fail;refine bJ u.o ?_;go_wp2_with fail;refine z.o.mono ?_;rintro e br ⟨s,A,n,c,m,rfl,d⟩;obtain⟨f,l,g,rfl⟩:∃ f l g,s=au f l g:=by
  exact Sl
 have p:=(d).res (r:=aC.bh (w.heap.size+1) (ct,35)) aM;have g0:=bV p;have z0:=aX p;go_wp2_with fail;have F:=fN _ _ _ _ ((mX p (au f l g) (au A n c) (.bool m))) 3 rfl;refine dj (v:=aV #[aG #[au f l g,au A n c,.bool m],aa ca]) F ?_;exact⟨_,_,_,_,_,rfl,((((cy.drop (L:=[aC.dn (au f l g) dz]) d (ln br (w.heap.size+1) (au f l g) (au A n c) (.bool m))).drop (L:=[aC.dn (au f l g) dz]) (ag.refl (λj=>j=w) _))))⟩
def aas(h:cy w B M mv R)(hk:k<2)(i at' bQ bL:U)(bH bp:U)(H:bH=6)(L:bp=k)(z:ch)(dz:ai cq)(K:(M.st k).length+dz.length<=100000)(G:∀ W d R,aC.kinds B.o∈R->Sep W (bO (B.p k) (M.p k) d++R)->aB 38 #[bM ((B.p k).p)] W (J7 (B.p k) z dz R)):aB 10 #[B.b,aG (cQ bH bp i at' bQ bL)] w (k9 B {M with p:=b' M.p k z,st:=b' M.st k (M.st k++dI dz)} (wrap64 (mv+1)) dz 0 R):=by
 have r':(bH == 6)=true:=by rw[H];rfl
 have vl:¬ bH<1:=I;have sP:¬ 6<bH:=I;have Q:=ad G;have P:=ad K;have l:=ad hk;have S:=ad L;clear G hk H L K;have q:(w.alloc (ab (cQ bH bp i at' bQ bL) 40)).heap.size=w.heap.size+1:=aM;have h1:=h.push (r:=aC.bh w (cQ bH bp i at' bQ bL,40)) ((bd w).alloc (ab (cQ bH bp i at' bQ bL) 40)) (aP w _) (λj Q'=>hO (k0 Q'));have h2:=h1.push (r:=aC.bh (w.heap.size+1) (ct,35)) ((bd (w.alloc (ab (cQ bH bp i at' bQ bL) 40))).alloc (ab ct 35)) tr (λj Q'=>ve);have⟨V,T,al⟩:=h2.bh;have dv:=A9 al;have f7:=bV al;have se:=bZ al;have n:=h2.BT (wrap64 (mv+1));have C:=ad n
 go_in
 go_upto_region 4 with fail
 generalize World.setCell (World.alloc (World.alloc w _) _) _ _=aq at *;have hd:=C.o.res (r:=aC.bh w (cQ bH bp i at' bQ bL,40)) aM;have cx:=aX hd;have D:=ad (tT B.b l.o aq);rw[<-S.o]at D;have hne:1-k≠k:=by have:=l.o;omega
 obtain⟨V,T,d,h1⟩:=C.o.view l.o;have ps:=ri (h1.at' 10 rfl) l.o;have gf:=ad (Q.o _ _ _ (by simp[nE]) h1);go_wp2_with fail;refine bJ D.o ?_;go_wp2_with fail;refine gf.o.mono ?_;rintro e br ⟨t,rfl,Y,n⟩;obtain⟨w',g,f,rfl⟩:∃ w' g f,t=au w' g f:=by
  exact Ts
 have l':=(bd br).alloc (ab #[au w' g f,(au none 0 0),false] 35);have Z:=(n.cons (r:=aC.none) (bd br) (λ_ _ _ _=>id) trivial (λ_ e=>e.elim)).sS;have s:=(Z.cons (r:=aC.bh br (#[au w' g f,(au none 0 0),false],35)) l' (λ_ _ _ _=>id) (aP br _) (λj Q'=>hO (k0 Q'))).jS;go_upto_region 11 with fail
 generalize s':br.alloc (ab #[au w' g f,(au none 0 0),false] 35)=v' at *;generalize br.heap.size=vs at *;have s:=s;have E:=s.perm (FM _ _ _ _ _ _ _ _ _ _);have y:=E.at' 12 rfl;have m':=aX y;have g':=ad (Gf (sd:=(au none 0 0)) (m:=false) (A8 l.o) E P.o);go_wp2_with fail;refine aS g'.o ?_;rintro N ⟨T',F⟩;rw[Fa l.o]at F;have u:=F.perm (FN _ ([aC.row (V (1-k)) (M.fo (1-k)),aC.dn (T (1-k)) (M.st (1-k))]++bO (B.p (1-k)) (M.p (1-k)) (d (1-k))) _ _ _ _ _ _ _ _ _ _);have y:=u.at' 0 rfl;have x:=u.at' 2 rfl;have m':=aX y;have g0:=bV x;have z0:=aX x;have O:=ad (mX x (au w' g f) (au none 0 0) (.bool false));have a':=Sep.drop1 (A:=[]) u.tail.tail (ln N (w.heap.size+1) (au w' g f) (au none 0 0) (.bool false))
 have fr:cy (((N.setCell (ah (w+1) 0) (au w' g f)).setCell (ah (w+1) 1) (au none 0 0)).setCell (ah (w+1) 2) (.bool false)) B {M with p:=b' M.p k z,st:=b' M.st k (M.st k++dI dz)} (wrap64 (mv+1)) ([aC.dn (au w' g f) dz]++aC.bh w (cQ bH bp i at' bQ bL,40) :: R):=cy.of (k:=k) (V:=V) (T:=b' T k T') (d:=b' d k Y) l.o (by
  unfold mW nE;simp only[ky,jD _ _ hne];exact a')
 have X:=ad (fr.drop (ag.refl (λj=>j=w) _));go_wp2_with fail;have lb:=fN _ _ _ _ O.o 3 rfl;refine dj (v:=aV #[aG #[au w' g f,(au none 0 0),false],aa 0]) lb ?_;exact⟨_,_,_,_,_,rfl,X.o⟩
theorem gX.set{n:J}{L:ai aC}{T:J->ae}(h:gX n w L)(i:J){r r':aC}(av:L[i]?=some r)(hk:ag T w w')(d:∀ b,T b->r.S b)(c:r'.P w')(ax:∀ b,r'.S b->r.S b):gX n w' (L.set i r'):=
 ⟨Sep.set h.sep i av hk (λb _=>d b) c (λb al=>.inl (ax b al)),λx ak j a=>by
  rcases CE ak with ak|rfl
  .exact h.bt x ak j a
  .exact h.bt r (mK av) j (ax j a)⟩
theorem gX.append{n:J}{L d:ai aC}(h:gX n w L)(hk:ag aH w w')(h2:gX w w' d)(aw:n<=w.heap.size):gX n w' (d++L):=
 ⟨⟨λr c=>by
  rcases gd.1 c with c|c
  .exact h2.sep.all r c
  .exact(h.sep.keep hk).all r c,tg.2 ⟨h2.sep.apart,h.sep.apart,λa bg b al j f g=>by
  have:=h2.bt a bg j f
  have:=h.sep.lt al g
  omega⟩⟩,λr c j e=>by
  rcases gd.1 c with c|c
  .exact cu aw (h2.bt r c j e)
  .exact h.bt r c j e⟩
def pC(aN:U)(d n:J)(pat b3:U)(k:J):ch:=yE ⟨aN,d,n,k,λ_=>ju d,0,[(0,ki aN 0)],0⟩ (cj.new ((k:U)+1) pat d) b3
def jb(c:J)(a b:cr Addr):a6 ay:=#[.pointer a,au none 0 0,au none 0 0,.pointer b,au none 0 0,au none 0 0,c,aa 0]
structure xZ(w:aj)(aN d n pat b3 cd:U)(b:J)(L:ai aC)(W:aj):ae where
 kX:∃ aL FC,W.heap[w.heap.size]?=some (ab #[bz aN,aa d,aa n,aL,FC,aa pat,aa b3,aa cd] 26 (0,0))
 sep:gX (w.heap.size+1) W L
 kI:Below w w W
def aau(aN d n pat b3 cd a k:U)(y:¬ yl d n pat b3 cd)(w:aj):aB 33 #[aG (fi aN d n a k pat b3 cd)] w λe w'=>e=aV #[.pointer none,aa 1]/\Below w w w':=by
 have ax:=aP w (ab (fi aN d n a k pat b3 cd) 26);have B:(w.alloc (ab (fi aN d n a k pat b3 cd) 26)).heap.size=w.heap.size+1:=aM;refine SH;refine aS (KM 64 I I bo) ?_;rintro aq ⟨an,h⟩;have q:ag aH bo aq:=ag.bU h a1;have t:=q.heap ax id;have z:=h.size;have⟨c,m⟩:=c8 bo.heap.size;rw[<-m]at an;have h1:gX (w.heap.size+1) aq [aC.ij c ⟨[],[],0⟩]:=(gX.nil _ bo).cons q an (λj G=>by have E:c<=j:=G.1;omega) I;have r:=(bd aq).alloc (ab (jb c none none) 82);have h2:gX (w.heap.size+1) (aq.alloc (ab (jb c none none) 82)) [aC.bh aq (jb c none none,82),aC.ij c ⟨[],[],0⟩]:=h1.cons r (aP _ _) (λj G=>hO G.symm) I
 have C:xZ w aN d n pat b3 cd aq.heap.size [aC.bh aq (jb c none none,82),aC.ij c ⟨[],[],0⟩] (aq.alloc (ab (jb c none none) 82)):=
  ⟨⟨_,_,r.heap t id⟩,h2,(cp.trans (h.mono I)).alloc I _⟩
 refine dU;clear C h2 r h1 z t q an h cp B ax;rw[<-m];clear m;unfold jb at m';go_upto_region 5 with fail
 generalize World.alloc aq _=aF at *;generalize aq.heap.size=b at *;refine aK;go_loopg [7,8,9,20] 2 (λg _ _ _ i wr=>i=aa 0/\aF=wr)
 case atStart=>exact⟨rfl,rfl⟩
 obtain⟨rfl,rfl⟩:=hrel;obtain⟨⟨aL,FC,l⟩,A,u⟩:=m'.o;refine ajt;simp only[dV]at v;have D:=ad (A.keeps fP a1);have s:=ad (u.trans (fP.below u.size a1));refine ajy;have hJ:=aX v;refine aK;refine aS ((ad0 aN d n 1 pat b3 cd 0 I y) _) λv2 x=>?_;have f:=ad (s.o.trans (x.mono s.o.size));refine aK;go_ret2;exact z'
def wH(b c:J)(s:J->ch)(d:hQ):ai hg->ai aC
 | []=>[aC.bh b (jb c none none,82),aC.ij c ⟨[],[],0⟩]
 | [a]=>bO a (s 0) d++[aC.bh b (jb c (some ⟨a.p,0,none⟩) none,82),aC.ij c ⟨[],[],0⟩]
 | a :: e :: _=>bO e (s 1) d++(bO a (s 0) d++[aC.bh b (jb c (some ⟨a.p,0,none⟩) (some ⟨e.p,0,none⟩),82),aC.ij c ⟨[],[],0⟩])
def pB(aN:U)(d n:J)(pat b3:U):fj:=⟨pC aN d n pat b3,λ_=>[],λ_=>[],⟨[],[],0⟩⟩
def ad3(A C R:ai aC)(b e z r t r' a:aC):(r :: t :: r' :: a :: ((C++(A++[b,e]))++z :: R)).Perm (A++((z :: b :: e :: r :: t :: r' :: a :: C)++R)):=by
 have h1:((C++(A++[b,e]))++z :: R).Perm ([b,e,z]++(A++(C++R))):=by
  have c:((C++(A++[b,e]))++z :: R)=C++(A++([b,e,z]++R)):=aM;rw[c];exact(p3 C A _).trans (((p3 C [b,e,z] R).append_left A).trans (p3 A [b,e,z] _))
 have h2:(A++((z :: b :: e :: r :: t :: r' :: a :: C)++R)).Perm ([z,b,e,r,t,r',a]++(A++(C++R))):=p3 A [z,b,e,r,t,r',a] _;exact((((h1.cons a).cons r').cons t).cons r).trans ((((show([0,1,2,3,4,5,6]:ai J).Perm [6,4,5,0,1,2,3]by decide).map λi=>[r,t,r',a,b,e,z].getD i r).append_right (A++(C++R))).trans h2.symm)
def L8{R:ai aC}(sd:Sep w (aC.kinds fu :: R))(aN:U)(d n:J)(pat b3 cd z A:U)(hd:d<=8)(aw:1<=n/\n<=16)(ao:1<=pat/\pat<=10000)(P:1<=b3/\b3<=256)(a_:1<=cd/\cd<=16):aB 33 #[aG (fi aN d n z A pat b3 cd)] w λe w'=>
  ∃ B:k8,e=aV #[B.b,aa 0]/\cy w' B (pB aN d n pat b3) 0 R/\B.o=fu:=by
 have G:=ad sd;have ax:=aP w (ab (fi aN d n z A pat b3 cd) 26);have TS:(w.alloc (ab (fi aN d n z A pat b3 cd) 26)).heap.size=w.heap.size+1:=aM;have cp:=(b9 w w).alloc bu (ab (fi aN d n z A pat b3 cd) 26)
 go_in
 go_wp2_with fail;generalize World.alloc w _=bo at *;refine aS (KM 64 I I bo) ?_;rintro aq ⟨an,H⟩;have S:ag aH bo aq:=ag.bU H a1;have se:=S.heap ax id;have Tq:=H.size;have⟨c,K⟩:=c8 bo.heap.size;rw[<-K]at an;have h1:gX (w.heap.size+1) aq [aC.ij c ⟨[],[],0⟩]:=(gX.nil _ bo).cons S an (λj s=>by have Q':c<=j:=s.1;omega) I;have T:=(bd aq).alloc (ab (jb c none none) 82);have h2:gX (w.heap.size+1) (aq.alloc (ab (jb c none none) 82)) [aC.bh aq (jb c none none,82),aC.ij c ⟨[],[],0⟩]:=h1.cons T (aP _ _) (λj s=>hO s.symm) I
 have ps:xZ w aN d n pat b3 cd aq.heap.size [aC.bh aq (jb c none none,82),aC.ij c ⟨[],[],0⟩] (aq.alloc (ab (jb c none none) 82)):=
  ⟨⟨_,_,T.heap se id⟩,h2,(cp.trans (H.mono I)).alloc I _⟩
 have O:=ad ps;rw[<-K];clear K;unfold jb at O;go_upto_region 5 with fail
 generalize World.alloc aq _=aF at *;generalize aq.heap.size=b at *;go_wp2_with fail;go_loopg [7,8,9,20] 2 (λg _ _ _ i wr=>(g=2/\i=aa 0/\xZ w aN d n pat b3 cd b (wH b c (pC aN d n pat b3) (qx cd) []) wr)\/(g=1/\i=aa 1/\∃ f,xZ w aN d n pat b3 cd b (wH b c (pC aN d n pat b3) (qx cd) [f]) wr)\/(g=0/\i=aa 2/\∃ f D,xZ w aN d n pat b3 cd b (wH b c (pC aN d n pat b3) (qx cd) [f,D]) wr))
 case atStart=>exact .inl ⟨rfl,rfl,O.o⟩
 rcases hrel with⟨rfl,rfl,F⟩|⟨rfl,rfl,f,F⟩|⟨rfl,rfl,f,D,F⟩
 .refine Rn;have fP:=((ag.refl (λj=>j=w) wr).setCell (p:=ah w 3) rfl (aa 0)).setCell (p:=ah w 4) rfl (bz 1);have N:=bX (bX x 3 (aa 0)) 4 (bz 1);refine Q_;refine((Mk aN d n 0 1 pat b3 cd I hd aw ao P a_) _).mono ?_;refine Rm;have m:gX (w.heap.size+1) v2 (bO l (pC aN d n pat b3 0) (qx cd)++wH b c (pC aN d n pat b3) (qx cd) []):=W.o.append bK ao I;have t:v2.heap[b]?=some (ab (jb c none none) 82 (0,0)):=m.sep.at' (9) rfl;have vl:w.heap.size+1<=b:=m.bt (aC.bh b (jb c none none,82)) (mK (i:=9) rfl) b rfl;refine Rj;have u:=(ag.refl (λj=>j=b) v2).setCell (p:=ah b 0) rfl l.p;have mv:=u.heap Z I;have lb:=E.trans (u.below E.size a1);have l':=bX t 0 l.p;refine Rl;go_roundg 1
  case rel=>exact .inr (.inl ⟨rfl,cT,l,⟨⟨_,_,gf.o⟩,a'.o.set 9 (r':=aC.bh b (jb c (bT l.p) none,82)) rfl g'.o (λ_ e=>e) (by simpa[jb,aC.bh]using fr.o) (λ_ e=>e),fo.o⟩⟩)
  omega
 .refine Rn;have fP:=((ag.refl (λj=>j=w) wr).setCell (p:=ah w 3) rfl (aa 1)).setCell (p:=ah w 4) rfl (bz 2);have N:=bX (bX x 3 (aa 1)) 4 (bz 2);refine Q_;refine((Mk aN d n 1 2 pat b3 cd I hd aw ao P a_) _).mono ?_;refine Rm;have m:gX (w.heap.size+1) v2 (bO l (pC aN d n pat b3 1) (qx cd)++wH b c (pC aN d n pat b3) (qx cd) [f]):=W.o.append bK ao I;have t:v2.heap[b]?=some (ab (jb c (bT f.p) none) 82 (0,0)):=m.sep.at' (18) rfl;have vl:w.heap.size+1<=b:=m.bt (aC.bh b (jb c (bT f.p) none,82)) (mK (i:=18) rfl) b rfl;refine Rj;have u:=(ag.refl (λj=>j=b) v2).setCell (p:=ah b 3) rfl l.p;have mv:=u.heap Z I;have lb:=E.trans (u.below E.size a1);have l':=bX t 3 l.p;refine Rl;go_roundg 0
  case rel=>exact .inr (.inr ⟨rfl,cT,f,l,⟨⟨_,_,gf.o⟩,a'.o.set 18 (r':=aC.bh b (jb c (bT f.p) (bT l.p),82)) rfl g'.o (λ_ e=>e) (by simpa[jb,aC.bh]using fr.o) (λ_ e=>e),fo.o⟩⟩)
  omega
 have y:=ad F;refine jI;go_ret2;have s':=y.o.kI;have v':Sep wr (wH b c (pC aN d n pat b3) (qx cd) [f,D]++aC.kinds fu :: R):=⟨λr v=>by
  rcases gd.1 v with v|v
  .exact y.o.sep.sep.all r v
  .exact(G.o.below s').all r v,tg.2 ⟨y.o.sep.sep.apart,G.o.apart,λa bg q vs j m m'=>by
  have:=y.o.sep.bt a bg j m
  have:=G.o.lt vs m'
  omega⟩⟩
 have Q:∀ {L:ai aC},Sep wr L->Sep wr (aC.row (au none 0 0) [] :: aC.dn (au none 0 0) [] :: L):=λh=>
  (h.cons (r:=aC.dn (au none 0 0) []) (bd wr) (λ_ _ _ _ e=>e) (il wr 0 _ _) (λj s=>by cases s)).cons (r:=aC.row (au none 0 0) []) (bd wr) (λ_ _ _ _ e=>e) (il wr 0 _ _) (λj s=>by cases s)
 exact⟨⟨fu,b,c,λk=>if k=0 then f else D⟩,rfl,⟨λ_=>(au none 0 0),λ_=>(au none 0 0),λ_=>qx cd,(Q (Q v')).perm (ad3 _ _ _ _ _ _ _ _ _ _)⟩,rfl⟩
def E2(h:cy w B M mv R)(hk:k<2):aB 15 #[B.b,aa k] w λe w'=>e=.returned (bM ((B.p k).p))/\w=w':=by
 have⟨V,T,al⟩:=h.bh;have an:=ri al hk;refine cg;refine bJ (tT B.b hk w) ?_;exact iZ
def aat(h:cy w B M mv R)(bp:U):aB 30 #[B.b,aa bp] w λe w'=>e=aa (yw M.cs bp)/\w=w':=by
 refine p_;have eI:=wm (h.at' 10 rfl);refine cg;refine bJ ((X7 (h.at' 11 rfl) bp)) ?_;exact iZ
def aav(h:cy w B M mv R)(aT:(M.p 0).cn=false):aB 59 #[B.b] w λe w'=>e=.returned (.bool false)/\∃ q,w'=w.drewN q:=by
 refine p_;have bw:=aX (h.at' 10 rfl);have H:=ad (aaP h);rw[aT]at H;refine cg;go_loopg [3,4,5,6] 0 (λg _ _ _ i wr=>i=aa 0/\wr=w)
 case atStart=>exact⟨rfl,rfl⟩
 obtain⟨rfl,rfl⟩:=hrel;refine xF;rintro _ ⟨q,rfl⟩;refine fB;exact⟨rfl,q,rfl⟩
def aia(w:aj):aB 34 #[] w λe w'=>e=aG (fi 5 1 4 0 0 100 100 8)/\Below w w w':=by
 go_in
 go_wp2;refine dj (v:=aG (fi 5 1 4 0 0 100 100 8)) (fN _ _ _ _ (aP w (ab (fi 5 1 4 0 0 100 100 8) 26)) 8 rfl) ?_;exact⟨rfl,(b9 _ w).alloc bu _⟩
def aic(aN d n pat b3 cd a k:U)(b:¬ yl d n pat b3 cd)(w:aj):aB 9 #[aG (fi aN d n a k pat b3 cd)] w λe w'=>e=aV #[.pointer none,false]/\Below w w w':=by
 refine SH;refine aS ((aau aN d n pat b3 cd a k b) _) λaq al=>?_;go_wp2;go_ret2;exact⟨rfl,(cp.trans (al.mono cp.size))⟩
def aib(g:Sep w (aC.kinds fu :: R))(aN:U)(d n:J)(pat b3 cd a c:U)(hd:d<=8)(aw:1<=n/\n<=16)(ao:1<=pat/\pat<=10000)(i:1<=b3/\b3<=256)(a_:1<=cd/\cd<=16):aB 9 #[aG (fi aN d n a c pat b3 cd)] w λe w'=>
  ∃ B:k8,e=aV #[B.b,true]/\cy w' B (pB aN d n pat b3) 0 R/\B.o=fu:=by
 have f:=ad (L8 (g.alloc (ab (fi aN d n a c pat b3 cd) 26)) aN d n pat b3 cd a c hd aw ao i a_)
 go_in
 go_wp2_with fail;generalize World.alloc w _=bo at *;refine f.o.mono ?_;rintro e aq ⟨B,rfl,h,al⟩;go_wp2;go_ret2;exact⟨B,rfl,h,al⟩
def Bh(a b:ai cq):dI (a++b)=dI a++dI b:=rZ ..
def MN(h:∀ c∈l,c.bq≠4):dI l=[]:=filter_eq_nil_iff.2 λc an=>by simpa using h c an
def ML(h:∀ c∈l,c.bq=4):dI l=l:=pZ.2 λc an=>by simpa using h c an
def Yc(xs L:ai aE):∀ c∈jN xs L,c.bq≠4:=λc an=>by
 exact VD
def ah0(s:cR)(fr:U)(xs:ai aE)(now:U):dI (l1 s fr xs now)=[]:=MN λc an=>by
 rcases gd.1 an with an|an
 .exact Yc _ _ c an
 obtain⟨e,_,rfl|rfl⟩:=Pm _ _ _ _ c an
 .show(2:U)≠4;omega
 show(1:U)≠4;omega
def abl(s:cR):dI (lN s)=[]:=MN λc an=>by
 unfold lN at an;split at an
 .cases an
 exact VD
def Fb(r:U)(p:c9):dI (hC r p).2=dI p.2:=by
 unfold hC;split
 .rfl
 rw[Bh,abl,gq]
def Mi(p:c9):dI (gy p).2=dI p.2:=by
 unfold gy;split
 .exact Fb _ _
 rfl
def Mv(f v:U)(p:c9):dI (ka f v p).2=dI p.2:=by
 unfold ka;split
 .split
  .rfl
  exact Fb _ _
 split<;>rfl
def aeX(f:J)(p:c9):dI (kv f p).2=dI p.2:=by
 unfold kv;split
 .exact Mv _ _ _
 rfl
def Eh(L xs:ai aE):(∀ c∈(iC L xs).2,c.bq=4)/\(iC L xs).2.map cq.cL=xs:=by
 refine p8
 induction xs.reverse with
 | nil=>exact⟨(λc an=>nomatch an),rfl⟩
 | cons e l a=>
  rw[p4,tN];refine⟨λc an=>?_,?_⟩
  .rcases gd.1 an with an|an
   .exact a.1 c an
   rw[kD.1 an]
  rw[k3,a.2];rfl
def h6(us:J->J->U)(aN:U)(n:J):ai aE:=(range n).flatMap (fe us aN)
def vW(us:J->J->U)(aN:U)(n:J):h6 us aN (n+1)=h6 us aN n++fe us aN n:=by
 unfold h6;rw[th,td,flatMap_singleton]
def Ey{dc:J->J->U}(aN:U)(n:J)(h:∀ k,k<2->∀ j,j<n->us k j=dc k j):h6 us aN n=h6 dc aN n:=by
 induction n with
 | zero=>simp[h6]
 | succ n b=>
  have h2:=Ez aN n λk hk j a=>h k hk j I;exact(vW us aN n).trans ((congr (c6 HAppend.hAppend (b λk hk j a=>h k hk j I)) h2).trans (vW dc aN n).symm)
def Zd(us:J->J->U){aN:U}(aA:0<=aN/\aN<=4294967295)(n:J):(h6 us aN n).length<=64*n:=by
 induction n with
 | zero=>simp[h6]
 | succ n a=>
  rw[vW,cG]
  have:=(tR us aA n).2.1
  omega
def q'(l:ai cq):ai aE:=(dI l).map cq.cL
def aeU(s:ch):dI (dt s).2=[]:=by
 unfold dt;split
 .rfl
 rename_i g _;have key:∀ (L:ai (J×ai aE)) (p:c9),dI (L.foldl (lv s.x.now) p).2=dI p.2:=by
  intro L
  induction L with
  | nil=>intro p;rfl
  | cons e l a=>
   intro p;show dI (l.foldl (lv s.x.now) (lv s.x.now p e)).2=_;rw[a];exact Wf
 exact key _ _
def ahG(v:aR)(p:c9):dI (fH v p).2=dI p.2:=by
 unfold fH;split
 .exact Wf
 rfl
theorem O5{F:J}{bk us:J->J->U}:∀ (n:J) {p:c9},ck p.1 F bk us->j4 p.1 bk us->∃ Y,q' (gp n p).2=q' p.2++Y/\h6 us p.1.x.aN ((gp n p).1.ld.aO+1).toNat=h6 us p.1.x.aN (p.1.ld.aO+1).toNat++Y
 | 0,p,_,_=>⟨[],by simp[gp],by simp[gp]⟩
 | n+1,p,h,aw=>by
  unfold gp;split
  .exact⟨[],aM,aM⟩
  refine RG;obtain⟨Y,d,a⟩:=O5 n h1 e;have ao:((p.1,p.2):c9)=p:=rfl;rw[ao]at h2 b;rw[ao]at d a;have g:=h.aO;have i:=(h.pM aw).2;have c:=h.b8 (p.1.ld.aO+1);rw[aD ⟨I,I⟩]at c;have hk:q' (Go.Proofs.YtalagblioepadaaGreatDoor.hr p).2=q' p.2++fe us p.1.x.aN (p.1.ld.aO+1).toNat:=by
   have f:dI (Go.Proofs.YtalagblioepadaaGreatDoor.hr p).2=dI p.2++jc p.1.ld (p.1.ld.aO+1):=by
    refine Dp;split
    .rw[aeX,Bh];unfold jc;rw[ML (Eh _ _).1]
    rw[Bh];unfold jc;rw[ML (Eh _ _).1]
   unfold q';rw[f,k3];unfold jc;rw[(Eh _ _).2,c]
  refine⟨fe us p.1.x.aN (p.1.ld.aO+1).toNat++Y,by rw[d,hk,eh],?_⟩;rw[h2]at a;rw[a,b,show(p.1.ld.aO+1+1).toNat=(p.1.ld.aO+1).toNat+1 by omega,vW,eh]
def ck.Ln{F:J}(h:ck s F bk us)(aN:U):h6 us aN (s.ld.aO+1).toNat=h6 bk aN (s.ld.aO+1).toNat:=Ey aN _ λk hk j a=>by
 have an:=h.aO;have hm:=h.aL
 have:k=s.x.aL\/k=1-s.x.aL:=I
 rcases this with rfl|rfl
 .exact h.GP j I
 exact h.uJ j (.inr I)
def ah9{F:J}(h:ck s F bk us)(aT:s.cn=false)(w:s.x.now<=F+s.x.eg+1)(A:s.x.now<=100000)(v:aR)(a_:v.toNat<=63):h6 bk s.x.aN (s.ld.aO+1).toNat++q' (c2 v s).2=h6 (if eF s then kq s bk v.toNat else bk) s.x.aN ((c2 v s).1.ld.aO+1).toNat/\(c2 v s).1.cC=s.cC/\((c2 v s).1.cn=false->((c2 v s).1.x.fG:U)<=(c2 v s).1.ld.aO+1):=by
 obtain⟨dc,c,K,_,B⟩:=yG h aT w A v a_;have n:=c.c4;obtain⟨Y,d,l⟩:=O5 (dx (fH v (dt s)).1.x-(fH v (dt s)).1.ld.aO).toNat n c.fq;have ax:=ck.settle (dx (fH v (dt s)).1.x-(fH v (dt s)).1.ld.aO).toNat n c.fq I;have m:=c.settle;have em:gp (dx (fH v (dt s)).1.x-(fH v (dt s)).1.ld.aO).toNat (fH v (dt s))=dS v s:=rfl;rw[em]at d l ax;have q:kU (fH v (dt s))=dS v s:=rfl;rw[q]at m;obtain⟨f,a⟩:=m;have e:c2 v s=ou (dS v s):=by unfold c2;rw[aT];rfl
 have p:q' (c2 v s).2=Y:=by
  rw[e];unfold q' ou;rw[Mi];have d:=d;unfold q' at d;rw[ahG,aeU]at d;simpa using d
 obtain⟨b,g⟩:∃ b:c9,b=({(dS v s).1 with x:=eJ (dS v s).1.x,aJ:=(dG (dS v s).1.aJ (jg {(dS v s).1 with x:=eJ (dS v s).1.x})).2},(dS v s).2):=⟨_,rfl⟩;have k:c2 v s=gy b:=by rw[e,g];rfl
 have⟨g1,C,r,D,E,t⟩:=A5 b;have y:(gy b).1.cC=b.1.cC:=by
  unfold gy;split
  .exact(tU 12 b).2.2.2.1
  rfl
 have⟨_,_,_,_,_,_,_,_,_,_,_,_,_,o,_⟩:=(ug h);have z:(fH v (dt s)).1.cC=s.cC:=by
  unfold fH;split
  .exact o
  exact o
 refine⟨?_,?_,?_⟩
 .rw[p,k,r,g];rw[c.fix.aN,B]at l;rw[<-(f.c4.Ln s.x.aN),l,<-h.Ln]
  congr 1
  exact Ey _ _ λi av j H=>(c.sU i j (.inl (by have:=h.aO;omega))).symm
 .rw[k,y,g];exact ax.2.2.2.2.1.trans z
 intro an;rw[k]at an⊢;have⟨_,u⟩:=t an;rw[u]at an⊢;rw[g]at an⊢;have a:dx (dS v s).1.x=(dS v s).1.ld.aO:=by
  rcases a with a|a
  .rw[an]at a;cases a
  exact a
 have hE:=f.c4.pM f.fq;have G:=f.c4.xV;show((eJ (dS v s).1.x).fG:U)<=(dS v s).1.ld.aO+1;unfold eJ;split
 .rw[f.c4.jr.fG];omega
 show((dx (dS v s).1.x).toNat:U)<=_;omega
structure ix(se:U)(M:fj):ae where
 e':∀ k,k<2->(M.p k).cn=false->((M.p k).x.fG:U)<=(M.p k).ld.aO+1
 cC:∀ k,k<2->-1000<=(M.p k).cC/\(M.p k).cC<=1000
 bq:∀ k,k<2->∀ c∈M.st k,c.bq=4
 st:∀ k,k<2->(M.st k).map cq.cL=h6 (gn M.fo) se ((M.p k).ld.aO+1).toNat
section
variable{n d w:J}{se:U}{M:fj}{k:J}
def ix.gR(x:ix se M)(h:gi n d w se M)(aw:n<=400)(hk:k<2):(M.st k).length<=30000:=by
 refine DY;have h2:=c6 length (x.st k hk);rw[iP]at h2;have aA:=av.c4.aN;rw[av.sd]at aA;have a:=Zd (gn M.fo) aA ((M.p k).ld.aO+1).toNat;have b:=av.c4.aO;have c:=av.wG;omega
def ix.still(x:ix se M){dz:ai cq}{g:dd}(e:s'.ld.aO=(M.p k).ld.aO)(h:s'.cn=false->(M.p k).cn=false)(i:s'.x.fG=(M.p k).x.fG)(l:-1000<=s'.cC/\s'.cC<=1000)(m:dI dz=[]):ix se {p:=b' M.p k s',fo:=M.fo,st:=b' M.st k (M.st k++dI dz),cs:=g}:=by
 rw[m,gq];have f:∀ j,b' M.st k (M.st k) j=M.st j:=λj=>by unfold b';split;subst j;rfl;rfl
 have ao:∀ j,j<2->∀ P:ch->ae,P s'->P (M.p j)->P (b' M.p k s' j):=λj _ P a b=>by unfold b';split;exact a;exact b
 refine⟨λj d=>?_,λj d=>ao j d (λs=>-1000<=s.cC/\s.cC<=1000) l (x.cC j d),λj d=>?_,λj d=>?_⟩
 .show(b' M.p k s' j).cn=false->((b' M.p k s' j).x.fG:U)<=(b' M.p k s' j).ld.aO+1;unfold b';split
  .subst j;intro c;rw[i,e];exact x.e' k d (h c)
  exact x.e' j d
 .show ∀ c∈b' M.st k (M.st k) j,c.bq=4;rw[f];exact x.bq j d
 show(b' M.st k (M.st k) j).map cq.cL=h6 (gn M.fo) se ((b' M.p k s' j).ld.aO+1).toNat;rw[f,x.st j d];unfold b';split
 .subst j;rw[e]
 rfl
def ix.tick(x:ix se M)(h:gi n d w se M)(aw:n<=400)(hk:k<2)(v:aR)(a_:v.toNat<=63):ix se (hX k v M):=by
 refine DY;have⟨u,D,G,H⟩:=two hk;by_cases aT:(M.p k).cn=true
 .refine UE;have o:(if eF (M.p k)then b' M.fo k (M.fo k++[v])else M.fo)=M.fo:=by unfold eF;rw[aT];rfl
  unfold hX;rw[o,S];exact x.still rfl (λc=>c) rfl (x.cC k hk) rfl
 refine DH;have⟨f,y,z⟩:=ah9 av.c4 aT (by rw[av.wn];exact av.E) (by have:=av.wG;omega) v a_;have t:(if eF (M.p k)then kq (M.p k) (gn M.fo) v.toNat else gn M.fo)=gn (hX k v M).fo:=by
  show _=gn (if eF (M.p k)then b' M.fo k (M.fo k++[v])else M.fo);split
  .rw[MT];unfold kq;rw[av.aL,av.rv]
  rfl
 rw[t,av.sd]at f;refine⟨λj a=>?_,λj a=>?_,λj a c an=>?_,λj a=>?_⟩
 .show(b' M.p k _ j).cn=false->((b' M.p k _ j).x.fG:U)<=(b' M.p k _ j).ld.aO+1;unfold b';split
  .exact z
  exact x.e' j a
 .show -1000<=(b' M.p k _ j).cC/\(b' M.p k _ j).cC<=1000;unfold b';split
  .rw[y];exact x.cC k hk
  exact x.cC j a
 .have an:c∈b' M.st k (M.st k++dI (c2 v (M.p k)).2) j:=an;unfold b' at an;split at an
  .rcases gd.1 an with an|an
   .exact x.bq k hk c an
   unfold dI at an;simpa using(hN.1 an).2
  exact x.bq j a c an
 show(b' M.st k (M.st k++dI (c2 v (M.p k)).2) j).map cq.cL=h6 (gn (hX k v M).fo) se ((b' M.p k (c2 v (M.p k)).1 j).ld.aO+1).toNat;by_cases e:j=k
 .subst j;rw[ky,ky,k3,x.st k hk];exact f
 rw[jD _ _ e,jD _ _ e,x.st j a];have s:j=1-k:=I;subst s;have⟨B,K,L,b⟩:=h.ps (1-k) u;refine Ey se _ λi C q P=>?_;have an:=b.c4.aO;have N:=b.uF;have g:=b.c4.db;rw[b.rv]at g;refine ed;have l:q<(M.fo i).length:=by
  have:i=k\/i=1-k:=I
  rcases this with rfl|rfl<;>omega
 have⟨r,m⟩:=EL M k v i;unfold gn;exact T0
def aii(t:cl)(x:U)(h:jC x t.data.toList.length<t.data.toList.length):qJ t x 0=t:=by
 have e:uI t.data.toList x 0=t.data.toList:=by
  unfold uI;have ak:∀ y:aR,n3 y 0=y:=λy=>by unfold n3;simp
  rw[ak,n9,gW h];exact set_getElem_self h
 unfold qJ;rw[e]
def y4(s:dd)(g i:U)(j:J):(∀ t∈(hb s g i).get j,t∈s.get j)/\((hb s g i).get j).length<=(s.get j).length:=by
 unfold hb;split
 .unfold dd.put dd.get
  split<;>split<;>first
   | exact⟨λt aW=>mem_of_mem_eraseIdx aW,length_eraseIdx_le _ _⟩
   | exact⟨λ_ h=>h,dm _⟩
   | (rename_i a b;exact⟨λt aW=>mem_of_mem_eraseIdx aW,length_eraseIdx_le _ _⟩)
 exact⟨λ_ h=>h,dm _⟩
def abj(h:gi n d w se M)(aw:n<=400)(hk:k<2)(T:t.size<=256)(aW:(∃ m,t.data.toList=ec m/\j5 (w+d) (M.fo (1-k)) (b1 (M.p (1-k))) m)\/(gG t.data.toList).2≠0)(aT:(M.p k).cn=false):Aj (M.p k).aJ t/\((cX (M.p k).aJ t.data.toList).2.1=0->∃ F us,J2 (M.p k) t F (gn M.fo) us):=by
 have⟨F,us,A,b,E,a,j,l,G,H,o,e,bS,K,L,N⟩:=h.ps k hk;have⟨B,bK,a',fr⟩:=two hk;have Q:d<=8/\w<=16:=by have:=b.ot;rw[e,bS]at this;omega
 have q:=b.db;have u:=b.ry;rw[e,j]at q;rw[bS]at u;have⟨D,l',C,bP,bB,e3,e4,hA,eI,dv,gQ,fY,d1,d2,O,P⟩:=h.ps (1-k) B;have r:=bP.db;have v:=bP.ry;rw[fY,e4]at r;rw[d1]at v;rw[bK]at hA eI;have g:Aj (M.p k).aJ t:=by
  have bI:=a.eZ;have gf:=a.ac;have g':=a.fE;have hd:=a.bad;have h2:=a.fT;have lb:=a.e2;exact⟨I,I,I,I,I,I⟩
 refine⟨g,λy=>?_⟩;have⟨⟨T',cV,V,W,X,Y,Z,i6,i7,s,z⟩,S⟩:=(a.Ba I (M.fo (1-k)) l I (Tq:=b1 (M.p (1-k))) (c:=w+d) hA aW);have R:(cX (M.p k).aJ t.data.toList).1.bm.length=T'-b1 (M.p k):=by rw[s];simp;omega
 have f:∀ i x,(cX (M.p k).aJ t.data.toList).1.bm[i]?=some x->(M.fo (1-k))[b1 (M.p k)+i]?=some x:=λi x ak=>by
  exact T2
 exact⟨F,us,b,aT,g,y,λx ak=>by
  obtain⟨i,av,rfl⟩:=zo.1 ak;exact h.oF (1-k) _ (mK (f i _ (gW av))),λi x ak=>by
  rw[o];unfold gn;rw[n9,f i x ak];rfl,z,I,I⟩
def Mt(s:ch)(t:ai aR)(h:(∃ m,t=ec m/\m.wf/\dR m)\/(gG t).2≠0)(d:-1000<=s.cC/\s.cC<=1000):(ek t s).1.ld.aO=s.ld.aO/\((ek t s).1.cn=false->s.cn=false)/\(ek t s).1.x.fG=s.x.fG/\(-1000<=(ek t s).1.cC/\(ek t s).1.cC<=1000)/\dI (ek t s).2=[]:=by
 unfold ek;split
 .rename_i aT;exact Jh
 split
 .exact Jh
 rename_i aT _;have aT:s.cn=false:=by simpa using aT
 refine S9;have⟨k,u,n,v⟩:=Mq (cX s.aJ t).1 s1;have⟨g1,o,w,p,q,r⟩:=A5 (hD (cX s.aJ t).1 s1);have i:∀ (l:ai aR) (x:cO),(gz x l).fG=x.fG:=by
  intro l
  induction l with
  | nil=>intro x;rfl
  | cons a l j=>intro x;exact j _
 have e:-1000<=(hD (cX s.aJ t).1 s1).1.cC/\(hD (cX s.aJ t).1 s1).1.cC<=1000:=by
  refine zV;split
  .rw[(Fh _ _ _).2.2.2.1,b];exact d
  split
  .exact abh s.aJ t h
  rw[b];exact d
 have g:(gy (hD (cX s.aJ t).1 s1)).1.cC=(hD (cX s.aJ t).1 s1).1.cC:=by
  unfold gy;split
  .exact(tU 12 _).2.2.2.1
  rfl
 refine⟨by rw[w,n,b],λ_=>aT,by rw[g1,k,b];exact i _ _,by rw[g];exact e,?_⟩;rw[Mi];refine zV;split
 .exact Mv _ _ _
 split<;>rfl
def ab4(s:ch)(d:-1000<=s.cC/\s.cC<=1000):(hF s).1.ld.aO=s.ld.aO/\((hF s).1.cn=false->s.cn=false)/\(hF s).1.x.fG=s.x.fG/\(-1000<=(hF s).1.cC/\(hF s).1.cC<=1000)/\dI (hF s).2=[]:=by
 unfold hF;split
 .exact Jh
 have⟨g1,f,a,b,g,e,h,i,j⟩:=tU 12 ({s with aJ:=oo s.aJ},[]);exact⟨a,λc=>absurd (e.symm.trans c) aM,by rw[g1],by rw[b];exact d,Fb _ _⟩
end
variable{W:aj}{n d w:J}{se:U}
inductive sr(s:ch):ch->ai cq->ae
 | tick (v:aR) (a_:v.toNat<=63):sr s (c2 v s).1 (c2 v s).2
 | Ba (t:ai aR):sr s (ek t s).1 (ek t s).2
 | leave:sr s (hF s).1 (hF s).2
 | none:sr s s []
structure Xd(M hv:fj)(bp:U)(dz:ai cq)(ca:U):ae where
 ex:∃ k:J,k<2/\(ca=0->bp=(k:U))/\sr (M.p k) (hv.p k) dz/\(∀ j:J,j≠k->hv.p j=M.p j)/\(ca≠0->dz=[])/\∀ j,∀ c∈hv.st j,c∈M.st j\/j=k/\c∈dI dz
def GM{f:J->ai cq}{X:ai cq}:∀ c∈b' f k (f k++X) j,c∈f j\/j=k/\c∈X:=λc h=>by
 unfold b' at h;split at h
 .rename_i e;subst e;exact(gd.1 h).imp id λh=>⟨rfl,h⟩
 exact .inl h
def gi.ij(h:gi n d w se M)(a:dd)(an:∀ j:J,(∀ t∈a.get j,t∈M.cs.get j)/\(a.get j).length<=(M.cs.get j).length)(b:M.cs.lost<=a.lost/\a.lost<=M.cs.lost+1):gi (n+1) d w se {M with cs:=a}:=by
 refine⟨λk hk=>?_,h.oF,λk hk t aW=>h.yf k hk t ((an k).1 t aW),λk=>cu (an k).2 (h.wy k),?_⟩
 .refine DY;exact⟨F,us,A,av.cC hk (va n) rfl rfl h.oF (zq _) bu⟩
 exact Vq
def gi.up(h:gi n d w se M):gi (n+1) d w se M:=h.ij M.cs (λ_=>⟨λ_ h=>h,dm _⟩) I
def ix.ij(x:ix se M)(a:dd):ix se {M with cs:=a}:=⟨x.e',x.cC,x.bq,x.st⟩
def Fo{F:J}(h:ck s F bk us):s.ld.bl.length<=256:=by
 have:=h.nN
 have:=h.most
 omega
def A'{p:c9}(h:p.1.ld.bl.length<=256)(r:U):(hC r p).2.length<=p.2.length+256:=by
 unfold hC;split
 .omega
 rw[cG];unfold lN;split
 .simp
 rw[iP];omega
def PA(h:gi n d w se M)(x:ix se M)(aw:n<=400)(hk:k<2)(v:aR)(a_:v.toNat<=63)(aT:(M.p k).cn=false):∃ F us,D7 (M.p k) v F (gn M.fo) us:=by
 refine DY;have h1:=av.aJ.pT;have h2:=av.aJ.ac;have a:=av.aJ.e2;have b:=av.rv;have c:=av.c4.db;have e:=av.c4.ot;have f:=av.wG;have g:=x.e' k hk aT;have i:=av.c4.jr.fG;exact⟨F,us,av.c4,aT,by rw[av.wn];exact av.E,I,I,a_,x.cC k hk,I,I,(y6 h aw hk v a_).bt aT⟩
def ah8{v:aR}{F:J}(hk:D7 s v F bk us):(c2 v s).2.length<=60256:=by
 have⟨o,g,m,_,gD,h,_,_,_,n,_⟩:=ug hk.c4;have l:b1 (dt s).1=b1 s:=by unfold b1 gK;rw[n,h]
 have cf:j4 (dt s).1 bk o:=λj d c=>by rw[h];rw[gD]at d;rw[l]at c;exact m j d c
 have r:=hk.c4.N';obtain⟨y,a,_,_,t⟩:=yG hk.c4 hk.ng hk.E (cu hk.top bs) v hk.ev;have b:=a.c4;have hE:=b.pM a.fq;have w:=Pq v g (λan=>((g.Pp cf (by rw[gD];exact hk.top) Q1 v hk.ev (dt s).2) an).2.2.2.2.1);have N:=iz.EG (dx (fH v (dt s)).1.x-(fH v (dt s)).1.ld.aO).toNat b.B3;have D:gp (dx (fH v (dt s)).1.x-(fH v (dt s)).1.ld.aO).toNat (fH v (dt s))=dS v s:=rfl;refine ed;have z:=b.k_;have u:=hk.e';have f:=(a.settle).1;have i:kU (fH v (dt s))=dS v s:=rfl;rw[i]at f;have k:=Fo f.c4;have e:c2 v s=ou (dS v s):=by unfold c2;rw[hk.ng];rfl
 rw[e];unfold ou gy;split
 .refine cu (A' (p:=(_,_)) ?_ 12) ?_
  .exact k
  show(dS v s).2.length+256<=_;omega
 show(dS v s).2.length<=_;omega
def abf{F:J}(h:ck s F bk us)(t:ai aR):(ek t s).2.length<=1000:=by
 unfold ek;split
 .simp
 split
 .simp
 refine S9;have a:s1.ld.bl.length<=256:=by have:=Fo h;rw[b];exact this
 have h2:(hD (cX s.aJ t).1 s1).2.length<=256/\(hD (cX s.aJ t).1 s1).1.ld.bl.length<=256:=by
  have aT:∀ r,(hC r (s1,[])).2.length<=256/\(hC r (s1,[])).1.ld.bl.length<=256:=λr=>⟨by have:=A' (p:=(s1,[])) a r;simpa using this,by
   unfold hC;split
   .exact a
   .show(iF s1.ld).bl.length<=256;unfold iF;split
    .exact a
    .simp⟩
  refine zV;split
  .unfold ka;split
   .split
    .exact⟨aM,a⟩
    exact aT _
   split<;>exact⟨aM,a⟩
  split<;>exact⟨aM,a⟩
 unfold gy;split
 .have:=A' h2.2 12
  omega
 omega
def ab3{F:J}(h:ck s F bk us):(hF s).2.length<=256:=by
 unfold hF;split
 .simp
 have a:=Fo h
 have:=A' (p:=({s with aJ:=oo s.aJ},[])) a 12
 exact mO
def aaW(h:gi n d w se M)(x:ix se M)(aw:n<=400)(hk:k<2)(v:aR)(a_:v.toNat<=63):∀ W d R,aC.kinds B.o∈R->Sep W (bO (B.p k) (M.p k) d++R)->aB 60 #[bM ((B.p k).p),bf v.toNat] W (Am (B.p k) (c2 v (M.p k)).1 (c2 v (M.p k)).2 (f' v (M.p k)) (eF (M.p k)) R):=λW d R a ax=>by
 cases aT:(M.p k).cn with
 | true=>exact aaY ax aT v a_ ((y6 h aw hk v a_).MZ aT)
 | false=>
  have⟨F,us,aW⟩:=PA h x aw hk v a_ aT;exact aaV a ax v aW
def aaQ(h:gi n d w se M)(aw:n<=400)(hk:k<2)(e:t.size<=256)(aW:(∃ m,t.data.toList=ec m/\j5 (w+d) (M.fo (1-k)) (b1 (M.p (1-k))) m)\/(gG t.data.toList).2≠0):∀ W d R,aC.kinds B.o∈R->Sep W (bO (B.p k) (M.p k) d++R)->aB 65 #[bM ((B.p k).p),.string t] W (x0 (B.p k) (ek t.data.toList (M.p k)).1 (ek t.data.toList (M.p k)).2 (j_ t.data.toList (M.p k)) R):=λW d R b ax=>by
 cases aT:(M.p k).cn with
 | true=>exact aaS ax aT t
 | false=>
  have⟨h1,h2⟩:=abj h aw hk e aW aT;by_cases a:(cX (M.p k).aJ t.data.toList).2.1=0
  .have⟨F,us,c⟩:=h2 a;exact aaT b ax t c
  exact aaR ax aT t h1 _ rfl a
def Mr(t:ai aR)(s:ch)(h:j_ t s≠0):(ek t s).2=[]:=by
 unfold j_ at h;unfold ek;split
 .rfl
 rename_i aT;rw[az aT]at h;rw[aD h]
def pad(d:J)(M:fj):fj:={M with fo:=λk=>replicate d 0++M.fo k}
def Bu(d k:J)(v:aR)(M:fj):hX k v (pad d M)=pad d (hX k v M):=by
 have h:(hX k v (pad d M)).fo=(pad d (hX k v M)).fo:=by
  funext j
  show(if eF (M.p k)then b' (pad d M).fo k ((pad d M).fo k++[v])else(pad d M).fo) j=replicate d 0++(if eF (M.p k)then b' M.fo k (M.fo k++[v])else M.fo) j;split
  .unfold b';split
   .show(replicate d 0++M.fo k)++[v]=_;rw[eh]
   rfl
  rfl
 have e:pad d (hX k v M)={hX k v (pad d M)with fo:=(pad d (hX k v M)).fo}:=rfl;rw[e,<-h]
def vD(B:k8)(n d w:J)(se:U)(M:fj)(bp mv:U)(R:ai aC)(e:Ending)(w':aj):ae:=
 ∃ hv dz ca,gi (n+1) d w se (pad d hv)/\ix se (pad d hv)/\Xd M hv bp dz ca/\k9 B hv mv dz ca R e w'
def aih(m:ba)(x:U)(a:dR m):jC x (dW m).data.toList.length<(dW m).data.toList.length:=by
 refine RF;exact av
def YN{s:dd}{g i:U}{v:cl}(h:hB s g i=some v):(g=0\/g=1)/\v∈s.get g:=by
 unfold hB at h;split at h
 .rename_i an;exact⟨an.1,mK h⟩
 cases h
theorem Fz{W':aj}{e:Ending}(al:gi n d w se (pad d M))(ak:ix se (pad d M)){bp:U}{ca:U}(a:ca≠0\/bp=0\/bp=1)(h:k9 B M mv [] ca R e W'):vD B n d w se M bp mv R e W':=
 ⟨M,[],ca,al.up,ak,⟨by
  rcases a with a|a|a
  .exact⟨0,I,λe=>absurd e a,.none,λ_ _=>rfl,λ_=>rfl,λ_ _=>.inl⟩
  .exact⟨0,I,λ_=>a,.none,λ_ _=>rfl,λ_=>rfl,λ_ _=>.inl⟩
  .exact⟨1,I,λ_=>a,.none,λ_ _=>rfl,λ_=>rfl,λ_ _=>.inl⟩⟩,h⟩
def Ma(h:cy W B M mv R)(al:gi n d w se (pad d M))(ak:ix se (pad d M))(aw:n<=400)(bH bp i at':U)(bQ:J)(bL:aR)(e:bH=1)(hk:k<2)(a:bp=k)(a_:bL.toNat<=63):aB 10 #[B.b,aG (cQ bH bp i at' bQ bL.toNat)] W (k9 B (hX k bL M) (wrap64 (mv+1)) (c2 bL (M.p k)).2 0 R):=by
 have aW:=y6 al aw hk bL a_;have⟨F,us,A,av⟩:=al.ps k hk;have s:(c2 bL (M.p k)).2.length<=60256:=by
  cases aT:(M.p k).cn with
  | true=>unfold c2;rw[aT];simp
  | false=>
   have⟨F,us,c⟩:=PA al ak aw hk bL a_ aT;exact ah8 c
 have g:dp (c2 bL (M.p k)).1=dp (M.p k)+if eF (M.p k)then 1 else 0:=by
  cases aT:(M.p k).cn with
  | true=>unfold c2 eF;rw[aT];rfl
  | false=>
   have⟨_,_,_,_,_,_,j,_⟩:=av.c4.tick aT (by rw[av.wn];exact av.E) (by have:=av.wG;omega) bL a_;exact j
 have f:0<=M.cs.lost/\M.cs.lost<=10*n:=al.lost;have v:(M.st k).length<=30000:=ak.gR al aw hk;have hm:dp (M.p k)=(replicate d (0:aR)++M.fo k).length:=av.rv;rw[cG]at hm;have q:(M.p k).x.now<=dp (M.p k)/\dp (M.p k)<=(M.p k).x.now+(M.p k).x.e_:=av.c4.db;have r:(M.p k).x.e_<=8/\_:=av.c4.ot;have t:(M.p k).x.now<=n:=av.wG;have u:(f' bL (M.p k)).length<=10:=aW.gR;refine L7 h hk i at' bQ bL.toNat (hX k bL M) (c2 bL (M.p k)).2 0 bH bp e a λo l h2=>?_;rw[a];refine aaE h2 hk bL (aaW al ak aw hk bL a_) g I I (λm hm=>?_) I I
 have:=uE (aW.snd m hm).2.1
 have f:(ec m).length=(dW m).size:=by simp[dW,ByteArray.size]
 omega
def aaC(h:cy W B M mv R)(al:gi n d w se (pad d M))(ak:ix se (pad d M))(aw:n<=400)(bH bp i at':U)(bQ:J)(bL:aR)(f:bH=1)(hk:k<2)(a:bp=k):aB 10 #[B.b,aG (cQ bH bp i at' bQ bL.toNat)] W (vD B n d w se M bp (wrap64 (mv+1)) R):=by
 by_cases a_:bL.toNat<=63
 .refine(Ma h al ak aw bH bp i at' bQ bL f hk a a_).mono λe w' ao=>⟨_,_,0,Bu d k bL M▸al.tick aw hk bL a_,Bu d k bL M▸ak.tick al aw hk bL a_,⟨k,hk,λ_=>a,?_,λj g=>jD _ _ g,λc=>absurd rfl c,λ_=>GM⟩,ao⟩;show sr (M.p k) (b' M.p k (c2 bL (M.p k)).1 k) _;rw[ky];exact .tick bL a_
 refine(L7 h hk i at' bQ bL.toNat M [] 1 bH bp f a λm l h2=>?_).mono λe w' ao=>Fz al ak (.inl I) ao;rw[a];exact aaF h2 hk _ I
def aaA(h:cy W B M mv R)(al:gi n d w se (pad d M))(ak:ix se (pad d M))(aw:n<=400)(bH bp i at':U)(bQ:J)(bL:aR)(l:bH=6)(hk:k<2)(a:bp=k):aB 10 #[B.b,aG (cQ bH bp i at' bQ bL.toNat)] W (vD B n d w se M bp (wrap64 (mv+1)) R):=by
 obtain⟨F,us,A,av⟩:=al.ps k hk;have v:(M.st k).length<=30000:=ak.gR al aw hk;have u:(hF (M.p k)).2.length<=256:=ab3 av.c4;obtain⟨bI,m,o,q,r⟩:=ab4 (M.p k) (ak.cC k hk);refine(aas h hk i at' bQ bL.toNat bH bp l a (hF (M.p k)).1 (hF (M.p k)).2 I λt d2 s f ax=>aaU f ax av.c4).mono λe w' ao=>⟨{M with p:=b' M.p k (hF (M.p k)).1,st:=b' M.st k (M.st k++dI (hF (M.p k)).2)},_,0,al.goes hk (ab5 al hk) _ M.cs (λ_=>⟨λ_ h=>h,dm _⟩) ⟨kA _,by show M.cs.lost<=M.cs.lost+1;omega⟩,ak.still bI m o q r,⟨k,hk,λ_=>a,?_,λj g=>jD _ _ g,λc=>absurd rfl c,λ_=>GM⟩,ao⟩;show sr (M.p k) (b' M.p k (hF (M.p k)).1 k) _;rw[ky];exact .leave
def Mb(h:cy W B M mv R)(al:gi n d w se (pad d M))(ak:ix se (pad d M))(aw:n<=400)(bH bp i at':U)(bQ:J)(bL:aR)(e:2<=bH/\bH<=5/\bH≠4)(hk:k<2)(a:bp=k)(x:cl)(cs:dd)(f:x.size<=256)(aW:(∃ m,x.data.toList=ec m/\j5 (w+d) ((pad d M).fo (1-k)) (b1 (M.p (1-k))) m)\/(gG x.data.toList).2≠0)(c:∀ W R,cy W B M (wrap64 (mv+1)) R->aB 64 #[B.b,aG (cQ bH bp i at' bQ bL.toNat)] W (pc B M (wrap64 (mv+1)) R x true cs)):aB 10 #[B.b,aG (cQ bH bp i at' bQ bL.toNat)] W (k9 B (Bb k x cs M) (wrap64 (mv+1)) (ek x.data.toList (M.p k)).2 (j_ x.data.toList (M.p k)) R):=by
 have⟨F,us,A,av⟩:=al.ps k hk;have o:(M.st k).length<=30000:=ak.gR al aw hk;have l:(ek x.data.toList (M.p k)).2.length<=1000:=abf av.c4 x.data.toList;exact E1 h hk i at' bQ bL.toNat (Bb k x cs M) (ek x.data.toList (M.p k)).2 (j_ x.data.toList (M.p k)) bH bp I a λj g h2=>aay h2 hk bH i at' bQ bL.toNat x cs e.2.2 _ _ _ (Mr _ _) I bp a c (aaQ (M:=pad d M) al aw hk f aW)
def A1(h:cy W B M mv R)(al:gi n d w se (pad d M))(ak:ix se (pad d M))(aw:n<=400)(bH bp i at':U)(bQ:J)(bL:aR)(o:2<=bH/\bH<=5/\bH≠4)(hk:k<2)(c:bp=k)(x:cl)(cs:dd)(g:∀ j:J,(∀ t∈cs.get j,t∈M.cs.get j)/\(cs.get j).length<=(M.cs.get j).length)(q:M.cs.lost<=cs.lost/\cs.lost<=M.cs.lost+1)(s:x.size<=256)(aW:(∃ m,x.data.toList=ec m/\j5 (w+d) ((pad d M).fo (1-k)) (b1 (M.p (1-k))) m)\/(gG x.data.toList).2≠0)(f:∀ W R,cy W B M (wrap64 (mv+1)) R->aB 64 #[B.b,aG (cQ bH bp i at' bQ bL.toNat)] W (pc B M (wrap64 (mv+1)) R x true cs)):aB 10 #[B.b,aG (cQ bH bp i at' bQ bL.toNat)] W (vD B n d w se M bp (wrap64 (mv+1)) R):=by
 have r:(∃ m,x.data.toList=ec m/\m.wf/\dR m)\/(gG x.data.toList).2≠0:=aW.imp (λ⟨m,a,b⟩=>⟨m,a,b.1,b.2.1⟩) id;have⟨bI,u,v,y,z⟩:=Mt (M.p k) x.data.toList r (ak.cC k hk);refine(Mb h al ak aw bH bp i at' bQ bL o hk c x cs s aW f).mono λe w' ao=>⟨Bb k x cs M,_,_,al.goes hk (Mu al aw hk aW) _ cs g q,ak.still bI u v y z,⟨k,hk,λ_=>c,?_,λj l=>jD _ _ l,Mr _ _,λ_=>GM⟩,ao⟩;show sr (M.p k) (b' M.p k (ek x.data.toList (M.p k)).1 k) _;rw[ky];exact .Ba _
theorem aaB(h:cy W B M mv R)(al:gi n d w se (pad d M))(ak:ix se (pad d M))(bH bp i at':U)(bQ:J)(bL:aR)(c:2<=bH/\bH<=5)(hk:k<2)(e:bp=k)(x:cl)(a:∀ W R,cy W B M (wrap64 (mv+1)) R->aB 64 #[B.b,aG (cQ bH bp i at' bQ bL.toNat)] W (pc B M (wrap64 (mv+1)) R x false M.cs)):aB 10 #[B.b,aG (cQ bH bp i at' bQ bL.toNat)] W (vD B n d w se M bp (wrap64 (mv+1)) R):=
 (E1 h hk i at' bQ bL.toNat M [] 6 bH bp c e λ_ _ h2=>aax h2 bH bp i at' bQ bL.toNat x M.cs a).mono λ_ _ ao=>Fz al ak (.inl I) ao
def Y0{w w':aj}{c:J}{s:dd}(h:fK w c 64 s)(a:∃ q,w'=w.drewN q):fK w' c 64 s/\ag (iG c) w w':=by
 obtain⟨q,rfl⟩:=a;exact⟨h.keeps ((bd w).drewN q) (λ_ _ e=>e),((ag.refl (iG c) w).drewN q)⟩
def aaz(h:cy W B M mv R)(al:gi n d w se (pad d M))(ak:ix se (pad d M))(aw:n<=400)(bH bp i at':U)(bQ:J)(bL:aR)(r:bQ<256):aB 10 #[B.b,aG (cQ bH bp i at' bQ bL.toNat)] W (vD B n d w se M bp (wrap64 (mv+1)) R):=by
 by_cases u:¬ (0<=bp/\bp<2)\/bH<1\/6<bH
 .exact(aar h bH bp i at' bQ bL.toNat u).mono λe w' ao=>Fz al ak (.inl I) ao
 have⟨k,hk⟩:=mJ (show 0<=bp by omega);have f:k<2:=I;have o:∀ v,hB M.cs bp i=some v->∃ m,v=dW m/\j5 (w+d) ((pad d M).fo (1-k)) (b1 (M.p (1-k))) m:=λv a_=>by
  have hm:=(YN a_).2;rw[hk]at hm;exact al.yf k f v hm
 have A:0<=M.cs.lost/\M.cs.lost<=10*n:=al.lost;have x:bH=1\/bH=2\/bH=3\/bH=4\/bH=5\/bH=6:=I;have C:=GB M.cs bp i;rcases x with a|a|a|a|a|a
 .exact aaC h al ak aw bH bp i at' bQ bL a f hk
 .cases an:hB M.cs bp i with
  | none=>
   refine Dj;refine E3 h2 bp i at' bQ bL.toNat ByteArray.empty false M.cs λW c=>?_
   have:=vR c bp i
   rw[an,GC an]at this;exact this
  | some v=>
   obtain⟨m,rfl,hm⟩:=o v an;refine A1 h al ak aw bH bp i at' bQ bL I f hk (dW m) (hb M.cs bp i) (y4 _ _ _) I (uE hm.2.1).2 (.inl ⟨m,rfl,hm⟩) λl g h2=>?_;rw[a];refine E3 h2 bp i at' bQ bL.toNat (dW m) true (hb M.cs bp i) λW c=>?_
   have:=vR c bp i
   rw[an]at this;exact this
 .cases an:hB M.cs bp i with
  | none=>
   refine Dj;refine L9 h2 bp i at' bQ bL.toNat ByteArray.empty false M.cs λW c=>?_;exact T3
  | some v=>
   obtain⟨m,rfl,hm⟩:=o v an;refine A1 h al ak aw bH bp i at' bQ bL I f hk (dW m) M.cs (λ_=>⟨λ_ h=>h,dm _⟩) I (uE hm.2.1).2 (.inl ⟨m,rfl,hm⟩) λl g h2=>?_;rw[a];refine L9 h2 bp i at' bQ bL.toNat (dW m) true M.cs λW c=>?_;exact T3
 .cases an:hB M.cs bp i with
  | none=>
   refine Dj
   have:=L_ h2 bp i at' bQ bL.toNat I
   rw[an,show m_ M.cs bp i=M.cs by unfold m_;rw[an];rfl]at this;exact this
  | some v=>
   have hd:m_ M.cs bp i={hb M.cs bp i with lost:=M.cs.lost+1}:=by unfold m_;rw[an];rfl
   have a7:∀ j:J,((m_ M.cs bp i).get j)=(hb M.cs bp i).get j:=λj=>by rw[hd];rfl
   refine(E1 h f i at' bQ bL.toNat {M with cs:=m_ M.cs bp i} [] 0 bH bp I hk λl g h2=>aaw h2 bH bp i at' bQ bL.toNat ByteArray.empty (m_ M.cs bp i) a λz y t=>?_).mono λe w' ao=>?_
   .rw[a]
    have:=L_ t bp i at' bQ bL.toNat I
    rw[an]at this;exact this
   refine⟨{M with cs:=m_ M.cs bp i},[],0,al.ij (m_ M.cs bp i) (λj=>by rw[a7];exact y4 _ _ _ j) (by rw[hd];show M.cs.lost<=M.cs.lost+1/\M.cs.lost+1<=M.cs.lost+1;omega),ak.ij _,⟨k,f,λ_=>hk,.none,λ_ _=>rfl,λ_=>rfl,λ_ _=>.inl⟩,ao⟩
 .cases an:hB M.cs bp i with
  | none=>
   refine Dj;exact L' h2 bp i at' bQ bL.toNat ByteArray.empty false M.cs λW c=>X_ c bp i at' bQ an
  | some v=>
   obtain⟨m,rfl,hm⟩:=o v an;have aA:=uE hm.2.1;have N:∀ W R,cy W B M (wrap64 (mv+1)) R->aB 64 #[B.b,aG (cQ bH bp i at' bQ bL.toNat)] W (pc B M (wrap64 (mv+1)) R (qJ (dW m) at' bQ) true (hb M.cs bp i)):=λl g h2=>by
    rw[a];exact L' h2 bp i at' bQ bL.toNat _ true _ λW c=>X9 c bp i at' bQ r (dW m) an aA.1 aA.2
   by_cases q:bQ=0
   .have D:qJ (dW m) at' bQ=dW m:=by rw[q];exact aii _ _ (aih m at' hm.2.1)
    refine ed;exact A1 h al ak aw bH bp i at' bQ bL I f hk (dW m) (hb M.cs bp i) (y4 _ _ _) I aA.2 (.inl ⟨m,rfl,hm⟩) N
   have s:=ahn m at' bQ r q hm.2.1;exact A1 h al ak aw bH bp i at' bQ bL I f hk _ (hb M.cs bp i) (y4 _ _ _) I s.2 (.inr (by rw[s.1];omega)) N
 exact aaA h al ak aw bH bp i at' bQ bL a f hk
def abV(d k j:J)(M:fj)(h:∀ k,M.fo k=[]):gn (pad d M).fo k j=0:=by
 show(((replicate d 0++M.fo k).getD j 0).toNat:U)=0;rw[h,gq,n9,Cx];split<;>rfl
def Nq(aN:U)(d n:J)(pat b3:U)(aA:0<=aN/\aN<=4294967295)(hd:d<=8)(aw:1<=n/\n<=16)(ao:1<=pat/\pat<=10000)(g:1<=b3/\b3<=256):gi 0 d n aN (pad d (pB aN d n pat b3))/\ix aN (pad d (pB aN d n pat b3)):=by
 have f:∀ k j,gn (pad d (pB aN d n pat b3)).fo k j=0:=λk j=>abV d k j _ λ_=>rfl;have D:∀ k,(pad d (pB aN d n pat b3)).fo k=replicate d 0:=λk=>gq _;refine⟨⟨λk hk=>⟨0,λ_ _=>0,d,?_⟩,λk x N=>?_,λk _ t aW=>?_,λk=>?_,by show(0:U)<=0/\(0:U)<=10*((0:J):U);omega⟩,⟨λk _ _=>by show((0:J):U)<=-1+1;omega,λk _=>HU,(λk _ c an=>nomatch an),λk _=>by simp[h6,pad,pB,pC,yE,cR.new]⟩⟩
 .have l:ck (pC aN d n pat b3 k) 0 (gn (pad d (pB aN d n pat b3)).fo) λ_ _=>0:=by
   refine⟨⟨rfl,?_,λj b=>?_⟩,aA,hk,⟨hd,aw.1,aw.2⟩,λk j=>by rw[f];omega,λ_ _=>I,⟨c3 _,by show d<=0+d;omega⟩,c3 _,⟨dm _,c3 _,c3 _,by show d<=0+64;omega⟩,.inl rfl,λj b=>absurd b (lD _),λj b=>?_,⟨by show(-1:U)<=-1;omega,by show(-1:U)<((0:J):U);omega,by show(-1:U)<(d:U);omega⟩,rfl,g,Pairwise.nil,by show((0:J):U)<=b3;omega,λj=>?_,(λe h=>nomatch h)⟩
   .rfl
   .show ju d=pr 0 0 d (gn (pad d (pB aN d n pat b3)).fo j) λ_=>0;have e:gn (pad d (pB aN d n pat b3)).fo j=λ_=>0:=by funext i;exact f j i
    rw[e];unfold ju pr rl gZ;rw[uu _ (dm 0)];split<;>rfl
   .have:j<0\/(j:U)<=-1:=b
    omega
   show []=if (-1:U)<j/\j<((0:J):U)then _ else []
   rw[az I]
  refine⟨l,by show 0<=0+n+1;omega,?_,by rw[D,uZ];rfl,by rw[D,uZ];exact dm _,dm d,by show d<=d+(n+d);omega,rfl,rfl,rfl,rfl,λ_=>by show(0:U)≠2;omega,dm _⟩;rw[D];have a:(0:U)<=0/\(0:U)<=((0:J):U):=I;exact⟨rfl,ao,.inl rfl,a,a,a,a,a,rfl,by rw[drop_replicate,HP];rfl,by rw[uZ];exact dm _,rfl,by rw[uZ];omega,(λm h=>nomatch h),c3 _⟩
 .refine ed;rw[eq_of_mem_replicate N];decide
 .have aW:=aW;unfold dd.get at aW;split at aW<;>cases aW
 show((⟨[],[],0⟩:dd).get (k:U)).length<=64;unfold dd.get;split<;>simp
section
def lO{α:Type}(f:J->α->Option α):J->α->Option α
 | 0,s=>some s
 | n+1,s=>(lO f n s).bind (f n)
theorem Bg{α:Type}{f:J->α->Option α}{s x:α}:∀ {n:J},lO f n s=some x->∀ i,i<n->∃ y a,lO f i s=some y/\f i y=some a/\lO f (i+1) s=some a
 | 0,_,i,av=>by omega
 | n+1,h,i,av=>by
  have N:(lO f n s).bind (f n)=some x:=h;cases D:lO f n s with
  | none=>rw[D]at N;cases N
  | some y=>
   by_cases e:i=n
   .subst e;refine ed;exact⟨y,x,D,N,h⟩
   exact Bg D i I
structure Nm where
 now:J
 dP:J
 cf:J
 fst:J
 aO:U
 aJ:cj
 rep:aY
 cC:U
def ui(aO:U):aY:=decide ((aO+1)%16=0)
def D6(a:Nm):ae:=¬ (4<(a.now:U)-a.cf-a.cC/\a.aJ.cA%2=1)/\a.dP=a.now+1/\(a.now:U)-(min a.dP a.cf:J)<4/\a.aO+1=(min a.cf (a.now+1):J)-1/\1<=a.cf/\(a.fst:U)<=a.aO+1/\a.dP+2<a.fst+60/\(ui (a.aO+1)=true->a.aO=14/\a.rep=false)
instance (a:Nm):Decidable (D6 a):=by unfold D6;infer_instance
def my(r:U)(a:Nm):cj:=if ui (a.aO+1)then np (lq a.aJ a.dP 0) (a.aO+2) r else lq a.aJ a.dP 0
def Pz(r:U)(a:Nm):Nm:=⟨a.now+1,a.dP+1,a.cf,(a.aO+1).toNat,a.aO+1,(dG (my r a) ((a.now:U)+1-a.cf)).2,a.rep || ui (a.aO+1),a.cC⟩
def GH(r:U)(a:Nm):cr (ai ba×Nm):=
 if a.aJ.state=1/\D6 a/\(dG (my r a) ((a.now:U)+1-a.cf)).2.state=1 then some ((dG (my r a) ((a.now:U)+1-a.cf)).1,Pz r a)
 else if a.aJ.state=0/\a.now=0/\a.dP=1/\a.cf=1/\a.fst=0/\a.aO=-1/\(dG a.aJ (-1)).2.state=0 then some ((dG a.aJ (-1)).1,{a with aJ:=(dG a.aJ (-1)).2})
 else none
def rk(l:cj)(m:ba):bY×U×cj:=
 if (c_ {l with heard:=l.cA} m).2.1 then((c_ {l with heard:=l.cA} m).1,0,{(c_ {l with heard:=l.cA} m).2.2 with fE:=(c_ {l with heard:=l.cA} m).2.2.fE+1})
 else(bY.zero,0,{(c_ {l with heard:=l.cA} m).2.2 with fT:=(c_ {l with heard:=l.cA} m).2.2.fT+1})
def abi(l:cj)(m:ba)(aA:l.state≠2)(hm:m.wf/\dR m):cX l (ec m)=rk l m:=by
 unfold cX;rw[az aA,GL m hm.2 hm.1];rfl
def tV(a:Nm)(m:ba):cr Nm:=
 let r:=rk a.aJ m
 if a.aJ.state≠2/\r.2.2.state≠2/\r.1.bm.all (· == 0)=true/\a.cf+r.1.bm.length<=a.fst+60/\(r.1.kind=4->a.rep=true/\r.1.frame=16)then
  some {a with aJ:=r.2.2,cf:=a.cf+r.1.bm.length,cC:=if r.1.kind=6 then r.1.lead else a.cC}
 else none
structure eU where
 p:Nm
 q:Nm
 f:ai ba
 g:ai ba
 n:J
namespace eU
def P(s:eU)(k:J):Nm:=if k=0 then s.p else s.q
def F(s:eU)(k:J):ai ba:=if k=0 then s.f else s.g
def nn(s:eU)(k:J)(a:Nm):eU:=if k=0 then {s with p:=a}else {s with q:=a}
def nk(s:eU)(k:J)(l:ai ba):eU:=if k=0 then {s with f:=l}else {s with g:=l}
def up(s:eU)(n:J):eU:={s with n:=n}
end eU
def s7(r:U)(k:J)(s:eU):cr eU:=match GH r (s.P k)with
 | some (b,a)=>if s.n<400/\(s.F (1-k)).length+b.length<=60 then some (((s.nn k a).nk (1-k) (s.F (1-k)++b)).up (s.n+1))else none
 | none=>none
def tW:J->Nm->ai ba->cr (J×Nm)
 | n,a,[]=>some (n,a)
 | n,a,m :: l=>match tV a m with
  | some a'=>if n<400 then tW (n+1) a' l else none
  | none=>none
def y3(k:J)(s:eU):cr eU:=match tW s.n (s.P k) (s.F k)with
 | some (n,a)=>some (((s.nn k a).nk k []).up n)
 | none=>none
def afw(r:U)(s:eU):cr eU:=(lO (s7 r) 2 s).bind (lO y3 2)
def runN(r:U)(n:J)(s:eU):cr eU:=lO (λ_=>afw r) n s
def Nm.new(k:J):Nm:=⟨0,1,1,0,-1,cj.new ((k:U)+1) 100 1,false,0⟩
def vO:eU:=⟨Nm.new 0,Nm.new 1,[],[],0⟩
def afF(r:U):∃ s,runN r 20 vO=some s/\3<s.p.now/\1<s.q.aO:=by
 have h:(λr=>match runN r 20 vO with|some s=>decide (3<s.p.now/\1<s.q.aO)|none=>false)=λ_=>true:=by kernel_rfl
 have h:=congrFun h r;cases a:runN r 20 vO with
 | none=>
  rw[a]at h;cases h
 | some s=>
  rw[a]at h;exact⟨s,rfl,r8 h⟩
def abk{n:J}{a:Nm}{x:J×Nm}{l:ai ba}(h:tW n a (m :: l)=some x):∃ a',tV a m=some a'/\n<400/\tW (n+1) a' l=some x:=by
 have b:(match tV a m with|some a'=>if n<400 then tW (n+1) a' l else none|none=>none)=some x:=h;split at b
 .rename_i a' e;split at b
  .rename_i aw;exact⟨a',e,aw,b⟩
  cases b
 cases b
def nx:J->J->U:=g_ (λ_ _=>0) 5
def ra(f eZ now:J):Fd:=⟨f,eZ,0,gZ f eZ,gZ f now⟩
def gl(k:J)(a:Nm):cO:=⟨5,1,4,k,λj=>if j<2 then ra a.fst (if j=k then a.dP else a.cf) a.now else ju 1,a.fst,fh nx a.fst (a.now+1),a.now⟩
def AD{x y:cO}(g:x.f=y.f)(e:x.L=y.L)(h1:x.aN=y.aN)(h2:x.e_=y.e_)(a:x.eg=y.eg)(b:x.aL=y.aL)(c:x.fG=y.fG)(d:x.now=y.now):x=y:=by
 obtain⟨h,i,j,k,l,m,n,o⟩:=x;obtain⟨bS,p,q,r,s,t,u,v⟩:=y;subst g e h1 h2 a b c d;rfl
section
variable{k:J}(hk:k<2)(a:Nm)
theorem sF(b:j<2):(gl k a).f j=ra a.fst (if j=k then a.dP else a.cf) a.now:=aD b
include hk
theorem Yp:(gl k a).f k=ra a.fst a.dP a.now:=by rw[sF a hk,aD rfl]
theorem Ej:(gl k a).f (1-k)=ra a.fst a.cf a.now:=by rw[sF a I,az I]
theorem K3:mi (gl k a)=min a.dP a.cf:=by
 unfold mi;rw[sF a I,sF a I];refine oc;rcases this with rfl|rfl
 .rw[aD rfl,az I];rfl
 rw[az I,aD rfl];exact Nat.min_comm _ _
theorem Qg:hc (gl k a)=none:=by
 unfold hc gK;rw[show(gl k a).aL=k from rfl,Ej hk a];exact G_ _ _ _ _
theorem Gl:dx (gl k a)=((min (min a.dP a.cf) a.now:J):U)-1:=by
 unfold dx;rw[Qg hk a,K3 hk a];rfl
omit hk in
theorem Ns(f n j:J):pR (gZ f n) j 0=0:=by
 unfold pR gZ;rw[rN];split<;>rfl
theorem NT(d:j<2)(a':Nm)(e:a'=if j=k then {a with dP:=a.dP+1}else {a with cf:=a.cf+1})(h:a.fst<=if j=k then a.dP else a.cf):hI (gl k a) j 0=gl k a':=by
 subst e;have h2:(if j=k then {a with dP:=a.dP+1}else {a with cf:=a.cf+1}:Nm).fst=a.fst/\(if j=k then {a with dP:=a.dP+1}else {a with cf:=a.cf+1}:Nm).now=a.now:=by split<;>exact⟨rfl,rfl⟩
 refine AD ?_ (by show fh nx a.fst (a.now+1)=fh nx _ (_+1);rw[h2.1,h2.2]) rfl rfl rfl rfl h2.1.symm h2.2.symm
 funext i
 show fy (gl k a).f j _ i=if i<2 then ra _ _ _ else ju 1
 rw[h2.1,h2.2];unfold fy;by_cases e:i=j
 .subst e;rw[aD rfl,aD d,sF a d];show(⟨a.fst,(if i=k then a.dP else a.cf)+1,0,fR (gZ a.fst (if i=k then a.dP else a.cf)) (if i=k then a.dP else a.cf) 0,gZ a.fst a.now⟩:Fd)=_;rw[show fR (gZ a.fst (if i=k then a.dP else a.cf)) (if i=k then a.dP else a.cf) 0=gZ a.fst ((if i=k then a.dP else a.cf)+1)from yX (λ_=>(0:U)) h];split<;>rfl
 rw[az e];show(if i<2 then ra a.fst (if i=k then a.dP else a.cf) a.now else ju 1)=_;by_cases b:i<2
 .rw[aD b,aD b]
  congr 1
  by_cases c:j=k
  .rw[aD c,az I,az I]
  rw[az c,aD I,aD I]
 rw[az b,az b]
theorem MD:∀ (l:ai aR) (a:Nm),a.fst<=a.cf->(∀ x∈l,x=0)->gz (gl k a) l=gl k {a with cf:=a.cf+l.length}
 | [],a,_,_=>rfl
 | x :: l,a,h,ak=>by
  have e:=ak x o0;subst e;show gz (hI (gl k a) (1-k) 0) l=_;rw[NT hk a I {a with cf:=a.cf+1} (by rw[az I]) (by rw[az I];exact h),MD l {a with cf:=a.cf+1} (by show a.fst<=a.cf+1;omega) λy a8=>ak y (lB _ a8)];rw[Nat.add_right_comm];rfl
omit hk in
theorem Ph{n:J}(h:a.fst<=n)(aw:n<=a.now):ia (gl k a) n=nx n:=by
 show(h_ (fh nx a.fst (a.now+1)) (n:U)).getD bW=_;rw[OU,aD I];rfl
omit hk in
theorem ahE(h:a.fst<=a.now)(e:a.now<a.fst+64):{kg (gl k a) a.now with now:=a.now+1}=gl k {a with now:=a.now+1}:=by
 have c:∀ j,j<2->ef (gl k a) a.now j=0:=λj d=>by
  unfold ef;rw[sF a d];exact Ns _ _ _
 refine AD ?_ ?_ rfl rfl rfl rfl rfl rfl
 .funext j
  show(if j<2 then qH ((gl k a).f j) a.now else(gl k a).f j)=(if j<2 then ra a.fst (if j=k then a.dP else a.cf) (a.now+1)else ju 1);by_cases b:j<2
  .rw[aD b,aD b,sF a b];generalize (if j=k then a.dP else a.cf)=n;show(⟨a.fst,n,0,gZ a.fst n,uD a.fst (gZ a.fst a.now) a.now (pR (gZ a.fst n) a.now 0)⟩:Fd)=⟨a.fst,n,0,gZ a.fst n,gZ a.fst (a.now+1)⟩;rw[Ns];unfold uD;rw[aD e,show fR (gZ a.fst a.now) a.now 0=gZ a.fst (a.now+1)from yX (λ_=>(0:U)) h]
  rw[az b,az b];exact az b
 show fR (fh nx a.fst (a.now+1)) (a.now+1) (jB (ef (gl k a) a.now 0) (ef (gl k a) a.now 1) (ia (gl k a) a.now))=fh nx a.fst (a.now+1+1);rw[c 0 I,c 1 I,Ph a h bu];exact yX nx I
omit hk in
theorem YP(m:J)(h:a.fst<=m)(d:m<=a.dP)(h1:m<=a.cf)(aw:m<=a.now):tO (gl k a) m=gl k {a with fst:=m}:=by
 refine AD ?_ ?_ rfl rfl rfl rfl rfl rfl
 .funext j
  show(if j<2 then qn ((gl k a).f j) m else(gl k a).f j)=(if j<2 then ra m (if j=k then a.dP else a.cf) a.now else ju 1);by_cases b:j<2
  .rw[aD b,aD b,sF a b];have c:m<=(if j=k then a.dP else a.cf):=by split<;>assumption
   generalize (if j=k then a.dP else a.cf)=n at *;show(⟨m,n,0,pq m (gZ a.fst n),pq m (gZ a.fst a.now)⟩:Fd)=⟨m,n,0,gZ m n,gZ m a.now⟩;rw[show pq m (gZ a.fst n)=gZ m n from wU _ h c,show pq m (gZ a.fst a.now)=gZ m a.now from wU _ h aw]
  rw[az b,az b];exact az b
 exact wU _ h I
end
end
structure nB(k:J)(r:U)(a:Nm)(s:ch):ae where
 x:s.x=gl k a
 aJ:s.aJ=a.aJ
 aO:s.ld.aO=a.aO
 cn:s.cn=false
 cC:s.cC=a.cC
 own:s.own=if a.rep then [(16,r)]else []
 wt:s.wt=[]
 ok:a.fst<=a.cf
 out:∀ m∈a.aJ.out,m.kind=4->m.sum=r
def GG{l:cj}(lead:U)(h:∀ m∈l.out,m.kind=4->m.sum=r):(∀ m∈(dG l lead).1,m.kind=4->m.sum=r)/\∀ m∈(dG l lead).2.out,m.kind=4->m.sum=r:=by
 have a:∀ m∈(js l).out,m.kind=4->m.sum=r:=by
  unfold js;split<;>exact h
 unfold dG;generalize js l=b at a;unfold ns;split
 .split
  .exact⟨λm hm=>(by rw[kD.1 hm];intro c;cases c),a⟩
  exact⟨λm hm=>(nomatch hm),a⟩
 refine⟨λm hm=>?_,λm hm=>nomatch hm⟩;rcases gd.1 hm with hm|hm
 .exact a m hm
 split at hm
 .exact I6
 have aW:(oP b).kind=4->(oP b).sum=r:=by
  unfold oP;split<;>(intro c;cases c)
 unfold pS at hm;split at hm
 .rcases fW.1 hm with hm|hm
  .rw[hm];exact aW
  exact I6
 rw[kD.1 hm];exact aW
def Lj{k:J}(hk:k<2){a:Nm}{cs:ai cq}{l:U}(h:nB k r a s)(m:J)(ak:eJ s.x=gl k {a with fst:=m})(hm:m<=a.cf)(c:(a.now:U)-a.cf=l)(aA:(dG a.aJ l).2.state≠2):nB k r {a with fst:=m,aJ:=(dG a.aJ l).2} (ou (s,cs)).1/\(dG s.aJ (jg {s with x:=eJ s.x})).1=(dG a.aJ l).1:=by
 have b:jg {s with x:=eJ s.x}=l:=by
  show(((eJ s.x).now:J):U)-(((eJ s.x).f (1-(eJ s.x).aL)).next:U)=l;rw[ak,show(gl k {a with fst:=m}).aL=k from rfl,Ej hk];exact c
 have e:(ou (s,cs)).1={s with x:=eJ s.x,aJ:=(dG a.aJ l).2}:=by
  unfold ou gy;simp only[b];simp only[h.aJ];rw[az aA]
 rw[e,b,h.aJ];exact⟨⟨ak,rfl,h.aO,h.cn,h.cC,h.own,h.wt,hm,(GG l h.out).2⟩,rfl⟩
def ah7{k:J}(hk:k<2)(G:r=jX (nx 16)){a a':Nm}{z:ai ba}(h:nB k r a s)(aW:GH r a=some (z,a')):nB k r a' (c2 0 s).1/\f' 0 s=z/\∀ m∈z,m.kind=4->m.sum=r:=by
 have H:dt s=(s,[]):=by
  unfold dt;rw[h.x,Qg hk]
 have D:c2 0 s=ou (dS 0 s)/\f' 0 s=(dG (dS 0 s).1.aJ (jg {(dS 0 s).1 with x:=eJ (dS 0 s).1.x})).1:=by
  unfold c2 f';rw[h.cn];exact o9
 have T:dp s=a.dP:=by
  unfold dp;rw[h.x,show(gl k a).aL=k from rfl,Yp hk];rfl
 have X:b1 s=a.cf:=by
  unfold b1 gK;rw[h.x,show(gl k a).aL=k from rfl,Ej hk];rfl
 rw[D.1,D.2];unfold GH at aW;split at aW
 .rename_i an;obtain⟨h1,⟨bP,bB,e3,e4,hA,eI,dv,gQ⟩,v⟩:=an;have bw:=h.ok;simp only[jn,mM]at aW;obtain⟨rfl,rfl⟩:=aW;have R:hj s=true:=by
   unfold hj uL jg kO;rw[X,h.aJ,h.cC,h.x,K3 hk];simp only[e9,hf,oS,Bool.and_eq_false_iff,tn];refine⟨h1,?_,?_⟩
   .show ¬ 4<(a.now:U)-_-_\/_;omega
   show ¬ ((4:J):U)<=(a.now:U)-_;omega
  obtain⟨i,c⟩:∃ i:Nm,i={a with now:=a.now+1,dP:=a.dP+1,aJ:=lq a.aJ a.dP 0}:=⟨_,rfl⟩;obtain⟨s1,d,es,b⟩:∃ s1 d,fH 0 (dt s)=(s1,d)/\nB k r i s1:=by
   refine⟨(nv (ff s 0,[])).1,(nv (ff s 0,[])).2,by unfold fH;rw[H,aD R],?_⟩;have ar:(ff s 0).x=gl k {a with dP:=a.dP+1}:=by
    show hI s.x s.x.aL 0=_;rw[h.x];exact NT hk a hk _ (by rw[aD rfl]) (by rw[aD rfl];omega)
   rw[c];refine⟨?_,?_,h.aO,h.cn,h.cC,h.own,h.wt,bw,?_⟩
   .show {kg (ff s 0).x (ff s 0).x.now with now:=(ff s 0).x.now+1}=_;rw[ar];exact ahE (k:=k) {a with dP:=a.dP+1} (by show a.fst<=a.now;omega) (by show a.now<a.fst+64;omega)
   .show lq s.aJ (dp s) 0=lq a.aJ a.dP 0;rw[T,h.aJ]
   show ∀ m∈(lq a.aJ a.dP 0).out,_;unfold lq;split<;>exact h.out
  obtain⟨g,f⟩:∃ g:Nm,g={i with aO:=a.aO+1,aJ:=my r a,rep:=a.rep || ui (a.aO+1)}:=⟨_,rfl⟩;have K:dx s1.x=a.aO+1:=by
   rw[b.x,Gl hk,c];exact VK
  have j:s1.ld.aO=a.aO:=by rw[b.aO,c]
  obtain⟨s2,q,M,p⟩:∃ s2 q,dS 0 s=(s2,q)/\nB k r g s2:=by
   have e:dS 0 s=Go.Proofs.YtalagblioepadaaGreatDoor.hr (s1,d):=by
    unfold dS kU;rw[es];show gp (dx s1.x-s1.ld.aO).toNat (s1,d)=_;rw[K,j,show(a.aO+1-a.aO).toNat=0+1 by omega];unfold gp;rw[az (by show ¬ (s1.cn=true\/dx s1.x<=s1.ld.aO);rw[b.cn,K,j];simp;omega)];rfl
   refine⟨(Go.Proofs.YtalagblioepadaaGreatDoor.hr (s1,d)).1,(Go.Proofs.YtalagblioepadaaGreatDoor.hr (s1,d)).2,e,?_⟩;have E:(lh s1.ld (s1.ld.aO+1)).aO=a.aO+1:=by rw[<-j];rfl
   by_cases ao:(a.aO+2)%16=0
   .have n:ui (a.aO+1)=true:=dh I;have⟨fY,sC⟩:=gQ n;have y:(s1.ld.aO+2)%16=0:=by rw[j];exact ao
    have O:(s1.ld.aO+2).toNat=16:=by rw[j,fY];rfl
    have L:ia s1.x 16=nx 16:=by
     rw[b.x];exact Ph i (by rw[c];show a.fst<=16;omega) (by rw[c];show 16<=a.now+1;omega)
    have V:s1.own=[]:=by rw[b.own,c];show(if a.rep then _ else _)=_;rw[sC];rfl
    have t:Go.Proofs.YtalagblioepadaaGreatDoor.hr (s1,d)=(uh {s1 with ld:=lh s1.ld (s1.ld.aO+1)} 16,d++jc s1.ld (s1.ld.aO+1)):=by
     refine Dp;rw[aD y,O];unfold kv;rw[show na ({s1 with ld:=lh s1.ld (s1.ld.aO+1)}:ch).wt ((16:J):U)=none by show na s1.wt _=none;rw[b.wt];rfl]
    rw[t,f];have o:my r a=np (lq a.aJ a.dP 0) 16 r:=by unfold my;rw[aD n,fY];rfl
    have F:s1.aJ=lq a.aJ a.dP 0:=by rw[b.aJ,c]
    refine⟨by rw[c]at b⊢;exact b.x,?_,E,b.cn,by rw[c]at b⊢;exact b.cC,?_,b.wt,by rw[c];exact bw,?_⟩
    .show np s1.aJ ((16:J):U) (jX (ia s1.x 16))=my r a;rw[L,<-G,o,F];rfl
    .show mZ (sX s1.own ((16:J):U) (jX (ia s1.x 16))) (((16:J):U)-128)=if (a.rep || ui (a.aO+1))then _ else _
     rw[L,<-G,V,n,Bool.or_true];rfl
    show ∀ m∈(my r a).out,_;rw[o,<-F];have ar:∀ m∈s1.aJ.out,m.kind=4->m.sum=r:=by rw[b.aJ];exact b.out
    unfold np;split
    .intro m hm;rcases gd.1 hm with hm|hm
     .exact ar m hm
     rw[kD.1 hm];exact λ_=>rfl
    exact ar
   have n:ui (a.aO+1)=false:=cN I;have y:¬ (s1.ld.aO+2)%16=0:=by rw[j];exact ao
   have t:Go.Proofs.YtalagblioepadaaGreatDoor.hr (s1,d)=({s1 with ld:=lh s1.ld (s1.ld.aO+1)},d++jc s1.ld (s1.ld.aO+1)):=by
    refine Dp;rw[az y]
   have o:my r a=lq a.aJ a.dP 0:=by unfold my;rw[n];rfl
   have N:g={i with aO:=a.aO+1}:=by rw[f,o,n,zb,c]
   rw[t,N];exact⟨b.x,b.aJ,E,b.cn,b.cC,b.own,b.wt,b.ok,b.out⟩
  have W:dx s2.x=a.aO+1:=by
   rw[p.x,Gl hk,f,c];exact VK
  have w:g.aJ=my r a:=by rw[f]
  have hfin:=Lj (cs:=q) (l:=(a.now:U)+1-a.cf) hk p (a.aO+1).toNat (by
   unfold eJ;rw[W,az I,p.x];refine YP g _ ?_ ?_ ?_ ?_<;>rw[f,c]
   .show a.fst<=_;omega
   .show _<=a.dP+1;omega
   .show _<=a.cf;omega
   .show _<=a.now+1;omega) (by rw[f,c];show _<=a.cf;omega) (by rw[f,c];show((a.now+1:J):U)-(a.cf:U)=_;omega) (by rw[w,v];omega)
  rw[M];rw[w]at hfin;have u:({g with fst:=(a.aO+1).toNat,aJ:=(dG (my r a) ((a.now:U)+1-a.cf)).2}:Nm)=Pz r a:=by rw[f,c];rfl
  rw[u]at hfin;refine⟨hfin.1,hfin.2,?_⟩
  have:=p.out
  rw[w]at this;exact(GG _ this).1
 split at aW
 .rename_i _ an;obtain⟨h1,h2,v,B,C,P,Q⟩:=an;simp only[jn,mM]at aW;obtain⟨rfl,rfl⟩:=aW;have hE:dx s.x=-1:=by
   rw[h.x,Gl hk,h2,v,B];rfl
  have S:dS 0 s=(s,[]):=by
   have e:fH 0 (s,[])=(s,[]):=by
    unfold fH;rw[az];unfold hj;rw[h.aJ,h1];simp
   unfold dS kU;rw[H,e];show gp (dx s.x-s.ld.aO).toNat (s,[])=_;rw[hE,h.aO,P];rfl
  rw[S]
  have hfin:=Lj (cs:=[]) (l:=-1) hk h 0 (by
   unfold eJ;rw[hE,aD I,h.x];show gl k a=gl k {a with fst:=0};rw[<-C]) (c3 _) (by rw[h2,B];rfl) (by rw[Q];omega)
  have u:({a with fst:=0,aJ:=(dG a.aJ (-1)).2}:Nm)={a with aJ:=(dG a.aJ (-1)).2}:=by rw[<-C]
  rw[u]at hfin;exact⟨hfin.1,hfin.2,(GG _ h.out).1⟩
 cases aW
def ahW{l:cj}(m:ba)(h:∀ x∈l.out,x.kind=4->x.sum=r):(∀ x∈(c_ l m).2.2.out,x.kind=4->x.sum=r)/\((c_ l m).1.kind=4->m.kind=4/\(c_ l m).1.sum=m.sum):=by
 have a:∀ s,(iR l s).out=l.out:=λs=>by
  unfold iR;simp only[];split<;>rfl
 unfold c_;split
 .refine⟨?_,λc=>by cases c⟩;split
  .exact h
  intro x hm;rcases gd.1 hm with hm|hm
  .exact h x hm
  exact I6
 split
 .split
  .exact z1
  exact z1
 split
 .exact z1
 split
 .unfold iW;split
  .rename_i e;unfold kb;simp only[];split
   .exact⟨by rw[a];exact h,λc=>by cases c⟩
   exact⟨by show ∀ x∈(iR l m.ee).out,_;rw[a];exact h,λc=>by rw[show m.kind=4 from c]at e;omega⟩
  split
  .rename_i e;exact⟨h,λ_=>⟨e,rfl⟩⟩
  split
  .exact⟨by show ∀ x∈(iR l m.ee).out,_;rw[a];exact h,λc=>by cases c⟩
  split
  .exact z1
  rename_i e _ _;exact⟨h,λc=>absurd c e⟩
 exact z1
def abe{k:J}(hk:k<2){a a':Nm}(h:nB k r a s)(hm:m.wf/\dR m)(aA:m.kind=4->m.sum=r)(aW:tV a m=some a'):nB k r a' (ek (ec m) s).1/\j_ (ec m) s=0:=by
 unfold tV at aW;simp only at aW;split at aW
 .rename_i an;have⟨t,u,v,C,w⟩:=an;simp only[jn]at aW;have j:cX s.aJ (ec m)=rk a.aJ m:=by rw[h.aJ];exact abi a.aJ m t hm
  have z:(rk a.aJ m).2.1=0/\(∀ x∈(rk a.aJ m).2.2.out,x.kind=4->x.sum=r)/\((rk a.aJ m).1.kind=4->(rk a.aJ m).1.sum=r):=by
   have⟨bI,o⟩:=ahW (l:={a.aJ with heard:=a.aJ.cA}) m h.out;unfold rk;split
   .exact⟨rfl,bI,λc=>(o c).2.trans (aA (o c).1)⟩
   exact⟨rfl,bI,λc=>by cases c⟩
  have⟨g,p,q⟩:=z;generalize rk a.aJ m=H at *;have y:j_ (ec m) s=0:=by
   unfold j_;rw[h.cn,j];exact g
  refine⟨?_,y⟩;have ak:gz s.x H.1.bm=gl k {a with cf:=a.cf+H.1.bm.length}:=by
   rw[h.x];exact MD hk H.1.bm a h.ok λx ak=>by simpa using all_eq_true.1 v x ak
  obtain⟨s1,n⟩:∃ s1:ch,s1={s with x:=gz s.x H.1.bm,aJ:=H.2.2}:=⟨_,rfl⟩;have b:nB k r {a with aJ:=H.2.2,cf:=a.cf+H.1.bm.length} s1:=by
   rw[n];exact⟨ak,rfl,h.aO,h.cn,h.cC,h.own,h.wt,by show a.fst<=a.cf+_;have:=h.ok;omega,p⟩
  have i:nB k r a' (hD H.1 s1).1:=by
   rw[<-aW];refine zV;by_cases d:H.1.kind=4
   .rw[aD d];have⟨gD,B⟩:=w d;unfold ka;have A:na s1.own H.1.frame=some r:=by
     rw[b.own,B];rw[gD];rfl
    simp only[A];rw[aD (q d).symm,az I];exact Ve
   rw[az d];split
   .exact⟨b.x,b.aJ,b.aO,b.cn,rfl,b.own,b.wt,b.ok,b.out⟩
   exact Ve
  have e:(ek (ec m) s).1=(hD H.1 s1).1:=by
   have ao:ek (ec m) s=gy (hD H.1 s1):=by
    unfold ek;rw[az (by rw[h.cn];simp),j,az (λc=>c g),n]
   rw[ao];unfold gy;rw[az (by rw[i.aJ,<-aW];exact u)]
  rw[e];exact i
 cases aW
end Go.Proofs.YtalagblioepadaaGreatDoor
