/- The proof, part 33. -/
import Derived.Test.YtalagblioepadaaGreatDoorZe32
import Derived.Test.YtalagblioepadaaGreatDoorZe29
namespace Go.Proofs.YtalagblioepadaaGreatDoor
set_option linter.all false
open Proofs.Tryz List Go.RowKit Go.Maps Go.Shelf
set_option maxRecDepth 100000
set_option maxHeartbeats 2000000
variable{ww:Prop}
def C4(h:ww:=by unfold jy;omega):=h
variable{bP cap g i j bK:J}
variable{w w':aj}{B:k8}{M:fj}{mv:U}{R:ai aC}{r:U}{s s':eU}{k:J}
def eU.B5(s:eU){k:J}(a:Nm)(l:ai ba)(n:J)(hk:k<2)(b:j<2):(((s.nn k a).nk bK l).up n).P j=if j=k then a else s.P j:=by
 have h1:k=0\/k=1:=I;have h2:j=0\/j=1:=I;unfold nk;exact Vw
def eU.qK(s:eU){k:J}(a:Nm)(l:ai ba)(n:J)(hk:bK<2)(b:j<2):(((s.nn k a).nk bK l).up n).F j=if j=bK then l else s.F j:=by
 have h1:bK=0\/bK=1:=I;have h2:j=0\/j=1:=I;unfold nn;exact Vw
structure qc(r:U)(s:eU)(M:fj):ae where
 iA:∀ k,k<2->nB k r (s.P k) (M.p k)
 f:∀ k:J,k<2->M.cs.get k=(s.F k).map dW
 ok:∀ k,k<2->∀ m∈s.F k,(m.wf/\dR m)/\(m.kind=4->m.sum=r)
 bi:gi s.n 1 4 5 (pad 1 M)
 bD:ix 5 (pad 1 M)
theorem OS(a:J)(a7:a<2)(j:J)(d:j<2):∀ (b:ai ba) (cs:dd),(∀ m∈b,m.wf/\dR m)->(cs.get a).length+b.length<=60->(hL cs a b).get j=if j=a then cs.get j++b.map dW else cs.get j
 | [],cs,_,_=>by
  show cs.get j=_;split<;>simp
 | m :: l,cs,hm,f=>by
  have ar:jy (a:U):=by unfold jy;omega
  rw[eA]at f;have e:iK cs 64 a (dW m)=cs.put a (cs.get a++[dW m]):=by
   unfold iK;rw[aD ⟨ar,(uE (hm m o0).2)⟩,aD I]
  show(hL (iK cs 64 a (dW m)) a l).get j=_;rw[e,OS a a7 j d l _ (λx ak=>hm x (lB _ ak)) (by rw[A2 _ _ _ _ a7 ar,aD rfl,cG,jG];omega),A2 _ _ _ _ d ar];by_cases c:j=a
  .subst c;rw[aD rfl,aD rfl,aD rfl,nz,eh];rfl
  rw[az c,az I,az c]
theorem qc.tick(h:qc r s M)(l:r=jX (nx 16))(hk:k<2)(aW:s7 r k s=some s'):qc r s' (hX k 0 M)/\s.n<=400:=by
 unfold s7 at aW;split at aW
 .rename_i e a ao;split at aW
  .rename_i aw;simp only[jn]at aW;subst aW;have⟨o,g,q⟩:=ah7 hk l (h.iA k hk) ao;have d:∀ m∈e,m.wf/\dR m:=λm hm=>by
    have:=(y6 h.bi I hk 0 bs).snd m (by show m∈f' 0 (M.p k);rw[g];exact hm)
    exact⟨this.1,this.2.1⟩
   have c:1-k<2:=I;have i:(M.cs.get ((1-k:J):U)).length=(s.F (1-k)).length:=by rw[h.f _ c,iP]
   refine⟨⟨λj b=>?_,λj b=>?_,λj b m hm=>?_,Bu 1 k 0 M▸h.bi.tick I hk 0 bs,Bu 1 k 0 M▸h.bD.tick h.bi I hk 0 bs⟩,I⟩
   .rw[eU.B5 _ _ _ _ hk b];show nB j r _ (b' M.p k (c2 0 (M.p k)).1 j);unfold b';split
    .subst j;exact o
    exact h.iA j b
   .rw[eU.qK _ _ _ _ c b];show(hL M.cs (1-(k:U)) (f' 0 (M.p k))).get j=_;rw[g,show(1:U)-(k:U)=((1-k:J):U)by omega,OS (1-k) c j b e M.cs d (by rw[i];exact aw.2)];split
    .subst j;rw[h.f _ c,k3]
    exact h.f j b
   rw[eU.qK _ _ _ _ c b]at hm;split at hm
   .subst j;rcases gd.1 hm with hm|hm
    .exact h.ok _ c m hm
    exact⟨d m hm,q m hm⟩
   exact h.ok j b m hm
  cases aW
 cases aW
section
variable{p lX:Nm}{m:ba}{l:ai ba}{n:J}
def qc.first(h:qc r (((s.nn k p).nk k (m :: l)).up n) M)(hk:k<2):hB M.cs k 0=some (dW m)/\(∃ m',(dW m).data.toList=ec m'/\j5 (4+1) ((pad 1 M).fo (1-k)) (b1 (M.p (1-k))) m')/\(dW m).size<=256/\(m.wf/\dR m)/\(m.kind=4->m.sum=r):=by
 have e:M.cs.get k=dW m :: l.map dW:=by rw[h.f k hk,eU.qK _ _ _ _ hk hk,aD rfl];rfl
 have ar:=h.ok k hk m (by rw[eU.qK _ _ _ _ hk hk,aD rfl];exact o0);obtain⟨m',h1,h2⟩:=h.bi.yf k hk (dW m) (by show dW m∈M.cs.get k;rw[e];exact o0);refine⟨?_,⟨m',by rw[h1];rfl,h2⟩,(uE ar.1.2).2,ar⟩;unfold hB;rw[aD ⟨C4,kA _⟩,e];rfl
def qc.take(h:qc r (((s.nn k p).nk k (m :: l)).up n) M)(hk:k<2)(aw:n<400)(ao:tV p m=some lX):qc r (((s.nn k lX).nk k l).up (n+1)) (Bb k (dW m) (hb M.cs k 0) M)/\j_ (dW m).data.toList (M.p k)=0:=by
 obtain⟨_,c,_,hm,aA⟩:=h.first hk;have b:=h.iA k hk;rw[eU.B5 _ _ _ _ hk hk,aD rfl]at b;obtain⟨q,t⟩:=abe hk b hm aA ao;obtain⟨bI,d,g,i,o⟩:=Mt (M.p k) (dW m).data.toList (.inl ⟨m,rfl,hm⟩) (h.bD.cC k hk);have a7:∀ j:J,j<2->(hb M.cs k 0).get j=if j=k then l.map dW else M.cs.get j:=λj a=>by
  unfold hb;rw[aD ⟨C4,kA _⟩,A2 _ _ _ _ a C4,h.f k hk,eU.qK _ _ _ _ hk hk,aD rfl];by_cases e:j=k
  .subst e;rw[aD rfl,aD rfl];rfl
  rw[az e,az I]
 refine⟨⟨λj a=>?_,λj a=>?_,λj a x ak=>?_,h.bi.goes hk (Mu h.bi (by show n<=400;omega) hk (.inl c)) _ (hb M.cs k 0) (y4 _ _ _) (by show M.cs.lost<=_/\_;rw[(GB M.cs k 0)];show _/\M.cs.lost<=M.cs.lost+1;omega),h.bD.still bI d g i o⟩,t⟩
 .rw[eU.B5 _ _ _ _ hk a];show nB j r _ (b' M.p k (ek (ec m) (M.p k)).1 j);unfold b';split
  .subst j;exact q
  rename_i e
  have:=h.iA j a
  rwa [eU.B5 _ _ _ _ hk a,az e]at this
 .rw[eU.qK _ _ _ _ hk a];show(hb M.cs k 0).get j=_;rw[a7 j a];split
  .rfl
  rename_i e
  have:=h.f j a
  rwa [eU.qK _ _ _ _ hk a,az e]at this
 have ar:=h.ok j a x;rw[eU.qK _ _ _ _ hk a]at ak ar;split at ak
 .rename_i e;rw[aD e]at ar;exact ar (lB _ ak)
 rename_i e;rw[az e]at ar;exact ar ak
end
def l_(r:U)(B:k8)(R:ai aC)(s:eU)(w:aj):ae:=∃ M mv,cy w B M mv R/\qc r s M
def Al(e:Ending):ae:=∃ (a:cr Addr) (d b:J) (A:cr Addr) (n c:J) (m:aY) (ca:U),e=aV #[aG #[au a d b,au A n c,.bool m],aa ca]
def cy.forget{x:aC}(h:cy w B M mv (x :: R)):cy w B M mv R:=by
 refine p_;exact⟨V,T,d,Sep.tail (r:=x) (Sep.perm h (qR (l₁:=bO (B.p 0) (M.p 0) (d 0)++nE 0 B M V T mv d) (l₂:=R) (a:=x)))⟩
def k9.out{cs:ai cq}{ca:U}{e:Ending}(h:k9 B M mv cs ca R e w):Al e/\cy w B M mv R:=by
 obtain⟨a,A,n,c,m,rfl,h⟩:=h;obtain⟨b,d,rfl,_⟩:=dA (show w.ownsRow 0 47 12 a cs.length (eY cs)from h.res (r:=aC.dn a cs) aM);exact⟨⟨_,_,_,A,n,c,m,ca,rfl⟩,h.forget⟩
def Xz(h:l_ r B R s w)(a:r=jX (nx 16))(hk:k<2)(aW:s7 r k s=some s'):aB 10 #[B.b,aG (cQ 1 k 0 0 0 0)] w λe w'=>Al e/\l_ r B R s' w':=by
 obtain⟨M,mv,al,bg⟩:=h;obtain⟨h2,aw⟩:=bg.tick a hk aW;exact(Ma al bg.bi bg.bD aw 1 k 0 0 0 0 rfl hk rfl bs).mono λe w' ao=>⟨ao.out.1,_,_,ao.out.2,h2⟩
def Xy{p lX:Nm}{m:ba}{l:ai ba}{n:J}(h:l_ r B R (((s.nn k p).nk k (m :: l)).up n) w)(hk:k<2)(aw:n<400)(aW:tV p m=some lX):aB 10 #[B.b,aG (cQ 2 k 0 0 0 0)] w λe w'=>Al e/\l_ r B R (((s.nn k lX).nk k l).up (n+1)) w':=by
 obtain⟨M,mv,al,bg⟩:=h;obtain⟨h2,i⟩:=bg.take hk aw aW;obtain⟨an,d,aA,_⟩:=bg.first hk;refine(Mb al bg.bi bg.bD (by show n<=400;omega) 2 k 0 0 0 0 I hk rfl (dW m) (hb M.cs k 0) aA (.inl d) λg f c=>?_).mono λe w' ao=>⟨ao.out.1,_,_,ao.out.2,h2⟩;refine E3 c k 0 0 0 0 (dW m) true (hb M.cs k 0) λW a=>?_
 have:=vR a k 0
 rw[an]at this;exact this
def Ks(h:l_ r B R s w)(hk:k<2):aB 30 #[B.b,aa k] w λe w'=>e=aa (s.F k).length/\w=w':=by
 have⟨M,mv,al,bg⟩:=h
 have:=aat al k
 rwa [show yw M.cs k=(s.F k).length by unfold yw;rw[aD C4,bg.f k hk,iP]]at this
def Xw(h:l_ r B R s w):aB 59 #[B.b] w λe w'=>e=.returned (.bool false)/\∃ q,w'=w.drewN q:=by
 have⟨M,mv,al,bg⟩:=h;exact aav al (bg.iA 0 I).cn
theorem l_.keep(h:l_ r B R s w)(hk:ag aH w w'):l_ r B R s w':=by
 have⟨M,mv,al,bg⟩:=h;exact⟨M,mv,al.keep hk,bg⟩
def eU.eta(s:eU)(k:J):((s.nn k (s.P k)).nk k (s.F k)).up s.n=s:=by
 by_cases e:k=0
 .subst e;rfl
 unfold nn nk P F up;rw[az e,az e,az e,az e]
def XY{hJ l':eU}(h:l_ r B R hJ w)(hk:r=jX (nx 16))(gf:runN r 20 hJ=some l'):aB 35 #[B.b,aa 20] w λe w'=>e=aa 20/\l_ r B R l' w':=by
 have H:=ad h;refine ob;clear h gf hk;refine cg;go_loopg [5,6,7,23,31] 20 (λg n _ _ _ _ wr=>∃ j:J,g=20-j/\j<=20/\n=aa j/\∃ s,runN r j hJ=some s/\l_ r B R s wr)
 case atStart=>exact⟨0,rfl,I,rfl,hJ,rfl,H.o⟩
 obtain⟨j,a7,ajW,rfl,s,hk,ys⟩:=hrel;clear H;have Q:=ad ys;have f:=ad hk;clear ys hk;by_cases ajR:j<20
 .obtain⟨y,L,t,d,E⟩:=Bg g'.o j ajR;obtain rfl:y=s:=l8 (t.symm.trans f.o);obtain⟨G,zp,zd⟩:∃ G,lO (s7 r) 2 y=some G/\lO y3 2 G=some L:=by
   have d:(lO (s7 r) 2 y).bind (lO y3 2)=some L:=d;cases X:lO (s7 r) 2 y with
   | none=>rw[X]at d;cases d
   | some G=>rw[X]at d;exact⟨G,rfl,d⟩
  have a':=ad zp;have sd:=ad zd;have TS:=ad (show runN r (j+1) hJ=some L from E);clear t d E f zp zd;refine aK;refine aS (Xw Q.o) ?_;rintro aq ⟨q,rfl⟩;have ps:=ad (Q.o.keep ((ag.refl _ wr).drewN q));clear Q;generalize wr.drewN q=aq at *;refine aK;go_loopg [6,23] 2 (λg _ i mv=>∃ k:J,g=2-k/\k<=2/\i=aa k/\∃ s,lO (s7 r) k y=some s/\l_ r B R s mv)
  case atStart=>exact⟨0,rfl,I,rfl,y,rfl,ps.o⟩
  clear ps;obtain⟨k,ajU,aA,rfl,s,hk,s'⟩:=hrel;have V:=ad s';have f:=ad hk;clear s' hk;by_cases v':k<2
  .obtain⟨z,T,t,d,E⟩:=Bg a'.o k v';obtain rfl:z=s:=l8 (t.symm.trans f.o);have Z:=ad (Xz V.o lb.o v' d);have r':=ad E;have W':(k:U)<2:=I;clear t d E V f;refine si;rintro e aF ⟨⟨Q',D,V',A,n,c,m,ca,rfl⟩,fo⟩;clear Z;refine aK;go_roundg (2-(k+1))
   case rel=>exact⟨k+1,rfl,I,cT,T,r'.o,fo⟩
   omega
  obtain rfl:k=2:=I;rw[show((2:J):U)=2 from rfl];obtain rfl:s=G:=l8 (f.o.symm.trans a'.o);clear f a';refine aK;go_loopg [7,31] 2 (λg _ i mv=>∃ k:J,g=2-k/\k<=2/\i=aa k/\∃ x,lO y3 k s=some x/\l_ r B R x mv)
  case atStart=>exact⟨0,rfl,I,rfl,s,rfl,V.o⟩
  clear V;obtain⟨k,ajV,ajX,rfl,x,ak,vl⟩:=hrel;have Y:=ad vl;have W:=ad ak;clear vl ak;by_cases v:k<2
  .obtain⟨z,T,t,d,E⟩:=Bg sd.o k v;obtain rfl:z=x:=l8 (t.symm.trans W.o);obtain⟨D,K,N,M⟩:∃ D K,tW z.n (z.P k) (z.F k)=some (D,K)/\T=((z.nn k K).nk k []).up D:=by
    unfold y3 at d;split at d
    .rename_i n a X;simp only[jn]at d;exact⟨n,a,X,d.symm⟩
    cases d
   refine zS;have W':(k:U)<2:=I;clear t d E W N M;refine aK;go_loopg [] (z.F k).length (λg ajT=>∃ l p n,g=l.length/\tW n p l=some (D,K)/\l_ r B R (((z.nn k p).nk k l).up n) ajT)
   case atStart=>exact⟨z.F k,z.P k,z.n,rfl,fr.o,by rw[eU.eta];exact Y.o⟩
   have⟨l,p,n,vs,S,C⟩:=hrel;clear Y;cases l with
   | nil=>
    have u:=ad (by have:=Ks C v;rwa [eU.qK _ _ _ _ v v,aD rfl]at this);have hd:(n,p)=(D,K):=l8 S;refine IZ;refine bJ u.o ?_;have C:=m'.o;rw[(Prod.mk.inj hd).1,(Prod.mk.inj hd).2,<-se.o]at C;clear m' u hd;refine aK;go_roundg (2-(k+1))
    case rel=>exact⟨k+1,rfl,I,cT,T,r'.o,C⟩
    omega
   | cons m l=>
    obtain⟨ajS,h1,aw,h2⟩:=abk S;have u:Hid (aB 30 #[B.b,aa k] _ λe w'=>e=aa ((l.length:U)+1)/\_=w'):=ad (by have:=Ks C v;rw[eU.qK _ _ _ _ v v,aD rfl]at this;simpa using this);have Z:=ad (Xy C v aw h1);have Tq:=ad h2;have T':=ad vs;have ajY:(0:U)<(l.length:U)+1:=I;clear C S h1 h2 vs aw;refine Dy;refine Z.o.mono ?_;rintro e aF ⟨⟨Q',aj0,V',A,n8,c,ajZ,ca,rfl⟩,fo⟩;clear Z u;refine aK;go_roundg l.length
    case rel=>exact⟨l,ajS,_,rfl,Tq.o,fo⟩
    have:=T'.o;simp only[eA]at this;omega
  obtain rfl:k=2:=I;obtain rfl:x=L:=l8 (W.o.symm.trans sd.o);clear W;refine aK;go_roundg (20-(j+1))
  case rel=>exact⟨j+1,rfl,I,cT,x,TS.o,Y.o⟩
  omega
 obtain rfl:j=20:=I;obtain rfl:s=l':=l8 (f.o.symm.trans g'.o);exact I2
def Xx(r:U):qc r vO (pB 5 1 4 100 100):=by
 have⟨al,ak⟩:=Nq 5 1 4 100 100 I I I I I;refine⟨λk hk=>?_,λk _=>?_,λk _ m hm=>?_,al,ak⟩
 .have e:vO.P k=Nm.new k:=by
   exact IW
  rw[e];refine⟨?_,rfl,rfl,rfl,rfl,rfl,rfl,c3 _,λm hm=>nomatch hm⟩;refine AD ?_ rfl rfl rfl rfl rfl rfl rfl
  funext j
  show ju 1=if j<2 then ra 0 (if j=k then 1 else 1) 0 else ju 1
  split
  .rw[ite_self];rfl
  rfl
 .exact IW
 have e:vO.F k=[]:=by unfold eU.F;split<;>rfl
 rw[e]at hm;cases hm
def cy.below{B:k8}{M:fj}{mv:U}{R:ai aC}(h:cy w B M mv R):mc w/\Below B.o.bt B.o.w w:=by
 refine p_;have a:=h.at' 9 rfl;exact⟨a.1,a.2.1⟩
theorem OT(b:mc w)(a:0<w.heap.size):Sep w [aC.kinds ⟨w,w⟩]:=
 ⟨λr c=>by rw[kD.1 c];exact⟨b,b9 _ _,a,dm _⟩,HG _ _⟩
def PB(m:mc w)(i:0<w.heap.size):aB 8 #[] w λe w'=>e=.returned (.bool true)/\Below w w w':=by
 obtain⟨r,C⟩:=c8 (jX (nx 16));obtain⟨b,t,aw,an⟩:=afF r;refine dU;have v:(3:U)<(b.p.now:U):=I;refine cg;refine aS (aia w) λaq n=>?_;have Z:=ad (L8 ((OT m i).keep (ag.bU n a1)) 5 1 4 100 100 8 0 0 I I I I I);refine si;rintro e aF ⟨B,rfl,s,j⟩;have l:=ad (XY (R:=_) ⟨_,_,s,Xx r⟩ m'.o t);refine aK;refine aS l.o ?_;rintro br ⟨M,mv,a,bg⟩;have al:Below w w br:=by have:=a.below.2;rwa [j]at this
 have⟨V,T,d,g⟩:=a.view (k:=0) I;have⟨z,y,d1,h⟩:=a.view (k:=1) I;have u:Hid (aB 22 #[bM ((B.p 0).c.c)] br λe w'=>e=aa b.p.now/\br=w'):=ad (by have:=x' (iE g);rwa [(bg.iA 0 I).x]at this);have f:Hid (aB 17 #[bM ((B.p 1).lb)] br λe w'=>e=aa b.q.aO/\br=w'):=ad (by have:=yx (pt h);rwa [(bg.iA 1 I).aO]at this);refine aK;refine bJ ((E2 a (k:=0) I)) ?_;refine aK;refine bJ (A6 g) ?_;refine Dy;refine bJ ((E2 a (k:=1) I)) ?_;refine aK;refine bJ (Mj h) ?_;refine xH;exact xJ
variable{us:J->J->U}{se:U}
def abu:Go.Shelf.Ren:=⟨fun|41=>44|n=>n,fun|4=>4|22=>51|23=>5|n=>n,fun|n=>n⟩
def abt:SlLaysE0.n41 prog abu:={
 mixed:=bc
 f41:=⟨f44.name,bs,func44.trans (c6 some bc)⟩
 t4:=underlying4
 a4:=isAgg4
 z4:=sizeOf4
 v4:=zeroValue4
 t22:=underlying51
 a22:=isAgg51
 z22:=sizeOf51
 v22:=zeroValue51}
def KG(h:cy w B M mv R)(hk:k<2)(g:(M.fo k).length<=30000):aB 13 #[B.b,aa k] w λe w'=>∃ cz,e=.returned cz/\w'.ownsRow w 5 1 cz (M.fo k).length (nG (M.fo k))/\Below w w w':=by
 obtain⟨V,T,d,ax⟩:=h.view hk;have bP:=E' (ax.at' 10 rfl) (B:=B) (V:=V) (T:=T) (mv:=mv) hk;obtain⟨i,av,f,h1,h2⟩:=MA;have aU:=ad (F7 abt av f h1 h2 rfl bs sizeOf5 (ax.at' 12 rfl) I λu a=>by
  obtain⟨c,_,rfl⟩:=gO.1 a;rfl)
 refine cg;refine bJ (tT B.b hk w) ?_;exact Sx
def Ze(us:J->J->U)(se:U){k m:J}(h:k<m):∃ r,h6 us se m=h6 us se k++(fe us se k++r):=by
 induction m with
 | zero=>omega
 | succ m b=>
  rw[vW];by_cases e:k<m
  .have⟨r,a⟩:=b e;exact⟨r++fe us se m,by rw[a];simp⟩
  obtain rfl:k=m:=by omega
  exact⟨[],nA⟩
def agC(e:aE)(w:aj):(binOp .neq 45 (.agg (cU e)) (.agg (cU e))).run prog w=.ok (.bool false) w:=by
 unfold cU;simp[go_sem]
def OQ{l:ai cq}(h:w.ownsRow 0 47 12 (au (bT g) l.length cap) l.length (eY l))(av:i<l.length):∃ a,w.heap[g]?=some (ab a 47 (0,0))/\∀ f x,(dL l[i])[f]?=some x->a[i*12+f]?=some x:=by
 obtain⟨a,rest,a7,an,_⟩:=rI (enc:=cq.bC) h;obtain⟨h1,h2⟩:=we (enc:=cq.bC) (k:=12) (λ_=>rfl) i av;exact WI
def agA{l:ai cq}(h:w.ownsRow 0 47 12 (au (bT g) l.length cap) l.length (eY l))(av:i<l.length)(f:J){x:ay}(a:(dL l[i])[f]?=some x):w.cell? (ah g (i*12+f))=some x:=by
 have⟨b,a7,an⟩:=OQ h av;exact bb a7 (an f x a)
def agB{l:ai cq}(h:w.ownsRow 0 47 12 (au (bT g) l.length cap) l.length (eY l))(av:i<l.length):(Instr.loadAt 45 (.pointer (dk g (i*12+1)))).run prog w=.ok (.agg (cU l[i].cL)) w:=by
 obtain⟨a,a7,an⟩:=OQ h av;refine fS (P:=prog) 45 9 g (i*12+1) (cU l[i].cL) _ _ isAgg45 sizeOf45 rfl a7 λj v f=>?_;refine zY
 have:(cU l[i].cL).size=9:=rfl
 rw[jZ];refine an _ _ ?_
 have:j=0\/j=1\/j=2\/j=3\/j=4\/j=5\/j=6\/j=7\/j=8:=by omega
 rcases this with rfl|rfl|rfl|rfl|rfl|rfl|rfl|rfl|rfl<;>exact f
def Nz{base n k:J}{T:TypeId}{xs:ai ay}{u:ay}(h:w.ownsRow base T 1 (au (bT g) n cap) n xs)(a:xs[k]?=some u):w.cell? (ah g k)=some u:=by
 have⟨A,c,e,a_,_⟩:=dA h;cases e;have hk:=(ir.1 a).1;have⟨b,o,e,an⟩:=a_.at' (by have:=a_.1;omega);cases e
 have:=an k u a
 rwa [gM]at this
def afi{bS R n:J}{L:ai cq}{ps:ai ay}{K cz:ay}(ar:w.ownsRow bS 47 12 cz L.length (eY L))(ao:w.ownsRow R 66 1 K n ps)(a':∀ i,i<n->∃ x,ps[i]?=some x/\hh w x i (fe us se i))(an:bP<=n)(aw:n<=10000)(X:∀ c∈L,c.bq=4)(H:L.map cq.cL=h6 us se bP)(vs:L.length<=30000):aB 14 #[cz,K,aa ((bP:U)-1)] w λe w'=>e=.returned (.bool true)/\Below w w w':=by
 have Y:(h6 us se bP).length=L.length:=by rw[<-H,iP]
 obtain⟨l',s',rfl,_,_⟩:=dA ar;obtain⟨mv,vl,rfl,_,_⟩:=dA ao;have a:=bN ar (bx ao (bx a' (bx X H)));have u:=ad Y
 go_in
 go_wp2_with fail;go_loopg [7,8,9] bP (λg x i y wr=>∃ k:J,g=bP-k/\k<=bP/\i=aa k/\x=aa (h6 us se k).length/\ag aH w wr)
 case atStart=>exact⟨0,rfl,I,rfl,rfl,bd w⟩
 obtain⟨k,a7,hk,rfl,rfl,s⟩:=hrel;by_cases Z:k<bP
 .obtain⟨x,ak,j⟩:=a.o.2.2.1 k I;obtain⟨r',m,rfl,_,_⟩:=dA j.row;obtain⟨S,rfl⟩:=nR a.o.2.1 I;have v:=s.cell (Nz a.o.2.1 ak) id;obtain⟨r,z⟩:=Ze us se Z;have ys:(h6 us se k).length+(fe us se k).length<=L.length:=by
   rw[<-u.o,z];simp only[cG];omega
  have h:=bN z (bx ak j.row);have C:(h6 us se (k+1)).length=(h6 us se k).length+(fe us se k).length:=by rw[vW,cG]
  refine dU;generalize V:(h6 us se k).length=N at *;generalize T:(fe us se k).length=M at *;have f:=bN V T;have Q:=ad s;refine aK;go_loopg [7,9] M (λg x y lb=>∃ q:J,g=M-q/\q<=M/\x=aa ((N+q:J):U)/\y=aa q/\ag aH w lb)
  case atStart=>exact⟨0,rfl,I,rfl,rfl,Q.o⟩
  obtain⟨q,v',zd,rfl,rfl,d⟩:=hrel;have v:=d.cell (Nz a.o.2.1 h.o.2.1) id;by_cases fo:q<M
  .have av:N+q<L.length:=I;have t:q<(fe us se k).length:=by rw[f.o.2];exact fo
   obtain⟨g1,rfl⟩:=nR a.o.1 I;obtain⟨p,rfl⟩:=nR h.o.2.2 I;have gf:w.ownsRow 0 45 9 (au (bT p) (fe us se k).length m) (fe us se k).length (b0 (fe us se k)):=by rw[f.o.2];exact h.o.2.2
   have C:L[N+q].cL=(fe us se k)[q]:=by
    have h1:=c6 (λl=>l[N+q]?) a.o.2.2.2.2;simp only[h.o.1,HE]at h1;rw[l6 (by rw[f.o.1];omega),f.o.1,xi,jF t,gW av,gW t]at h1;exact l8 h1
   have⟨G,b⟩:=gg (F:=λW=>W=wr.drew);have A:=b7 (ku a.o.1 (c3 _)) (d.trans (bd wr).drew) λ_ _=>id;have fr:=b7 gf (d.trans (bd wr).drew) λ_ _=>id;have sd:∀ x:bA G,x.to.cell? (ah g1 ((N+q)*12))=some (aa 4):=λx=>by
    rw[(b _).1 x.held,<-a.o.2.2.2.1 _ (oY av)];exact agA A av 0 rfl
   have m:∀ x:bA G,x.to.cell? (ah S k)=some (au (bT p) M m):=λx=>by
    rw[(b _).1 x.held];exact v
   have hd:∀ W,(∃ x:bA G,W=x.to)->(Instr.loadAt 45 (.pointer (dk g1 ((N+q)*12+1)))).run prog W=.ok (.agg (cU L[N+q].cL)) W:=λW ⟨x,ak⟩=>by
    rw[ak,(b _).1 x.held];exact agB A av
   have h2:∀ W,(∃ x:bA G,W=x.to)->(Instr.loadAt 45 (.pointer (dk p (q*9)))).run prog W=.ok (.agg (cU L[N+q].cL)) W:=λW ⟨x,ak⟩=>by
    rw[ak,(b _).1 x.held,C];exact Ot fr t
   have g':=(b wr.drew).2 rfl;generalize L[N+q].cL=e at *;have hne:=agC e;have D:=ad (d.trans (bd wr).drew);generalize cU e=E at *;go_upto_region 10 with fail
   have d1:decide ((L.length:U)<=(N:U)+(q:U))=false:=cN I;refine cS 27 ?_;refine cJ G (.range 27) 0 27 ?_;refine pz g' (.range 27) 0 λ_=>?_
   repeat (first|(refine w8 hd rfl rfl ?_;simp only[Act.put,dV])|(refine w8 h2 rfl rfl ?_;simp only[Act.put,dV])|go_big_quiet_step (fail))
   refine wpQuiet_nil (pA ?_);refine vr;refine aK;go_roundg (M-(q+1))
   case rel=>exact⟨q+1,rfl,I,cT,cT,D.o⟩
   omega
  obtain rfl:q=M:=I;refine tC;go_roundg (bP-(k+1))
  case rel=>exact⟨k+1,rfl,I,cT,by rw[m'.o],D.o⟩
  omega
 obtain rfl:k=bP:=I;have Q:=ad (s.below (B:=w.heap.size) bu λ_ _=>id);have j:=u.o;rw[j];exact I2
section
variable{w w':aj}{l:ay}{d k c:J}{se:U}{fo:J->ai aR}{us:J->J->U}{kX:a6 ay}
def hY(d:J)(fo:J->ai aR):J->J->U:=gn λk=>replicate d 0++fo k
def PL(i:J)(h:k<d):hY d fo i k=0:=by
 unfold hY gn;rw[n9,jF j0,Cx,aD h];rfl
def PJ(i:J){q:J}(h:q<(fo i).length):(nG (fo i))[q]?=some (bf (hY d fo i (d+q))):=by
 unfold hY gn nG;rw[n9,l6 nA,uZ,xi,HE,gW h];rfl
theorem PK(al:∀ k x,x∈fo k->x.toNat<=63)(i k:J):0<=hY d fo i k/\hY d fo i k<=63:=
 MS (λi x ak=>by
  rcases gd.1 ak with h|h
  .rw[(mem_replicate.1 h).2];exact c3 _
  .exact al i x h) i k
def abA:∃ i z,prog.info? 66=some i/\i.zero=some z/\i.size=1/\i.bytes=24/\z.cells.size=1:=by
 have h:(prog.info? 66).map (λi=>(i.zero.map λz=>z.cells.size,i.size,i.bytes))=some (some 1,1,24):=bc;cases aT:prog.info? 66 with
 | none=>rw[aT]at h;cases h
 | some i=>
  rw[aT]at h;simp only[r7,jn,mM]at h;cases a:i.zero with
  | none=>rw[a]at h;cases h.1
  | some z=>rw[a]at h;exact⟨i,z,rfl,a,h.2.1,h.2.2,C6⟩
def afN(A:cr Addr)(n cap:J)(W:aj):(Instr.buildSlice 49 1 #[(0,au A n cap)]).run prog W=.ok (au (bT W) 1 1) (W.alloc (ab #[au A n cap] 66)):=bc
structure oe(w:aj)(kX:a6 ay)(us:J->J->U)(se:U)(c k:J)(l:ay)(W:aj):ae where
 bD:W.heap[w.heap.size]?=some (ab kX 24 (0,0))
 st:W.heap[c]?=some (ab (aQ (g_ us se k)) 99 (0,0))
 bj:∃ ps:ai ay,ps.length=k/\W.ownsRow w.heap.size 66 1 l k ps/\∀ i,i<k->∃ x,ps[i]?=some x/\hh W x i (fe us se i)/\∀ j,x.ownBlock=some j->w.heap.size<=j
 bF:ag (λj=>w.heap.size<=j) w W
 lc:w.heap.size<c
namespace oe
variable{W W':aj}
theorem keep{S:J->ae}(h:oe w kX us se c k l W)(hk:ag S W W')(aA:∀ j,S j->W.heap.size<=j):oe w kX us se c k l W':=by
 have h1:=bZ h.bD;have h2:=bZ h.st;have⟨ps,e,ar,ao⟩:=h.bj;exact {h with bD:=hk.heap h.bD (λe=>sc),st:=hk.heap h.st (λe=>sc),bF:=h.bF.trans (hk.mono λj _ e=>sc),bj:=⟨ps,e,b7 ar hk (λj a e=>by have:=aA _ e;have:=(uc ar a).2;omega),λi av=>by
  obtain⟨x,d,b,f⟩:=ao i av;exact⟨x,d,b.keep hk (λj a e=>by have:=aA _ e;have:=b.lt j a;omega),f⟩⟩}
def input{b:J}{f:a6 ay}(h:oe w kX us se c k l W)(al:W.heap[b]?=some (ab f 101 (0,0)))(p:w.heap.size<=b)(hk:ag (λj=>j=b) W W'):oe w kX us se c k l W':=by
 have⟨ps,e,ar,ao⟩:=h.bj;have aw:∀ {j:J} {o:a6 ay} {T:TypeId},W.heap[j]?=some (ab o T (0,0))->T≠101->¬ j=b:=λh1 h2 e=>by
  rw[e,al]at h1;injection h1 with h1
  injection h1 with _ n
  exact h2 n.symm
 exact {h with bD:=hk.heap h.bD (aw h.bD oa),st:=hk.heap h.st (aw h.st oa),bF:=h.bF.trans (hk.mono λj _ e=>show w.heap.size<=j by omega),bj:=⟨ps,e,b7 ar hk (λj a e=>nP ar al oa (e▸a)),λi av=>by
  obtain⟨x,g,d,m⟩:=ao i av;exact⟨x,g,d.keep hk (λj a e=>nP d.row al oa (e▸a)),m⟩⟩}
def next(h:oe w kX us se c k l W)(hk:k<=10000){A:cr Addr}{n:J}(ak:hh W (au A n cap) k (fe us se k))(al:∀ j,(au A n cap).ownBlock=some j->w.heap.size<=j)(ty:TypeId):∃ b l' o,(Instr.storeAt 99 c (.agg (aQ (g_ us se (k+1))))).run prog W=.ok () b/\(Builtin.append_ #[49,49] ty #[l,au (bT b) 1 1]).run prog (b.alloc (ab #[au A n cap] 66))=.ok l' o/\(∃ A n c,l'=au A n c)/\oe w kX us se c (k+1) l' o:=by
 have⟨ps,e,ar,ao⟩:=h.bj;have lc:=h.lc;have⟨h1,_,g⟩:=dT W 99 60 c (aQ (g_ us se (k+1))) _ sizeOf99 (dX _) (dX _) h.st (rr _);have h2:=fb W c _ (aQ (g_ us se (k+1))) 99 h.st;have ar:=b7 ar g λj a e=>nP ar h.st oa (e▸a);have ao:∀ i,i<k->∃ x,ps[i]?=some x/\hh (W.setRow c (aQ (g_ us se (k+1)))) x i (fe us se i)/\∀ j,x.ownBlock=some j->w.heap.size<=j:=λi av=>by
  obtain⟨x,p,f,q⟩:=ao i av;exact⟨x,p,f.keep g (λj a e=>nP f.row h.st oa (e▸a)),q⟩
 have ak:=ak.keep g λj a e=>nP ak.row h.st oa (e▸a);have bD:=g.heap h.bD (show w.heap.size≠c by omega);have bF:=h.bF.trans (g.mono λj _ e=>show w.heap.size<=j by omega);generalize World.setRow W c (aQ (g_ us se (k+1)))=b at *;have⟨i,z,av,B,C,D,E⟩:=abA;subst e
 obtain⟨v',o,y,r,a7,_,_⟩:=uU (P:=prog) (b.alloc (ab #[au A n cap] 66)) w 49 ty 66 i z 1 24 underlying49 av B C D E bs l ps.length ps (ar.alloc _) (ah b 0) 1 1 [au A n cap] rfl
  (λj u d=>by
   rw[iB,gM];exact bb (aP b _) xr) (λu d=>by rw[kD.1 d];rfl) k6 I (cu bF.size (by rw[ft];omega))
 have m:=((ag.refl _ b).alloc _).grown a7 (λj e=>.inl e);have⟨v,bB,f,_⟩:=dA r;have s:∀ j,l.ownBlock=some j->w.heap.size<j:=λj a=>by
  have:=(uc ar a).1
  have:=nP ar bD oa
  rcases CJ w j with h|h
  .exact h
  exact absurd (show l.ownBlock=some w.heap.size by rw[a];congr 1;omega) this
 refine⟨b,v',o,h1,y,⟨v,_,bB,f⟩,m.heap bD (λe=>p5 _ (s _ e)),m.heap h2 (nP ar h2 oa),⟨ps++[au A n cap],nA,r,λi av=>?_⟩,bF.trans (m.mono λj _ e=>by have:=s j e;omega),lc⟩;by_cases t:i<ps.length
 .have⟨x,p,f,q⟩:=ao i t;exact⟨x,by rw[jF t];exact p,f.keep m (λj a e=>sV f.row ar oa a e),q⟩
 obtain rfl:i=ps.length:=I;exact⟨au A n cap,nA,ak.keep m (λj a e=>sV ak.row ar oa a e),al⟩
def made{aq:aj}(ak:aq.heap[w.heap.size]?=some (ab kX 24 (0,0)))(ao:aq.heap[w.heap.size+1]?=some (ab #[] 66 (0,0)))(hk:ag (λj=>w.heap.size<=j) w aq):∃ W,(Instr.storeAt 99 aq (.agg (aQ (ki se 0)))).run prog (aq.alloc (ab (aQ bW) 99))=.ok () W/\oe w kX us se aq 0 (au (bT (w.heap.size+1)) 0 0) W:=by
 have b:=aP aq (ab (aQ bW) 99);obtain⟨h1,_,a⟩:=dT (aq.alloc (ab (aQ bW) 99)) 99 60 aq (aQ (ki se 0)) _ sizeOf99 (dX _) (dX _) b (rr _);have c:=bZ ao;exact⟨_,h1,a.heap (b2 ak _) (show w.heap.size≠aq.heap.size by omega),fb _ _ _ _ 99 b,⟨[],rfl,FH (va _) (a.heap (b2 ao _) (show w.heap.size+1≠aq.heap.size by omega)),λi av=>absurd av (lD i)⟩,(hk.alloc _).trans (a.mono λj _ e=>show w.heap.size<=j by omega),I⟩
end oe
end
variable{l:ay}{d c:J}{fo:J->ai aR}{kX:a6 ay}
def ae4(aA:0<=se/\se<=4294967295)(cB eS:U){Q R:cr Addr}{dP cf bw:J}(ajV:ey w 1 Q dP bw (nG (fo 0)))(h1:ey w 1 R cf bP (nG (fo 1)))(al:∀ k x,x∈fo k->x.toNat<=63)(hd:d<=8)(aw:dP<=1000/\cf<=1000):aB 12 #[aG #[bz se,aa d,aa cB,aa eS],au Q dP bw,au R cf bP] w λe w'=>∃ cz ps,e=.returned cz/\ps.length=d+min dP cf/\w'.ownsRow w 66 1 cz ps.length ps/\(∀ i,i<ps.length->∃ x,ps[i]?=some x/\hh w' x i (fe (hY d fo) se i))/\Below w w w':=by
 have⟨m,hm⟩:=c8 (d+min dP cf);have N:min (dP:U) cf=((min dP cf:J):U):=I;have ajW:=ad (ae0 se);have y:=kh;have a':=ad (b2 (aP w (ab #[bz se,aa d,aa cB,aa eS] 24)) (ab #[] 66));have E:=aP (w.alloc (ab #[bz se,aa d,aa cB,aa eS] 24)) (ab #[] 66);rw[ft]at E;have E:=ad E;have W':=ad (((ag.refl (λj=>w.heap.size<=j) w).alloc (ab #[bz se,aa d,aa cB,aa eS] 24)).alloc (ab #[] 66));have bR:=aX a'.o;have l:=bN ajV h1;have M:=bN aA al;rw[<-hm];have b5:=ad hm
 go_in
 go_wp2_with fail;generalize World.alloc (World.alloc w _) _=bo at *;refine aS (ajW.o _) λaq z=>?_;have z:=ag.bU (S:=aH) z a1;obtain⟨W,zp,ajX⟩:=oe.made (us:=hY d fo) (se:=se) (z.heap a'.o id) (z.heap E.o id) (W'.o.trans (z.mono λ_ _ e=>e.elim));have y:=y aq;have h:=ad ajX;generalize aq.heap.size=c at *;go_wp2_with first|refine eL y rfl rfl ?_|refine c' zp rfl rfl rfl rfl ?_|fail
 clear y zp;go_loopg [7,9,10,11,12] m (λg x i _ _ _ wr=>∃ k:J,g=m-k/\k<=m/\i=aa k/\(∃ A n c,x=au A n c)/\oe w #[bz se,aa d,aa cB,aa eS] (hY d fo) se c k x wr)
 case atStart=>exact⟨0,rfl,I,rfl,⟨_,_,_,rfl⟩,h.o⟩
 obtain⟨k,a7,hk,rfl,⟨T',aj0,ajT,rfl⟩,b⟩:=hrel;clear h;by_cases aj8:k<m
 .have bR:=aX b.bD;have g':=b.keep ((bd wr).alloc (ab #[bf 0,bf 0] 101)) (λ_=>False.elim);have a:=bN g' (aP wr (ab #[bf 0,bf 0] 101));clear g';have d1:decide ((k:U)<d+(min dP cf:J))=true:=dh (by have:=b5.o;omega);have fr:=ad b.bF.size;clear b;go_upto_region 7 with fail
  generalize World.alloc wr _=aF at *;generalize wr.heap.size=yo at *;clear bR d1;have bR:=aX a.o.1.bD;go_upto_if 33 with fail
  go_cut []from 33 to 48 (λbE=>bE.heap[yo]?=some (ab #[bf (hY d fo 0 k),bf (hY d fo 1 k)] 101 (0,0))/\oe w #[bz se,aa d,aa cB,aa eS] (hY d fo) se c k (au T' aj0 ajT) bE)
  case first=>
   by_cases K:d<=k
   .obtain⟨q,rfl⟩:=Nat.exists_eq_add_of_le K;have bI:q<dP:=I;have t:=a.o.1.bF.below (B:=w.heap.size) bu a1;obtain⟨cp,aj1,rfl,g0⟩:=(l.o.1.below t (λaw x ak=>l.o.1.lt I aw ak)).at' I;obtain⟨bS,aj2,rfl,g1⟩:=(l.o.2.below t (λaw x ak=>l.o.2.lt I aw ak)).at' I;have N:=g0 _ _ (PJ (d:=d) 0 (q:=q) (by have:=l.o.1.1;unfold nG at this;simp at this;omega));have H:=g1 _ _ (PJ (d:=d) 1 (q:=q) (by have:=l.o.2.1;unfold nG at this;simp at this;omega));generalize hY d fo 0 (d+q)=X at *;generalize hY d fo 1 (d+q)=Y at *;have L:=bN N H;clear t g0 g1 N H K;go_upto_region 8 with fail
    have⟨G,v⟩:=gg (F:=λW=>W=aF.drew);have aj3:∀ x:bA G,x.to.cell? (ah w 1)=some (aa d):=λx=>by rw[(v _).1 x.held];exact bR 1
    have aj4:∀ x:bA G,x.to.cell? (ah cp (aj1+q))=some (bf X):=λx=>by rw[(v _).1 x.held];exact L.o.1
    have aj5:∀ x:bA G,x.to.cell? (ah bS (aj2+q))=some (bf Y):=λx=>by rw[(v _).1 x.held];exact L.o.2
    have Q':=(v _).2 rfl;have h:=bN (a.o.1.keep (bd aF).drew λ_=>False.elim) ((bd aF).drew.heap a.o.2 id);clear v L a bR;refine cS 16 ?_;refine cJ G (.range 15) 1 15 ?_;refine dN Q' (.range 15) 0 ?_;refine nf ?_;generalize aF.drew=wd at *;have aj':=aX h.o.2;have g5:=bV h.o.2;clear aj3 aj4 aj5 Q';refine cJ (λW=>0<=W.heap.size) [15] 0 1 ?_;refine iV 15 (c3 _) ?_;have hk:=((ag.refl (λj=>j=yo) wd).setCell (p:=ah yo 0) rfl (bf X)).setCell (p:=ah yo 1) rfl (bf Y);have f:=bN (jq h.o.2 (bf X) (bf Y)) (h.o.1.input h.o.2 fr.o hk);refine jI;go_meet;exact f.o
   have V:=bN (PL (d:=d) (fo:=fo) 0 (HM K)) (PL (d:=d) (fo:=fo) 1 (HM K));refine jI;go_meet;rw[V.o.1,V.o.2];exact⟨a.o.2,a.o.1⟩
  obtain⟨vs,b⟩:=hcut;clear a bR fr;have bI:=aX vs;have v':=ks b.st;obtain⟨r,zd,ajZ⟩:=um (hY d fo) M.o.1 k;have r':aB 43 #[.agg (aQ (g_ (hY d fo) se k)),aG #[bf (hY d fo 0 k),bf (hY d fo 1 k)]] wc λe w'=>∃ l',e=aV #[.agg (aQ (g_ (hY d fo) se (k+1))),l']/\hh w' l' k (fe (hY d fo) se k)/\Below wc wc w'/\∀ j,l'.ownBlock=some j->wc.heap.size<=j:=afe zd I I _ _ (PK M.o.2 0 k) (PK M.o.2 1 k);have a:=ad b;have T:=ad r';clear b vs r' zd ajZ;generalize hY d fo 0 k=X at *;generalize hY d fo 1 k=Y at *;go_wp2_with first|refine dg v' rfl rfl rfl ?_|fail
  refine T.o.mono ?_;rintro e br ⟨l',rfl,s,s',vl⟩;have h2:=a.o.keep (ag.bU (S:=aH) s' a1) (λ_=>False.elim);obtain⟨TS,ajS,rfl,_,_⟩:=dA s.row;have sd:=y br;have O:=aP br (ab (aQ bW) 99);obtain⟨h1,_,gf⟩:=dT (br.alloc (ab (aQ bW) 99)) 99 60 br (aQ (g_ (hY d fo) se (k+1))) _ sizeOf99 (dX _) (dX _) O (rr _);have aw:=fb (br.alloc (ab (aQ bW) 99)) br _ (aQ (g_ (hY d fo) se (k+1))) 99 O;have P:ag (λj=>j=br.heap.size) br _:=((ag.refl (λj=>j=br.heap.size) br).alloc (ab (aQ bW) 99)).trans gf;have lb:=h2.keep P (λj e=>hO e.symm);have m':=s.keep P (λj u e=>CX);have Tq:=a.o.bF.size;generalize World.setRow (World.alloc br _) _ _=aka at *;have ys:=ks aw;obtain⟨ajR,aj9,aj7,s1,s2,⟨aj6,aj_,hA,rfl⟩,mv⟩:=lb.next I m' (λj u=>cu Tq (vl j u)) 49;have ajY:=afN TS (fe (hY d fo) se k).length ajS ajR;have V':=ad mv;clear h2 lb m' s s' vl P gf aw O mv a T v' Tq bI;generalize (fe (hY d fo) se k).length=nl at *;generalize aQ (g_ (hY d fo) se (k+1))=Z at *;go_upto_region 10 with first|refine eL sd rfl rfl ?_|refine c' h1 rfl rfl rfl rfl ?_|fail
  clear sd h1;go_upto_region 11 with first|refine dg ys rfl rfl rfl ?_|refine c' s1 rfl rfl rfl rfl ?_|fail
  clear ys s1;go_wp2_with first|((with_reducible refine s_ ajY rfl rfl ?_ ?_);exact rfl)|((with_reducible refine rU s2 rfl rfl ?_ ?_ ?_);exact rfl;exact rfl)
  go_roundg (m-(k+1))
  case rel=>exact⟨k+1,rfl,I,cT,⟨_,_,_,rfl⟩,V'.o⟩
  omega
 obtain rfl:k=m:=I;have bR:=aX b.bD;have t:=b.bF.below (B:=w.heap.size) bu a1;obtain⟨ps,e,ar,ao⟩:=b.bj;have f:=bN e (bx ar (bx ao t));have d1:decide ((k:U)<d+(min dP cf:J))=false:=cN (by have:=b5.o;omega);clear b ar ao t e;refine jI;go_ret;exact⟨_,ps,rfl,f.o.1,by rw[f.o.1];exact f.o.2.1,λi av=>by obtain⟨x,H,ajU,_⟩:=f.o.2.2.1 i (by rw[<-f.o.1];exact av);exact⟨x,H,ajU⟩,f.o.2.2.2⟩
end Go.Proofs.YtalagblioepadaaGreatDoor
