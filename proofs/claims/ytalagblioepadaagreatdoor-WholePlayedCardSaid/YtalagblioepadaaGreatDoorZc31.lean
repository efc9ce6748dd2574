/- The proof, part 31. -/
import Derived.Test.YtalagblioepadaaGreatDoorZc30
namespace Go.Proofs.YtalagblioepadaaGreatDoor
set_option linter.all false
open Proofs.Tryz List Go.RowKit
set_option maxRecDepth 100000
set_option maxHeartbeats 1000000
def Np{p:ak}(h:p:=by
 have M:=m.trans (a.mono λj _ l=>qT d l);have q:=af hfin;go_wp2_with fail;go_roundg 1
 case rel=>exact⟨1,rfl,U,by go_num,q.o,M⟩
 omega
 ):p:=h
def Nx{p:ak}(h:p:=by
 have q:=af hfin;go_wp2_with fail;go_roundg 0
 case rel=>exact⟨2,rfl,U,by go_num,q.o,(m.trans (a.mono λj _ l=>qT d l))⟩
 omega
 ):p:=h
def L0{p:ak}(h:p:=by
 by_cases e:i=j
 .subst e;simp
 by_cases a:i<j
 .rw[az e,aD a,aD U]
 rw[az e,az a,az U]
 ):p:=h
variable{w w':ai}{b:f'}{x:ck}
def eP(f:J->Fd)(k:J)(y:Fd):J->Fd:=λj=>if j=k then y else f j
def ra(f:J->Fd)(k:J)(y:Fd):eP f k y k=y:=by simp[eP]
def q'(f:J->Fd){j k:J}(y:Fd)(h:j≠k):eP f k y j=f j:=by simp[eP,h]
def IsCore.feed(h:IsCore w b x){k:J}(n:k<2){y:Fd}(m:pD w' (b.D k) y)(hk:Keeps (λj=>j1 (b.D k) j) w w')(ar:y.next<=1000000):IsCore w' b {x with f:=eP x.f k y}:=by
 have ok:=h.ok;have al:¬ j1 (b.D k) b.c:=by
  have:k=0\/k=1:=U
  rcases this with rfl|rfl
  .exact ok.bt
  exact ok.bY
 have l:¬ j1 (b.D k) b.r:=by
  have:k=0\/k=1:=U
  rcases this with rfl|rfl
  .exact ok.eO
  exact ok.fu
 have g:¬ j1 (b.D k) b.B:=by
  have:k=0\/k=1:=U
  rcases this with rfl|rfl
  .exact ok.gX
  exact ok.EJ
 refine⟨hk.heap h.head al,λi aw=>?_,h.st.keeps hk l g,ok,h.aL,h.gH,λi aw=>?_,h.wn⟩
 .by_cases e:i=k
  .subst e;show pD w' (b.D i) (eP x.f i y i);rw[ra];exact m
  show pD w' (b.D i) (eP x.f k y i);rw[q' _ _ e];refine IsFeed.keeps (h.fd i aw) hk λj h1 h2 d=>?_;have hd:=ok.PM;unfold j1 at d;have a:(i=0/\k=1)\/(i=1/\k=0):=U;rcases a with⟨rfl,rfl⟩|⟨rfl,rfl⟩<;>omega
 by_cases e:i=k
 .subst e;show(eP x.f i y i).next<=_;rw[ra];exact ar
 show(eP x.f k y i).next<=_;rw[q' _ _ e];exact h.dG i aw
def qT{k:J}(c:k<2){j:J}(a:j1 (b.D k) j):b.S j:=by
 have:k=0\/k=1:=U
 rcases this with rfl|rfl
 .exact .inr (.inl a)
 exact .inr (.inr (.inl a))
def IsCore.uF(h:IsCore w b x){eQ:J}{L:ah (J×(J->aa))}(a:j4 w' b.r b.B 81 eQ L)(hk:Keeps (λj=>j=b.r\/j=b.B) w w'):IsCore w' b {x with eQ:=eQ,L:=L}:=by
 have ok:=h.ok;have d:=ok.Gh;have e:=ok.AA;have f:=ok.eO;have g:=ok.fu;have k:=ok.gX;have l:=ok.EJ;refine⟨hk.heap h.head U,λi aw=>IsFeed.keeps (h.fd i aw) hk λj h1 h2 c=>?_,a,ok,h.aL,h.gH,h.dG,h.wn⟩
 have:i=0\/i=1:=U
 rcases this with rfl|rfl<;>omega
def gx(x:ck)(k:J)(v:aa):ck:={x with f:=eP x.f k {x.f k with next:=(x.f k).next+1,last:=v,K:=e7 (x.f k).K (x.f k).next v}}
def Po(h:IsCore w b x)(v:aa)(aW:v<=63)(f:aa)(d:f=(x.f (1-x.aL)).next)(ar:(x.f (1-x.aL)).next<1000000)(g:(x.f (1-x.aL)).first<=(x.f (1-x.aL)).next/\(x.f (1-x.aL)).next<(x.f (1-x.aL)).first+64):aA 103 #[b.c,I f,aF v] w λe w'=>e=.returned (I 0)/\IsCore w' b (gx x (1-x.aL) v)/\Keeps b.S w w':=by
 have a:1-x.aL<2:=U;have l:=af (rS h);have i:=af (λn=>xX ((h.fd (1-x.aL) a).drew n) v aW f d U g);have H:=af h;clear h aW d g;generalize 1-x.aL=k at *
 go_in
 go_wp2_with fail;refine aU l.o ?_;rintro _ ⟨q,rfl⟩;go_wp2_with fail;refine aU (i.out q) ?_;rintro aC ⟨h2,hk⟩;have hfin:=(H.out.drew q).feed a (y:={x.f k with next:=(x.f k).next+1,last:=v,K:=e7 (x.f k).K (x.f k).next v}) h2 hk vb;go_wp2;go_ret;exact⟨rfl,hfin,(((Keeps.refl _ w).drewN q).trans (hk.mono λj _ m=>qT a m))⟩
def Pu(h:IsCore w b x)(i:fJ x=none):aA 138 #[b.c] w λe w'=>e=aV #[aq none 0 0,I 0]/\Keeps aI w w':=by
 have f:=af (λ(W:ai) (hk:Keeps aI w W)=>vI ((h.keep hk).fd (1-x.aL) U));unfold fJ fv at i;rw[i]at f;have d:Keeps aI w ((w.alloc (ae #[aq none 0 0] 267)).alloc (ae #[I 0] 36)):=((Keeps.refl _ w).alloc _).alloc _;have cb:(((w.alloc (ae #[aq none 0 0] 267)).alloc (ae #[I 0] 36))).heap[w.heap.size]?=some (ae #[aq none 0 0] 267 (0,0)):=cm (aX w _) _;have bO:(((w.alloc (ae #[aq none 0 0] 267)).alloc (ae #[I 0] 36))).heap[w.heap.size+1]?=some (ae #[I 0] 36 (0,0)):=by
  have:=aX (w.alloc (ae #[aq none 0 0] 267)) (ae #[I 0] 36)
  rwa [fK]at this
 go_in
 go_wp2_with fail;generalize ((w.alloc (ae #[aq none 0 0] 267)).alloc (ae #[I 0] 36))=bk at *;refine aU (((λ(W:ai) (hk:Keeps aI w W)=>rS (h.keep hk))) _ d) ?_;rintro ao ⟨q,j⟩;have g:Keeps aI bk ao:=by rw[j];exact(Keeps.refl _ bk).drewN q
 clear j;go_wp2_with fail;refine aU (f.out _ (d.trans g)) λaC o=>?_;have a:=g.trans o;have l:=bb (k:=0) (a.heap cb id) rfl;have d1:=bb (k:=0) (a.heap bO id) rfl;have g0:=bI (a.heap cb id);have g1:=bI (a.heap bO id);simp only[pt,oI];go_wp2;have m:((aC.setCell (ad w 0 ab) (aq none 0 0)).setCell (ad (w+1) 0 ab) (I 0)).cell? (ad w 0 ab)=some (aq none 0 0):=by
  rw[Dv _ _ _ _ aK,wS _ _ _ l]
 have n:((aC.setCell (ad w 0 ab) (aq none 0 0)).setCell (ad (w+1) 0 ab) (I 0)).cell? (ad (w+1) 0 ab)=some (I 0):=
  wS _ _ _ (by rw[Dv _ _ _ _ aK];exact d1)
 refine cU (v:=aV #[aq none 0 0,I 0]) (by simp[results,results138,asAddr,loadVar,isAgg267,isAgg36,go_sem,m,n]) rfl ?_;exact⟨rfl,((d.trans a).oi (p:=ad w 0 ab) bs _).oi (p:=ad (w+1) 0 ab) aK _⟩
def J1(f:J->Fd)(k:J):eP f k (f k)=f:=by
 funext j
 unfold eP;split
 .rename_i h;rw[h]
 rfl
def xY(p q:b5 Addr)(w:ai):(Instr.index 126 (aQ #[.pointer p,.pointer q]) (I 0)).run prog w=.ok (.pointer p) w:=aH
def xZ(p q:b5 Addr)(w:ai):(Instr.index 126 (aQ #[.pointer p,.pointer q]) (I 1)).run prog w=.ok (.pointer q) w:=aH
def Pn(h:IsCore w b x)(z:fJ x=none)(fr:aa)(u:fr=-1)(av:cY x=-1)(A:∀ k,k<2->(x.f k).first<=(x.f k).next):aA 90 #[b.c,I fr] w λe w'=>(∃ n:aa,e=.returned (I n))/\IsCore w' b x/\Keeps b.S w w':=by
 subst u;have an:=af (xO h z);rw[av]at an;have C:=xY;have D:=xZ
 go_in
 go_wp2_with fail;refine aU an.o λao s=>?_;have h1:=h.keep s;have dM:=h1.lx (k:=0) U;have fN:=h1.lx (k:=1) U;go_wp2_with fail;go_loopg [18] 2 (λg i wr=>∃ k:J,g=2-k/\k<=2/\i=I k/\IsCore wr b x/\Keeps b.S w wr)
 case atStart=>exact⟨0,rfl,U,rfl,h1,k2 s⟩
 obtain⟨k,aZ,hk,rfl,aT,m⟩:=hrel;by_cases d:k<2
 .have r:=af (QG (aT.fd k d) (A k d) (-1) U);have j:=af aT;have v:k=0\/k=1:=U;rcases v with rfl|rfl
  .go_wp2_with fail;refine r.out.mono ?_;rintro e aC ⟨⟨n,rfl⟩,p,a⟩;have hfin:=j.out.feed d (y:=x.f 0) p a (j.out.dG 0 U);rw[J1]at hfin;exact Np
  go_wp2_with fail;refine r.out.mono ?_;rintro e aC ⟨⟨n,rfl⟩,p,a⟩;have hfin:=j.out.feed d (y:=x.f 1) p a (j.out.dG 1 U);rw[J1]at hfin;exact Nx
 obtain rfl:k=2:=U;have eb:=aT.eb;have t:=af (λn=>Wt (aT.drew n).st (-1) U);go_wp2_with fail;refine aU (t.o 0) ?_;rintro aC ⟨B,a⟩;have hfin:=aT.keep a;go_wp2;go_ret;exact⟨⟨_,rfl⟩,hfin,m.trans (k2 a)⟩
def mT{w w':ai}{q:J}(h:w'=w.drewN q):Keeps aI w w':=by rw[h];exact(Keeps.refl _ w).drewN q
def Pr(h:IsCore w b x)(v:aa)(aW:v<=63)(u:jn x=false)(hd:(x.f x.aL).next<=x.now+x.eF)(G:x.eF<=1000)(ar:(x.f x.aL).next<1000000)(B:(x.f x.aL).first<=(x.f x.aL).next/\(x.f x.aL).next<(x.f x.aL).first+64):aA 144 #[b.c,aF v] w λe w'=>e=aV #[I (x.f x.aL).next,I 0]/\IsCore w' b (gx x x.aL v)/\Keeps b.S w w':=by
 have a:=h.aL;have H:=h.gH;have n:=af (λ(W:ai) (hk:Keeps aI w W)=>vB (h.keep hk));have m:=af (λ(W:ai) (hk:Keeps aI w W)=>xQ (h.keep hk));rw[u]at m;have t:=af (λ(W:ai) (hk:Keeps aI w W)=>xX ((h.keep hk).fd x.aL a) v aW ((x.f x.aL).next:aa) rfl U B);have bY:=λ(W:ai) (hk:Keeps aI w W)=>(h.keep hk).bY;have c5:=λ(W:ai) (hk:Keeps aI w W)=>(h.keep hk).c5;have E:=af bY;have F:=af c5;unfold gx;generalize A:(x.f x.aL).next=dG at *
 go_in
 go_wp2_with fail;refine aU (n.o _ (Keeps.refl _ w)) ?_;rintro ao ⟨L,p⟩;have g:=mT p;clear p;go_wp2_with fail;refine bA (((λ(W:ai) (hk:Keeps aI w W)=>qS ((h.keep hk).fd x.aL a))) _ g) ?_;go_wp2_with fail;refine aU (m.out _ g) ?_;rintro aC ⟨M,q⟩;have C:=g.trans (mT q);clear q;go_wp2_with fail;go_quiet (fail);have i:=C.drewN nq;generalize aC.drewN nq=bm at *;go_wp2_with fail;refine aU (n.out _ i) ?_;rintro O ⟨N,r⟩;have d:=i.trans (mT r);clear r i;go_wp2_with fail;refine aU (t.out _ d) ?_;rintro P ⟨l,k⟩;have hfin:=(h.keep d).feed a (y:={x.f x.aL with next:=dG+1,last:=v,K:=e7 (x.f x.aL).K dG v}) l k vb;have s:=af hfin;have D:=(d.mono λ_ _ x=>x.elim).trans (k.mono λj _ z=>qT a z);clear l hfin k d;go_wp2;go_ret2;exact⟨rfl,by have:=s.o;rw[<-A]at this⊢;exact this,D⟩
def oX(y:Fd)(k:J):Fd:={y with first:=k,K:=me k y.K,cQ:=me k y.cQ}
def rU(x:ck)(k:J):ck:={x with f:=λj=>if j<2 then oX (x.f j) k else x.f j,eQ:=k,L:=x.L.filter λp=>!decide (p.1<k)}
def pM(x:ck)(k j:J):ck:={x with f:=λi=>if i<j then oX (x.f i) k else x.f i}
def PH(x:ck)(k:J):pM x k 0=x:=by simp[pM]
def Gm(x:ck)(k j:J):{pM x k j with f:=eP (pM x k j).f j (oX (x.f j) k)}=pM x k (j+1):=by
 unfold pM eP;simp only[ck.mk.injEq,true_and,and_true]
 funext i
 exact L0
def Pl(h:IsCore w b x)(G:fJ x=none)(k:J)(fr:aa)(E:fr=k)(av:(k:aa)<=cY x+1)(P:cY x<=1000000)(L:∀ j,j<2->(x.f j).first<=k/\k<=(x.f j).next)(K:x.eQ<=k)(N:k<=1000000):aA 90 #[b.c,I fr] w λe w'=>(∃ n:aa,e=.returned (I n))/\IsCore w' b (rU x k)/\Keeps b.S w w':=by
 subst E;have an:=af (xO h G);have H:=af h;have O:min (k:aa) (cY x+1)=(k:aa):=U;generalize cY x=s at *;have Q:=xY;have R:=xZ
 go_in
 go_wp2_with fail;refine aU an.o λao v=>?_;have h1:=H.o.keep v;have dM:=h1.lx (k:=0) U;have fN:=h1.lx (k:=1) U;go_wp2_with fail
 all_goals try (exfalso;omega)
 go_loopg [18] 2 (λg i wr=>∃ j:J,g=2-j/\j<=2/\i=I j/\IsCore wr b (pM x k j)/\Keeps b.S w wr)
 case atStart=>exact⟨0,rfl,U,rfl,by rw[PH];exact h1,k2 v⟩
 obtain⟨j,aZ,l,rfl,aT,m⟩:=hrel;by_cases d:j<2
 .have D:(pM x k j).f j=x.f j:=by simp[pM]
  have u:=aT.fd j d;rw[D]at u;have A:=L j d;have t:=af (QF u k (k:aa) ⟨A.1,U⟩ (.inl ⟨rfl,A.2⟩));have z:(x.f j).next<=1000000:=by have:=H.o.dG j d;exact this
  have r:=af aT;have F:j=0\/j=1:=U;rcases F with rfl|rfl
  .go_wp2_with fail;refine t.out.mono ?_;rintro e aC ⟨⟨n,rfl⟩,p,a⟩;have hfin:=r.out.feed d (y:=oX (x.f 0) k) p a z;rw[Gm]at hfin;exact Np
  go_wp2_with fail;refine t.out.mono ?_;rintro e aC ⟨⟨n,rfl⟩,p,a⟩;have hfin:=r.out.feed d (y:=oX (x.f 1) k) p a z;rw[Gm]at hfin;exact Nx
 obtain rfl:j=2:=U;have eb:=aT.eb;go_wp2_with fail;refine aU ((Ws aT.st k (k:aa) rfl ⟨K,U⟩)) ?_;rintro aC ⟨C,a⟩;have hfin:=aT.uF C a;have B:=af hfin;go_wp2;go_ret;exact⟨⟨_,rfl⟩,B.o,(m.trans (a.mono (T:=b.S) λj _ l=>by rcases l with e|e;(· exact .inr (.inr (.inr (.inl e))));(· exact .inr (.inr (.inr (.inr e))))))⟩
end Go.Proofs.YtalagblioepadaaGreatDoor
