/- The proof, part 31. -/
import Derived.Test.YtalagblioepadaaGreatDoorZd30
namespace Go.Proofs.YtalagblioepadaaGreatDoor
set_option linter.all false
open Proofs.Tryz List Go.RowKit
set_option maxRecDepth 100000
set_option maxHeartbeats 1000000
def N9{p:al}(h:p:=by
 have M:=m.trans (a.mono λj _ l=>q' d l);have q:=ag hfin;go_wp2_with fail;go_roundg 1
 case rel=>exact⟨1,rfl,U,by go_num,q.o,M⟩
 omega
 ):p:=h
def Oe{p:al}(h:p:=by
 have q:=ag hfin;go_wp2_with fail;go_roundg 0
 case rel=>exact⟨2,rfl,U,by go_num,q.o,(m.trans (a.mono λj _ l=>q' d l))⟩
 omega
 ):p:=h
def MD{p:al}(h:p:=by
 by_cases e:i=j
 .subst e;simp
 by_cases a:i<j
 .rw[aB e,aE a,aE U]
 rw[aB e,aB a,aB U]
 ):p:=h
variable{w w':aj}{b:gj}{x:ct}
def eW(f:J->Fd)(k:J)(y:Fd):J->Fd:=λj=>if j=k then y else f j
def rB(f:J->Fd)(k:J)(y:Fd):eW f k y k=y:=by simp[eW]
def rA(f:J->Fd){j k:J}(y:Fd)(h:j≠k):eW f k y j=f j:=by simp[eW,h]
def IsCore.feed(h:IsCore w b x){k:J}(n:k<2){y:Fd}(m:pU w' (b.D k) y)(hk:Keeps (λj=>kg (b.D k) j) w w')(av:y.next<=1000000):IsCore w' b {x with f:=eW x.f k y}:=by
 have ok:=h.ok;have an:¬ kg (b.D k) b.c:=by
  have:k=0\/k=1:=U
  rcases this with rfl|rfl
  .exact ok.bz
  exact ok.b6
 have l:¬ kg (b.D k) b.r:=by
  have:k=0\/k=1:=U
  rcases this with rfl|rfl
  .exact ok.eV
  exact ok.fE
 have g:¬ kg (b.D k) b.B:=by
  have:k=0\/k=1:=U
  rcases this with rfl|rfl
  .exact ok.hj
  exact ok.Fg
 refine⟨hk.heap h.head an,λi ax=>?_,h.st.keeps hk l g,ok,h.aN,h.gS,λi ax=>?_,h.wn⟩
 .by_cases e:i=k
  .subst e;show pU w' (b.D i) (eW x.f i y i);rw[rB];exact m
  show pU w' (b.D i) (eW x.f k y i);rw[rA _ _ e];refine IsFeed.keeps (h.fd i ax) hk λj h1 h2 d=>?_;have hd:=ok.Qw;unfold kg at d;have a:(i=0/\k=1)\/(i=1/\k=0):=U;rcases a with⟨rfl,rfl⟩|⟨rfl,rfl⟩<;>omega
 by_cases e:i=k
 .subst e;show(eW x.f i y i).next<=_;rw[rB];exact av
 show(eW x.f k y i).next<=_;rw[rA _ _ e];exact h.dO i ax
def q'{k:J}(c:k<2){j:J}(a:kg (b.D k) j):b.S j:=by
 have:k=0\/k=1:=U
 rcases this with rfl|rfl
 .exact .inr (.inl a)
 exact .inr (.inr (.inl a))
def IsCore.uU(h:IsCore w b x){e4:J}{L:ah (J×(J->aa))}(a:kj w' b.r b.B 81 e4 L)(hk:Keeps (λj=>j=b.r\/j=b.B) w w'):IsCore w' b {x with e4:=e4,L:=L}:=by
 have ok:=h.ok;have d:=ok.GW;have e:=ok.A2;have f:=ok.eV;have g:=ok.fE;have k:=ok.hj;have l:=ok.Fg;refine⟨hk.heap h.head U,λi ax=>IsFeed.keeps (h.fd i ax) hk λj h1 h2 c=>?_,a,ok,h.aN,h.gS,h.dO,h.wn⟩
 have:i=0\/i=1:=U
 rcases this with rfl|rfl<;>omega
def gL(x:ct)(k:J)(v:aa):ct:={x with f:=eW x.f k {x.f k with next:=(x.f k).next+1,last:=v,K:=fa (x.f k).K (x.f k).next v}}
def P_(h:IsCore w b x)(v:aa)(aU:v<=63)(f:aa)(d:f=(x.f (1-x.aN)).next)(av:(x.f (1-x.aN)).next<1000000)(g:(x.f (1-x.aN)).first<=(x.f (1-x.aN)).next/\(x.f (1-x.aN)).next<(x.f (1-x.aN)).first+64):aA 103 #[b.c,I f,aH v] w λe w'=>e=.returned (I 0)/\IsCore w' b (gL x (1-x.aN) v)/\Keeps b.S w w':=by
 have a:1-x.aN<2:=U;have l:=ag (sb h);have i:=ag (λn=>yd ((h.fd (1-x.aN) a).drew n) v aU f d U g);have H:=ag h;clear h aU d g;generalize 1-x.aN=k at *
 go_in
 go_wp2_with fail;refine aW l.o ?_;rintro _ ⟨q,rfl⟩;go_wp2_with fail;refine aW (i.out q) ?_;rintro aD ⟨h2,hk⟩;have hfin:=(H.out.drew q).feed a (y:={x.f k with next:=(x.f k).next+1,last:=v,K:=fa (x.f k).K (x.f k).next v}) h2 hk vs;go_wp2;go_ret;exact⟨rfl,hfin,(((Keeps.refl _ w).drewN q).trans (hk.mono λj _ m=>q' a m))⟩
def Qe(h:IsCore w b x)(i:fM x=none):aA 138 #[b.c] w λe w'=>e=aY #[aq none 0 0,I 0]/\Keeps aG w w':=by
 have f:=ag (λ(W:aj) (hk:Keeps aG w W)=>vW ((h.keep hk).fd (1-x.aN) U));unfold fM fv at i;rw[i]at f;have d:Keeps aG w ((w.alloc (af #[aq none 0 0] 267)).alloc (af #[I 0] 36)):=((Keeps.refl _ w).alloc _).alloc _;have b':(((w.alloc (af #[aq none 0 0] 267)).alloc (af #[I 0] 36))).heap[w.heap.size]?=some (af #[aq none 0 0] 267 (0,0)):=cw (aX w _) _;have bR:(((w.alloc (af #[aq none 0 0] 267)).alloc (af #[I 0] 36))).heap[w.heap.size+1]?=some (af #[I 0] 36 (0,0)):=by
  have:=aX (w.alloc (af #[aq none 0 0] 267)) (af #[I 0] 36)
  rwa [fH]at this
 go_in
 go_wp2_with fail;generalize ((w.alloc (af #[aq none 0 0] 267)).alloc (af #[I 0] 36))=bn at *;refine aW (((λ(W:aj) (hk:Keeps aG w W)=>sb (h.keep hk))) _ d) ?_;rintro ao ⟨q,j⟩;have g:Keeps aG bn ao:=by rw[j];exact(Keeps.refl _ bn).drewN q
 clear j;go_wp2_with fail;refine aW (f.out _ (d.trans g)) λaD o=>?_;have a:=g.trans o;have l:=bf (k:=0) (a.heap b' id) rfl;have d1:=bf (k:=0) (a.heap bR id) rfl;have g0:=bP (a.heap b' id);have g1:=bP (a.heap bR id);simp only[pL,o0];go_wp2;have m:((aD.setCell (ae w 0 ad) (aq none 0 0)).setCell (ae (w+1) 0 ad) (I 0)).cell? (ae w 0 ad)=some (aq none 0 0):=by
  rw[D0 _ _ _ _ aM,w8 _ _ _ l]
 have n:((aD.setCell (ae w 0 ad) (aq none 0 0)).setCell (ae (w+1) 0 ad) (I 0)).cell? (ae (w+1) 0 ad)=some (I 0):=
  w8 _ _ _ (by rw[D0 _ _ _ _ aM];exact d1)
 refine c1 (v:=aY #[aq none 0 0,I 0]) (by simp[results,results138,asAddr,loadVar,isAgg267,isAgg36,go_sem,m,n]) rfl ?_;exact⟨rfl,((d.trans a).oH (p:=ae w 0 ad) bx _).oH (p:=ae (w+1) 0 ad) aM _⟩
def KE(f:J->Fd)(k:J):eW f k (f k)=f:=by
 funext j
 unfold eW;split
 .rename_i h;rw[h]
 rfl
def ye(p q:b_ Addr)(w:aj):(Instr.index 126 (aL #[.pointer p,.pointer q]) (I 0)).run prog w=.ok (.pointer p) w:=aI
def yf(p q:b_ Addr)(w:aj):(Instr.index 126 (aL #[.pointer p,.pointer q]) (I 1)).run prog w=.ok (.pointer q) w:=aI
def P9(h:IsCore w b x)(z:fM x=none)(fr:aa)(u:fr=-1)(aw:c3 x=-1)(A:∀ k,k<2->(x.f k).first<=(x.f k).next):aA 90 #[b.c,I fr] w λe w'=>(∃ n:aa,e=.returned (I n))/\IsCore w' b x/\Keeps b.S w w':=by
 subst u;have ar:=ag (x5 h z);rw[aw]at ar;have C:=ye;have D:=yf
 go_in
 go_wp2_with fail;refine aW ar.o λao s=>?_;have h1:=h.keep s;have dY:=h1.lP (k:=0) U;have fV:=h1.lP (k:=1) U;go_wp2_with fail;go_loopg [18] 2 (λg i wr=>∃ k:J,g=2-k/\k<=2/\i=I k/\IsCore wr b x/\Keeps b.S w wr)
 case atStart=>exact⟨0,rfl,U,rfl,h1,lj s⟩
 obtain⟨k,aZ,hk,rfl,aV,m⟩:=hrel;by_cases d:k<2
 .have r:=ag (Rq (aV.fd k d) (A k d) (-1) U);have j:=ag aV;have v:k=0\/k=1:=U;rcases v with rfl|rfl
  .go_wp2_with fail;refine r.out.mono ?_;rintro e aD ⟨⟨n,rfl⟩,p,a⟩;have hfin:=j.out.feed d (y:=x.f 0) p a (j.out.dO 0 U);rw[KE]at hfin;exact N9
  go_wp2_with fail;refine r.out.mono ?_;rintro e aD ⟨⟨n,rfl⟩,p,a⟩;have hfin:=j.out.feed d (y:=x.f 1) p a (j.out.dO 1 U);rw[KE]at hfin;exact Oe
 obtain rfl:k=2:=U;have ek:=aV.ek;have t:=ag (λn=>Xc (aV.drew n).st (-1) U);go_wp2_with fail;refine aW (t.o 0) ?_;rintro aD ⟨B,a⟩;have hfin:=aV.keep a;go_wp2;go_ret;exact⟨⟨_,rfl⟩,hfin,m.trans (lj a)⟩
def nm{w w':aj}{q:J}(h:w'=w.drewN q):Keeps aG w w':=by rw[h];exact(Keeps.refl _ w).drewN q
def Qb(h:IsCore w b x)(v:aa)(aU:v<=63)(t:j0 x=false)(hd:(x.f x.aN).next<=x.now+x.eO)(F:x.eO<=1000)(av:(x.f x.aN).next<1000000)(A:(x.f x.aN).first<=(x.f x.aN).next/\(x.f x.aN).next<(x.f x.aN).first+64):aA 144 #[b.c,aH v] w λe w'=>e=aY #[I (x.f x.aN).next,I 0]/\IsCore w' b (gL x x.aN v)/\Keeps b.S w w':=by
 have a:=h.aN;have G:=h.gS;have m:=ag (λ(W:aj) (hk:Keeps aG w W)=>vR (h.keep hk));have l:=ag (λ(W:aj) (hk:Keeps aG w W)=>x7 (h.keep hk));rw[t]at l;have s:=ag (λ(W:aj) (hk:Keeps aG w W)=>yd ((h.keep hk).fd x.aN a) v aU ((x.f x.aN).next:aa) rfl U A);have b6:=λ(W:aj) (hk:Keeps aG w W)=>(h.keep hk).b6;have c2:=λ(W:aj) (hk:Keeps aG w W)=>(h.keep hk).c2;have D:=ag b6;have E:=ag c2;unfold gL;generalize z:(x.f x.aN).next=dO at *
 go_in
 go_wp2_with fail;refine aW (m.o _ (Keeps.refl _ w)) ?_;rintro ao ⟨H,n⟩;have d:=nm n;clear n;go_wp2_with fail;refine bE (((λ(W:aj) (hk:Keeps aG w W)=>q_ ((h.keep hk).fd x.aN a))) _ d) ?_;go_wp2_with fail;refine aW (l.out _ d) ?_;rintro aD ⟨L,p⟩;have B:=d.trans (nm p);clear p;go_wp2_with fail;go_quiet (fail);have g:=B.drewN nq;generalize aD.drewN nq=bq at *;go_wp2_with fail;refine aW (m.out _ g) ?_;rintro N ⟨M,q⟩;have cP:=g.trans (nm q);clear q g;go_wp2_with fail;refine aW (s.out _ cP) ?_;rintro O ⟨k,i⟩;have hfin:=(h.keep cP).feed a (y:={x.f x.aN with next:=dO+1,last:=v,K:=fa (x.f x.aN).K dO v}) k i vs;have r:=ag hfin;have C:=(cP.mono λ_ _ x=>x.elim).trans (i.mono λj _ u=>q' a u);clear k hfin i cP;go_wp2;go_ret2;exact⟨rfl,by have:=r.o;rw[<-z]at this⊢;exact this,C⟩
def pc(y:Fd)(k:J):Fd:={y with first:=k,K:=mw k y.K,cX:=mw k y.cX}
def se(x:ct)(k:J):ct:={x with f:=λj=>if j<2 then pc (x.f j) k else x.f j,e4:=k,L:=x.L.filter λp=>!decide (p.1<k)}
def p5(x:ct)(k j:J):ct:={x with f:=λi=>if i<j then pc (x.f i) k else x.f i}
def Qr(x:ct)(k:J):p5 x k 0=x:=by simp[p5]
def G1(x:ct)(k j:J):{p5 x k j with f:=eW (p5 x k j).f j (pc (x.f j) k)}=p5 x k (j+1):=by
 unfold p5 eW;simp only[ct.mk.injEq,true_and,and_true]
 funext i
 exact MD
def P7(h:IsCore w b x)(G:fM x=none)(k:J)(fr:aa)(E:fr=k)(aw:(k:aa)<=c3 x+1)(P:c3 x<=1000000)(L:∀ j,j<2->(x.f j).first<=k/\k<=(x.f j).next)(K:x.e4<=k)(N:k<=1000000):aA 90 #[b.c,I fr] w λe w'=>(∃ n:aa,e=.returned (I n))/\IsCore w' b (se x k)/\Keeps b.S w w':=by
 subst E;have ar:=ag (x5 h G);have H:=ag h;have O:min (k:aa) (c3 x+1)=(k:aa):=U;generalize c3 x=s at *;have Q:=ye;have R:=yf
 go_in
 go_wp2_with fail;refine aW ar.o λao v=>?_;have h1:=H.o.keep v;have dY:=h1.lP (k:=0) U;have fV:=h1.lP (k:=1) U;go_wp2_with fail
 all_goals try (exfalso;omega)
 go_loopg [18] 2 (λg i wr=>∃ j:J,g=2-j/\j<=2/\i=I j/\IsCore wr b (p5 x k j)/\Keeps b.S w wr)
 case atStart=>exact⟨0,rfl,U,rfl,by rw[Qr];exact h1,lj v⟩
 obtain⟨j,aZ,l,rfl,aV,m⟩:=hrel;by_cases d:j<2
 .have D:(p5 x k j).f j=x.f j:=by simp[p5]
  have u:=aV.fd j d;rw[D]at u;have A:=L j d;have t:=ag (Rp u k (k:aa) ⟨A.1,U⟩ (.inl ⟨rfl,A.2⟩));have z:(x.f j).next<=1000000:=by have:=H.o.dO j d;exact this
  have r:=ag aV;have F:j=0\/j=1:=U;rcases F with rfl|rfl
  .go_wp2_with fail;refine t.out.mono ?_;rintro e aD ⟨⟨n,rfl⟩,p,a⟩;have hfin:=r.out.feed d (y:=pc (x.f 0) k) p a z;rw[G1]at hfin;exact N9
  go_wp2_with fail;refine t.out.mono ?_;rintro e aD ⟨⟨n,rfl⟩,p,a⟩;have hfin:=r.out.feed d (y:=pc (x.f 1) k) p a z;rw[G1]at hfin;exact Oe
 obtain rfl:j=2:=U;have ek:=aV.ek;go_wp2_with fail;refine aW ((Xb aV.st k (k:aa) rfl ⟨K,U⟩)) ?_;rintro aD ⟨C,a⟩;have hfin:=aV.uU C a;have B:=ag hfin;go_wp2;go_ret;exact⟨⟨_,rfl⟩,B.o,(m.trans (a.mono (T:=b.S) λj _ l=>by rcases l with e|e;(· exact .inr (.inr (.inr (.inl e))));(· exact .inr (.inr (.inr (.inr e))))))⟩
end Go.Proofs.YtalagblioepadaaGreatDoor
