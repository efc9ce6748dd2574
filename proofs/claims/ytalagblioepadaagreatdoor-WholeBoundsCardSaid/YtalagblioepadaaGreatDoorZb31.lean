/- The proof, part 31. -/
import Derived.Test.YtalagblioepadaaGreatDoorZb30
namespace Go.Proofs.YtalagblioepadaaGreatDoor
set_option linter.all false
open Proofs.Tryz List Go.RowKit
set_option maxRecDepth 100000
set_option maxHeartbeats 1000000
def MQ{p:ak}(h:p:=by
 have M:=m.trans (a.mono λj _ l=>qz d l);have q:=af hfin;go_wp2_with fail;go_roundg 1
 case rel=>exact⟨1,rfl,U,by go_num,q.o,M⟩
 omega
 ):p:=h
def MY{p:ak}(h:p:=by
 have q:=af hfin;go_wp2_with fail;go_roundg 0
 case rel=>exact⟨2,rfl,U,by go_num,q.o,(m.trans (a.mono λj _ l=>qz d l))⟩
 omega
 ):p:=h
def Lr{p:ak}(h:p:=by
 by_cases e:i=j
 .subst e;simp
 by_cases a:i<j
 .rw[aA e,aD a,aD U]
 rw[aA e,aA a,aA U]
 ):p:=h
variable{w w':ai}{b:fG}{x:ck}
def eK(f:J->Fd)(k:J)(y:Fd):J->Fd:=λj=>if j=k then y else f j
def qU(f:J->Fd)(k:J)(y:Fd):eK f k y k=y:=by simp[eK]
def qT(f:J->Fd){j k:J}(y:Fd)(h:j≠k):eK f k y j=f j:=by simp[eK,h]
def IsCore.feed(h:IsCore w b x){k:J}(n:k<2){y:Fd}(m:pn w' (b.D k) y)(hk:Keeps (λj=>jU (b.D k) j) w w')(au:y.next<=1000000):IsCore w' b {x with f:=eK x.f k y}:=by
 have ok:=h.ok;have aq:¬ jU (b.D k) b.c:=by
  have:k=0\/k=1:=U
  rcases this with rfl|rfl
  .exact ok.bu
  exact ok.b0
 have l:¬ jU (b.D k) b.r:=by
  have:k=0\/k=1:=U
  rcases this with rfl|rfl
  .exact ok.eJ
  exact ok.fm
 have g:¬ jU (b.D k) b.B:=by
  have:k=0\/k=1:=U
  rcases this with rfl|rfl
  .exact ok.gS
  exact ok.Eh
 refine⟨hk.heap h.head aq,λi av=>?_,h.st.keeps hk l g,ok,h.aJ,h.gM,λi av=>?_,h.wn⟩
 .by_cases e:i=k
  .subst e;show pn w' (b.D i) (eK x.f i y i);rw[qU];exact m
  show pn w' (b.D i) (eK x.f k y i);rw[qT _ _ e];refine IsFeed.keeps (h.fd i av) hk λj h1 h2 d=>?_;have hd:=ok.O_;unfold jU at d;have a:(i=0/\k=1)\/(i=1/\k=0):=U;rcases a with⟨rfl,rfl⟩|⟨rfl,rfl⟩<;>omega
 by_cases e:i=k
 .subst e;show(eK x.f i y i).next<=_;rw[qU];exact au
 show(eK x.f k y i).next<=_;rw[qT _ _ e];exact h.dG i av
def qz{k:J}(c:k<2){j:J}(a:jU (b.D k) j):b.S j:=by
 have:k=0\/k=1:=U
 rcases this with rfl|rfl
 .exact .inr (.inl a)
 exact .inr (.inr (.inl a))
def IsCore.um(h:IsCore w b x){eT:J}{L:ah (J×(J->aa))}(a:jX w' b.r b.B 81 eT L)(hk:Keeps (λj=>j=b.r\/j=b.B) w w'):IsCore w' b {x with eT:=eT,L:=L}:=by
 have ok:=h.ok;have d:=ok.FN;have e:=ok.Ad;have f:=ok.eJ;have g:=ok.fm;have k:=ok.gS;have l:=ok.Eh;refine⟨hk.heap h.head U,λi av=>IsFeed.keeps (h.fd i av) hk λj h1 h2 c=>?_,a,ok,h.aJ,h.gM,h.dG,h.wn⟩
 have:i=0\/i=1:=U
 rcases this with rfl|rfl<;>omega
def gn(x:ck)(k:J)(v:aa):ck:={x with f:=eK x.f k {x.f k with next:=(x.f k).next+1,last:=v,K:=eY (x.f k).K (x.f k).next v}}
def OL(h:IsCore w b x)(v:aa)(aX:v<=63)(f:aa)(d:f=(x.f (1-x.aJ)).next)(au:(x.f (1-x.aJ)).next<1000000)(g:(x.f (1-x.aJ)).first<=(x.f (1-x.aJ)).next/\(x.f (1-x.aJ)).next<(x.f (1-x.aJ)).first+64):az 103 #[b.c,I f,aF v] w λe w'=>e=.returned (I 0)/\IsCore w' b (gn x (1-x.aJ) v)/\Keeps b.S w w':=by
 have a:1-x.aJ<2:=U;have l:=af (rC h);have i:=af (λn=>xA ((h.fd (1-x.aJ) a).drew n) v aX f d U g);have H:=af h;clear h aX d g;generalize 1-x.aJ=k at *
 go_in
 go_wp2_with fail;refine aT l.o ?_;rintro _ ⟨q,rfl⟩;go_wp2_with fail;refine aT (i.out q) ?_;rintro aB ⟨h2,hk⟩;have hfin:=(H.out.drew q).feed a (y:={x.f k with next:=(x.f k).next+1,last:=v,K:=eY (x.f k).K (x.f k).next v}) h2 hk uO;go_wp2;go_ret;exact⟨rfl,hfin,(((Keeps.refl _ w).drewN q).trans (hk.mono λj _ m=>qz a m))⟩
def OS(h:IsCore w b x)(i:fQ x=none):az 138 #[b.c] w λe w'=>e=aV #[ao none 0 0,I 0]/\Keeps aG w w':=by
 have f:=af (λ(W:ai) (hk:Keeps aG w W)=>vt ((h.keep hk).fd (1-x.aJ) U));unfold fQ fq at i;rw[i]at f;have d:Keeps aG w ((w.alloc (ae #[ao none 0 0] 267)).alloc (ae #[I 0] 36)):=((Keeps.refl _ w).alloc _).alloc _;have ca:(((w.alloc (ae #[ao none 0 0] 267)).alloc (ae #[I 0] 36))).heap[w.heap.size]?=some (ae #[ao none 0 0] 267 (0,0)):=cm (aW w _) _;have bP:(((w.alloc (ae #[ao none 0 0] 267)).alloc (ae #[I 0] 36))).heap[w.heap.size+1]?=some (ae #[I 0] 36 (0,0)):=by
  have:=aW (w.alloc (ae #[ao none 0 0] 267)) (ae #[I 0] 36)
  rwa [fF]at this
 go_in
 go_wp2_with fail;generalize ((w.alloc (ae #[ao none 0 0] 267)).alloc (ae #[I 0] 36))=bl at *;refine aT (((λ(W:ai) (hk:Keeps aG w W)=>rC (h.keep hk))) _ d) ?_;rintro an ⟨q,j⟩;have g:Keeps aG bl an:=by rw[j];exact(Keeps.refl _ bl).drewN q
 clear j;go_wp2_with fail;refine aT (f.out _ (d.trans g)) λaB o=>?_;have a:=g.trans o;have l:=bb (k:=0) (a.heap ca id) rfl;have d1:=bb (k:=0) (a.heap bP id) rfl;have g0:=bJ (a.heap ca id);have g1:=bJ (a.heap bP id);simp only[o',ou];go_wp2;have m:((aB.setCell (ad w 0 ab) (ao none 0 0)).setCell (ad (w+1) 0 ab) (I 0)).cell? (ad w 0 ab)=some (ao none 0 0):=by
  rw[C6 _ _ _ _ aI,wz _ _ _ l]
 have n:((aB.setCell (ad w 0 ab) (ao none 0 0)).setCell (ad (w+1) 0 ab) (I 0)).cell? (ad (w+1) 0 ab)=some (I 0):=
  wz _ _ _ (by rw[C6 _ _ _ _ aI];exact d1)
 refine cU (v:=aV #[ao none 0 0,I 0]) (by simp[results,results138,asAddr,loadVar,isAgg267,isAgg36,go_sem,m,n]) rfl ?_;exact⟨rfl,((d.trans a).nZ (p:=ad w 0 ab) bA _).nZ (p:=ad (w+1) 0 ab) aI _⟩
def Jz(f:J->Fd)(k:J):eK f k (f k)=f:=by
 funext j
 unfold eK;split
 .rename_i h;rw[h]
 rfl
def xB(p q:b4 Addr)(w:ai):(Instr.index 126 (aM #[.pointer p,.pointer q]) (I 0)).run prog w=.ok (.pointer p) w:=aH
def xC(p q:b4 Addr)(w:ai):(Instr.index 126 (aM #[.pointer p,.pointer q]) (I 1)).run prog w=.ok (.pointer q) w:=aH
def OK(h:IsCore w b x)(z:fQ x=none)(fr:aa)(u:fr=-1)(ax:cY x=-1)(A:∀ k,k<2->(x.f k).first<=(x.f k).next):az 90 #[b.c,I fr] w λe w'=>(∃ n:aa,e=.returned (I n))/\IsCore w' b x/\Keeps b.S w w':=by
 subst u;have al:=af (xq h z);rw[ax]at al;have C:=xB;have D:=xC
 go_in
 go_wp2_with fail;refine aT al.o λan s=>?_;have h1:=h.keep s;have dR:=h1.la (k:=0) U;have fV:=h1.la (k:=1) U;go_wp2_with fail;go_loopg [18] 2 (λg i wr=>∃ k:J,g=2-k/\k<=2/\i=I k/\IsCore wr b x/\Keeps b.S w wr)
 case atStart=>exact⟨0,rfl,U,rfl,h1,kQ s⟩
 obtain⟨k,a1,hk,rfl,aU,m⟩:=hrel;by_cases d:k<2
 .have r:=af (P6 (aU.fd k d) (A k d) (-1) U);have j:=af aU;have v:k=0\/k=1:=U;rcases v with rfl|rfl
  .go_wp2_with fail;refine r.out.mono ?_;rintro e aB ⟨⟨n,rfl⟩,p,a⟩;have hfin:=j.out.feed d (y:=x.f 0) p a (j.out.dG 0 U);rw[Jz]at hfin;exact MQ
  go_wp2_with fail;refine r.out.mono ?_;rintro e aB ⟨⟨n,rfl⟩,p,a⟩;have hfin:=j.out.feed d (y:=x.f 1) p a (j.out.dG 1 U);rw[Jz]at hfin;exact MY
 obtain rfl:k=2:=U;have dS:=aU.dS;have t:=af (λn=>VT (aU.drew n).st (-1) U);go_wp2_with fail;refine aT (t.o 0) ?_;rintro aB ⟨B,a⟩;have hfin:=aU.keep a;go_wp2;go_ret;exact⟨⟨_,rfl⟩,hfin,m.trans (kQ a)⟩
def mG{w w':ai}{q:J}(h:w'=w.drewN q):Keeps aG w w':=by rw[h];exact(Keeps.refl _ w).drewN q
def OP(h:IsCore w b x)(v:aa)(aX:v<=63)(u:jB x=false)(hd:(x.f x.aJ).next<=x.now+x.eD)(G:x.eD<=1000)(au:(x.f x.aJ).next<1000000)(B:(x.f x.aJ).first<=(x.f x.aJ).next/\(x.f x.aJ).next<(x.f x.aJ).first+64):az 144 #[b.c,aF v] w λe w'=>e=aV #[I (x.f x.aJ).next,I 0]/\IsCore w' b (gn x x.aJ v)/\Keeps b.S w w':=by
 have a:=h.aJ;have H:=h.gM;have n:=af (λ(W:ai) (hk:Keeps aG w W)=>vk (h.keep hk));have m:=af (λ(W:ai) (hk:Keeps aG w W)=>xt (h.keep hk));rw[u]at m;have t:=af (λ(W:ai) (hk:Keeps aG w W)=>xA ((h.keep hk).fd x.aJ a) v aX ((x.f x.aJ).next:aa) rfl U B);have b0:=λ(W:ai) (hk:Keeps aG w W)=>(h.keep hk).b0;have c6:=λ(W:ai) (hk:Keeps aG w W)=>(h.keep hk).c6;have E:=af b0;have F:=af c6;unfold gn;generalize A:(x.f x.aJ).next=dG at *
 go_in
 go_wp2_with fail;refine aT (n.o _ (Keeps.refl _ w)) ?_;rintro an ⟨L,p⟩;have g:=mG p;clear p;go_wp2_with fail;refine br (((λ(W:ai) (hk:Keeps aG w W)=>qy ((h.keep hk).fd x.aJ a))) _ g) ?_;go_wp2_with fail;refine aT (m.out _ g) ?_;rintro aB ⟨M,q⟩;have C:=g.trans (mG q);clear q;go_wp2_with fail;go_quiet (fail);have i:=C.drewN nq;generalize aB.drewN nq=bn at *;go_wp2_with fail;refine aT (n.out _ i) ?_;rintro O ⟨N,r⟩;have d:=i.trans (mG r);clear r i;go_wp2_with fail;refine aT (t.out _ d) ?_;rintro P ⟨l,k⟩;have hfin:=(h.keep d).feed a (y:={x.f x.aJ with next:=dG+1,last:=v,K:=eY (x.f x.aJ).K dG v}) l k uO;have s:=af hfin;have D:=(d.mono λ_ _ x=>x.elim).trans (k.mono λj _ z=>qz a z);clear l hfin k d;go_wp2;go_ret2;exact⟨rfl,by have:=s.o;rw[<-A]at this⊢;exact this,D⟩
def oJ(y:Fd)(k:J):Fd:={y with first:=k,K:=l0 k y.K,cR:=l0 k y.cR}
def rF(x:ck)(k:J):ck:={x with f:=λj=>if j<2 then oJ (x.f j) k else x.f j,eT:=k,L:=x.L.filter λp=>!decide (p.1<k)}
def py(x:ck)(k j:J):ck:={x with f:=λi=>if i<j then oJ (x.f i) k else x.f i}
def O5(x:ck)(k:J):py x k 0=x:=by simp[py]
def FT(x:ck)(k j:J):{py x k j with f:=eK (py x k j).f j (oJ (x.f j) k)}=py x k (j+1):=by
 unfold py eK;simp only[ck.mk.injEq,true_and,and_true]
 funext i
 exact Lr
def OI(h:IsCore w b x)(G:fQ x=none)(k:J)(fr:aa)(E:fr=k)(ax:(k:aa)<=cY x+1)(P:cY x<=1000000)(L:∀ j,j<2->(x.f j).first<=k/\k<=(x.f j).next)(K:x.eT<=k)(N:k<=1000000):az 90 #[b.c,I fr] w λe w'=>(∃ n:aa,e=.returned (I n))/\IsCore w' b (rF x k)/\Keeps b.S w w':=by
 subst E;have al:=af (xq h G);have H:=af h;have O:min (k:aa) (cY x+1)=(k:aa):=U;generalize cY x=s at *;have Q:=xB;have R:=xC
 go_in
 go_wp2_with fail;refine aT al.o λan v=>?_;have h1:=H.o.keep v;have dR:=h1.la (k:=0) U;have fV:=h1.la (k:=1) U;go_wp2_with fail
 all_goals try (exfalso;omega)
 go_loopg [18] 2 (λg i wr=>∃ j:J,g=2-j/\j<=2/\i=I j/\IsCore wr b (py x k j)/\Keeps b.S w wr)
 case atStart=>exact⟨0,rfl,U,rfl,by rw[O5];exact h1,kQ v⟩
 obtain⟨j,a1,l,rfl,aU,m⟩:=hrel;by_cases d:j<2
 .have D:(py x k j).f j=x.f j:=by simp[py]
  have u:=aU.fd j d;rw[D]at u;have A:=L j d;have t:=af (P5 u k (k:aa) ⟨A.1,U⟩ (.inl ⟨rfl,A.2⟩));have z:(x.f j).next<=1000000:=by have:=H.o.dG j d;exact this
  have r:=af aU;have F:j=0\/j=1:=U;rcases F with rfl|rfl
  .go_wp2_with fail;refine t.out.mono ?_;rintro e aB ⟨⟨n,rfl⟩,p,a⟩;have hfin:=r.out.feed d (y:=oJ (x.f 0) k) p a z;rw[FT]at hfin;exact MQ
  go_wp2_with fail;refine t.out.mono ?_;rintro e aB ⟨⟨n,rfl⟩,p,a⟩;have hfin:=r.out.feed d (y:=oJ (x.f 1) k) p a z;rw[FT]at hfin;exact MY
 obtain rfl:j=2:=U;have dS:=aU.dS;go_wp2_with fail;refine aT ((VS aU.st k (k:aa) rfl ⟨K,U⟩)) ?_;rintro aB ⟨C,a⟩;have hfin:=aU.um C a;have B:=af hfin;go_wp2;go_ret;exact⟨⟨_,rfl⟩,B.o,(m.trans (a.mono (T:=b.S) λj _ l=>by rcases l with e|e;(· exact .inr (.inr (.inr (.inl e))));(· exact .inr (.inr (.inr (.inr e))))))⟩
end Go.Proofs.YtalagblioepadaaGreatDoor
