/- The proof, part 50. -/
import Derived.Test.YtalagblioepadaaGreatDoorZd49
namespace Go.Proofs.YtalagblioepadaaGreatDoor
set_option linter.all false
open Proofs.Tryz List Go.RowKit
set_option maxRecDepth 100000
def three(us cB:J->J->aa){aJ:aa}(aw:0<=aJ/\aJ<=4294967295)(a g m n:J)(h1:a<=g)(h2:g<=m)(c:m<=n)(av:n<=a+17):((xR (λj=>if g<=j/\j<m then fJ cB aJ j else fJ us aJ j) a (n-a)).length:aa)<=256:=by
 rw[F6,show n-a=(g-a)+((m-g)+(n-m))by omega,A6,A6,show a+(g-a)=g by omega,show g+(m-g)=m by omega];rw[x4 (T':=fJ us aJ) a (g-a) λj _ b=>if_neg iO,x4 (T':=fJ cB aJ) g (m-g) λj _ b=>if_pos iO,x4 (T':=fJ us aJ) m (n-m) λj _ b=>if_neg iO];have b6:=A7 us aw a (g-a);have bw:=A7 cB aw g (m-g);have eC:=A7 us aw m (n-m);omega
def V7{s:bM}{F:J}{ba us:J->J->aa}(h:b8 s F ba us){g:J}(d:fM s.x=some g):∃ (cB:J->J->aa) (s1:bM) (P:J->J×ah aC),(0<=s1.x.aJ/\s1.x.aJ<=4294967295)/\(∀ k,g+k<s1.x.now->P k=(g+k,fJ cB s1.x.aJ (g+k)))/\s1.ld.aP<g/\pZ s1 us cB g g (s1,[])/\cL s=((range (s.x.now-g)).map P).foldl (jt s1.x.now) (s1,[])/\s1.ld=s.ld/\s1.x.now=s.x.now/\g<=s.x.now:=by
 have⟨g1,o,p,q,D⟩:=h.hN.zM h.aN h.jf.1 d;have f:s.ld.aP<g:=by
  exact MJ
 have r:=h.jf;have t:=h.my;obtain⟨e,i,l,m,c,n⟩:=sD s.x g (s.x.now-g);obtain⟨s1,a⟩:∃ s1:bM,s1={s with x:=replay s.x g (s.x.now-g)}:=⟨_,rfl⟩;have cv:s1.x.now=s.x.now:=by rw[a];exact c
 have d1:s1.x.aJ=s.x.aJ:=by rw[a];exact e
 have b:s1.ld=s.ld:=by rw[a]
 refine⟨jK s.x ba us g s.x.now,s1,λj=>(g+j,hR (replay s.x g j) (g+j)),by rw[d1];exact h.aJ,λk hk=>?_,by rw[b];exact f,⟨rfl,rfl,rfl,rfl,rfl,by rw[b];exact⟨h.dz,h.ll,h.lt⟩,λj=>by rw[b,cv,d1,h.b9];split<;>first|rw[if_neg U]|rfl⟩,?_,b,cv,U⟩
 .rw[d1];show(g+k,_)=_;rw[y0 h.hN g1 U k U]
 unfold cL;rw[d,a];simp only[];rw[c];rfl
structure Bounds(n d w:J)(M:dV)(k:J):al where
 kept:(M.p k).x.L.length<=w+d+3
 bc:((M.p k).ld.bc.length:aa)<=(M.p k).ld.most
 ahead:(M.p k).x.now<=iU (M.p k).x+w
 aaf:(M.cs.get k).length<=64
 waits:(M.p k).aF.own.length<=2*(w+d)
 ours:((M.p k).x.f (M.p k).x.aN).next<=(M.p k).x.now+d
 top:(M.p k).x.now<=n
 aP:iU (M.p k).x<=n+d
def eX.bounds{n d w k:J}{cm:aa}{M:dV}(h:eX n d w cm (pad d M))(hk:k<2):Bounds n d w M k:=by
 obtain⟨F,us,A,ax⟩:=h.ps k hk;have au:(pad d M).p k=M.p k:=rfl;have e:=ax.cC.jf;have a:=ax.cC.ad;have b:=ax.cC.pq;have hm:=ax.aN;have l:=ax.O0;have i:=ax.rk;have c:=ax.dl;have g:=ax.wn;rw[au]at e a b l i c g hm;rw[c]at a;rw[g]at b e;have j:=ax.jH;rw[au]at j;refine⟨?_,?_,?_,h.ss k,?_,by unfold dc at a;omega,j,?_⟩
 .have:=ax.cC.hN.L
  rw[au]at this;rw[this];unfold eE;simp;omega
 .have:=ax.cC.ll
  rwa [au]at this
 .unfold iU;unfold dc at a;unfold bS fv at b;rw[hm]at a b
  have:k=0\/k=1:=U
  rcases this with rfl|rfl
  .have h2:(M.p 0).x.now<=((M.p 0).x.f 1).next+w:=b;omega
  have h2:(M.p 1).x.now<=((M.p 1).x.f 0).next+w:=b;omega
 .have:=ax.aF.dB
  rw[au]at this;rw[this,gg,<-i];omega
 unfold iU;unfold dc at a;rw[hm]at a
 have:k=0\/k=1:=U
 rcases this with rfl|rfl<;>omega
def dW.hold{A:ah bI}{p:cq}(h:dW A p)(au:qT p.1)(f v:aa):dW A (iu f v p)/\qT (iu f v p).1:=by
 unfold iu;split
 .split
  .exact⟨h,au⟩
  exact h.B0 au 13
 split<;>exact⟨h,au⟩
def dW.gone{A:ah bI}{p:cq}(h:dW A p)(au:qT p.1):dW A (fj p):=by
 unfold fj;split
 .exact(h.B0 au 12).1
 exact h
theorem dW.eR{A:ah bI}{p:cq}{F:J}{ba us:J->J->aa}(h:dW A p)(au:b8 p.1 F ba us)(av:hn p.1 ba us)(an:p.1.ld.aP<c3 p.1.x):dW A (eR p):=by
 have f:=au.zz (p.1.ld.aP+1);have h1:dW A (({p.1 with ld:=jX p.1.ld (p.1.ld.aP+1)},p.2++h4 p.1.ld (p.1.ld.aP+1)):cq):=by
  refine h.more rfl (GH λe g=>(f.2.2 e g).1) λD j=>⟨_,PZ au.dz _ f.1 λe g=>⟨λc=>by have:=j _ c;have:=(f.2.2 e g).2;omega,λo l c=>?_⟩,λk hk=>?_⟩
  .have h2:=au.lt o l;rw[c,(f.2.2 e g).2]at h2;exact B_ (f.1.imp λ{a b} i (e:a.k=b.k)=>mE b.k E8) h2 g c
  show k.fr<=p.1.ld.aP+1;rcases eJ.1 hk with hk|hk
  .obtain⟨d,hd,rfl⟩:=e9.1 (mem_reverse.1 hk);exact Int.le_of_eq (f.2.2 d hd).2
  have:=j k hk
  omega
 have m:=au.x8 av an;unfold Go.Proofs.YtalagblioepadaaGreatDoor.eR;simp only[];split
 .unfold js;split
  .refine(dW.hold ?_ ?_ _ _).1
   .exact h1
   exact m.cV
  exact h1
 exact h1
theorem dW.settle{A:ah bI}{F:J}{ba us:J->J->aa}:∀ (n:J) {p:cq},dW A p->b8 p.1 F ba us->hn p.1 ba us->dW A (fc n p)
 | 0,_,h,_,_=>h
 | n+1,p,h,au,av=>by
  unfold fc;split
  .exact h
  rename_i an;obtain⟨h1,h2,_⟩:=au.eR av (show p.1.ld.aP<c3 p.1.x by omega) p.2;exact dW.settle n (h.eR au av U) h1 (by unfold hn bS at *;rw[h2];exact av)
theorem Li{A:ah bI}{s:bM}{us cB:J->J->aa}(f:s.x.now<=100000)(aw:0<=s.x.aJ/\s.x.aJ<=4294967295){g:J}{P:J->J×ah aC}(a:∀ k,g+k<s.x.now->P k=(g+k,fJ cB s.x.aJ (g+k)))(an:s.ld.aP<g)(b:pZ s us cB g g (s,[]))(h:dW A (s,[])):∀ k,g+k<=s.x.now->dW A (((range k).map P).foldl (jt s.x.now) (s,[]))
 | 0,_=>h
 | k+1,hk=>by
  have i:=Li f aw a an b h k U;have aK:=Dj aw a an b k U;rw[qK,jx,xi,Bx,a k U];refine i.tell aK.uf.dz (λe d=>?_) (oi cB aw (g+k)) (by rw[aK.aP];show s.ld.aP<((g+k:J):aa);omega) (by show((g+k:J):aa)<=s.x.now/\(s.x.now:aa)<=1000000;omega);have h1:=aK.uf.lt e d;rw[aK.b9]at h1;rw[aK.aP];split at h1
  .rename_i c;refine⟨c.1,?_⟩;split at h1
   .exact((oi cB aw _).2.2 e h1).1
   exact((oi us aw _).2.2 e h1).1
  cases h1
def V6{A:ah bI}{s:bM}{F:J}{ba us:J->J->aa}(d:s.x.now<=100000)(au:b8 s F ba us)(h:dW A (s,[])):dW A (cL s):=by
 cases hw:fM s.x with
 | none=>unfold cL;rw[hw];exact h
 | some g=>
  have⟨cB,s1,P,c,b,an,a,e,f,cv,aZ⟩:=V7 au hw;rw[e];exact Li (by rw[cv];exact d) c b an a (by unfold dW at *;rw[f];exact h) _ U
def YY{A:ah bI}{s:bM}{F:J}{ba us:J->J->aa}(h:b8 s F ba us)(aS:s.cc=false)(i:s.x.now<=F+s.x.dE+1)(c:s.x.now<=100000)(v:aT)(aU:v.toNat<=63)(bh:dW A (s,[])):dW A (cH v s):=by
 have⟨H,d,_⟩:=uo h aS i c v aU;have⟨D,a,z,_,b,f,_,n,_,o,_,G,_,_,_,_,E⟩:=rp h;have cv:hn (cL s).1 ba D:=λj m l=>by
  have C:bS (cL s).1=bS s:=by unfold bS fv;rw[o,f]
  rw[f];rw[b]at m;rw[C]at l;exact z j m l
 have k:=V6 c h bh;have ar:dW A (eF v (cL s)):=by
  unfold eF;split
  .rename_i an;have⟨cB,_,_,_,B,_⟩:=a.step cv (xZ an).1 (by rw[b];exact c) (by rw[b,n];exact i) v aU (cL s).2;have y:=oi cB a.aJ (cL s).1.x.now;have u:=Ca a;have t:=a.aP.2.1;have w:(((cL s).1.x.now:J):aa)<=1000000:=by rw[b];omega
   refine dW.tell (p:=({(ez (cL s).1 v)with x:=_},(cL s).2)) k a.dz u (g:=((cL s).1.x.now,hR (ez (cL s).1 v).x (cL s).1.x.now)) ?_ t ⟨jw _,w⟩;rw[B];exact y
  exact k
 have q:dW A (dj v s):=dW.settle (c3 (eF v (cL s)).1.x-(eF v (cL s)).1.ld.aP).toNat ar d.cC d.gS;have r:=(d.settle).1.cC;have e:cH v s=lT (dj v s):=by unfold cH;rw[aS];rfl
 rw[e];unfold lT;exact dW.gone (p:=({(dj v s).1 with x:=dZ (dj v s).1.x,aF:=_},(dj v s).2)) q r.cV
def SM{A:ah bI}{s:bM}{F:J}{ba us:J->J->aa}(h:b8 s F ba us)(t:ah aT)(bh:dW A (s,[])):dW A (dG t s):=by
 unfold dG;split
 .exact bh
 split
 .exact bh
 have h2:dW A (({s with x:=e' s.x (cD s.aF t).1.a_,aF:=(cD s.aF t).2.2},[]):cq):=bh;have c:qT ({s with x:=e' s.x (cD s.aF t).1.a_,aF:=(cD s.aF t).2.2}:bM):=h.cV;unfold Go.Proofs.YtalagblioepadaaGreatDoor.fB;split
 .have⟨a,b⟩:=h2.hold c (cD s.aF t).1.frame (cD s.aF t).1.sum;exact a.gone b
 split
 .exact dW.gone (p:=(_,[])) h2 c
 exact h2.gone c
def Tu{A:ah bI}{s:bM}{F:J}{ba us:J->J->aa}(h:b8 s F ba us)(bh:dW A (s,[])):dW A (f' s):=by
 unfold f';split
 .exact bh
 refine(dW.B0 ?_ ?_ 12).1
 .exact bh
 exact h.cV
structure pT(M:dV)(a:J->ah bI):al where
 nI:∀ k,k<2->dW (a k) (M.p k,[])
 ok:∀ k,k<2->∀ c∈a k,lH c
def dW.flat{A:ah bI}{p:cq}(h:dW A p):dW (A++p.2) (p.1,[]):=⟨by rw[eB];exact h.1,(λ_ h=>nomatch h)⟩
def pT.move{n d w:J}{cm:aa}{M fp:dV}{bj b0:aa}{c0:ah bI}{a:J->ah bI}(h:pT M a)(ak:eX n d w cm (pad d M))(av:n<=400)(q:gV cm (pad d M))(hm:FJ M fp bj c0 b0):∃ k:J,k<2/\(b0=0->bj=k)/\(b0≠0->c0=[])/\c0.length<=60256/\pT fp (bZ a k (a k++c0)):=by
 have⟨k,hk,h1,au,m,h2,_⟩:=hm.ex;have l:c0.length<=60256:=by
  have⟨F,us,A,ax⟩:=ak.ps k hk;have b:b8 (M.p k) F (fC (pad d M).bG) us:=ax.cC;generalize fp.p k=s' at au;cases au with
  | tick v aU=>
   cases aS:(M.p k).cc with
   | true=>unfold cH;rw[if_pos aS];exact ve _
   | false=>
    have⟨F,us,aK⟩:=Dn ak q av hk v aU aS;exact Ll aK
  | t_ t=>exact oX (Io b t) bt
  | leave=>exact oX (IQ b) bt
  | none=>exact ve _
 refine⟨k,hk,h1,h2,l,?_⟩;have aw:=h.nI k hk;have⟨F,us,A,ax⟩:=ak.ps k hk;have g:=ax.E;have o:=ax.wn;have i:=ax.jH;have b:b8 (M.p k) F (fC (pad d M).bG) us:=ax.cC;have key:dW (a k) (fp.p k,c0):=by
  generalize fp.p k=s' at au;cases au with
  | tick v aU=>
   cases aS:(M.p k).cc with
   | true=>
    have e:cH v (M.p k)=({M.p k with aF:=(c9 (M.p k).aF 0).2},[]):=by unfold cH;rw[if_pos aS]
    rw[e];exact aw
   | false=>exact YY b aS (by rw[show(M.p k).x.dE=w from o];exact g) (oX i U) v aU aw
  | t_ t=>exact SM b t aw
  | leave=>exact Tu b aw
  | none=>exact aw
 refine⟨λj f=>?_,λj f c an=>?_⟩
 .by_cases e:j=k
  .rw[e,iB];exact key.flat
  rw[m j e,hB _ _ e];exact h.nI j f
 by_cases e:j=k
 .rw[e,iB]at an;exact(eJ.1 an).elim (h.ok k hk c) (key.2 c)
 rw[hB _ _ e]at an;exact h.ok j f c an
def UG(aJ:aa)(d n:J)(pat bU:aa):pT (nu aJ d n pat bU) λ_=>[]:=⟨λ_ _=>⟨⟨[],rfl,(λ_ h=>nomatch h)⟩,(λ_ h=>nomatch h)⟩,(λ_ _ _ h=>nomatch h)⟩
theorem pT.bc{n d w:J}{cm:aa}{M:dV}(ak:eX n d w cm (pad d M)){k:J}(hk:k<2):∀ e∈(M.p k).ld.bc,(M.p k).ld.aP<e.k.fr:=λe a=>by
 obtain⟨F,us,A,ax⟩:=ak.ps k hk;exact(Ca ax.cC e a).1
end Go.Proofs.YtalagblioepadaaGreatDoor
