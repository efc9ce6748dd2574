/- The proof, part 29. -/
import Derived.Test.YtalagblioepadaaGreatDoorZb28
namespace Go.Proofs.YtalagblioepadaaGreatDoor
set_option linter.all false
open Proofs.Tryz List Go.RowKit
set_option maxRecDepth 100000
set_option maxHeartbeats 1000000
def ns{p:ak}(h:p:=by simp only[];omega):p:=h
def L'{p:ak}(h:p:=by have:=n x q;rcases aq with e|e|e|e|e<;>omega):p:=h
def L4{p:ak}(h:p:=by show(l.out++[_]).length<=8;rw[cx,iM];omega):p:=h
def zD{p:ak}(h:p:=by simp[aU,results,results102,asAddr,loadVar,loadCells,isAgg199,sizeOf199,O]):p:=h
def MP{p:ak}(h:p:=by
 have A:Keeps aG aB (an.setCell (ad aB k ab) (aF y.toNat)):=(Keeps.bE u a7).nZ (p:=ad aB k ab) bA _;exact⟨t.keeps A (λ_ _=>id),B.trans (kQ A)⟩
 ):p:=h
def LD{p:ak}(h:p:=by
 simp only[gw,gd,e2]at this;omega
 ):p:=h
def DI{p:ak}(h:p:=by
 simp only[];split<;>exact⟨rfl,rfl,rfl,rfl,rfl,rfl,rfl,rfl⟩
 ):p:=h
variable{w:ai}{B:ir}{l:b9}
structure kG(w V:ai)(r:J)(B:ir)(l:b9):ak where
 res:V.heap[r]?=some (ae (aU bG.zero none 0) 199 (0,0))
 mQ:w.heap.size<=r
 aE:IsLink V B l
 cv:Keeps B.S w V
def kG.start(h:IsLink w B l):kG w (w.alloc (ae (aU bG.zero none 0) 199)) w.heap.size B l:=by
 have hk:=(a_ w).alloc (ae (aU bG.zero none 0) 199);exact⟨aW w _,c9 _,h.keeps hk (λ_ _=>id),hk.mono λ_ _ h=>h.elim⟩
def kG.next{V V':ai}{r:J}{l' d:b9}(h:kG w V r B l)(a:IsLink w B d)(c:IsLink V' B l')(hk:Keeps B.S V V'):kG w V' r B l':=by
 have f:=a.lt;have ax:∀ b,B.S b->b<w.heap.size:=λb aj=>by rcases aj with e|e|e|e|e<;>omega
 exact⟨hk.heap h.res (λx=>by have:=ax _ x;have:=h.mQ;omega),h.mQ,c,h.cv.trans hk⟩
theorem kG.kq{V V':ai}{r:J}(h:kG w V r B l)(hk:Keeps aG V V'):kG w V' r B l:=
 ⟨hk.heap h.res id,h.mQ,h.aE.keeps hk λ_ _=>id,h.cv.trans (hk.mono λ_ _ h=>h.elim)⟩
def kG.fin{m:b9}{V:ai}{r:J}(h:kG w V r B l)(k:IsLink w B m)(a c v2 d f g:aw):let i:=((((((V.setCell (ad r 0 ab) a).setCell (ad r 1 ab) c).setCell (ad r 2 ab) v2).setCell (ad r 3 ab) d).setCell (ad r 4 ab) f).setCell (ad r 5 ab) g)
  i.heap[r]?=some (ae #[a,c,v2,d,f,g] 199 (0,0))/\IsLink i B l/\Keeps B.S w i/\(∀ {a':b4 Addr} {j:J} {L:ah aQ},c1 V a' j L->c1 i a' j L):=by
 have n:=k.lt;have hk:=Be (S:=λb=>b=r) (b:=r) (Keeps.refl _ V) rfl a c v2 d f g;have o:=h.mQ;refine⟨gm h.res rfl a c v2 d f g,h.aE.keeps hk (λb aj=>?_),rP h.cv h.mQ a c v2 d f g,λaj=>aj.keeps hk λhne x e=>Fo aj h.res (by simp[aU,bG.zero]) hne x e⟩;rcases aj with e|e|e|e|e<;>omega
def cI(l:b9)(s:ah aQ):bG×aa×b9:=
 if l.state=2 then(bG.zero,12,l)else
 if (fs s).2≠0 then(bG.zero,(fs s).2,{l with bad:=l.bad+1})else
 if (cO {l with heard:=l.b_} (fs s).1).2.1 then((cO {l with heard:=l.b_} (fs s).1).1,0,{(cO {l with heard:=l.b_} (fs s).1).2.2 with eR:=(cO {l with heard:=l.b_} (fs s).1).2.2.eR+1})
 else(bG.zero,0,{(cO {l with heard:=l.b_} (fs s).1).2.2 with e1:=(cO {l with heard:=l.b_} (fs s).1).2.2.e1+1})
def NL(l:b9)(s:aa):(hB l s).bL=l.bL/\(hB l s).ev=l.ev/\(hB l s).jy=l.jy/\(hB l s).b_=l.b_/\(hB l s).heard=l.heard/\(hB l s).eR=l.eR/\(hB l s).bad=l.bad/\(hB l s).e1=l.e1:=by
 unfold hB;exact DI
def RK(l:b9)(m:aZ):(iU l m).2.2.bL=l.bL/\(iU l m).2.2.ev=l.ev/\(iU l m).2.2.jy=l.jy/\(iU l m).2.2.b_=l.b_/\(iU l m).2.2.heard=l.heard/\(iU l m).2.2.eR=l.eR/\(iU l m).2.2.bad=l.bad/\(iU l m).2.2.e1=l.e1:=by
 unfold iU;exact DI
def Xq(l:b9)(m:aZ):(cO l m).2.2.bL=l.bL/\(cO l m).2.2.ev=l.ev/\(cO l m).2.2.jy=l.jy/\(cO l m).2.2.b_=l.b_/\(cO l m).2.2.heard=l.heard/\(cO l m).2.2.eR=l.eR/\(cO l m).2.2.bad=l.bad/\(cO l m).2.2.e1=l.e1:=by
 have h1:=NL l m.cj;have h2:=RK (hB l m.cj) m;have a:(hE l m).2.2.bL=l.bL/\(hE l m).2.2.ev=l.ev/\(hE l m).2.2.jy=l.jy/\(hE l m).2.2.b_=l.b_/\(hE l m).2.2.heard=l.heard/\(hE l m).2.2.eR=l.eR/\(hE l m).2.2.bad=l.bad/\(hE l m).2.2.e1=l.e1:=by
  unfold hE;split
  .exact⟨h2.1.trans h1.1,h2.2.1.trans h1.2.1,h2.2.2.1.trans h1.2.2.1,h2.2.2.2.1.trans h1.2.2.2.1,h2.2.2.2.2.1.trans h1.2.2.2.2.1,h2.2.2.2.2.2.1.trans h1.2.2.2.2.2.1,h2.2.2.2.2.2.2.1.trans h1.2.2.2.2.2.2.1,h2.2.2.2.2.2.2.2.trans h1.2.2.2.2.2.2.2⟩
  split
  .exact⟨rfl,rfl,rfl,rfl,rfl,rfl,rfl,rfl⟩
  split
  .exact h1
  split<;>exact⟨rfl,rfl,rfl,rfl,rfl,rfl,rfl,rfl⟩
 unfold cO;split
 .exact DI
 split
 .split<;>exact⟨rfl,rfl,rfl,rfl,rfl,rfl,rfl,rfl⟩
 split
 .exact⟨rfl,rfl,rfl,rfl,rfl,rfl,rfl,rfl⟩
 split
 .exact a
 exact⟨rfl,rfl,rfl,rfl,rfl,rfl,rfl,rfl⟩
def XS(l:ah aQ)(h:(fs l).2=0):(fs l).1.a8.length<=1000000:=by
 unfold fs at *;split at h
 .rename_i a;rw[aD a];unfold q0 at *;split at h
  .cases h
  rename_i h1;rw[aA h1];have b:=(K4 λaq=>h1 (.inr (.inr aq))).2.1;unfold fits at b;simp only[ee,gg]at b;exact b7 b.2 bq
 rename_i a;exact absurd h a
def HS(h:IsLink w B l)(s:cc)(ax:s.size<=100000)(au:0<=l.next/\l.next<=1073741824)(bj:0<=l.c2/\l.c2<=1073741824)(a1:0<=l.eR/\l.eR<=1000000)(aj:0<=l.bad/\l.bad<=1000000)(aN:0<=l.e1/\l.e1<=1000000):az 102 #[B.p,.string s] w (sW w.heap.size w B (cI l s.data.toList).1 (I (cI l s.data.toList).2.1) (cI l s.data.toList).2.2):=by
 have al:=kG.start h;simp only[aU,bG.zero,e2]at al;have Y6:=h.lt;have H:=af h;unfold cI;by_cases N:l.state=2
 .rw[aD N]
  go_in
  go_upto_region 3 with fail
  generalize World.alloc w _=X at *;have C:=(al).aE.lt;have D:=bR (al).res;have E:=bJ (al).res;have A:=aP (al).res;have f2:=al.aE.free 2;have bs:=al.aE.bs;rw[N]at bs;have d:=af al;go_wp2_with fail;have r:=kG.fin (d.o) H.o (I ((⟨0,0,[],0,0,0⟩:bG)).kind) (I ((⟨0,0,[],0,0,0⟩:bG)).ec) (.slice none ((⟨0,0,[],0,0,0⟩:bG)).a8.length 0) (I ((⟨0,0,[],0,0,0⟩:bG)).frame) (aK ((⟨0,0,[],0,0,0⟩:bG)).sum) (I ((⟨0,0,[],0,0,0⟩:bG)).lead);simp only at r;generalize World.setCell _ (ad w 5 ab) _=P at *;obtain⟨F,k,j,i⟩:=r;have O:=dv _ _ _ _ F 6 rfl;refine cU (v:=aV #[.agg (aU (⟨0,0,[],0,0,0⟩:bG) none 0),I 12]) zD rfl ?_;exact qf
 rw[aA N];have d2:(l.state == 2)=false:=by simpa using N
 have v':=λW=>Yn (w:=W) s ax;have zp:=XS s.data.toList;generalize fs s.data.toList=u at *;have⟨m,bZ⟩:=u;simp only at *;have Q:=af v';by_cases gf:bZ≠0
 .rw[aD gf];have d3:(bZ != 0)=true:=by simpa using gf
  go_in
  go_upto_region 3 with fail
  generalize World.alloc w _=X at *;have C:=(al).aE.lt;have D:=bR (al).res;have E:=bJ (al).res;have A:=aP (al).res;have f2:=al.aE.free 2;have bs:=al.aE.bs;have d:=af al;go_wp2_with fail;refine(Q.o _).mono ?_;rintro e f ⟨a,c,rfl,g,M,n⟩;have al:=d.out.kq (Keeps.bE M a7);go_upto_region 6 with fail
  have s':=al.aE.lt.1;have K:=aW f (ae #[I m.kind,aK m.bL,bz m.cl,bz m.cj,ao a m.a8.length c,aK m.sum,I m.lead] 254);have al:=al.kq ((a_ f).alloc (ae #[I m.kind,aK m.bL,bz m.cl,bz m.cj,ao a m.a8.length c,aK m.sum,I m.lead] 254));have g:=g.keeps ((a_ f).alloc (ae #[I m.kind,aK m.bL,bz m.cl,bz m.cj,ao a m.a8.length c,aK m.sum,I m.lead] 254)) (λ_ _ _=>id);have n:∀ x,a=some x->w.heap.size<=x.block:=λx q=>by have:=n x q;omega
  generalize World.alloc f _=L at *;have C:=(al).aE.lt;have D:=bR (al).res;have E:=bJ (al).res;have A:=aP (al).res;have Ac:=al.aE.Ac;have Y3:=al.aE.free 11;have d:=af al;go_wp2_with fail;have d:=af (d.o.next (V':=L.setCell (ad B.p 11 ab) (I (l.bad+1))) (l':={l with bad:=l.bad+1}) H.out (d.o.aE.set 11 (I (l.bad+1)) _ rfl rfl rfl) (Keeps.setCell (Keeps.refl _ _) (.inl rfl) _));have r:=kG.fin (d.o) H.out (I ((⟨0,0,[],0,0,0⟩:bG)).kind) (I ((⟨0,0,[],0,0,0⟩:bG)).ec) (.slice none ((⟨0,0,[],0,0,0⟩:bG)).a8.length 0) (I ((⟨0,0,[],0,0,0⟩:bG)).frame) (aK ((⟨0,0,[],0,0,0⟩:bG)).sum) (I ((⟨0,0,[],0,0,0⟩:bG)).lead);simp only at r;generalize World.setCell _ (ad w 5 ab) _=P at *;obtain⟨F,k,j,i⟩:=r;have O:=dv _ _ _ _ F 6 rfl;refine cU (v:=aV #[.agg (aU (⟨0,0,[],0,0,0⟩:bG) none 0),I bZ]) zD rfl ?_;exact qf
 rw[aA gf];obtain rfl:bZ=0:=U;have hm:=(zp rfl);have vl:=λ(W:ai) (a:b4 Addr) (c:J) (h:IsLink W B {l with heard:=l.b_}) (aj:c1 W a c m.a8) (w':∀ x,a=some x->¬ B.S x.block) (zd:∀ x,a=some x->w.heap.size<=x.block)=>SF h m zd aj w' au bj hm;have lb:=Xq {l with heard:=l.b_} m;generalize cO {l with heard:=l.b_} m=T at *;obtain⟨R,ok,Aw⟩:=T;simp only at *;obtain⟨Y8,Y9,sd,W',Y',Y7,r',h2,m',ps,Y5,T',Y_⟩:=Aw;simp only at lb;obtain⟨rfl,rfl,rfl,rfl,rfl,rfl,rfl,rfl⟩:=lb;have ew:=af vl;cases ok with
 | true=>
  simp only[if_true]
  go_in
  go_upto_region 3 with fail
  generalize World.alloc w _=X at *;have C:=(al).aE.lt;have D:=bR (al).res;have E:=bJ (al).res;have A:=aP (al).res;have f2:=al.aE.free 2;have bs:=al.aE.bs;have d:=af al;go_wp2_with fail;refine(Q.out _).mono ?_;rintro e f ⟨a,c,rfl,g,M,n⟩;have al:=d.out.kq (Keeps.bE M a7);go_upto_region 6 with fail
  have s':=al.aE.lt.1;have K:=aW f (ae #[I m.kind,aK m.bL,bz m.cl,bz m.cj,ao a m.a8.length c,aK m.sum,I m.lead] 254);have al:=al.kq ((a_ f).alloc (ae #[I m.kind,aK m.bL,bz m.cl,bz m.cj,ao a m.a8.length c,aK m.sum,I m.lead] 254));have g:=g.keeps ((a_ f).alloc (ae #[I m.kind,aK m.bL,bz m.cl,bz m.cj,ao a m.a8.length c,aK m.sum,I m.lead] 254)) (λ_ _ _=>id);have n:∀ x,a=some x->w.heap.size<=x.block:=λx q=>by have:=n x q;omega
  generalize World.alloc f _=L at *;have C:=(al).aE.lt;have D:=bR (al).res;have E:=bJ (al).res;have A:=aP (al).res;have dR:=al.aE.dR;have fV:=al.aE.fV;have f5:=al.aE.free 5;have CW:=aP K;have Tq:=bR K;have d:=af al;have V:=af g;go_wp2_with fail;have al:=d.o.next (V':=L.setCell (ad B.p 5 ab) (I l.b_)) (l':={l with heard:=l.b_}) H.out (d.o.aE.set 5 (I l.b_) _ rfl rfl rfl) (Keeps.setCell (Keeps.refl _ _) (.inl rfl) _);have g:=V.o.keeps (Keeps.setCell (S:=λb=>b=B.p) (Keeps.refl _ _) (p:=ad B.p 5 ab) rfl (I l.b_)) (λ_ x q e=>by have:=n x q;omega);refine(ew.out _ a c al.aE g (λx q aq=>L') n).mono ?_;rintro e y ⟨⟨t,bs,rfl,z,fr⟩,a',Z⟩;have hd:=af fr;have al:=al.next H.out a' Z;unfold aU;go_upto_region 11 with fail
  have TS:=al.aE.lt.1;have G:=aW y (ae (aU R t bs) 199);have al:=al.kq ((a_ y).alloc (ae (aU R t bs) 199));have z:=z.keeps ((a_ y).alloc (ae (aU R t bs) 199)) (λ_ _ _=>id);simp only[aU]at G al z;generalize World.alloc y _=Y at *;have Q':=aP G;have St:=bR G;have C:=(al).aE.lt;have D:=bR (al).res;have E:=bJ (al).res;have A:=aP (al).res;have qq:=al.aE.qq;have Y2:=al.aE.free 10;have d:=af al;have g':=af z;go_wp2_with fail;have ys:=g'.o.keeps (Keeps.setCell (S:=λb=>b=B.p) (Keeps.refl _ _) (p:=ad B.p 10 ab) rfl (I (l.eR+1))) (λhne x e=>Fp g'.o d.o.aE.bc hne x e);have d:=af (d.o.next (V':=Y.setCell (ad B.p 10 ab) (I (l.eR+1))) (l':=⟨l.bL,l.ev,sd,l.jy,l.b_,l.b_,r',h2,m',ps,l.eR+1,l.bad,l.e1⟩) H.out (d.o.aE.set 10 (I (l.eR+1)) _ rfl rfl rfl) (Keeps.setCell (Keeps.refl _ _) (.inl rfl) _));have r:=kG.fin (d.o) H.out (I (R).kind) (I (R).ec) (.slice t (R).a8.length bs) (I (R).frame) (aK (R).sum) (I (R).lead);simp only at r;generalize World.setCell _ (ad w 5 ab) _=P at *;obtain⟨F,k,j,i⟩:=r;have O:=dv _ _ _ _ F 6 rfl;refine cU (v:=aV #[.agg (aU R t bs),I 0]) zD rfl ?_;exact⟨⟨t,bs,rfl,i ys,hd.o⟩,k,j⟩
 | false=>
  simp only[wq,if_false]
  go_in
  go_upto_region 3 with fail
  generalize World.alloc w _=X at *;have C:=(al).aE.lt;have D:=bR (al).res;have E:=bJ (al).res;have A:=aP (al).res;have f2:=al.aE.free 2;have bs:=al.aE.bs;have d:=af al;go_wp2_with fail;refine(Q.out _).mono ?_;rintro e f ⟨a,c,rfl,g,M,n⟩;have al:=d.out.kq (Keeps.bE M a7);go_upto_region 6 with fail
  have s':=al.aE.lt.1;have K:=aW f (ae #[I m.kind,aK m.bL,bz m.cl,bz m.cj,ao a m.a8.length c,aK m.sum,I m.lead] 254);have al:=al.kq ((a_ f).alloc (ae #[I m.kind,aK m.bL,bz m.cl,bz m.cj,ao a m.a8.length c,aK m.sum,I m.lead] 254));have g:=g.keeps ((a_ f).alloc (ae #[I m.kind,aK m.bL,bz m.cl,bz m.cj,ao a m.a8.length c,aK m.sum,I m.lead] 254)) (λ_ _ _=>id);have n:∀ x,a=some x->w.heap.size<=x.block:=λx q=>by have:=n x q;omega
  generalize World.alloc f _=L at *;have C:=(al).aE.lt;have D:=bR (al).res;have E:=bJ (al).res;have A:=aP (al).res;have dR:=al.aE.dR;have fV:=al.aE.fV;have f5:=al.aE.free 5;have CW:=aP K;have Tq:=bR K;have d:=af al;have V:=af g;go_wp2_with fail;have al:=d.o.next (V':=L.setCell (ad B.p 5 ab) (I l.b_)) (l':={l with heard:=l.b_}) H.out (d.o.aE.set 5 (I l.b_) _ rfl rfl rfl) (Keeps.setCell (Keeps.refl _ _) (.inl rfl) _);have g:=V.o.keeps (Keeps.setCell (S:=λb=>b=B.p) (Keeps.refl _ _) (p:=ad B.p 5 ab) rfl (I l.b_)) (λ_ x q e=>by have:=n x q;omega);refine(ew.out _ a c al.aE g (λx q aq=>L') n).mono ?_;rintro e y ⟨⟨t,bs,rfl,z,fr⟩,a',Z⟩;have hd:=af fr;have al:=al.next H.out a' Z;unfold aU;go_upto_region 11 with fail
  have TS:=al.aE.lt.1;have G:=aW y (ae (aU R t bs) 199);have al:=al.kq ((a_ y).alloc (ae (aU R t bs) 199));have z:=z.keeps ((a_ y).alloc (ae (aU R t bs) 199)) (λ_ _ _=>id);simp only[aU]at G al z;generalize World.alloc y _=Y at *;have Q':=aP G;have St:=bR G;have C:=(al).aE.lt;have D:=bR (al).res;have E:=bJ (al).res;have A:=aP (al).res;have Fq:=al.aE.Fq;have Y4:=al.aE.free 12;have d:=af al;go_wp2_with fail;have d:=af (d.o.next (V':=Y.setCell (ad B.p 12 ab) (I (l.e1+1))) (l':=⟨l.bL,l.ev,sd,l.jy,l.b_,l.b_,r',h2,m',ps,l.eR,l.bad,l.e1+1⟩) H.out (d.o.aE.set 12 (I (l.e1+1)) _ rfl rfl rfl) (Keeps.setCell (Keeps.refl _ _) (.inl rfl) _));have r:=kG.fin (d.o) H.out (I ((⟨0,0,[],0,0,0⟩:bG)).kind) (I ((⟨0,0,[],0,0,0⟩:bG)).ec) (.slice none ((⟨0,0,[],0,0,0⟩:bG)).a8.length 0) (I ((⟨0,0,[],0,0,0⟩:bG)).frame) (aK ((⟨0,0,[],0,0,0⟩:bG)).sum) (I ((⟨0,0,[],0,0,0⟩:bG)).lead);simp only at r;generalize World.setCell _ (ad w 5 ab) _=P at *;obtain⟨F,k,j,i⟩:=r;have O:=dv _ _ _ _ F 6 rfl;refine cU (v:=aV #[.agg (aU (⟨0,0,[],0,0,0⟩:bG) none 0),I 0]) zD rfl ?_;exact qf
theorem Oa{w A C:ai}{S:J->ak}(h:Below w w A)(hk:Keeps S A C)(ax:∀ k,S k->w.heap.size<=k):Below w w C:=
 h.trans (hk.below h.size λk h1 h2=>by have:=ax k h2;omega)
section
def GA(a b:J)(bj:a<=1000)(aj:b<=1000):ec (a:aa) ((b:aa)%65536)=((b:aa),0):=by
 have ax:qX ((a:aa)%65536) ((b:aa)%65536)=(b:aa)-a:=by
  unfold qX;omega
 unfold ec;rw[aA U,ax];simp only[];rw[aA U]
 congr 1
 omega
structure LkI(n k:J)(o:ah aQ)(T A:J)(l:b9):ak where
 bL:l.bL=(k:aa)+1
 pat:1<=l.ev/\l.ev<=10000
 st:l.state=0\/l.state=1\/l.state=2
 n4:0<=l.b_/\l.b_<=n
 hd:0<=l.heard/\l.heard<=n
 eR:0<=l.eR/\l.eR<=n
 bad:0<=l.bad/\l.bad<=n
 e1:0<=l.e1/\l.e1<=n
 ac:l.c2=(A:aa)
 du:l.own=o.drop A
 dF:A<=o.length
 dG:l.next=(T:aa)
 wl:o.length<=A+64
 TJ:∀ m∈l.out,m.wf/\dh m/\m.a8=[]/\m.kind≠5
 YW:l.out.length<=8
def iP(c:J)(q:ah aQ)(Tq:J)(m:aZ):ak:=
 m.wf/\dh m/\(m.kind=3->∃ a e t:J,a+e<=q.length/\t<=Tq/\a+e<=t+c/\m.cl=(a:aa)%65536/\m.cj=(t:aa)%65536/\m.a8=(q.drop a).take e/\0<e)/\(m.kind=5->∃ t:J,t<=Tq/\m.cj=(t:aa)%65536)
def iP.mono{c:J}{q b:ah aQ}{T T':J}{m:aZ}(h:iP c q T m)(d:q <+: b)(v:T<=T'):iP c b T' m:=by
 have⟨h1,h2,l,n⟩:=h;refine⟨h1,h2,λhk=>?_,λhk=>?_⟩
 .have⟨a,e,t,s,u,f,g,i,j,k⟩:=l hk
  have:=d.length_le
  refine⟨a,e,t,U,U,f,g,i,?_,k⟩;have⟨r,o⟩:=d;rw[j,<-o,Di U,zs bU]
 have⟨t,w,p⟩:=n hk;exact⟨t,U,p⟩
def z32:(0:aa)<=0/\(0:aa)<4294967296:=U
def p6:(0:aa)<=0/\(0:aa)<65536:=U
def m16(x:aa):0<=x%65536/\x%65536<65536:=U
def sr{m:aZ}(h:dh m)(h1:0<=m.bL/\m.bL<4294967296)(h2:0<=m.cl/\m.cl<65536)(c:0<=m.cj/\m.cj<65536)(d:0<=m.sum/\m.sum<4294967296):m.wf:=by
 have⟨a,_,b,_⟩:=h;exact⟨U,h1,h2,c,d,U⟩
namespace LkI
variable{n k T A:J}{o:ah aQ}{l:b9}
def up(h:LkI n k o T A l):LkI (n+1) k o T A l:=by
 have⟨a,b,c,m,p,q,r,s,d,bP,e,f,g,i,j⟩:=h;exact⟨a,b,c,U,U,U,U,U,d,bP,e,f,g,i,j⟩
theorem own(h:LkI n k o T A l)(v:aQ)(aX:v.toNat<=63)(w:o.length<A+64)(ax:l.state=1):LkI n k (o++[v]) T A (j2 l o.length v):=by
 have s:=h.dF;have e:vS l o.length v=0:=by
  unfold vS;rw[aA U,aA U,aA (by rw[h.ac,h.du,gd];omega),aA (by rw[h.du,gd];omega)]
 unfold j2;rw[aD e];have⟨a,b,c,d,f,g,i,j,m,bP,t,p,u,q,r⟩:=h;exact⟨a,b,c,d,f,g,i,j,m,by show l.own++[v]=_;rw[bP,Di s],by rw[cx];omega,p,by rw[cx,iM];omega,q,r⟩
def rep(h:LkI n k o T A l)(f:aa)(s:aa)(ax:0<=s/\s<4294967296):LkI n k o T A (lE l f s):=by
 unfold lE;split
 .rename_i e;have z:l.out.length≠8:=λc=>by
   unfold yw at e;split at e
   .omega
   split at e
   .omega
   simp_all
  obtain⟨b,d,g,i,j,p,q,r,t,bP,u,v,w,x,y⟩:=h;refine⟨b,d,g,i,j,p,q,r,t,bP,u,v,w,λm hm=>?_,L4⟩;rcases ft.1 hm with hm|hm
  .exact x m hm
  have hm:=h6.1 hm;subst hm;have a:dh (tS f s):=by
   unfold dh tS;exact⟨ns,rfl,ns,.inl rfl,.inr (.inr (.inl rfl)),.inl rfl,aI,.inr rfl,.inl rfl⟩
  exact⟨sr a z32 (m16 f) p6 ax,a,rfl,by unfold tS;simp⟩
 exact h
def xg{c:J}{q:ah aQ}{Tq:J}{m:aZ}(h:m.wf/\dh m/\m.a8=[]/\m.kind≠5):iP c q Tq m:=by
 refine⟨h.1,h.2.1,λhk=>?_,λhk=>absurd hk h.2.2.2⟩;have a:=h.2.1.2.2.2.2.2.2.1.2 hk;rw[h.2.2.1]at a;exact absurd a aI
def tick(h:LkI n k o T A l)(hk:k<2)(E:∀ x∈o,x.toNat<=63){c:J}(aq:o.length<=T+c)(lead:aa):LkI (n+1) k o T A (c5 l lead).2/\(∀ m∈(c5 l lead).1,iP c o T m)/\(c5 l lead).1.length<=10:=by
 have y:LkI (n+1) k o T A (gk l):=by
  unfold gk p3;have⟨f,g,q,s,t,u,v,w,e,bP,i,d,j,p,r⟩:=h;split
  .exact⟨f,g,.inr (.inr rfl),by show 0<=l.b_+1/\l.b_+1<=_;omega,by show 0<=l.heard/\l.heard<=_;omega,by show 0<=l.eR/\l.eR<=_;omega,by show 0<=l.bad/\l.bad<=_;omega,by show 0<=l.e1/\l.e1<=_;omega,e,bP,i,d,j,p,r⟩
  exact⟨f,g,q,by show 0<=l.b_+1/\l.b_+1<=_;omega,by show 0<=l.heard/\l.heard<=_;omega,by show 0<=l.eR/\l.eR<=_;omega,by show 0<=l.bad/\l.bad<=_;omega,by show 0<=l.e1/\l.e1<=_;omega,e,bP,i,d,j,p,r⟩
 show LkI (n+1) k o T A (lI (gk l) lead).2/\(∀ m∈(lI (gk l) lead).1,iP c o T m)/\(lI (gk l) lead).1.length<=10;generalize gk l=b at y;have D:=y;have⟨f,g,q,s,t,u,v,w,e,bP,i,d,j,p,r⟩:=y;unfold lI;split
 .split
  .refine⟨⟨f,g,q,s,t,u,v,w,e,bP,i,d,j,p,r⟩,λm hm=>?_,aI⟩;have hm:=h6.1 hm;subst hm;have a:dh vj:=bq;exact xg ⟨sr a z32 p6 p6 z32,a,rfl,bq⟩
  exact⟨D,(λm hm=>nomatch hm),aI⟩
 have jZ:∀ m∈b.out,iP c o T m:=λm hm=>xg (p m hm);refine⟨⟨f,g,q,s,t,u,v,w,e,bP,i,d,j,(λ_ hm=>nomatch hm),aI⟩,?_,?_⟩
 .intro m hm;rcases ft.1 hm with hm|hm
  .exact jZ m hm
  split at hm
  .have hm:=h6.1 hm;subst hm;have a:dh (mF b):=by
    unfold dh mF;exact⟨ns,rfl,ns,.inr (.inl rfl),.inl rfl,.inl rfl,aI,.inl rfl,.inl rfl⟩
   exact xg ⟨sr a (by show 0<=b.bL/\b.bL<4294967296;omega) p6 p6 z32,a,rfl,by unfold mF;simp⟩
  have z:iP c o T (mZ b):=by
   unfold mZ;split
   .have a:dh ⟨5,0,0,b.next%65536,[],0,0⟩:=by
     exact⟨ns,rfl,ns,.inl rfl,.inl rfl,.inr (.inr rfl),aI,.inl rfl,.inl rfl⟩
    exact⟨sr a z32 p6 (m16 _) z32,a,λc=>by simp at c,λ_=>⟨T,c9 _,by rw[<-d]⟩⟩
   rename_i hne;have G:b.own.length=o.length-A:=by rw[bP];simp
   have C:b.own.length<=64:=U;have F:=p'.2 hne;have a:dh ⟨3,0,b.c2%65536,b.next%65536,b.own,0,0⟩:=by
    refine⟨ns,?_,ns,.inl rfl,.inr (.inl rfl),.inr (.inl rfl),⟨λ_=>rfl,λ_=>F⟩,.inl rfl,.inl rfl⟩;unfold fits;rw[ee,ff];exact⟨λx B=>ed (E x (by rw[bP]at B;exact zq B)),ed C⟩
   exact⟨sr a z32 (m16 _) (m16 _) z32,a,λ_=>⟨A,o.length-A,T,U,c9 _,U,by rw[<-e],by rw[<-d],by show b.own=_;rw[bP,nm aI],U⟩,λc=>by simp at c⟩
  unfold ml at hm;split at hm
  .rcases e3.1 hm with hm|hm
   .rw[hm];exact z
   have hm:=h6.1 hm;subst hm;have a:dh (nT b lead):=by
    unfold dh nT;exact⟨ns,rfl,ns,.inl rfl,.inr (.inr (.inr rfl)),.inl rfl,aI,.inl rfl,.inr rfl⟩
   exact xg ⟨sr a z32 (m16 _) p6 z32,a,rfl,by unfold nT;simp⟩
  rw[h6.1 hm];exact z
 rw[cx];split
 .rw[iM];omega
 unfold ml;split
 .show _+2<=10;omega
 show _+1<=10;omega
end LkI
end
section
structure EH(n k c:J)(o q:ah aQ)(T A Tq:J)(l:b9)(r:bG)(e:aa)(l':b9):ak where
 inv:∃ T' cA,LkI (n+1) k o T' cA l'/\T<=T'/\T'<=q.length/\A<=cA/\(cA=A\/cA<=Tq)/\(T'=T\/T'<=cA+c)/\(e≠0->r.a8=[])/\r.a8=(q.drop T).take (T'-T)/\(r.a8≠[]->r.ec=(T:aa))
 sum:0<=r.sum/\r.sum<4294967296
namespace LkI
variable{n k T A:J}{o:ah aQ}{l:b9}
def cj(h:LkI n k o T A l)(y:o.length<=1000)(t:J)(aN:t<=1000):∃ cA,LkI n k o T cA (hB l ((t:aa)%65536))/\A<=cA/\(cA=A\/cA=t)/\(t<=o.length->t<=cA):=by
 have w:=h.dF;have s:min l.c2 1073741824=(A:aa):=by rw[h.ac];omega
 have a:l.own.length=o.length-A:=by rw[h.du];simp
 unfold hB;rw[s,GA A t U aN];simp only;by_cases x:t<A\/o.length<t
 .rw[aD (by rw[h.ac,a];omega)];exact⟨A,h,c9 _,.inl rfl,λ_=>U⟩
 rw[aA (by rw[h.ac,a];omega)];obtain⟨b,c,d,e,f,g,i,j,m,bP,u,p,v,q,r⟩:=h;refine⟨t,⟨b,c,d,e,f,g,i,j,rfl,?_,U,p,U,q,r⟩,U,.inr rfl,λ_=>c9 _⟩;rw[show((t:aa)-l.c2).toNat=t-A by rw[m];omega,bP,mr,show A+(t-A)=t by omega]
def b6(h:LkI n k o T A l)(q:ah aQ)(B:T<=q.length)(E:q.length<=1000)(a e:J)(C:a+e<=q.length)(D:0<e)(m:aZ)(ax:m.cl=(a:aa)%65536)(av:m.a8=(q.drop a).take e):∃ T' r l',iU l m=(r,(if T'=T then false else true),l')/\LkI n k o T' A l'/\T<=T'/\(T'=T\/T'=a+e)/\r.a8=(q.drop T).take (T'-T)/\(r.a8≠[]->r.ec=(T:aa))/\r.sum=0:=by
 have hm:min l.next 1073741824=(T:aa):=by rw[h.dG];omega
 have z:m.a8.length=e:=by rw[av];simp;omega
 unfold iU;rw[hm,ax,GA T a U U];simp only[z];by_cases aq:T<a\/a+e<=T
 .rw[aD (by rw[h.dG];omega)];exact⟨T,_,_,by rw[aD rfl],h,c9 _,.inl rfl,by simp[bG.zero],λc=>absurd rfl c,rfl⟩
 rw[aA (by rw[h.dG];omega)];obtain⟨d,f,g,i,j,p,s,t,u,bP,v,b,w,x,y⟩:=h;refine⟨a+e,⟨m.kind,l.next,m.a8.drop (l.next-(a:aa)).toNat,0,0,0⟩,{l with next:=(a:aa)+(e:aa)},by rw[aA U],⟨d,f,g,i,j,p,s,t,u,bP,v,by show(a:aa)+(e:aa)=((a+e:J):aa);omega,w,x,y⟩,U,.inr rfl,?_,λ_=>b,rfl⟩;rw[show(l.next-(a:aa)).toNat=T-a by rw[b];omega,av,drop_take,mr,show a+(T-a)=T by omega,show e-(T-a)=a+e-T by omega]
def set(h:LkI n k o T A l)(hd g b t:aa)(h1:0<=hd/\hd<=n)(h2:0<=g/\g<=n)(r:0<=b/\b<=n)(s:0<=t/\t<=n):LkI n k o T A {l with heard:=hd,eR:=g,bad:=b,e1:=t}:=by
 have⟨a,c,d,e,u,v,w,x,f,bP,i,j,m,p,q⟩:=h;exact⟨a,c,d,e,h1,h2,r,s,f,bP,i,j,m,p,q⟩
theorem state(h:LkI n k o T A l)(s:aa)(ax:s=0\/s=1\/s=2):LkI n k o T A {l with state:=s}:=by
 have⟨a,b,t,c,d,e,f,g,i,bP,j,m,p,q,r⟩:=h;exact⟨a,b,ax,c,d,e,f,g,i,bP,j,m,p,q,r⟩
def Xo(h:LkI n k o T A l)(D:o.length<=1000)(q:ah aQ)(y:T<=q.length)(g':q.length<=1000){Tq c:J}(s':Tq<=o.length){m:aZ}(ok:iP c q Tq m):∃ T' cA,LkI n k o T' cA (cO l m).2.2/\T<=T'/\T'<=q.length/\A<=cA/\(cA=A\/cA<=Tq)/\(T'=T\/T'<=cA+c)/\(cO l m).1.a8=(q.drop T).take (T'-T)/\((cO l m).1.a8≠[]->(cO l m).1.ec=(T:aa))/\(0<=(cO l m).1.sum/\(cO l m).1.sum<4294967296)/\((cO l m).2.1=false->(cO l m).1.a8=[]):=by
 obtain⟨wf,vl,a',fr⟩:=ok;have same:∀ {l':b9} {r:bG} {b:aY},cO l m=(r,b,l')->LkI n k o T A l'->r.a8=[]->(0<=r.sum/\r.sum<4294967296)->_:=λ{l' r b} e gf av ax=>(⟨T,A,by rw[e];exact gf,c9 _,y,c9 _,.inl rfl,.inl rfl,by rw[e];show r.a8=_;rw[av];simp,λc=>absurd (by rw[e];exact av) c,by rw[e];exact ax,λ_=>by rw[e];exact av⟩:∃ T' cA,LkI n k o T' cA (cO l m).2.2/\T<=T'/\T'<=q.length/\A<=cA/\(cA=A\/cA<=Tq)/\(T'=T\/T'<=cA+c)/\(cO l m).1.a8=(q.drop T).take (T'-T)/\((cO l m).1.a8≠[]->(cO l m).1.ec=(T:aa))/\(0<=(cO l m).1.sum/\(cO l m).1.sum<4294967296)/\((cO l m).2.1=false->(cO l m).1.a8=[]));have z:(0:aa)<=0/\(0:aa)<4294967296:=U;by_cases d:m.kind=1
 .refine same (show cO l m=_ by unfold cO;rw[aD d]) ?_ rfl z;split
  .exact h
  rename_i sd;obtain⟨H,K,L,M,N,O,P,Q,R,bP,S,V,W,X,r'⟩:=h;refine⟨H,K,L,M,N,O,P,Q,R,bP,S,V,W,λx i=>?_,L4⟩;rcases ft.1 i with i|i
  .exact X x i
  rw[h6.1 i];have E:dh ⟨2,m.bL,0,0,[],0,0⟩:=by
   exact⟨ns,rfl,ns,.inr (.inr rfl),.inl rfl,.inl rfl,aI,.inl rfl,.inl rfl⟩
  exact⟨sr E wf.bL p6 p6 z32,E,rfl,aI⟩
 by_cases j:m.kind=2
 .by_cases au:m.bL=l.bL
  .exact same (show cO l m=_ by unfold cO;rw[aA d,aD j,aD au]) (h.state 1 (.inr (.inl rfl))) rfl z
  exact same (show cO l m=_ by unfold cO;rw[aA d,aD j,aA au]) h rfl z
 by_cases B:m.kind=7
 .exact same (show cO l m=_ by unfold cO;rw[aA d,aA j,aD B]) (h.state 2 (.inr (.inr rfl))) rfl z
 by_cases ax:l.state=1
 .have g:cO l m=hE l m:=by unfold cO;rw[aA d,aA j,aA B,aD ax]
  by_cases f:m.kind=3
  .have⟨a,e,t,hd,v',w',h2,lb,m',ps⟩:=a' f;have⟨cA,g1,w,Z,C⟩:=h.cj D t U;rw[<-lb]at g1;have⟨T',r,l',i1,i2,i3,p,F,i6,i7⟩:=g1.b6 q y g' a e hd ps m h2 m';have v:cO l m=(r,(if T'=T then false else true),l'):=by rw[g];unfold hE;rw[aD f,i1]
   rw[v];refine⟨T',cA,i2,i3,U,w,U,?_,F,i6,by show 0<=r.sum/\r.sum<_;omega,λaj=>?_⟩
   .rcases p with p|p
    .exact .inl p
    have:=C U;omega
   show r.a8=[];have aj:=aj;split at aj
   .rename_i Y;rw[F,Y];simp
   cases aj
  by_cases s:m.kind=4
  .exact same (show cO l m=_ by rw[g];unfold hE;rw[aA f,aD s]) h rfl wf.sum
  by_cases u:m.kind=5
  .have⟨t,t1,t2⟩:=fr u;have⟨cA,g1,w,Z,C⟩:=h.cj D t U;rw[<-t2]at g1;have v:cO l m=(⟨5,0,[],0,0,0⟩,true,hB l m.cj):=by rw[g];unfold hE;rw[aA f,aA s,aD u]
   rw[v];exact⟨T,cA,g1,c9 _,y,w,U,.inl rfl,aI,λc=>absurd rfl c,z,λ_=>rfl⟩
  by_cases G:m.kind=6
  .exact same (show cO l m=_ by rw[g];unfold hE;rw[aA f,aA s,aA u,aD G]) h rfl z
  exact same (show cO l m=_ by rw[g];unfold hE;rw[aA f,aA s,aA u,aA G]) h rfl z
 exact same (show cO l m=_ by unfold cO;rw[aA d,aA j,aA B,aA ax]) h rfl z
def vD(h:LkI n k o T A l)(E:o.length<=1000)(q:ah aQ)(d:T<=q.length)(F:q.length<=1000){Tq c:J}(B:Tq<=o.length){t:ah aQ}(aN:(∃ m,t=dk m/\iP c q Tq m)\/(fs t).2≠0):EH n k c o q T A Tq l (cI l t).1 (cI l t).2.1 (cI l t).2.2:=by
 have z:(0:aa)<=0/\(0:aa)<4294967296:=U;have f:∀ {l':b9} {e:aa},cI l t=(bG.zero,e,l')->LkI (n+1) k o T A l'->EH n k c o q T A Tq l (cI l t).1 (cI l t).2.1 (cI l t).2.2:=λ{l' e} C D=>by
  rw[C];exact⟨⟨T,A,D,c9 _,d,c9 _,.inl rfl,.inl rfl,λ_=>rfl,by show []=_;simp,λc=>absurd rfl c⟩,z⟩
 by_cases ax:l.state=2
 .exact f (show cI l t=_ by unfold cI;rw[aD ax]) h.up
 have h1:=h.hd;have h2:=h.eR;have v:=h.bad;have w:=h.e1;have x:=h.n4;by_cases b:(fs t).2≠0
 .exact f (show cI l t=_ by unfold cI;rw[aA ax,aD b]) (h.up.set l.heard l.eR (l.bad+1) l.e1 U U U U)
 rcases aN with⟨m,rfl,ok⟩|aN
 .have G:=Cw m ok.2.1 ok.1;have u:cI l (dk m)=if (cO {l with heard:=l.b_} m).2.1 then((cO {l with heard:=l.b_} m).1,0,{(cO {l with heard:=l.b_} m).2.2 with eR:=(cO {l with heard:=l.b_} m).2.2.eR+1})else(bG.zero,0,{(cO {l with heard:=l.b_} m).2.2 with e1:=(cO {l with heard:=l.b_} m).2.2.e1+1}):=by
   unfold cI;rw[aA ax,aA b,G]
  have⟨T',cA,a,g,i,j,p,r,s,K,L,H⟩:=(h.set l.b_ l.eR l.bad l.e1 x h2 v w).Xo E q d F B ok;rw[u];have g1:=a.hd;have M:=a.eR;have N:=a.bad;have O:=a.e1;split
  .exact⟨⟨T',cA,a.up.set _ _ _ _ U U U U,g,i,j,p,r,λc=>absurd rfl c,s,K⟩,L⟩
  rename_i aj;have av:=H (by simpa using aj);have y:T'=T:=by
   rw[s]at av
   have:=cV length av
   exact LD
  exact⟨⟨T',cA,a.up.set _ _ _ _ U U U U,g,i,j,p,r,λ_=>rfl,by show []=_;rw[y];simp,λc=>absurd rfl c⟩,z⟩
 exact absurd aN b
end LkI
end
def FL(w:ai)(b cap:J)(l:ah aQ)(k:J)(c:aQ)(hk:k<l.length)(a:∀ i (h:i<l.length),w.cell? (ad b i ab)=some (aF l[i].toNat)):(convert 51 9 (ao (some (ad b 0 ab)) l.length cap)).run prog (w.setCell (ad b k ab) (aF c.toNat))=.ok (.string ⟨(l.set k c).toArray⟩) (w.setCell (ad b k ab) (aF c.toNat)):=by
 have h:=C_ (P:=prog) (w.setCell (ad b k ab) (aF c.toNat)) 51 9 5 (ad b 0 ab) cap (l.set k c) underlying51 underlying5 underlying9 (by
  intro j f;have d:j<l.length:=by simpa using f
  have dT:((ad b 0 ab):Addr).add j=(ad b j ab):=by rw[hN,gv]
  rw[dT];by_cases e:k=j
  .subst e;rw[wz _ _ _ (a k hk)];simp
  .rw[C6 _ _ _ _ aI,a j d];simp[wH e])
 simpa using h
def h0(x:aa)(n:J):J:=if x.tmod n<0 then(x.tmod n+n).toNat else(x.tmod n).toNat
def XE(x:aa)(n:J)(a:0<n):-(n:aa)<x.tmod n/\x.tmod n<n:=by
 have c:=XD x n;by_cases h:0<=x
 .rw[c.1 h]
  have:=K9 x (show(0:aa)<n by omega)
  have:=Df x (show(n:aa)≠0 by omega)
  omega
 rw[c.2 U]
 have:=K9 (-x) (show(0:aa)<n by omega)
 have:=Df (-x) (show(n:aa)≠0 by omega)
 omega
def Cv(x:aa)(n:J)(a:0<n)(h1:n<=256):∃ r:aa,x.tmod (n:aa)=r/\((r<0/\wrap64 (r+n)=(h0 x n:aa)/\h0 x n<n)\/(0<=r/\r=(h0 x n:aa)/\h0 x n<n)):=by
 have h:=XE x n a;refine⟨x.tmod n,rfl,?_⟩;unfold h0;split
 .left;unfold wrap64;omega
 right;omega
def lM(x:aQ)(b:J):aQ:=UInt8.ofNat (x.toNat ^^^ b)
def YF(x:aQ)(b:J)(aj:b<256):bits .xor .u8 (x.toNat:aa) (b:aa)=((lM x b).toNat:aa):=by
 rw[u8_xor_nat _ b x.toNat_lt aj,lM];simp[ja (Ld (n:=8) x.toNat_lt aj),-UInt8.toNat_xor,-UInt8.ofNat_xor]
def sm(l:ah aQ)(x:aa)(b:J):ah aQ:=l.set (h0 x l.length) (lM (l.getD (h0 x l.length) 0) b)
def o7(t:cc)(x:aa)(b:J):cc:=⟨(sm t.data.toList x b).toArray⟩
section
variable{w w':ai}{c m most:J}{s:cT}
def Ox(h:eM w c most s)(toq i x:aa)(b:J)(au:fL s toq i=none):az 100 #[c,I toq,I i,I x,aF b] w λe w'=>e=aV #[.string ByteArray.empty,false]/\eM w' c most s/\Keeps (g_ c) w w':=by
 have a:=te h toq i;rw[au,Co au]at a
 go_in
 go_wp2_with fail;refine aT a ?_;rintro aB ⟨h2,d⟩;go_wp2;go_ret2;exact⟨rfl,h2,d⟩
def Ow(h:eM w c most s)(toq i x:aa)(b:J)(aj:b<256)(v:cc)(au:fL s toq i=some v)(N:0<v.size)(O:v.size<=256):az 100 #[c,I toq,I i,I x,aF b] w λe w'=>e=aV #[.string (o7 v x b),true]/\eM w' c most (fD s toq i)/\Keeps (g_ c) w w':=by
 have p:=te h toq i;rw[au,show Cl (some v)=Value.string v from rfl]at p;have ew:=af p;have l:v.data.toList.length=v.size:=aI;obtain⟨r,F,m⟩:=Cv x v.data.toList.length U U;have j:=af (show h0 x v.data.toList.length<v.data.toList.length by rcases m with⟨_,_,h⟩|⟨_,_,h⟩<;>exact h);have gm:=af (show sm v.data.toList x b=v.data.toList.set (h0 x v.data.toList.length) (lM (v.data.toList[h0 x v.data.toList.length]'j.out) b)by unfold sm;rw[oe,gb j.o];rfl);generalize h0 x v.data.toList.length=k at *;have hk:=j.o;have P:=YF (v.data.toList[k]'hk) b aj;unfold o7;rw[gm.o];rw[l]at m F;generalize K:v.data.toList[k]=z at *;generalize H:lM z b=y at *;generalize C:v.data.toList.set k y=M at *;have f:=af K;have n:=af H;have cE:=af C;rcases m with⟨h1,h2,_⟩|⟨h1,rfl,_⟩
 .go_in
  go_wp2_with fail;refine aT ew.out ?_;rintro aB ⟨t,B⟩;have⟨cap,an,E,D,u,G,d,q⟩:=xu aB v;have aq:=d k U;have L:=q k U;have a:=FL an aB.heap.size cap v.data.toList k (lM (v.data.toList[k]'hk) b) hk (λi h=>d i U);rw[f.out,n.out,cE.out]at a;rw[f.out]at aq;have g:eM (an.setCell (ad aB k ab) (aF y.toNat)) c most (fD s toq i)/\Keeps (g_ c) w (an.setCell (ad aB k ab) (aF y.toNat)):=by
   exact MP
  rw[l]at a;go_wp2;go_ret2;exact⟨rfl,g⟩
 go_in
 go_wp2_with fail;refine aT ew.out ?_;rintro aB ⟨t,B⟩;have⟨cap,an,E,D,u,G,d,q⟩:=xu aB v;have aq:=d k U;have a:=FL an aB.heap.size cap v.data.toList k (lM (v.data.toList[k]'hk) b) hk (λi h=>d i U);rw[f.out,n.out,cE.out]at a;rw[f.out]at aq;have g:eM (an.setCell (ad aB k ab) (aF y.toNat)) c most (fD s toq i)/\Keeps (g_ c) w (an.setCell (ad aB k ab) (aF y.toNat)):=by
  exact MP
 rw[l]at a;go_wp2;go_ret2;exact⟨rfl,g⟩
end
end Go.Proofs.YtalagblioepadaaGreatDoor
