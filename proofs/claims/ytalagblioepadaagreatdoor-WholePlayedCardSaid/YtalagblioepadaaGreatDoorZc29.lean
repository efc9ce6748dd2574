/- The proof, part 29. -/
import Derived.Test.YtalagblioepadaaGreatDoorZc28
namespace Go.Proofs.YtalagblioepadaaGreatDoor
set_option linter.all false
open Proofs.Tryz List Go.RowKit
set_option maxRecDepth 100000
set_option maxHeartbeats 1000000
def nJ{p:ak}(h:p:=by simp only[];omega):p:=h
def MH{p:ak}(h:p:=by have:=n x q;rcases al with e|e|e|e|e<;>omega):p:=h
def MA{p:ak}(h:p:=by show(l.out++[_]).length<=8;rw[cx,iT];omega):p:=h
def zX{p:ak}(h:p:=by simp[aT,results,results102,asAddr,loadVar,loadCells,isAgg199,sizeOf199,O]):p:=h
def No{p:ak}(h:p:=by
 have A:Keeps aI aC (ao.setCell (ad aC k ab) (aF y.toNat)):=(Keeps.bD u a7).oi (p:=ad aC k ab) bs _;exact⟨t.keeps A (λ_ _=>id),B.trans (k2 A)⟩
 ):p:=h
def Ma{p:ak}(h:p:=by
 simp only[gn,gm,e_]at this;omega
 ):p:=h
def D8{p:ak}(h:p:=by
 simp only[];split<;>exact⟨rfl,rfl,rfl,rfl,rfl,rfl,rfl,rfl⟩
 ):p:=h
variable{w:ai}{B:iB}{l:b9}
structure kQ(w V:ai)(r:J)(B:iB)(l:b9):ak where
 res:V.heap[r]?=some (ae (aT bG.zero none 0) 199 (0,0))
 nd:w.heap.size<=r
 aE:IsLink V B l
 cv:Keeps B.S w V
def kQ.start(h:IsLink w B l):kQ w (w.alloc (ae (aT bG.zero none 0) 199)) w.heap.size B l:=by
 have hk:=(ba w).alloc (ae (aT bG.zero none 0) 199);exact⟨aX w _,c9 _,h.keeps hk (λ_ _=>id),hk.mono λ_ _ h=>h.elim⟩
def kQ.next{V V':ai}{r:J}{l' d:b9}(h:kQ w V r B l)(a:IsLink w B d)(c:IsLink V' B l')(hk:Keeps B.S V V'):kQ w V' r B l':=by
 have f:=a.lt;have av:∀ b,B.S b->b<w.heap.size:=λb aj=>by rcases aj with e|e|e|e|e<;>omega
 exact⟨hk.heap h.res (λx=>by have:=av _ x;have:=h.nd;omega),h.nd,c,h.cv.trans hk⟩
theorem kQ.kA{V V':ai}{r:J}(h:kQ w V r B l)(hk:Keeps aI V V'):kQ w V' r B l:=
 ⟨hk.heap h.res id,h.nd,h.aE.keeps hk λ_ _=>id,h.cv.trans (hk.mono λ_ _ h=>h.elim)⟩
def kQ.fin{m:b9}{V:ai}{r:J}(h:kQ w V r B l)(k:IsLink w B m)(a c v2 d f g:ax):let i:=((((((V.setCell (ad r 0 ab) a).setCell (ad r 1 ab) c).setCell (ad r 2 ab) v2).setCell (ad r 3 ab) d).setCell (ad r 4 ab) f).setCell (ad r 5 ab) g)
  i.heap[r]?=some (ae #[a,c,v2,d,f,g] 199 (0,0))/\IsLink i B l/\Keeps B.S w i/\(∀ {a':b5 Addr} {j:J} {L:ah aR},c3 V a' j L->c3 i a' j L):=by
 have n:=k.lt;have hk:=BB (S:=λb=>b=r) (b:=r) (Keeps.refl _ V) rfl a c v2 d f g;have o:=h.nd;refine⟨gw h.res rfl a c v2 d f g,h.aE.keeps hk (λb aj=>?_),r2 h.cv h.nd a c v2 d f g,λaj=>aj.keeps hk λhne x e=>FQ aj h.res (by simp[aT,bG.zero]) hne x e⟩;rcases aj with e|e|e|e|e<;>omega
def cJ(l:b9)(s:ah aR):bG×aa×b9:=
 if l.state=2 then(bG.zero,12,l)else
 if (fw s).2≠0 then(bG.zero,(fw s).2,{l with bad:=l.bad+1})else
 if (cP {l with heard:=l.b_} (fw s).1).2.1 then((cP {l with heard:=l.b_} (fw s).1).1,0,{(cP {l with heard:=l.b_} (fw s).1).2.2 with eY:=(cP {l with heard:=l.b_} (fw s).1).2.2.eY+1})
 else(bG.zero,0,{(cP {l with heard:=l.b_} (fw s).1).2.2 with e8:=(cP {l with heard:=l.b_} (fw s).1).2.2.e8+1})
def Og(l:b9)(s:aa):(hK l s).bK=l.bK/\(hK l s).ey=l.ey/\(hK l s).jI=l.jI/\(hK l s).b_=l.b_/\(hK l s).heard=l.heard/\(hK l s).eY=l.eY/\(hK l s).bad=l.bad/\(hK l s).e8=l.e8:=by
 unfold hK;exact D8
def Sl(l:b9)(m:a1):(ja l m).2.2.bK=l.bK/\(ja l m).2.2.ey=l.ey/\(ja l m).2.2.jI=l.jI/\(ja l m).2.2.b_=l.b_/\(ja l m).2.2.heard=l.heard/\(ja l m).2.2.eY=l.eY/\(ja l m).2.2.bad=l.bad/\(ja l m).2.2.e8=l.e8:=by
 unfold ja;exact D8
def X3(l:b9)(m:a1):(cP l m).2.2.bK=l.bK/\(cP l m).2.2.ey=l.ey/\(cP l m).2.2.jI=l.jI/\(cP l m).2.2.b_=l.b_/\(cP l m).2.2.heard=l.heard/\(cP l m).2.2.eY=l.eY/\(cP l m).2.2.bad=l.bad/\(cP l m).2.2.e8=l.e8:=by
 have h1:=Og l m.ch;have h2:=Sl (hK l m.ch) m;have a:(hR l m).2.2.bK=l.bK/\(hR l m).2.2.ey=l.ey/\(hR l m).2.2.jI=l.jI/\(hR l m).2.2.b_=l.b_/\(hR l m).2.2.heard=l.heard/\(hR l m).2.2.eY=l.eY/\(hR l m).2.2.bad=l.bad/\(hR l m).2.2.e8=l.e8:=by
  unfold hR;split
  .exact⟨h2.1.trans h1.1,h2.2.1.trans h1.2.1,h2.2.2.1.trans h1.2.2.1,h2.2.2.2.1.trans h1.2.2.2.1,h2.2.2.2.2.1.trans h1.2.2.2.2.1,h2.2.2.2.2.2.1.trans h1.2.2.2.2.2.1,h2.2.2.2.2.2.2.1.trans h1.2.2.2.2.2.2.1,h2.2.2.2.2.2.2.2.trans h1.2.2.2.2.2.2.2⟩
  split
  .exact⟨rfl,rfl,rfl,rfl,rfl,rfl,rfl,rfl⟩
  split
  .exact h1
  split<;>exact⟨rfl,rfl,rfl,rfl,rfl,rfl,rfl,rfl⟩
 unfold cP;split
 .exact D8
 split
 .split<;>exact⟨rfl,rfl,rfl,rfl,rfl,rfl,rfl,rfl⟩
 split
 .exact⟨rfl,rfl,rfl,rfl,rfl,rfl,rfl,rfl⟩
 split
 .exact a
 exact⟨rfl,rfl,rfl,rfl,rfl,rfl,rfl,rfl⟩
def Yu(l:ah aR)(h:(fw l).2=0):(fw l).1.a8.length<=1000000:=by
 unfold fw at *;split at h
 .rename_i a;rw[aD a];unfold rl at *;split at h
  .cases h
  rename_i h1;rw[az h1];have b:=(Ly λal=>h1 (.inr (.inr al))).2.1;unfold fits at b;simp only[d',fZ]at b;exact b7 b.2 bq
 rename_i a;exact absurd h a
def Il(h:IsLink w B l)(s:cc)(av:s.size<=100000)(ar:0<=l.next/\l.next<=1073741824)(bd:0<=l.c4/\l.c4<=1073741824)(aZ:0<=l.eY/\l.eY<=1000000)(aj:0<=l.bad/\l.bad<=1000000)(aO:0<=l.e8/\l.e8<=1000000):aA 102 #[B.p,.string s] w (s_ w.heap.size w B (cJ l s.data.toList).1 (I (cJ l s.data.toList).2.1) (cJ l s.data.toList).2.2):=by
 have an:=kQ.start h;simp only[aT,bG.zero,e_]at an;have ZJ:=h.lt;have H:=af h;unfold cJ;by_cases N:l.state=2
 .rw[aD N]
  go_in
  go_upto_region 3 with fail
  generalize World.alloc w _=X at *;have C:=(an).aE.lt;have D:=bP (an).res;have E:=bI (an).res;have A:=aS (an).res;have f2:=an.aE.free 2;have bo:=an.aE.bo;rw[N]at bo;have d:=af an;go_wp2_with fail;have r:=kQ.fin (d.o) H.o (I ((⟨0,0,[],0,0,0⟩:bG)).kind) (I ((⟨0,0,[],0,0,0⟩:bG)).ec) (.slice none ((⟨0,0,[],0,0,0⟩:bG)).a8.length 0) (I ((⟨0,0,[],0,0,0⟩:bG)).frame) (aP ((⟨0,0,[],0,0,0⟩:bG)).sum) (I ((⟨0,0,[],0,0,0⟩:bG)).lead);simp only at r;generalize World.setCell _ (ad w 5 ab) _=P at *;obtain⟨F,k,j,i⟩:=r;have O:=dx _ _ _ _ F 6 rfl;refine cU (v:=aV #[.agg (aT (⟨0,0,[],0,0,0⟩:bG) none 0),I 12]) zX rfl ?_;exact qw
 rw[az N];have d2:(l.state == 2)=false:=by simpa using N
 have vl:=λW=>Y1 (w:=W) s av;have zd:=Yu s.data.toList;generalize fw s.data.toList=u at *;have⟨m,b0⟩:=u;simp only at *;have Q:=af vl;by_cases gf:b0≠0
 .rw[aD gf];have d3:(b0 != 0)=true:=by simpa using gf
  go_in
  go_upto_region 3 with fail
  generalize World.alloc w _=X at *;have C:=(an).aE.lt;have D:=bP (an).res;have E:=bI (an).res;have A:=aS (an).res;have f2:=an.aE.free 2;have bo:=an.aE.bo;have d:=af an;go_wp2_with fail;refine(Q.o _).mono ?_;rintro e f ⟨a,c,rfl,g,M,n⟩;have an:=d.out.kA (Keeps.bD M a7);go_upto_region 6 with fail
  have sd:=an.aE.lt.1;have K:=aX f (ae #[I m.kind,aP m.bK,bx m.cj,bx m.ch,aq a m.a8.length c,aP m.sum,I m.lead] 254);have an:=an.kA ((ba f).alloc (ae #[I m.kind,aP m.bK,bx m.cj,bx m.ch,aq a m.a8.length c,aP m.sum,I m.lead] 254));have g:=g.keeps ((ba f).alloc (ae #[I m.kind,aP m.bK,bx m.cj,bx m.ch,aq a m.a8.length c,aP m.sum,I m.lead] 254)) (λ_ _ _=>id);have n:∀ x,a=some x->w.heap.size<=x.block:=λx q=>by have:=n x q;omega
  generalize World.alloc f _=L at *;have C:=(an).aE.lt;have D:=bP (an).res;have E:=bI (an).res;have A:=aS (an).res;have Az:=an.aE.Az;have ZG:=an.aE.free 11;have d:=af an;go_wp2_with fail;have d:=af (d.o.next (V':=L.setCell (ad B.p 11 ab) (I (l.bad+1))) (l':={l with bad:=l.bad+1}) H.out (d.o.aE.set 11 (I (l.bad+1)) _ rfl rfl rfl) (Keeps.setCell (Keeps.refl _ _) (.inl rfl) _));have r:=kQ.fin (d.o) H.out (I ((⟨0,0,[],0,0,0⟩:bG)).kind) (I ((⟨0,0,[],0,0,0⟩:bG)).ec) (.slice none ((⟨0,0,[],0,0,0⟩:bG)).a8.length 0) (I ((⟨0,0,[],0,0,0⟩:bG)).frame) (aP ((⟨0,0,[],0,0,0⟩:bG)).sum) (I ((⟨0,0,[],0,0,0⟩:bG)).lead);simp only at r;generalize World.setCell _ (ad w 5 ab) _=P at *;obtain⟨F,k,j,i⟩:=r;have O:=dx _ _ _ _ F 6 rfl;refine cU (v:=aV #[.agg (aT (⟨0,0,[],0,0,0⟩:bG) none 0),I b0]) zX rfl ?_;exact qw
 rw[az gf];obtain rfl:b0=0:=U;have hm:=(zd rfl);have s':=λ(W:ai) (a:b5 Addr) (c:J) (h:IsLink W B {l with heard:=l.b_}) (aj:c3 W a c m.a8) (v':∀ x,a=some x->¬ B.S x.block) (ys:∀ x,a=some x->w.heap.size<=x.block)=>Tg h m ys aj v' ar bd hm;have lb:=X3 {l with heard:=l.b_} m;generalize cP {l with heard:=l.b_} m=T at *;obtain⟨R,ok,zp⟩:=T;simp only at *;obtain⟨ZL,ZM,r',T',ZO,ZK,ps,h2,mv,m',ZI,TS,ZN⟩:=zp;simp only at lb;obtain⟨rfl,rfl,rfl,rfl,rfl,rfl,rfl,rfl⟩:=lb;have eB:=af s';cases ok with
 | true=>
  simp only[if_true]
  go_in
  go_upto_region 3 with fail
  generalize World.alloc w _=X at *;have C:=(an).aE.lt;have D:=bP (an).res;have E:=bI (an).res;have A:=aS (an).res;have f2:=an.aE.free 2;have bo:=an.aE.bo;have d:=af an;go_wp2_with fail;refine(Q.out _).mono ?_;rintro e f ⟨a,c,rfl,g,M,n⟩;have an:=d.out.kA (Keeps.bD M a7);go_upto_region 6 with fail
  have sd:=an.aE.lt.1;have K:=aX f (ae #[I m.kind,aP m.bK,bx m.cj,bx m.ch,aq a m.a8.length c,aP m.sum,I m.lead] 254);have an:=an.kA ((ba f).alloc (ae #[I m.kind,aP m.bK,bx m.cj,bx m.ch,aq a m.a8.length c,aP m.sum,I m.lead] 254));have g:=g.keeps ((ba f).alloc (ae #[I m.kind,aP m.bK,bx m.cj,bx m.ch,aq a m.a8.length c,aP m.sum,I m.lead] 254)) (λ_ _ _=>id);have n:∀ x,a=some x->w.heap.size<=x.block:=λx q=>by have:=n x q;omega
  generalize World.alloc f _=L at *;have C:=(an).aE.lt;have D:=bP (an).res;have E:=bI (an).res;have A:=aS (an).res;have dM:=an.aE.dM;have fN:=an.aE.fN;have f5:=an.aE.free 5;have Aw:=aS K;have St:=bP K;have d:=af an;have V:=af g;go_wp2_with fail;have an:=d.o.next (V':=L.setCell (ad B.p 5 ab) (I l.b_)) (l':={l with heard:=l.b_}) H.out (d.o.aE.set 5 (I l.b_) _ rfl rfl rfl) (Keeps.setCell (Keeps.refl _ _) (.inl rfl) _);have g:=V.o.keeps (Keeps.setCell (S:=λb=>b=B.p) (Keeps.refl _ _) (p:=ad B.p 5 ab) rfl (I l.b_)) (λ_ x q e=>by have:=n x q;omega);refine(eB.out _ a c an.aE g (λx q al=>MH) n).mono ?_;rintro e y ⟨⟨t,bo,rfl,z,fr⟩,a',Z⟩;have hd:=af fr;have an:=an.next H.out a' Z;unfold aT;go_upto_region 11 with fail
  have Tq:=an.aE.lt.1;have G:=aX y (ae (aT R t bo) 199);have an:=an.kA ((ba y).alloc (ae (aT R t bo) 199));have z:=z.keeps ((ba y).alloc (ae (aT R t bo) 199)) (λ_ _ _=>id);simp only[aT]at G an z;generalize World.alloc y _=Y at *;have CW:=aS G;have Q':=bP G;have C:=(an).aE.lt;have D:=bP (an).res;have E:=bI (an).res;have A:=aS (an).res;have qH:=an.aE.qH;have W':=an.aE.free 10;have d:=af an;have g':=af z;go_wp2_with fail;have w':=g'.o.keeps (Keeps.setCell (S:=λb=>b=B.p) (Keeps.refl _ _) (p:=ad B.p 10 ab) rfl (I (l.eY+1))) (λhne x e=>FR g'.o d.o.aE.bc hne x e);have d:=af (d.o.next (V':=Y.setCell (ad B.p 10 ab) (I (l.eY+1))) (l':=⟨l.bK,l.ey,r',l.jI,l.b_,l.b_,ps,h2,mv,m',l.eY+1,l.bad,l.e8⟩) H.out (d.o.aE.set 10 (I (l.eY+1)) _ rfl rfl rfl) (Keeps.setCell (Keeps.refl _ _) (.inl rfl) _));have r:=kQ.fin (d.o) H.out (I (R).kind) (I (R).ec) (.slice t (R).a8.length bo) (I (R).frame) (aP (R).sum) (I (R).lead);simp only at r;generalize World.setCell _ (ad w 5 ab) _=P at *;obtain⟨F,k,j,i⟩:=r;have O:=dx _ _ _ _ F 6 rfl;refine cU (v:=aV #[.agg (aT R t bo),I 0]) zX rfl ?_;exact⟨⟨t,bo,rfl,i w',hd.o⟩,k,j⟩
 | false=>
  simp only[wN,if_false]
  go_in
  go_upto_region 3 with fail
  generalize World.alloc w _=X at *;have C:=(an).aE.lt;have D:=bP (an).res;have E:=bI (an).res;have A:=aS (an).res;have f2:=an.aE.free 2;have bo:=an.aE.bo;have d:=af an;go_wp2_with fail;refine(Q.out _).mono ?_;rintro e f ⟨a,c,rfl,g,M,n⟩;have an:=d.out.kA (Keeps.bD M a7);go_upto_region 6 with fail
  have sd:=an.aE.lt.1;have K:=aX f (ae #[I m.kind,aP m.bK,bx m.cj,bx m.ch,aq a m.a8.length c,aP m.sum,I m.lead] 254);have an:=an.kA ((ba f).alloc (ae #[I m.kind,aP m.bK,bx m.cj,bx m.ch,aq a m.a8.length c,aP m.sum,I m.lead] 254));have g:=g.keeps ((ba f).alloc (ae #[I m.kind,aP m.bK,bx m.cj,bx m.ch,aq a m.a8.length c,aP m.sum,I m.lead] 254)) (λ_ _ _=>id);have n:∀ x,a=some x->w.heap.size<=x.block:=λx q=>by have:=n x q;omega
  generalize World.alloc f _=L at *;have C:=(an).aE.lt;have D:=bP (an).res;have E:=bI (an).res;have A:=aS (an).res;have dM:=an.aE.dM;have fN:=an.aE.fN;have f5:=an.aE.free 5;have Aw:=aS K;have St:=bP K;have d:=af an;have V:=af g;go_wp2_with fail;have an:=d.o.next (V':=L.setCell (ad B.p 5 ab) (I l.b_)) (l':={l with heard:=l.b_}) H.out (d.o.aE.set 5 (I l.b_) _ rfl rfl rfl) (Keeps.setCell (Keeps.refl _ _) (.inl rfl) _);have g:=V.o.keeps (Keeps.setCell (S:=λb=>b=B.p) (Keeps.refl _ _) (p:=ad B.p 5 ab) rfl (I l.b_)) (λ_ x q e=>by have:=n x q;omega);refine(eB.out _ a c an.aE g (λx q al=>MH) n).mono ?_;rintro e y ⟨⟨t,bo,rfl,z,fr⟩,a',Z⟩;have hd:=af fr;have an:=an.next H.out a' Z;unfold aT;go_upto_region 11 with fail
  have Tq:=an.aE.lt.1;have G:=aX y (ae (aT R t bo) 199);have an:=an.kA ((ba y).alloc (ae (aT R t bo) 199));have z:=z.keeps ((ba y).alloc (ae (aT R t bo) 199)) (λ_ _ _=>id);simp only[aT]at G an z;generalize World.alloc y _=Y at *;have CW:=aS G;have Q':=bP G;have C:=(an).aE.lt;have D:=bP (an).res;have E:=bI (an).res;have A:=aS (an).res;have FT:=an.aE.FT;have ZH:=an.aE.free 12;have d:=af an;go_wp2_with fail;have d:=af (d.o.next (V':=Y.setCell (ad B.p 12 ab) (I (l.e8+1))) (l':=⟨l.bK,l.ey,r',l.jI,l.b_,l.b_,ps,h2,mv,m',l.eY,l.bad,l.e8+1⟩) H.out (d.o.aE.set 12 (I (l.e8+1)) _ rfl rfl rfl) (Keeps.setCell (Keeps.refl _ _) (.inl rfl) _));have r:=kQ.fin (d.o) H.out (I ((⟨0,0,[],0,0,0⟩:bG)).kind) (I ((⟨0,0,[],0,0,0⟩:bG)).ec) (.slice none ((⟨0,0,[],0,0,0⟩:bG)).a8.length 0) (I ((⟨0,0,[],0,0,0⟩:bG)).frame) (aP ((⟨0,0,[],0,0,0⟩:bG)).sum) (I ((⟨0,0,[],0,0,0⟩:bG)).lead);simp only at r;generalize World.setCell _ (ad w 5 ab) _=P at *;obtain⟨F,k,j,i⟩:=r;have O:=dx _ _ _ _ F 6 rfl;refine cU (v:=aV #[.agg (aT (⟨0,0,[],0,0,0⟩:bG) none 0),I 0]) zX rfl ?_;exact qw
theorem OM{w A C:ai}{S:J->ak}(h:Below w w A)(hk:Keeps S A C)(av:∀ k,S k->w.heap.size<=k):Below w w C:=
 h.trans (hk.below h.size λk h1 h2=>by have:=av k h2;omega)
section
def G6(a b:J)(bd:a<=1000)(aj:b<=1000):ec (a:aa) ((b:aa)%65536)=((b:aa),0):=by
 have av:ri ((a:aa)%65536) ((b:aa)%65536)=(b:aa)-a:=by
  unfold ri;omega
 unfold ec;rw[az U,av];simp only[];rw[az U]
 congr 1
 omega
structure LkI(n k:J)(o:ah aR)(T A:J)(l:b9):ak where
 bK:l.bK=(k:aa)+1
 pat:1<=l.ey/\l.ey<=10000
 st:l.state=0\/l.state=1\/l.state=2
 ot:0<=l.b_/\l.b_<=n
 hd:0<=l.heard/\l.heard<=n
 eY:0<=l.eY/\l.eY<=n
 bad:0<=l.bad/\l.bad<=n
 e8:0<=l.e8/\l.e8<=n
 ac:l.c4=(A:aa)
 du:l.own=o.drop A
 dw:A<=o.length
 dG:l.next=(T:aa)
 wl:o.length<=A+64
 Ul:∀ m∈l.out,m.wf/\di m/\m.a8=[]/\m.kind≠5
 ZA:l.out.length<=8
def iV(c:J)(q:ah aR)(Tq:J)(m:a1):ak:=
 m.wf/\di m/\(m.kind=3->∃ a e t:J,a+e<=q.length/\t<=Tq/\a+e<=t+c/\m.cj=(a:aa)%65536/\m.ch=(t:aa)%65536/\m.a8=(q.drop a).take e/\0<e)/\(m.kind=5->∃ t:J,t<=Tq/\m.ch=(t:aa)%65536)
def iV.mono{c:J}{q b:ah aR}{T T':J}{m:a1}(h:iV c q T m)(d:q <+: b)(v:T<=T'):iV c b T' m:=by
 have⟨h1,h2,l,n⟩:=h;refine⟨h1,h2,λhk=>?_,λhk=>?_⟩
 .have⟨a,e,t,s,u,f,g,i,j,k⟩:=l hk
  have:=d.length_le
  refine⟨a,e,t,U,U,f,g,i,?_,k⟩;have⟨r,o⟩:=d;rw[j,<-o,DJ U,zM bT]
 have⟨t,w,p⟩:=n hk;exact⟨t,U,p⟩
def z32:(0:aa)<=0/\(0:aa)<4294967296:=U
def qj:(0:aa)<=0/\(0:aa)<65536:=U
def m16(x:aa):0<=x%65536/\x%65536<65536:=U
def sE{m:a1}(h:di m)(h1:0<=m.bK/\m.bK<4294967296)(h2:0<=m.cj/\m.cj<65536)(c:0<=m.ch/\m.ch<65536)(d:0<=m.sum/\m.sum<4294967296):m.wf:=by
 have⟨a,_,b,_⟩:=h;exact⟨U,h1,h2,c,d,U⟩
namespace LkI
variable{n k T A:J}{o:ah aR}{l:b9}
def up(h:LkI n k o T A l):LkI (n+1) k o T A l:=by
 have⟨a,b,c,m,p,q,r,s,d,bO,e,f,g,i,j⟩:=h;exact⟨a,b,c,U,U,U,U,U,d,bO,e,f,g,i,j⟩
theorem own(h:LkI n k o T A l)(v:aR)(aW:v.toNat<=63)(w:o.length<A+64)(av:l.state=1):LkI n k (o++[v]) T A (j' l o.length v):=by
 have s:=h.dw;have e:wi l o.length v=0:=by
  unfold wi;rw[az U,az U,az (by rw[h.ac,h.du,gm];omega),az (by rw[h.du,gm];omega)]
 unfold j';rw[aD e];have⟨a,b,c,d,f,g,i,j,m,bO,t,p,u,q,r⟩:=h;exact⟨a,b,c,d,f,g,i,j,m,by show l.own++[v]=_;rw[bO,DJ s],by rw[cx];omega,p,by rw[cx,iT];omega,q,r⟩
def rep(h:LkI n k o T A l)(f:aa)(s:aa)(av:0<=s/\s<4294967296):LkI n k o T A (lT l f s):=by
 unfold lT;split
 .rename_i e;have z:l.out.length≠8:=λc=>by
   unfold yS at e;split at e
   .omega
   split at e
   .omega
   simp_all
  obtain⟨b,d,g,i,j,p,q,r,t,bO,u,v,w,x,y⟩:=h;refine⟨b,d,g,i,j,p,q,r,t,bO,u,v,w,λm hm=>?_,MA⟩;rcases e5.1 hm with hm|hm
  .exact x m hm
  have hm:=fL.1 hm;subst hm;have a:di (ui f s):=by
   unfold di ui;exact⟨nJ,rfl,nJ,.inl rfl,.inr (.inr (.inl rfl)),.inl rfl,aK,.inr rfl,.inl rfl⟩
  exact⟨sE a z32 (m16 f) qj av,a,rfl,by unfold ui;simp⟩
 exact h
def xC{c:J}{q:ah aR}{Tq:J}{m:a1}(h:m.wf/\di m/\m.a8=[]/\m.kind≠5):iV c q Tq m:=by
 refine⟨h.1,h.2.1,λhk=>?_,λhk=>absurd hk h.2.2.2⟩;have a:=h.2.1.2.2.2.2.2.2.1.2 hk;rw[h.2.2.1]at a;exact absurd a aK
def tick(h:LkI n k o T A l)(hk:k<2)(E:∀ x∈o,x.toNat<=63){c:J}(al:o.length<=T+c)(lead:aa):LkI (n+1) k o T A (c1 l lead).2/\(∀ m∈(c1 l lead).1,iV c o T m)/\(c1 l lead).1.length<=10:=by
 have y:LkI (n+1) k o T A (gu l):=by
  unfold gu qf;have⟨f,g,q,s,t,u,v,w,e,bO,i,d,j,p,r⟩:=h;split
  .exact⟨f,g,.inr (.inr rfl),by show 0<=l.b_+1/\l.b_+1<=_;omega,by show 0<=l.heard/\l.heard<=_;omega,by show 0<=l.eY/\l.eY<=_;omega,by show 0<=l.bad/\l.bad<=_;omega,by show 0<=l.e8/\l.e8<=_;omega,e,bO,i,d,j,p,r⟩
  exact⟨f,g,q,by show 0<=l.b_+1/\l.b_+1<=_;omega,by show 0<=l.heard/\l.heard<=_;omega,by show 0<=l.eY/\l.eY<=_;omega,by show 0<=l.bad/\l.bad<=_;omega,by show 0<=l.e8/\l.e8<=_;omega,e,bO,i,d,j,p,r⟩
 show LkI (n+1) k o T A (lX (gu l) lead).2/\(∀ m∈(lX (gu l) lead).1,iV c o T m)/\(lX (gu l) lead).1.length<=10;generalize gu l=b at y;have D:=y;have⟨f,g,q,s,t,u,v,w,e,bO,i,d,j,p,r⟩:=y;unfold lX;split
 .split
  .refine⟨⟨f,g,q,s,t,u,v,w,e,bO,i,d,j,p,r⟩,λm hm=>?_,aK⟩;have hm:=fL.1 hm;subst hm;have a:di vx:=bq;exact xC ⟨sE a z32 qj qj z32,a,rfl,bq⟩
  exact⟨D,(λm hm=>nomatch hm),aK⟩
 have j7:∀ m∈b.out,iV c o T m:=λm hm=>xC (p m hm);refine⟨⟨f,g,q,s,t,u,v,w,e,bO,i,d,j,(λ_ hm=>nomatch hm),aK⟩,?_,?_⟩
 .intro m hm;rcases e5.1 hm with hm|hm
  .exact j7 m hm
  split at hm
  .have hm:=fL.1 hm;subst hm;have a:di (mS b):=by
    unfold di mS;exact⟨nJ,rfl,nJ,.inr (.inl rfl),.inl rfl,.inl rfl,aK,.inl rfl,.inl rfl⟩
   exact xC ⟨sE a (by show 0<=b.bK/\b.bK<4294967296;omega) qj qj z32,a,rfl,by unfold mS;simp⟩
  have z:iV c o T (nr b):=by
   unfold nr;split
   .have a:di ⟨5,0,0,b.next%65536,[],0,0⟩:=by
     exact⟨nJ,rfl,nJ,.inl rfl,.inl rfl,.inr (.inr rfl),aK,.inl rfl,.inl rfl⟩
    exact⟨sE a z32 qj (m16 _) z32,a,λc=>by simp at c,λ_=>⟨T,c9 _,by rw[<-d]⟩⟩
   rename_i hne;have G:b.own.length=o.length-A:=by rw[bO];simp
   have C:b.own.length<=64:=U;have F:=qo.2 hne;have a:di ⟨3,0,b.c4%65536,b.next%65536,b.own,0,0⟩:=by
    refine⟨nJ,?_,nJ,.inl rfl,.inr (.inl rfl),.inr (.inl rfl),⟨λ_=>rfl,λ_=>F⟩,.inl rfl,.inl rfl⟩;unfold fits;rw[d',fg];exact⟨λx B=>ee (E x (by rw[bO]at B;exact zK B)),ee C⟩
   exact⟨sE a z32 (m16 _) (m16 _) z32,a,λ_=>⟨A,o.length-A,T,U,c9 _,U,by rw[<-e],by rw[<-d],by show b.own=_;rw[bO,nF aK],U⟩,λc=>by simp at c⟩
  unfold mB at hm;split at hm
  .rcases e6.1 hm with hm|hm
   .rw[hm];exact z
   have hm:=fL.1 hm;subst hm;have a:di (ob b lead):=by
    unfold di ob;exact⟨nJ,rfl,nJ,.inl rfl,.inr (.inr (.inr rfl)),.inl rfl,aK,.inl rfl,.inr rfl⟩
   exact xC ⟨sE a z32 (m16 _) qj z32,a,rfl,by unfold ob;simp⟩
  rw[fL.1 hm];exact z
 rw[cx];split
 .rw[iT];omega
 unfold mB;split
 .show _+2<=10;omega
 show _+1<=10;omega
end LkI
end
section
structure E9(n k c:J)(o q:ah aR)(T A Tq:J)(l:b9)(r:bG)(e:aa)(l':b9):ak where
 inv:∃ T' cB,LkI (n+1) k o T' cB l'/\T<=T'/\T'<=q.length/\A<=cB/\(cB=A\/cB<=Tq)/\(T'=T\/T'<=cB+c)/\(e≠0->r.a8=[])/\r.a8=(q.drop T).take (T'-T)/\(r.a8≠[]->r.ec=(T:aa))
 sum:0<=r.sum/\r.sum<4294967296
namespace LkI
variable{n k T A:J}{o:ah aR}{l:b9}
def ch(h:LkI n k o T A l)(y:o.length<=1000)(t:J)(aO:t<=1000):∃ cB,LkI n k o T cB (hK l ((t:aa)%65536))/\A<=cB/\(cB=A\/cB=t)/\(t<=o.length->t<=cB):=by
 have w:=h.dw;have s:min l.c4 1073741824=(A:aa):=by rw[h.ac];omega
 have a:l.own.length=o.length-A:=by rw[h.du];simp
 unfold hK;rw[s,G6 A t U aO];simp only;by_cases x:t<A\/o.length<t
 .rw[aD (by rw[h.ac,a];omega)];exact⟨A,h,c9 _,.inl rfl,λ_=>U⟩
 rw[az (by rw[h.ac,a];omega)];obtain⟨b,c,d,e,f,g,i,j,m,bO,u,p,v,q,r⟩:=h;refine⟨t,⟨b,c,d,e,f,g,i,j,rfl,?_,U,p,U,q,r⟩,U,.inr rfl,λ_=>c9 _⟩;rw[show((t:aa)-l.c4).toNat=t-A by rw[m];omega,bO,mF,show A+(t-A)=t by omega]
def bS(h:LkI n k o T A l)(q:ah aR)(B:T<=q.length)(E:q.length<=1000)(a e:J)(C:a+e<=q.length)(D:0<e)(m:a1)(av:m.cj=(a:aa)%65536)(aw:m.a8=(q.drop a).take e):∃ T' r l',ja l m=(r,(if T'=T then false else true),l')/\LkI n k o T' A l'/\T<=T'/\(T'=T\/T'=a+e)/\r.a8=(q.drop T).take (T'-T)/\(r.a8≠[]->r.ec=(T:aa))/\r.sum=0:=by
 have hm:min l.next 1073741824=(T:aa):=by rw[h.dG];omega
 have z:m.a8.length=e:=by rw[aw];simp;omega
 unfold ja;rw[hm,av,G6 T a U U];simp only[z];by_cases al:T<a\/a+e<=T
 .rw[aD (by rw[h.dG];omega)];exact⟨T,_,_,by rw[aD rfl],h,c9 _,.inl rfl,by simp[bG.zero],λc=>absurd rfl c,rfl⟩
 rw[az (by rw[h.dG];omega)];obtain⟨d,f,g,i,j,p,s,t,u,bO,v,b,w,x,y⟩:=h;refine⟨a+e,⟨m.kind,l.next,m.a8.drop (l.next-(a:aa)).toNat,0,0,0⟩,{l with next:=(a:aa)+(e:aa)},by rw[az U],⟨d,f,g,i,j,p,s,t,u,bO,v,by show(a:aa)+(e:aa)=((a+e:J):aa);omega,w,x,y⟩,U,.inr rfl,?_,λ_=>b,rfl⟩;rw[show(l.next-(a:aa)).toNat=T-a by rw[b];omega,aw,drop_take,mF,show a+(T-a)=T by omega,show e-(T-a)=a+e-T by omega]
def set(h:LkI n k o T A l)(hd g b t:aa)(h1:0<=hd/\hd<=n)(h2:0<=g/\g<=n)(r:0<=b/\b<=n)(s:0<=t/\t<=n):LkI n k o T A {l with heard:=hd,eY:=g,bad:=b,e8:=t}:=by
 have⟨a,c,d,e,u,v,w,x,f,bO,i,j,m,p,q⟩:=h;exact⟨a,c,d,e,h1,h2,r,s,f,bO,i,j,m,p,q⟩
theorem state(h:LkI n k o T A l)(s:aa)(av:s=0\/s=1\/s=2):LkI n k o T A {l with state:=s}:=by
 have⟨a,b,t,c,d,e,f,g,i,bO,j,m,p,q,r⟩:=h;exact⟨a,b,av,c,d,e,f,g,i,bO,j,m,p,q,r⟩
def X1(h:LkI n k o T A l)(D:o.length<=1000)(q:ah aR)(y:T<=q.length)(g':q.length<=1000){Tq c:J}(sd:Tq<=o.length){m:a1}(ok:iV c q Tq m):∃ T' cB,LkI n k o T' cB (cP l m).2.2/\T<=T'/\T'<=q.length/\A<=cB/\(cB=A\/cB<=Tq)/\(T'=T\/T'<=cB+c)/\(cP l m).1.a8=(q.drop T).take (T'-T)/\((cP l m).1.a8≠[]->(cP l m).1.ec=(T:aa))/\(0<=(cP l m).1.sum/\(cP l m).1.sum<4294967296)/\((cP l m).2.1=false->(cP l m).1.a8=[]):=by
 obtain⟨wf,s',a',fr⟩:=ok;have same:∀ {l':b9} {r:bG} {b:aY},cP l m=(r,b,l')->LkI n k o T A l'->r.a8=[]->(0<=r.sum/\r.sum<4294967296)->_:=λ{l' r b} e gf aw av=>(⟨T,A,by rw[e];exact gf,c9 _,y,c9 _,.inl rfl,.inl rfl,by rw[e];show r.a8=_;rw[aw];simp,λc=>absurd (by rw[e];exact aw) c,by rw[e];exact av,λ_=>by rw[e];exact aw⟩:∃ T' cB,LkI n k o T' cB (cP l m).2.2/\T<=T'/\T'<=q.length/\A<=cB/\(cB=A\/cB<=Tq)/\(T'=T\/T'<=cB+c)/\(cP l m).1.a8=(q.drop T).take (T'-T)/\((cP l m).1.a8≠[]->(cP l m).1.ec=(T:aa))/\(0<=(cP l m).1.sum/\(cP l m).1.sum<4294967296)/\((cP l m).2.1=false->(cP l m).1.a8=[]));have z:(0:aa)<=0/\(0:aa)<4294967296:=U;by_cases d:m.kind=1
 .refine same (show cP l m=_ by unfold cP;rw[aD d]) ?_ rfl z;split
  .exact h
  rename_i r';obtain⟨H,K,L,M,N,O,P,Q,R,bO,S,V,W,X,ps⟩:=h;refine⟨H,K,L,M,N,O,P,Q,R,bO,S,V,W,λx i=>?_,MA⟩;rcases e5.1 i with i|i
  .exact X x i
  rw[fL.1 i];have E:di ⟨2,m.bK,0,0,[],0,0⟩:=by
   exact⟨nJ,rfl,nJ,.inr (.inr rfl),.inl rfl,.inl rfl,aK,.inl rfl,.inl rfl⟩
  exact⟨sE E wf.bK qj qj z32,E,rfl,aK⟩
 by_cases j:m.kind=2
 .by_cases ar:m.bK=l.bK
  .exact same (show cP l m=_ by unfold cP;rw[az d,aD j,aD ar]) (h.state 1 (.inr (.inl rfl))) rfl z
  exact same (show cP l m=_ by unfold cP;rw[az d,aD j,az ar]) h rfl z
 by_cases B:m.kind=7
 .exact same (show cP l m=_ by unfold cP;rw[az d,az j,aD B]) (h.state 2 (.inr (.inr rfl))) rfl z
 by_cases av:l.state=1
 .have g:cP l m=hR l m:=by unfold cP;rw[az d,az j,az B,aD av]
  by_cases f:m.kind=3
  .have⟨a,e,t,hd,vl,v',h2,lb,mv,m'⟩:=a' f;have⟨cB,g1,w,Z,C⟩:=h.ch D t U;rw[<-lb]at g1;have⟨T',r,l',i1,i2,i3,p,F,i6,i7⟩:=g1.bS q y g' a e hd m' m h2 mv;have v:cP l m=(r,(if T'=T then false else true),l'):=by rw[g];unfold hR;rw[aD f,i1]
   rw[v];refine⟨T',cB,i2,i3,U,w,U,?_,F,i6,by show 0<=r.sum/\r.sum<_;omega,λaj=>?_⟩
   .rcases p with p|p
    .exact .inl p
    have:=C U;omega
   show r.a8=[];have aj:=aj;split at aj
   .rename_i Y;rw[F,Y];simp
   cases aj
  by_cases s:m.kind=4
  .exact same (show cP l m=_ by rw[g];unfold hR;rw[az f,aD s]) h rfl wf.sum
  by_cases u:m.kind=5
  .have⟨t,t1,t2⟩:=fr u;have⟨cB,g1,w,Z,C⟩:=h.ch D t U;rw[<-t2]at g1;have v:cP l m=(⟨5,0,[],0,0,0⟩,true,hK l m.ch):=by rw[g];unfold hR;rw[az f,az s,aD u]
   rw[v];exact⟨T,cB,g1,c9 _,y,w,U,.inl rfl,aK,λc=>absurd rfl c,z,λ_=>rfl⟩
  by_cases G:m.kind=6
  .exact same (show cP l m=_ by rw[g];unfold hR;rw[az f,az s,az u,aD G]) h rfl z
  exact same (show cP l m=_ by rw[g];unfold hR;rw[az f,az s,az u,az G]) h rfl z
 exact same (show cP l m=_ by unfold cP;rw[az d,az j,az B,az av]) h rfl z
def tL(h:LkI n k o T A l)(E:o.length<=1000)(q:ah aR)(d:T<=q.length)(F:q.length<=1000){Tq c:J}(B:Tq<=o.length){t:ah aR}(aO:(∃ m,t=dn m/\iV c q Tq m)\/(fw t).2≠0):E9 n k c o q T A Tq l (cJ l t).1 (cJ l t).2.1 (cJ l t).2.2:=by
 have z:(0:aa)<=0/\(0:aa)<4294967296:=U;have f:∀ {l':b9} {e:aa},cJ l t=(bG.zero,e,l')->LkI (n+1) k o T A l'->E9 n k c o q T A Tq l (cJ l t).1 (cJ l t).2.1 (cJ l t).2.2:=λ{l' e} C D=>by
  rw[C];exact⟨⟨T,A,D,c9 _,d,c9 _,.inl rfl,.inl rfl,λ_=>rfl,by show []=_;simp,λc=>absurd rfl c⟩,z⟩
 by_cases av:l.state=2
 .exact f (show cJ l t=_ by unfold cJ;rw[aD av]) h.up
 have h1:=h.hd;have h2:=h.eY;have v:=h.bad;have w:=h.e8;have x:=h.ot;by_cases b:(fw t).2≠0
 .exact f (show cJ l t=_ by unfold cJ;rw[az av,aD b]) (h.up.set l.heard l.eY (l.bad+1) l.e8 U U U U)
 rcases aO with⟨m,rfl,ok⟩|aO
 .have G:=CX m ok.2.1 ok.1;have u:cJ l (dn m)=if (cP {l with heard:=l.b_} m).2.1 then((cP {l with heard:=l.b_} m).1,0,{(cP {l with heard:=l.b_} m).2.2 with eY:=(cP {l with heard:=l.b_} m).2.2.eY+1})else(bG.zero,0,{(cP {l with heard:=l.b_} m).2.2 with e8:=(cP {l with heard:=l.b_} m).2.2.e8+1}):=by
   unfold cJ;rw[az av,az b,G]
  have⟨T',cB,a,g,i,j,p,r,s,K,L,H⟩:=(h.set l.b_ l.eY l.bad l.e8 x h2 v w).X1 E q d F B ok;rw[u];have g1:=a.hd;have M:=a.eY;have N:=a.bad;have O:=a.e8;split
  .exact⟨⟨T',cB,a.up.set _ _ _ _ U U U U,g,i,j,p,r,λc=>absurd rfl c,s,K⟩,L⟩
  rename_i aj;have aw:=H (by simpa using aj);have y:T'=T:=by
   rw[s]at aw
   have:=cV length aw
   exact Ma
  exact⟨⟨T',cB,a.up.set _ _ _ _ U U U U,g,i,j,p,r,λ_=>rfl,by show []=_;rw[y];simp,λc=>absurd rfl c⟩,z⟩
 exact absurd aO b
end LkI
end
def Gf(w:ai)(b cap:J)(l:ah aR)(k:J)(c:aR)(hk:k<l.length)(a:∀ i (h:i<l.length),w.cell? (ad b i ab)=some (aF l[i].toNat)):(convert 51 9 (aq (some (ad b 0 ab)) l.length cap)).run prog (w.setCell (ad b k ab) (aF c.toNat))=.ok (.string ⟨(l.set k c).toArray⟩) (w.setCell (ad b k ab) (aF c.toNat)):=by
 have h:=Dz (P:=prog) (w.setCell (ad b k ab) (aF c.toNat)) 51 9 5 (ad b 0 ab) cap (l.set k c) underlying51 underlying5 underlying9 (by
  intro j f;have d:j<l.length:=by simpa using f
  have dS:((ad b 0 ab):Addr).add j=(ad b j ab):=by rw[h3,gC]
  rw[dS];by_cases e:k=j
  .subst e;rw[wS _ _ _ (a k hk)];simp
  .rw[Dv _ _ _ _ aK,a j d];simp[w1 e])
 simpa using h
def ic(x:aa)(n:J):J:=if x.tmod n<0 then(x.tmod n+n).toNat else(x.tmod n).toNat
def Yg(x:aa)(n:J)(a:0<n):-(n:aa)<x.tmod n/\x.tmod n<n:=by
 have c:=Yf x n;by_cases h:0<=x
 .rw[c.1 h]
  have:=LF x (show(0:aa)<n by omega)
  have:=DG x (show(n:aa)≠0 by omega)
  omega
 rw[c.2 U]
 have:=LF (-x) (show(0:aa)<n by omega)
 have:=DG (-x) (show(n:aa)≠0 by omega)
 omega
def CV(x:aa)(n:J)(a:0<n)(h1:n<=256):∃ r:aa,x.tmod (n:aa)=r/\((r<0/\wrap64 (r+n)=(ic x n:aa)/\ic x n<n)\/(0<=r/\r=(ic x n:aa)/\ic x n<n)):=by
 have h:=Yg x n a;refine⟨x.tmod n,rfl,?_⟩;unfold ic;split
 .left;unfold wrap64;omega
 right;omega
def lY(x:aR)(b:J):aR:=UInt8.ofNat (x.toNat ^^^ b)
def Zh(x:aR)(b:J)(aj:b<256):bits .xor .u8 (x.toNat:aa) (b:aa)=((lY x b).toNat:aa):=by
 rw[u8_xor_nat _ b x.toNat_lt aj,lY];simp[jh (LK (n:=8) x.toNat_lt aj),-UInt8.toNat_xor,-UInt8.ofNat_xor]
def sB(l:ah aR)(x:aa)(b:J):ah aR:=l.set (ic x l.length) (lY (l.getD (ic x l.length) 0) b)
def ph(t:cc)(x:aa)(b:J):cc:=⟨(sB t.data.toList x b).toArray⟩
section
variable{w w':ai}{c m most:J}{s:cT}
def O0(h:eS w c most s)(toq i x:aa)(b:J)(ar:fP s toq i=none):aA 100 #[c,I toq,I i,I x,aF b] w λe w'=>e=aV #[.string ByteArray.empty,false]/\eS w' c most s/\Keeps (hh c) w w':=by
 have a:=ts h toq i;rw[ar,CN ar]at a
 go_in
 go_wp2_with fail;refine aU a ?_;rintro aC ⟨h2,d⟩;go_wp2;go_ret2;exact⟨rfl,h2,d⟩
def OZ(h:eS w c most s)(toq i x:aa)(b:J)(aj:b<256)(v:cc)(ar:fP s toq i=some v)(N:0<v.size)(O:v.size<=256):aA 100 #[c,I toq,I i,I x,aF b] w λe w'=>e=aV #[.string (ph v x b),true]/\eS w' c most (fH s toq i)/\Keeps (hh c) w w':=by
 have p:=ts h toq i;rw[ar,show CK (some v)=Value.string v from rfl]at p;have eB:=af p;have l:v.data.toList.length=v.size:=aK;obtain⟨r,F,m⟩:=CV x v.data.toList.length U U;have j:=af (show ic x v.data.toList.length<v.data.toList.length by rcases m with⟨_,_,h⟩|⟨_,_,h⟩<;>exact h);have gw:=af (show sB v.data.toList x b=v.data.toList.set (ic x v.data.toList.length) (lY (v.data.toList[ic x v.data.toList.length]'j.out) b)by unfold sB;rw[oD,gl j.o];rfl);generalize ic x v.data.toList.length=k at *;have hk:=j.o;have P:=Zh (v.data.toList[k]'hk) b aj;unfold ph;rw[gw.o];rw[l]at m F;generalize K:v.data.toList[k]=z at *;generalize H:lY z b=y at *;generalize C:v.data.toList.set k y=M at *;have f:=af K;have n:=af H;have cF:=af C;rcases m with⟨h1,h2,_⟩|⟨h1,rfl,_⟩
 .go_in
  go_wp2_with fail;refine aU eB.out ?_;rintro aC ⟨t,B⟩;have⟨cap,ao,E,D,u,G,d,q⟩:=xR aC v;have al:=d k U;have L:=q k U;have a:=Gf ao aC.heap.size cap v.data.toList k (lY (v.data.toList[k]'hk) b) hk (λi h=>d i U);rw[f.out,n.out,cF.out]at a;rw[f.out]at al;have g:eS (ao.setCell (ad aC k ab) (aF y.toNat)) c most (fH s toq i)/\Keeps (hh c) w (ao.setCell (ad aC k ab) (aF y.toNat)):=by
   exact No
  rw[l]at a;go_wp2;go_ret2;exact⟨rfl,g⟩
 go_in
 go_wp2_with fail;refine aU eB.out ?_;rintro aC ⟨t,B⟩;have⟨cap,ao,E,D,u,G,d,q⟩:=xR aC v;have al:=d k U;have a:=Gf ao aC.heap.size cap v.data.toList k (lY (v.data.toList[k]'hk) b) hk (λi h=>d i U);rw[f.out,n.out,cF.out]at a;rw[f.out]at al;have g:eS (ao.setCell (ad aC k ab) (aF y.toNat)) c most (fH s toq i)/\Keeps (hh c) w (ao.setCell (ad aC k ab) (aF y.toNat)):=by
  exact No
 rw[l]at a;go_wp2;go_ret2;exact⟨rfl,g⟩
end
end Go.Proofs.YtalagblioepadaaGreatDoor
