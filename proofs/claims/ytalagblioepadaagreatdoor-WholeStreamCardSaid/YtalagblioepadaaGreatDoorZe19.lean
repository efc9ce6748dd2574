/- The proof, part 19. -/
import Derived.Test.YtalagblioepadaaGreatDoorZe17
import Derived.Test.YtalagblioepadaaGreatDoorZe18
namespace Go.Proofs.YtalagblioepadaaGreatDoor
set_option linter.all false
open Proofs.Tryz List Go.RowKit
set_option maxRecDepth 100000
set_option maxHeartbeats 8000000
variable{ww:Prop}
def o5(h:ww:=by simp only[];omega):=h
def QO(h:ww:=by show(l.out++[_]).length<=8;rw[cG,jG];omega):=h
def C3(h:ww:=by simp[aU,results,results102,asAddr,loadVar,loadCells,isAgg199,sizeOf199,fo]):=h
def zF(h:ww:=by simp[aU,results,results247,asAddr,loadVar,loadCells,isAgg199,sizeOf199,y]):=h
variable{xs:ai jo}{L q:ai aR}{l' ds:cj}{Tq b bt r:J}{S:J->ae}{a:cr Addr}{V V' W:aj}
variable{w:aj}{B:j3}{l:cj}
def rS(l:cj):cj:={l with cA:=l.cA+1}
def js(l:cj):cj:=if (rS l).fg<(rS l).cA-(rS l).heard then {rS l with state:=2}else rS l
def dG(l:cj)(lead:U):ai ba×cj:=ns (js l) lead
def nw(a:ai ba):ai ay:=a.map λm=>Value.string ⟨(ec m).toArray⟩
def Xj(w:aj)(B:j3)(l:cj)(lead:U)(e:Ending)(w':aj):ae:=
 (∃ A cap,e=.returned (.slice A (dG l lead).1.length cap)/\ey w' 1 A (dG l lead).1.length cap (nw (dG l lead).1)/\∀ y,A=some y->w<=y.block)/\cW w' B (dG l lead).2/\ag B.S w w'
def abD:(prog.info? 9).map (λi=>(i.zero,i.size,i.bytes))=some (some (.string ByteArray.empty),1,16):=bc
theorem KI{w w':aj}{c:J}(h:dy w a c L)(al:Below w w w'):dy w' a c L:=
 h.keeps (S:=aH) (ag.bU al a1) (λ_ _ _=>id)
def ZY{k:J}{x:jo}(h:xs[k]?=some x)(j:J)(c:j<7):(lk xs)[k*7+j]?=(lV x).toList[j]?:=by
 induction xs generalizing k with
 | nil=>simp at h
 | cons y ys a=>
  have b:(lV y).toList.length=7:=rfl;unfold lk at a⊢;rw[jY];cases k with
  | zero=>
   simp only[lA,jn]at h;subst h;rw[jF I]
   congr 1
   omega
  | succ k=>
   rw[kB]at h;rw[l6 I,b,<-a h]
   congr 1
   omega
def uG{a wr:aj}{b6 o cap:J}(h:D4 b a (dk b6 o) cap xs)(al:Below a a wr)(k:J)(x:jo)(ak:xs[k]?=some x)(j:J)(c:j<7)(u:ay)(d:(lV x).toList[j]?=some u):wr.cell? (ah b6 (o+k*7+j))=some u:=by
 rw[jZ];have hk:=(ir.1 ak).1;have⟨f,g,e,an⟩:=h.bC.at' I;cases e
 have:=an (k*7+j) u (by rw[ZY ak j c,d])
 exact(ag.bU (S:=aH) al a1).cell this id
def M7(h:cW w B l)(lead:U)(aW:0<=l.cA/\l.cA<=1000000)(aT:0<=l.heard/\l.heard<=1000000)(mn:∀ m∈l.out,m.bm=[])(hm:∀ m∈(dG l lead).1,m.wf/\dR m)(aw:(dG l lead).1.length<=100):aB 85 #[B.p,aa lead] w (Xj w B l lead):=by
 have e4:=h.e4;have K:=h.free 4;have b:=h.set 4 (aa (l.cA+1)) (rS l) rfl rfl rfl;have q:=ag.setCell (S:=B.S) (ag.refl _ w) (p:=ah B.p 4) (.inl rfl) (aa (l.cA+1));have H:=ad h;obtain⟨i0,av,ys,zd,zp⟩:∃ i,prog.info? 9=some i/\i.zero=some (.string ByteArray.empty)/\i.size=1/\i.bytes=16:=by
  have h:=abD;cases aT:prog.info? 9 with
  | none=>rw[aT]at h;cases h
  | some i=>rw[aT]at h;simp only[r7,jn,mM]at h;exact⟨i,rfl,h.1,h.2.1,h.2.2⟩
 have hd:=ad av;by_cases ao:l.fg<l.cA+1-l.heard
 focus
  have g:js l={rS l with state:=2}:=by unfold js;rw[aD (by exact ao)]
  go_in
  go_wp2_with fail;generalize w.setCell (ah B.p 4) (aa (l.cA+1))=aq at *;have u:aq.cell? (ah B.p 4)=some (aa (l.cA+1)):=b.e4;have z:aq.cell? (ah B.p 5)=some (aa l.heard):=b.hA;have d1:aq.cell? (ah B.p 1)=some (aa l.fg):=b.bP;go_quiet (fail);have d2:=(b.drew nq).bB;have g2:=(b.drew nq).free 2;have j:=(b.drew nq).set 2 (aa 2) (js l) (by rw[g];rfl) (by rw[g]) (by rw[g]);have n:=ag.setCell (S:=B.S) (q.drewN nq) (p:=ah B.p 2) (.inl rfl) (aa 2);go_wp2_with fail;clear u z d1 d2 g2 b q e4 K;generalize (aq.drewN nq).setCell (ah B.p 2) (aa 2)=br at *
 rotate_left
 focus
  have g:js l=rS l:=by unfold js;rw[az (by exact ao)]
  go_in
  go_wp2_with fail;generalize w.setCell (ah B.p 4) (aa (l.cA+1))=aq at *;have u:aq.cell? (ah B.p 4)=some (aa (l.cA+1)):=b.e4;have z:aq.cell? (ah B.p 5)=some (aa l.heard):=b.hA;have d1:aq.cell? (ah B.p 1)=some (aa l.fg):=b.bP;go_quiet (fail);have j:=b.drew nq;rw[<-g]at j;have n:=q.drewN nq;clear g;go_wp2_with fail;clear u z d1 b q e4 K;generalize aq.drewN nq=br at *
 rotate_left
 all_goals
  have R:0<=(js l).cA/\(js l).cA<=1099511627776:=by
   have:(js l).cA=l.cA+1:=by unfold js;split<;>rfl
   rw[this];omega
  have Q:∀ m∈(js l).out,m.bm=[]:=by
   have:(js l).out=l.out:=by unfold js;split<;>rfl
   rw[this];exact mn
  refine(acA j lead R Q).mono ?_;rintro e f ⟨⟨A,cap,xs,rfl,ax,E⟩,P,W⟩;have t:=n.trans W;have fr:=ad P;have fo:=ad t;have D:xs.length=(dG l lead).1.length:=by
   have:=c6 length E
   rwa [iP]at this
  have v':w<=f.heap.size:=t.size;have ajS:∀ y,A=some y->w<=y.block:=λy e=>cu n.size (ax.new y e);have d:=ad ax;have G:=ad (show xs.map jo.m=(dG l lead).1 from E);have h2:=ad hm;have l':=ad aw;clear R Q ax P W t j n hm mn E aw;have ajT:xs.length<=100:=by rw[D];exact l'.o
  go_wp2_with fail;go_loopw [5,40] (λv i wr=>∃ k:J,k<=xs.length/\i=aa k/\wr.ownsRow f 9 1 v k (nw ((xs.take k).map jo.m))/\Below f f wr) (λ_ i _=>xs.length-(intOf i).toNat)
  case atStart=>exact⟨0,c3 _,rfl,il _ _ _ _,b9 _ _⟩
  obtain⟨k,V,rfl,X,hk⟩:=hrel;by_cases vl:k<xs.length
  .obtain⟨x,ak⟩:∃ x,xs[k]?=some x:=⟨xs[k],gW vl⟩;obtain⟨b6,o,rfl,_⟩:=d.o.bC.at' I;have Q':wr.cell? (ah b6 (o+k*7))=some (aa x.m.kind):=uG d.o hk k x ak 0 I (aa x.m.kind) rfl;have Tq:=uG d.o hk k x ak 1 I (bz x.m.cw) rfl;have TS:=uG d.o hk k x ak 2 I (c7 x.m.en) rfl;have T':=uG d.o hk k x ak 3 I (c7 x.m.ee) rfl;have V':=uG d.o hk k x ak 4 I (au x.a x.m.bm.length x.c) rfl;have W':=uG d.o hk k x ak 5 I (bz x.m.sum) rfl;have ajR:=uG d.o hk k x ak 6 I (aa x.m.lead) rfl;have r:(x.m).wf/\dR x.m:=h2.o x.m (by rw[<-G.o];exact gO.2 ⟨x,mK ak,rfl⟩);have M:=KI (d.o.bm x (mK ak)).1 hk;have L:Br x.m=0:=by unfold Br;rw[aD r.2]
   have F:Bs x.m=ec x.m:=by unfold Bs;rw[aD r.2]
   have gf:nw ((xs.take (k+1)).map jo.m)=nw ((xs.take k).map jo.m)++[.string ⟨(ec x.m).toArray⟩]:=by
    rw[take_add_one,ak];simp[nw]
   refine ob;have Z:=hk.size;clear gf hk;refine aK;have r':Below f wr (wr.alloc (ab (lV x) 254)):=(b9 _ wr).alloc Z _;refine aS (aiX x.m (KI M ((b9 _ wr).alloc bu _)) r.1) λs T=>?_;rw[L,F];have C:ag aH wr s:=((bd wr).alloc _).trans (ag.bU T a1);clear L F r' T M r Q' Tq TS T' V' W' ajR;have ajU:=C.size;generalize ec x.m=fa at *;have w':=PN s (.string ⟨fa.toArray⟩) 9;have Y:=b7 X C (λ_ _=>id);go_wp2_with (at_builtin;refine G1 _ rfl (.tmp 51) (.tmp 53) _ rfl f 9 i0 _ 1 16 underlying33 hd.o ys zd zp rfl I _ k _ rfl (b7 Y ((bd _).alloc _) (λ_ _=>id)) (bT _) 1 1 [.string ⟨fa.toArray⟩] rfl w' p7 qU I b_ ?_);intro v1 a' vs sd _;have s':ag (λk=>f<=k) s a':=((ag.refl _ s).alloc _).grown sd (λk V=>.inl (Y.lt k V).1);have se:ag (λk=>f<=k) wr a':=c1 (C.mono λ_ _ x=>x.elim) s' (λk _ h=>h);have m':=lb.o.trans (se.below Z a1);refine aK;go_roundw
   case rel=>exact⟨k+1,I,cT,by rw[g'.o];simpa using vs,m'⟩
   simp[intOf];omega
  obtain rfl:k=xs.length:=I;obtain⟨cV,mv,rfl,N,ps⟩:=dA X;rw[qS,G.o]at N;refine ed;refine aK;go_ret;refine⟨⟨cV,mv,by rw[<-D];rfl,N,λy e=>cu v' (ps y e).1⟩,fr.o.below hk,?_⟩;exact c1 fo.o (ag.bU (S:=aH) hk a1) (λk _ h=>h.elim)
def iR(l:cj)(s:U):cj:=
 let p:=e8 (min l.du 1073741824) s
 if p.2≠0\/p.1<l.du\/l.du+l.own.length<p.1 then l else {l with du:=p.1,own:=l.own.drop (p.1-l.du).toNat}
def acx(h:cW w B l)(s:U)(bg:0<=l.du/\l.du<=1073741824):aB 305 #[B.p,c7 s] w λe w'=>e=aV #[]/\cW w' B (iR l s)/\ag B.S w w':=by
 have dv:=h.dv;have eI:=h.eI;have T:min l.du 1073741824=l.du:=I;unfold iR;rw[T];have z:(lx l.own).length=l.own.length:=by simp[lx]
 have R:=h.own.le.1;rw[z]at R;have Y:IntKind.i64.wrap (l.du+(l.own.length:U))=l.du+(l.own.length:U):=by
  exact DC
 have c:=λn=>yt (h.drew n).own;rw[z]at c;have v:=λW=>Gi l.du s W;generalize ao:e8 l.du s=p at *;have⟨f,ca⟩:=p;simp only at *;have i:=ad c;have j:=ad v;have H:=ad h;clear h c v ao;by_cases h1:ca≠0
 .rw[aD (.inl h1)];refine DJ;exact Iu
 have h1:ca=0:=I;subst h1;by_cases h2:f<l.du
 .rw[aD (.inr (.inl h2))];exact Iu
 by_cases N:l.du+l.own.length<f
 .rw[aD (.inr (.inr N))];exact Iu
 rw[az I];obtain⟨d,hd⟩:∃ d:J,f=l.du+d:=⟨(f-l.du).toNat,I⟩;subst hd;rw[show(l.du+(d:U)-l.du).toNat=d by omega];have V:d<=l.own.length:=I
 go_in
 go_wp2_with fail;refine bJ (j.o _) ?_;go_wp2_with fail;go_quiet ((go_at_call 55;exact(i.o _).mono λ_ _ h=>⟨h.1,_,h.2.symm⟩));go_wp2_with fail
 all_goals try (exfalso;omega)
 have P:=H.o.drew nq;have Q:=(ag.refl B.S w).drewN nq;generalize w.drewN nq=aq at *;clear eI dv i j;have m:decide (l.own.length<d)=false:=b_;have u:decide (l.du+(d:U)<l.du)=false:=b_;simp only[m,u,zb];clear m u;go_loopg [] d (λg wr=>∃ k:J,g=d-k/\k<=d/\cW wr B {l with du:=l.du+k,own:=l.own.drop k}/\ag B.S w wr)
 case atStart=>exact⟨0,rfl,c3 _,by simpa using P,Q⟩
 obtain⟨k,rfl,hk,y,F⟩:=hrel;have dv:=y.dv;have eI:=y.eI;have M:=y.free 7;by_cases X:k<d
 .have x:l.own.drop k=l.own[k] :: l.own.drop (k+1):=qO I;have q:=y.own;rw[show lx (l.own.drop k)=((l.own[k]).toNat:U) :: lx (l.own.drop (k+1))by rw[x];rfl]at q;have a:=ad y;have G:=ad F;clear y F x;refine aK;refine aS (abQ q) λaF ⟨ar,K⟩=>?_;have t:=a.o.FJ (L:=l.own.drop (k+1)) (l':={l with du:=l.du+k,own:=l.own.drop (k+1)}) ar K rfl rfl rfl;have E:=t.set 7 (aa (l.du+k+1)) {l with du:=l.du+(k+1:J),own:=l.own.drop (k+1)} (by simp[nd];omega) rfl rfl;have D:=G.o.trans (K.mono λb _ h=>h.elim (λe=>.inr (.inl e)) (λe=>.inr (.inr (.inl e))));have r:=ag.setCell (S:=B.S) D (p:=ah B.p 7) (.inl rfl) (aa (l.du+k+1));have dv:=t.dv;have M:=t.free 7;have A:=ad E;have C:=ad r;refine I0;go_roundg (d-(k+1))
  case rel=>exact⟨k+1,I,I,A.o,C.o⟩
  omega
 obtain rfl:k=d:=I;have a:=ad y;refine zU;exact TX
structure bY where
 kind:U
 e8:U
 bm:ai aR
 frame:U
 sum:U
 lead:U
def bY.zero:bY:=⟨0,0,[],0,0,0⟩
def aU(h:bY)(a:cr Addr)(c:J):a6 ay:=#[aa h.kind,aa h.e8,au a h.bm.length c,aa h.frame,bz h.sum,aa h.lead]
def vB(bt:J)(w:aj)(B:j3)(h:bY)(ok:ay)(l':cj)(e:Ending)(w':aj):ae:=
 (∃ a c,e=aV #[.agg (aU h a c),ok]/\dy w' a c h.bm/\∀ x,a=some x->bt<=x.block)/\cW w' B l'/\ag B.S w w'
def kb(l:cj)(m:ba):bY×aY×cj:=
 let p:=e8 (min l.next 1073741824) m.en
 if p.2≠0\/l.next<p.1\/p.1+m.bm.length<=l.next then(bY.zero,false,l)else(⟨m.kind,l.next,m.bm.drop (l.next-p.1).toNat,0,0,0⟩,true,{l with next:=p.1+m.bm.length})
def hE{vs:a6 ay}(h:W.heap[b]?=some (ab vs 199 (0,0)))(aA:vs.size=6)(v0 v1 v2 g i j:ay):((((((W.setCell (ah b 0) v0).setCell (ah b 1) v1).setCell (ah b 2) v2).setCell (ah b 3) g).setCell (ah b 4) i).setCell (ah b 5) j).heap[b]?=some (ab #[v0,v1,v2,g,i,j] 199 (0,0)):=by
 rw[bX (bX (bX (bX (bX (bX h 0 v0) 1 v1) 2 v2) 3 g) 4 i) 5 j];have⟨vs⟩:=vs
 match vs,aA with
 | [a,b,c,d,e,f],_=>rfl
theorem tY{w:aj}(h:ag S w W)(al:w.heap.size<=b)(v0 v1 v2 a c d:ay):ag S w ((((((W.setCell (ah b 0) v0).setCell (ah b 1) v1).setCell (ah b 2) v2).setCell (ah b 3) a).setCell (ah b 4) c).setCell (ah b 5) d):=
 (((((h.pL (p:=ah b 0) al v0).pL (p:=ah b 1) al v1).pL (p:=ah b 2) al v2).pL (p:=ah b 3) al a).pL (p:=ah b 4) al c).pL (p:=ah b 5) al d
theorem Fi{w:aj}(h:ag S w W)(al:S b)(v0 v1 v2 a c d:ay):ag S w ((((((W.setCell (ah b 0) v0).setCell (ah b 1) v1).setCell (ah b 2) v2).setCell (ah b 3) a).setCell (ah b 4) c).setCell (ah b 5) d):=
 (((((h.setCell (p:=ah b 0) al v0).setCell (p:=ah b 1) al v1).setCell (p:=ah b 2) al v2).setCell (p:=ah b 3) al a).setCell (p:=ah b 4) al c).setCell (p:=ah b 5) al d
def LU(a b:U):0<=(e8 a b).1/\(e8 a b).1<=1073741824:=by
 unfold e8;simp only[]
 (repeat' split)<;>simp only[]<;>omega
def abG(h:cW w B l)(m:ba){c:J}(aw:0<=l.next/\l.next<=1073741824)(hm:m.bm.length<=1000000)(f ca:U)(k:∀ W,aB 307 #[aa l.next,c7 m.en] W λe w'=>e=aV #[aa f,aa ca]/\W=w')(r:0<=f/\f<=1073741824)(i:ca≠0\/l.next<f\/f+m.bm.length<=l.next):aB 306 #[B.p,(aG (fV m a c))] w (vB bt w B bY.zero (.bool false) l):=by
 have gQ:=h.gQ;have n:=h.free 8;have t:min l.next 1073741824=l.next:=I;have s:=h.lt.1;have M:=ad k;have H:=ad h;clear h k;by_cases h1:ca≠0
 .clear i;refine DJ;exact WN
 have h1:ca=0:=I;subst h1;by_cases h2:l.next<f
 .clear i;exact WN
 have u:IntKind.i64.wrap (f+(m.bm.length:U))=f+(m.bm.length:U):=by
  exact DC
 have q:f+m.bm.length<=l.next:=I;clear i
 go_in
 go_wp2_with fail;go_quiet ((go_at_call 307;exact(M.o _).mono λ_ _ h=>⟨h.1,_,h.2.symm⟩));go_wp2_with fail;go_quiet (fail);go_wp2_with fail
 all_goals try (exfalso;omega)
 rename_i d _ _;have b:=(((bd w).alloc (ab (fV m a c) 254)).alloc (ab (aU bY.zero none 0) 199)).drewN (d+nq);have j:(((w.alloc (ab (fV m a c) 254)).alloc (ab (aU bY.zero none 0) 199)).drewN (d+nq)).heap[w.heap.size+1]?=some (ab (aU bY.zero none 0) 199 (0,0)):=by
  exact TY
 have g:=fN _ _ _ _ (hE j rfl (aa 0) (aa 0) (au none 0 0) (aa 0) (bz 0) (aa 0)) 6 rfl;simp only[aU,bY.zero,gN]at g;refine dH (v:=aV #[.agg (aU bY.zero none 0),false]) QZ rfl ?_;exact⟨⟨none,0,rfl,ql _,λ_ e=>nomatch e⟩,H.o.keeps (tY b (va _) _ _ _ _ _ _) (λ_ _ h=>h),(tY b (va _) _ _ _ _ _ _).mono λ_ _ h=>h.elim⟩
def Y1(X:aj):X.drew.heap=X.heap:=rfl
def KK{c:J}(h:dy w a c L)(f:w.heap[B.p]?=some (ab (nd B l) 124 (0,0)))(hne:L≠[])(x:Addr)(ak:a=some x):x.block≠B.p:=by
 obtain⟨b,o,rfl,an⟩:=h.at' hne;cases ak;intro e;simp only at e;refine UZ;have h1:(nd B l)[o]?=some (eW (L[0]'(tf.2 hne))):=by simpa using d
 unfold nd eW at h1
 match o,h1 with
 | 0,h1=>simp at h1
 | 1,h1=>simp at h1
 | 2,h1=>simp at h1
 | 3,h1=>simp at h1
 | 4,h1=>simp at h1
 | 5,h1=>simp at h1
 | 6,h1=>simp at h1
 | 7,h1=>simp at h1
 | 8,h1=>simp at h1
 | 9,h1=>simp at h1
 | 10,h1=>simp at h1
 | 11,h1=>simp at h1
 | 12,h1=>simp at h1
 | o+13,h1=>simp at h1
def abH(h:cW w B l)(m:ba){c:J}(K:∀ x,a=some x->bt<=x.block)(al:dy w a c m.bm)(aw:0<=l.next/\l.next<=1073741824)(hm:m.bm.length<=1000000)(f:U)(C:∀ W,aB 307 #[aa l.next,c7 m.en] W λe w'=>e=aV #[aa f,aa 0]/\W=w')(se:0<=f/\f<=1073741824)(h2:¬ l.next<f)(sd:¬ f+m.bm.length<=l.next):aB 306 #[B.p,(aG (fV m a c))] w (vB bt w B ⟨m.kind,l.next,m.bm.drop (l.next-f).toNat,0,0,0⟩ (.bool true) {l with next:=f+m.bm.length}):=by
 have gQ:=h.gQ;have A:=h.free 8;have v':min l.next 1073741824=l.next:=I;have s':=h.lt.1;have O:=ad C;have H:=ad h;clear h C;have zp:IntKind.i64.wrap (f+(m.bm.length:U))=f+(m.bm.length:U):=by
  exact DC
 have⟨d,hd⟩:∃ d:J,l.next-f=d:=⟨(l.next-f).toNat,I⟩;have s:d<m.bm.length:=I;have⟨a',ys,N,E⟩:=al.drop d I;have V:=ad (show ∀ x,a'=some x->bt<=x.block from λx ak=>by obtain⟨y,a8,g'⟩:=E x ak;have:=K y a8;omega);clear K;have lb:(l.next-f).toNat=d:=I;rw[lb]
 go_in
 go_wp2_with fail;go_quiet ((go_at_call 307;exact(O.o _).mono λ_ _ h=>⟨h.1,_,h.2.symm⟩));go_wp2_with fail;go_quiet (fail);go_wp2_with fail
 all_goals try (exfalso;omega)
 have zd:IntKind.i64.wrap (l.next-f)=(d:U):=by
  exact DC
 generalize g:World.drewN (World.drewN (World.alloc (World.alloc w _) _) _) _=W;have t:ag aH w W:=by
  rw[<-g];exact((((bd w).alloc _).alloc _).drewN _).drewN _
 have q:W.heap[w.heap.size+1]?=some (ab (aU bY.zero none 0) 199 (0,0)):=by
  rw[<-g];exact RW
 have z:W.heap[w.heap.size]?=some (ab (fV m a c) 254 (0,0)):=by
  rw[<-g];exact b2 (aP w (ab (fV m a c) 254)) (ab (aU bY.zero none 0) 199)
 have L:W.heap.size=w.heap.size+2:=by rw[<-g];simp
 clear g gQ A;have j:=H.o.keeps t (λ_ _ h=>h);have m':B.p<W.heap.size:=I;have vl:w.heap.size<W.heap.size:=I;have vs:w.heap.size+1<W.heap.size:=I;have gQ:=j.gQ;have A:=j.free 8;have cx:=aX z;have dQ:=λk=>gY q k;have Q':=dQ 0;have Tq:=dQ 1;have TS:=dQ 2;have T':=dQ 3;have V':=dQ 4;have W':=dQ 5;have dq:=aX q;clear dQ;have r:=N.keeps t (λ_ _ _=>id);have Q:=ad j;have T:=ad t;have P:=ad q;have ps:=ad z;have r':=ad L;have R:=ad r;clear j t q z L r
 go_region
 go_wp2_with fail;generalize n:World.drew _=u;have D:=eB (p:=ah B.p 8) P.o (by show w.heap.size+1≠B.p;omega) (aa (f+(m.bm.length:U)));have Y:u.heap[w.heap.size+1]?=some (ab #[aa m.kind,aa l.next,au a' (m.bm.length-d) (c-d),aa 0,bz 0,aa 0] 199 (0,0)):=by
  rw[<-n,Y1];exact b2 (hE D rfl (aa m.kind) (aa l.next) (au a' (m.bm.length-d) (c-d)) (aa 0) (bz 0) (aa 0)) _
 have fr:=fN _ _ _ _ Y 6 rfl;have ax:=Q.o.set 8 (aa (f+(m.bm.length:U))) {l with next:=f+m.bm.length} rfl rfl rfl;have F:ag B.S w _:=ag.setCell (S:=B.S) (T.o.mono λ_ _ h=>h.elim) (p:=ah B.p 8) (.inl rfl) (aa (f+(m.bm.length:U)));have Z:ag B.S w u:=by
  rw[<-n];have M:=tY (b:=w.heap.size+1) F (Nat.le_add_right _ 1) (aa m.kind) (aa l.next) (au a' (m.bm.length-d) (c-d)) (aa 0) (bz 0) (aa 0);exact St
 have G:ag (λb=>b=w+1) (W.setCell (ah B.p 8) (aa (f+(m.bm.length:U)))) u:=by
  rw[<-n];have M:=Fi (S:=λb=>b=w.heap.size+1) (b:=w.heap.size+1) (ag.refl _ (W.setCell (ah B.p 8) (aa (f+(m.bm.length:U))))) rfl (aa m.kind) (aa l.next) (au a' (m.bm.length-d) (c-d)) (aa 0) (bz 0) (aa 0);exact St
 have fo:=(ag.setCell (S:=λb=>b=B.p\/b=w.heap.size+1) (ag.refl _ W) (p:=ah B.p 8) (.inl rfl) (aa (f+(m.bm.length:U)))).trans (G.mono λ_ _ h=>.inr h);clear n F D;refine dH (v:=aV #[.agg (aU ⟨m.kind,l.next,m.bm.drop d,0,0,0⟩ a' (c-d)),true]) (by simp[aU,results,results306,asAddr,loadVar,loadCells,isAgg199,sizeOf199,fr]) rfl ?_;refine⟨⟨a',c-d,rfl,R.o.keeps fo ?_,V.o⟩,ax.keeps (S:=λb=>b=w.heap.size+1) G ?_,Z⟩
 .intro _ x ak gf;obtain⟨y,a8,g'⟩:=E x ak;have X:y.block<w.heap.size:=al.lt (by intro e;rw[e]at s;simp at s) y a8;rcases gf with e|e
  .exact KK al H.o.bh (by intro e;rw[e]at s;simp at s) y a8 I
  omega
 intro b r e;have X:=H.o.lt;rcases r with i|i|i|i|i<;>omega
def acy(h:cW w B l)(m:ba){c:J}(g:∀ x,a=some x->bt<=x.block)(al:dy w a c m.bm)(aw:0<=l.next/\l.next<=1073741824)(hm:m.bm.length<=1000000):aB 306 #[B.p,(aG (fV m a c))] w (vB bt w B (kb l m).1 (.bool (kb l m).2.1) (kb l m).2.2):=by
 have i:min l.next 1073741824=l.next:=I;unfold kb;rw[i];have d:=λW=>Gi l.next m.en W;have e:=LU l.next m.en;generalize e8 l.next m.en=p at *;have⟨f,ca⟩:=p;simp only at *;by_cases b:ca≠0\/l.next<f\/f+m.bm.length<=l.next
 .rw[aD b];exact abG h m aw hm f ca d e b
 rw[az b];obtain rfl:ca=0:=I;exact abH h m g al aw hm f d e I I
structure ic(w V:aj)(B:j3)(l:cj)(m:ba)(a:cr Addr)(c:J):ae where
 box:V.heap[w.heap.size]?=some (ab #[aa m.kind,bz m.cw,c7 m.en,c7 m.ee,au a m.bm.length c,bz m.sum,aa m.lead] 254 (0,0))
 res:V.heap[w.heap.size+1]?=some (ab (aU bY.zero none 0) 199 (0,0))
 aJ:cW V B l
 bF:ag B.S w V
 bm:dy V a c m.bm
def ic.start(h:cW w B l)(m:ba){c:J}(al:dy w a c m.bm):ic w ((w.alloc (ab (fV m a c) 254)).alloc (ab (aU bY.zero none 0) 199)) B l m a c:=by
 have hk:=((bd w).alloc (ab (fV m a c) 254)).alloc (ab (aU bY.zero none 0) 199);refine⟨b2 (aP w _) _,?_,h.keeps hk (λ_ _=>id),hk.mono λ_ _ h=>h.elim,al.keeps hk λ_ _ _=>id⟩;exact RW
def ic.next{m:ba}{c:J}(h:ic w V B l m a c)(d:cW w B ds)(aw:∀ x,a=some x->¬ B.S x.block)(i:cW V' B l')(hk:ag B.S V V'):ic w V' B l' m a c:=by
 refine Ul;exact⟨hk.heap h.box (λx=>by have:=aA _ x;omega),hk.heap h.res (λx=>by have:=aA _ x;omega),i,h.bF.trans hk,h.bm.keeps hk λ_=>aw⟩
theorem ic.drew{m:ba}{c:J}(h:ic w V B l m a c)(n:J):ic w (V.drewN n) B l m a c:=
 ⟨h.box,h.res,h.aJ.drew n,h.bF.drewN n,h.bm.keeps ((bd V).drewN n) λ_ _ _=>id⟩
def KJ{c:J}{cs:a6 ay}{t:TypeId}(h:dy w a c L)(f:w.heap[b]?=some (ab cs t (0,0)))(g:∀ n,bf n ∉ cs.toList)(hne:L≠[])(x:Addr)(ak:a=some x):x.block≠b:=by
 obtain⟨k,o,rfl,an⟩:=h.at' hne;cases ak;intro e;refine UZ;have h1:cs[o]?=some (eW (L[0]'(tf.2 hne))):=by simpa using d
 refine g _ (mK (i:=o) (a:=eW (L[0]'(tf.2 hne))) ?_);simpa using h1
def ic.fin{m:ba}{c:J}(h:ic w V B l m a c)(k:cW w B ds)(v0 v1 v2 d f g:ay):let i:=((((((V.setCell (ah (w+1) 0) v0).setCell (ah (w+1) 1) v1).setCell (ah (w+1) 2) v2).setCell (ah (w+1) 3) d).setCell (ah (w+1) 4) f).setCell (ah (w+1) 5) g)
  i.heap[w.heap.size+1]?=some (ab #[v0,v1,v2,d,f,g] 199 (0,0))/\cW i B l/\ag B.S w i/\(∀ {a':cr Addr} {j:J} {L:ai aR},dy V a' j L->dy i a' j L):=by
 have n:=k.lt;have hk:=Fi (S:=λb=>b=w.heap.size+1) (b:=w.heap.size+1) (ag.refl _ V) rfl v0 v1 v2 d f g;refine⟨hE h.res rfl v0 v1 v2 d f g,h.aJ.keeps hk (λb al=>?_),tY h.bF (va _) v0 v1 v2 d f g,λal=>al.keeps hk λhne x e=>KJ al h.res (by simp[aU,bY.zero]) hne x e⟩;rcases al with e|e|e|e|e<;>omega
def iW(l:cj)(m:ba):bY×aY×cj:=
 if m.kind=3 then kb (iR l m.ee) m else
 if m.kind=4 then(⟨4,0,[],(e8 (min l.next 1073741824) m.en).1,m.sum,0⟩,(e8 (min l.next 1073741824) m.en).2 == 0,l)else
 if m.kind=5 then(⟨5,0,[],0,0,0⟩,true,iR l m.ee)else
 if m.kind=6 then(⟨6,0,[],0,0,m.lead⟩,true,l)else(⟨m.kind,0,[],0,0,0⟩,true,l)
def Xl(l:cj)(s:U):(iR l s).next=l.next:=by
 unfold iR;simp only[];split<;>rfl
def acz(h:cW w B l)(m:ba){c:J}(Y:∀ x,a=some x->bt<=x.block)(al:dy w a c m.bm)(Q:∀ x,a=some x->¬ B.S x.block)(aw:0<=l.next/\l.next<=1073741824)(bg:0<=l.du/\l.du<=1073741824)(hm:m.bm.length<=1000000):aB 247 #[B.p,(aG (fV m a c))] w (vB bt w B (iW l m).1 (.bool (iW l m).2.1) (iW l m).2.2):=by
 have ax:=ic.start h m al;simp only[aU,bY.zero,gN]at ax;have Z:=Xl l m.ee;have⟨mk,P,s,F,N,d,b⟩:=m;simp only at *;have H:=ad h;have gf:=ad Y;unfold iW;by_cases z:mk=3
 .subst z;rw[aD rfl];simp only;have g:=ad ax;refine cg;refine RB;refine(acy g.o.aJ ⟨3,P,s,F,N,d,b⟩ gf.o g.o.bm (by rw[Z];exact aw) hm).mono ?_;rintro e fo ⟨⟨u,bB,rfl,X,C⟩,L,G⟩;refine dU;have ax:=g.o.next H.o Q L G;generalize kb (iR l F) ⟨3,P,s,F,N,d,b⟩=R at *;obtain⟨R,ok,fr⟩:=R;simp only at *;refine Is;have g:=ad ax;have T:=ad X;unfold aU;refine aK;have i:=ic.fin (g.o) H.o (aa (R).kind) (aa (R).e8) (.slice u (R).bm.length bB) (aa (R).frame) (bz (R).sum) (aa (R).lead);refine zK;refine dH (v:=aV #[.agg (aU R u bB),.bool ok]) zF rfl ?_;exact⟨⟨u,bB,rfl,k T.o,m'.o⟩,q,n⟩
 rw[az z];by_cases A:mk=4
 .subst A;rw[aD rfl];have i:=λW=>Gi l.next s W;have a':min l.next 1073741824=l.next:=I;rw[a'];generalize e8 l.next s=p at *;obtain⟨f,ca⟩:=p;have M:=ad i;have gQ:=ax.aJ.gQ;refine Jn;refine Um;have g:=ad (g.o.drew nq);have i:=ic.fin (g.o) H.o (aa ((⟨4,0,[],f,d,0⟩:bY)).kind) (aa ((⟨4,0,[],f,d,0⟩:bY)).e8) (.slice none ((⟨4,0,[],f,d,0⟩:bY)).bm.length 0) (aa ((⟨4,0,[],f,d,0⟩:bY)).frame) (bz ((⟨4,0,[],f,d,0⟩:bY)).sum) (aa ((⟨4,0,[],f,d,0⟩:bY)).lead);refine zK;refine dH (v:=aV #[.agg (aU (⟨4,0,[],f,d,0⟩:bY) none 0),(ca == 0)]) zF rfl ?_;exact sg
 rw[az A];by_cases D:mk=5
 .subst D;rw[aD rfl];refine Jn;refine RB;have i:=ic.fin (g.o) H.o (aa ((⟨5,0,[],0,0,0⟩:bY)).kind) (aa ((⟨5,0,[],0,0,0⟩:bY)).e8) (.slice none ((⟨5,0,[],0,0,0⟩:bY)).bm.length 0) (aa ((⟨5,0,[],0,0,0⟩:bY)).frame) (bz ((⟨5,0,[],0,0,0⟩:bY)).sum) (aa ((⟨5,0,[],0,0,0⟩:bY)).lead);refine zK;refine dH (v:=aV #[.agg (aU (⟨5,0,[],0,0,0⟩:bY) none 0),true]) zF rfl ?_;exact sg
 rw[az D];by_cases E:mk=6
 .subst E;rw[aD rfl];refine Jn;have i:=ic.fin (g.o) H.o (aa ((⟨6,0,[],0,0,b⟩:bY)).kind) (aa ((⟨6,0,[],0,0,b⟩:bY)).e8) (.slice none ((⟨6,0,[],0,0,b⟩:bY)).bm.length 0) (aa ((⟨6,0,[],0,0,b⟩:bY)).frame) (bz ((⟨6,0,[],0,0,b⟩:bY)).sum) (aa ((⟨6,0,[],0,0,b⟩:bY)).lead);refine zK;refine dH (v:=aV #[.agg (aU (⟨6,0,[],0,0,b⟩:bY) none 0),true]) zF rfl ?_;exact sg
 rw[az E];have d3:(mk == 3)=false:=by simpa using z
 have d4:(mk == 4)=false:=by simpa using A
 have d5:(mk == 5)=false:=by simpa using D
 have d6:(mk == 6)=false:=by simpa using E
 go_in
 go_upto_region 1 with fail
 generalize World.alloc (World.alloc w _) _=j at *;have t:=(ax).aJ.lt;have cx:=aX (ax).box;have z0:=bV (ax).res;have bR:=aX (ax).res;have g:=ad ax;go_wp2_with fail;have i:=ic.fin (g.o) H.o (aa ((⟨mk,0,[],0,0,0⟩:bY)).kind) (aa ((⟨mk,0,[],0,0,0⟩:bY)).e8) (.slice none ((⟨mk,0,[],0,0,0⟩:bY)).bm.length 0) (aa ((⟨mk,0,[],0,0,0⟩:bY)).frame) (bz ((⟨mk,0,[],0,0,0⟩:bY)).sum) (aa ((⟨mk,0,[],0,0,0⟩:bY)).lead);simp only at i;generalize World.setCell _ (ah (w+1) 5) _=K at *;obtain⟨r,q,n,k⟩:=i;have y:=fN _ _ _ _ r 6 rfl;refine dH (v:=aV #[.agg (aU (⟨mk,0,[],0,0,0⟩:bY) none 0),true]) zF rfl ?_;exact⟨⟨none,0,rfl,k (ql _),(λ_ e=>nomatch e)⟩,q,n⟩
theorem ic.rz{m:ba}{c:J}(h:ic w V B l m a c)(hk:ag aH V V'):ic w V' B l m a c:=
 ⟨hk.heap h.box id,hk.heap h.res id,h.aJ.keeps hk λ_ _=>id,h.bF.trans (hk.mono λ_ _ h=>h.elim),h.bm.keeps hk λ_ _ _=>id⟩
def c_(l:cj)(m:ba):bY×aY×cj:=
 if m.kind=1 then(⟨1,0,[],0,0,0⟩,true,if l.out.length=8 then l else {l with out:=l.out++[⟨2,m.cw,0,0,[],0,0⟩]})else
 if m.kind=2 then(if m.cw=l.cw then(⟨2,0,[],0,0,0⟩,true,{l with state:=1})else(bY.zero,false,l))else
 if m.kind=7 then(⟨7,0,[],0,0,0⟩,true,{l with state:=2})else
 if l.state=1 then iW l m else(bY.zero,false,l)
def acB(h:cW w B l)(m:ba){c:J}(m':∀ x,a=some x->bt<=x.block)(al:dy w a c m.bm)(u:∀ x,a=some x->¬ B.S x.block)(aw:0<=l.next/\l.next<=1073741824)(bg:0<=l.du/\l.du<=1073741824)(hm:m.bm.length<=1000000):aB 167 #[B.p,(aG (fV m a c))] w (vB bt w B (c_ l m).1 (.bool (c_ l m).2.1) (c_ l m).2.2):=by
 have ax:=ic.start h m al;simp only[aU,bY.zero,gN]at ax;have sd:=h.lt;have⟨mk,s,ms,X,Y,a',Z⟩:=m;simp only at *;have H:=ad h;have gf:=ad m';unfold c_;by_cases T:mk=1
 .subst T;rw[aD rfl];by_cases P:l.out.length=8
  focus
   simp only[aD P]
   go_in
   go_upto_region 1 with fail
   generalize World.alloc (World.alloc w _) _=j at *;have C:=bZ ax.box;have cx:=aX ax.box;go_upto_region 2 with fail
   have d:=aP j (ab (aU ⟨1,0,[],0,0,0⟩ none 0) 199);simp only[aU,gN]at d;have ax:=ax.rz ((bd j).alloc (ab (aU ⟨1,0,[],0,0,0⟩ none 0) 199));simp only[aU,gN]at ax;generalize World.alloc j _=g at *;have t:=(ax).aJ.lt;have cx:=aX (ax).box;have z0:=bV (ax).res;have bR:=aX (ax).res;have A:=bZ d;have F:=aX d;have fY:=ax.aJ.fY;have f:=ad ax;have D:=ad d;go_wp2_with fail;refine jE 7 bc bc ?_;simp only[lC,mL,lz,k2]
   repeat (go_big_quiet_step ((fail)))
   refine wpQuiet_nil ?_;intro _ L;obtain⟨nq,M⟩:=L;subst M;go_wp2_with fail;refine aS ((Nn (f.o.drew nq).aJ.out P ⟨2,s,0,0,[],0,0⟩)) ?_;rintro W ⟨Q,hk⟩;have ax:=(f.o.drew nq).next (l':=l) H.o u ((f.o.drew nq).aJ.FG Q hk rfl rfl rfl) (hk.mono λb _ h=>h.elim (λe=>.inr (.inr (.inr (.inl e)))) (λe=>.inr (.inr (.inr (.inr e)))))
  rotate_left
  focus
   simp only[az P];have fo:l.out.length<8:=by have:=H.o.out.le.1;omega
   go_in
   go_upto_region 1 with fail
   generalize World.alloc (World.alloc w _) _=j at *;have C:=bZ ax.box;have cx:=aX ax.box;go_upto_region 2 with fail
   have d:=aP j (ab (aU ⟨1,0,[],0,0,0⟩ none 0) 199);simp only[aU,gN]at d;have ax:=ax.rz ((bd j).alloc (ab (aU ⟨1,0,[],0,0,0⟩ none 0) 199));simp only[aU,gN]at ax;generalize World.alloc j _=g at *;have t:=(ax).aJ.lt;have cx:=aX (ax).box;have z0:=bV (ax).res;have bR:=aX (ax).res;have A:=bZ d;have F:=aX d;have fY:=ax.aJ.fY;have f:=ad ax;have D:=ad d;go_wp2_with fail;refine jE 7 bc bc ?_;simp only[lC,mL,lz,k2]
   repeat (go_big_quiet_step ((fail)))
   refine wpQuiet_nil ?_;intro _ L;obtain⟨nq,M⟩:=L;subst M;go_wp2_with fail;refine aS ((Nl (f.o.drew nq).aJ.out fo ⟨2,s,0,0,[],0,0⟩)) ?_;rintro W ⟨Q,hk⟩;have ax:=(f.o.drew nq).next (l':={l with out:=l.out++[⟨2,s,0,0,[],0,0⟩]}) H.o u ((f.o.drew nq).aJ.FG Q hk rfl rfl rfl) (hk.mono λb _ h=>h.elim (λe=>.inr (.inr (.inr (.inl e)))) (λe=>.inr (.inr (.inr (.inr e)))))
  rotate_left
  all_goals
   have d:=(((ag.refl (λb=>b=B.h2\/b=B.d2) g).drewN nq).trans hk).heap D.o I;have t:=(ax).aJ.lt;have cx:=aX (ax).box;have z0:=bV (ax).res;have bR:=aX (ax).res;have A:=bZ d;have F:=aX d;have f:=ad ax;go_wp2_with fail;have i:=ic.fin (f.o) H.o (aa ((⟨1,0,[],0,0,0⟩:bY)).kind) (aa ((⟨1,0,[],0,0,0⟩:bY)).e8) (.slice none ((⟨1,0,[],0,0,0⟩:bY)).bm.length 0) (aa ((⟨1,0,[],0,0,0⟩:bY)).frame) (bz ((⟨1,0,[],0,0,0⟩:bY)).sum) (aa ((⟨1,0,[],0,0,0⟩:bY)).lead);simp only at i;generalize World.setCell _ (ah (w+1) 5) _=K at *;obtain⟨r,q,n,k⟩:=i;have y:=fN _ _ _ _ r 6 rfl;refine dH (v:=aV #[.agg (aU (⟨1,0,[],0,0,0⟩:bY) none 0),true]) zE rfl ?_;exact⟨⟨none,0,rfl,k (ql _),(λ_ e=>nomatch e)⟩,q,n⟩
 rw[az T];by_cases bK:mk=2
 .subst bK;rw[aD rfl];by_cases E:s=l.cw
  focus
   rw[aD E];subst E
  rotate_left
  focus
   rw[az E];have r':(s != l.cw)=true:=by simpa using E
  rotate_left
  all_goals
   go_in
   go_upto_region 1 with fail
   generalize World.alloc (World.alloc w _) _=j at *;have C:=bZ ax.box;have cx:=aX ax.box;go_upto_region 2 with fail
   have d:=aP j (ab (aU ⟨2,0,[],0,0,0⟩ none 0) 199);simp only[aU,gN]at d;have ax:=ax.rz ((bd j).alloc (ab (aU ⟨2,0,[],0,0,0⟩ none 0) 199));simp only[aU,gN]at ax;generalize World.alloc j _=g at *;have t:=(ax).aJ.lt;have cx:=aX (ax).box;have z0:=bV (ax).res;have bR:=aX (ax).res
  focus
   have A:=bZ d;have F:=aX d;have bw:=ax.aJ.bw;have f2:=ax.aJ.free 2;have bB:=ax.aJ.bB;have f:=ad ax;have D:=ad d;go_wp2_with fail;go_quiet (fail);go_wp2_with fail;have z:=f.o.drew nq;have f:=ad (z.next (V':=(g.drewN nq).setCell (ah B.p 2) (aa 1)) (l':={l with state:=1}) H.o u (z.aJ.set 2 (aa 1) _ rfl rfl rfl) (ag.setCell (ag.refl _ _) (.inl rfl) _));have i:=ic.fin (f.o) H.o (aa ((⟨2,0,[],0,0,0⟩:bY)).kind) (aa ((⟨2,0,[],0,0,0⟩:bY)).e8) (.slice none ((⟨2,0,[],0,0,0⟩:bY)).bm.length 0) (aa ((⟨2,0,[],0,0,0⟩:bY)).frame) (bz ((⟨2,0,[],0,0,0⟩:bY)).sum) (aa ((⟨2,0,[],0,0,0⟩:bY)).lead)
  rotate_left
  focus
   have bw:=ax.aJ.bw;have f:=ad ax;go_wp2_with fail;go_quiet (fail);go_wp2_with fail;have f:=ad (f.o.drew nq);have i:=ic.fin (f.o) H.o (aa ((⟨0,0,[],0,0,0⟩:bY)).kind) (aa ((⟨0,0,[],0,0,0⟩:bY)).e8) (.slice none ((⟨0,0,[],0,0,0⟩:bY)).bm.length 0) (aa ((⟨0,0,[],0,0,0⟩:bY)).frame) (bz ((⟨0,0,[],0,0,0⟩:bY)).sum) (aa ((⟨0,0,[],0,0,0⟩:bY)).lead)
  rotate_left
  all_goals
   simp only at i;generalize World.setCell _ (ah (w+1) 5) _=K at *;obtain⟨r,q,n,k⟩:=i;have y:=fN _ _ _ _ r 6 rfl
  .refine dH (v:=aV #[.agg (aU (⟨2,0,[],0,0,0⟩:bY) none 0),true]) zE rfl ?_;exact sg
  exact WO
 rw[az bK];by_cases V:mk=7
 .subst V;rw[aD rfl];refine VV;have C:=bZ ax.box;have cx:=aX ax.box;go_upto_region 2 with fail
  have d:=aP j (ab (aU ⟨7,0,[],0,0,0⟩ none 0) 199);simp only[aU,gN]at d;have ax:=ax.rz ((bd j).alloc (ab (aU ⟨7,0,[],0,0,0⟩ none 0) 199));simp only[aU,gN]at ax;generalize World.alloc j _=g at *;refine Is;have A:=bZ d;have F:=aX d;have f2:=ax.aJ.free 2;have bB:=ax.aJ.bB;have f:=ad ax;refine tC;have z:=f.o;have f:=ad (z.next (V':=g.setCell (ah B.p 2) (aa 2)) (l':={l with state:=2}) H.o u (z.aJ.set 2 (aa 2) _ rfl rfl rfl) (ag.setCell (ag.refl _ _) (.inl rfl) _));have i:=ic.fin (f.o) H.o (aa ((⟨7,0,[],0,0,0⟩:bY)).kind) (aa ((⟨7,0,[],0,0,0⟩:bY)).e8) (.slice none ((⟨7,0,[],0,0,0⟩:bY)).bm.length 0) (aa ((⟨7,0,[],0,0,0⟩:bY)).frame) (bz ((⟨7,0,[],0,0,0⟩:bY)).sum) (aa ((⟨7,0,[],0,0,0⟩:bY)).lead);refine zK;refine dH (v:=aV #[.agg (aU (⟨7,0,[],0,0,0⟩:bY) none 0),true]) zE rfl ?_;exact sg
 rw[az V];have d1:(mk == 1)=false:=by simpa using T
 have d2:(mk == 2)=false:=by simpa using bK
 have d7:(mk == 7)=false:=by simpa using V
 by_cases G:l.state=1
 focus
  rw[aD G]
 rotate_left
 focus
  rw[az G];have d9:(l.state != 1)=true:=by simpa using G
 rotate_left
 all_goals
  go_in
  go_upto_region 1 with fail
  generalize World.alloc (World.alloc w _) _=j at *;have C:=bZ ax.box;have cx:=aX ax.box;go_upto_region 2 with fail
  have d:=aP j (ab (aU ⟨mk,0,[],0,0,0⟩ none 0) 199);simp only[aU,gN]at d;have ax:=ax.rz ((bd j).alloc (ab (aU ⟨mk,0,[],0,0,0⟩ none 0) 199));simp only[aU,gN]at ax;generalize World.alloc j _=g at *;have t:=(ax).aJ.lt;have cx:=aX (ax).box;have z0:=bV (ax).res;have bR:=aX (ax).res;have bB:=ax.aJ.bB
 focus
  rw[G]at bB;have f:=ad ax;go_wp2_with fail;refine(acz f.o.aJ ⟨mk,s,ms,X,Y,a',Z⟩ gf.o f.o.bm u aw bg hm).mono ?_;rintro e W ⟨⟨N,bB,rfl,mv,ps⟩,lb,hd⟩;have g':=ad ps;have ax:=f.o.next H.o u lb hd;generalize iW l ⟨mk,s,ms,X,Y,a',Z⟩=R at *;obtain⟨R,ok,se⟩:=R;simp only at *;have t:=(ax).aJ.lt;have cx:=aX (ax).box;have z0:=bV (ax).res;have bR:=aX (ax).res;have f:=ad ax;have fr:=ad mv;unfold aU;go_wp2_with fail;have i:=ic.fin (f.o) H.o (aa (R).kind) (aa (R).e8) (.slice N (R).bm.length bB) (aa (R).frame) (bz (R).sum) (aa (R).lead)
 rotate_left
 focus
  have f:=ad ax;go_wp2_with fail;have i:=ic.fin (f.o) H.o (aa ((⟨0,0,[],0,0,0⟩:bY)).kind) (aa ((⟨0,0,[],0,0,0⟩:bY)).e8) (.slice none ((⟨0,0,[],0,0,0⟩:bY)).bm.length 0) (aa ((⟨0,0,[],0,0,0⟩:bY)).frame) (bz ((⟨0,0,[],0,0,0⟩:bY)).sum) (aa ((⟨0,0,[],0,0,0⟩:bY)).lead)
 rotate_left
 all_goals
  simp only at i;generalize World.setCell _ (ah (w+1) 5) _=K at *;obtain⟨r,q,n,k⟩:=i;have y:=fN _ _ _ _ r 6 rfl
 .refine dH (v:=aV #[.agg (aU R N bB),.bool ok]) zE rfl ?_;exact⟨⟨N,bB,rfl,k fr.o,g'.o⟩,q,n⟩
 exact WO
structure nC(w V:aj)(r:J)(B:j3)(l:cj):ae where
 res:V.heap[r]?=some (ab (aU bY.zero none 0) 199 (0,0))
 oK:w.heap.size<=r
 aJ:cW V B l
 bF:ag B.S w V
def nC.start(h:cW w B l):nC w (w.alloc (ab (aU bY.zero none 0) 199)) w B l:=by
 have hk:=(bd w).alloc (ab (aU bY.zero none 0) 199);exact⟨aP w _,dm _,h.keeps hk (λ_ _=>id),hk.mono λ_ _ h=>h.elim⟩
def nC.next(h:nC w V r B l)(d:cW w B ds)(a:cW V' B l')(hk:ag B.S V V'):nC w V' r B l':=by
 refine Ul;exact⟨hk.heap h.res (λx=>by have:=aA _ x;have:=h.oK;omega),h.oK,a,h.bF.trans hk⟩
theorem nC.rz(h:nC w V r B l)(hk:ag aH V V'):nC w V' r B l:=
 ⟨hk.heap h.res id,h.oK,h.aJ.keeps hk λ_ _=>id,h.bF.trans (hk.mono λ_ _ h=>h.elim)⟩
def nC.fin(h:nC w V r B l)(i:cW w B ds)(v0 v1 v2 a c d:ay):let f:=((((((V.setCell (ah r 0) v0).setCell (ah r 1) v1).setCell (ah r 2) v2).setCell (ah r 3) a).setCell (ah r 4) c).setCell (ah r 5) d)
  f.heap[r]?=some (ab #[v0,v1,v2,a,c,d] 199 (0,0))/\cW f B l/\ag B.S w f/\(∀ {a':cr Addr} {g:J} {L:ai aR},dy V a' g L->dy f a' g L):=by
 have j:=i.lt;have hk:=Fi (S:=λb=>b=r) (b:=r) (ag.refl _ V) rfl v0 v1 v2 a c d;have k:=h.oK;refine⟨hE h.res rfl v0 v1 v2 a c d,h.aJ.keeps hk (λb al=>?_),tY h.bF h.oK v0 v1 v2 a c d,λal=>al.keeps hk λhne x e=>KJ al h.res (by simp[aU,bY.zero]) hne x e⟩;rcases al with e|e|e|e|e<;>omega
def cX(l:cj)(s:ai aR):bY×U×cj:=
 if l.state=2 then(bY.zero,12,l)else
 if (gG s).2≠0 then(bY.zero,(gG s).2,{l with bad:=l.bad+1})else
 if (c_ {l with heard:=l.cA} (gG s).1).2.1 then((c_ {l with heard:=l.cA} (gG s).1).1,0,{(c_ {l with heard:=l.cA} (gG s).1).2.2 with fE:=(c_ {l with heard:=l.cA} (gG s).1).2.2.fE+1})
 else(bY.zero,0,{(c_ {l with heard:=l.cA} (gG s).1).2.2 with fT:=(c_ {l with heard:=l.cA} (gG s).1).2.2.fT+1})
def Xm(l:cj)(s:U):(iR l s).cw=l.cw/\(iR l s).fg=l.fg/\(iR l s).kK=l.kK/\(iR l s).cA=l.cA/\(iR l s).heard=l.heard/\(iR l s).fE=l.fE/\(iR l s).bad=l.bad/\(iR l s).fT=l.fT:=by
 unfold iR;exact IB
def abE(l:cj)(m:ba):(kb l m).2.2.cw=l.cw/\(kb l m).2.2.fg=l.fg/\(kb l m).2.2.kK=l.kK/\(kb l m).2.2.cA=l.cA/\(kb l m).2.2.heard=l.heard/\(kb l m).2.2.fE=l.fE/\(kb l m).2.2.bad=l.bad/\(kb l m).2.2.fT=l.fT:=by
 unfold kb;exact IB
def ahX(l:cj)(m:ba):(c_ l m).2.2.cw=l.cw/\(c_ l m).2.2.fg=l.fg/\(c_ l m).2.2.kK=l.kK/\(c_ l m).2.2.cA=l.cA/\(c_ l m).2.2.heard=l.heard/\(c_ l m).2.2.fE=l.fE/\(c_ l m).2.2.bad=l.bad/\(c_ l m).2.2.fT=l.fT:=by
 have h1:=Xm l m.ee;have h2:=abE (iR l m.ee) m;have a:(iW l m).2.2.cw=l.cw/\(iW l m).2.2.fg=l.fg/\(iW l m).2.2.kK=l.kK/\(iW l m).2.2.cA=l.cA/\(iW l m).2.2.heard=l.heard/\(iW l m).2.2.fE=l.fE/\(iW l m).2.2.bad=l.bad/\(iW l m).2.2.fT=l.fT:=by
  unfold iW;split
  .exact⟨h2.1.trans h1.1,h2.2.1.trans h1.2.1,h2.2.2.1.trans h1.2.2.1,h2.2.2.2.1.trans h1.2.2.2.1,h2.2.2.2.2.1.trans h1.2.2.2.2.1,h2.2.2.2.2.2.1.trans h1.2.2.2.2.2.1,h2.2.2.2.2.2.2.1.trans h1.2.2.2.2.2.2.1,h2.2.2.2.2.2.2.2.trans h1.2.2.2.2.2.2.2⟩
  split
  .exact I4
  split
  .exact h1
  exact IU
 unfold c_;split
 .exact IB
 split
 .exact IU
 split
 .exact I4
 split
 .exact a
 exact I4
def aiq(l:ai aR)(h:(gG l).2=0):(gG l).1.bm.length<=1000000:=by
 unfold gG at *;split at h
 .rename_i b;rw[aD b];unfold s8 at *;split at h
  .cases h
  rename_i h1;rw[az h1];have a:=(Qs λan=>h1 (.inr (.inr an))).2.1;unfold fits at a;refine xM;exact cu a.2 bs
 rename_i b;exact absurd h b
def M4(h:cW w B l)(s:cl)(aA:s.size<=100000)(aw:0<=l.next/\l.next<=1073741824)(bg:0<=l.du/\l.du<=1073741824)(a7:0<=l.fE/\l.fE<=1000000)(al:0<=l.bad/\l.bad<=1000000)(aW:0<=l.fT/\l.fT<=1000000):aB 102 #[B.p,.string s] w (vB w w B (cX l s.data.toList).1 (aa (cX l s.data.toList).2.1) (cX l s.data.toList).2.2):=by
 have ax:=nC.start h;simp only[aU,bY.zero,gN]at ax;have ys:=h.lt;have H:=ad h;unfold cX;by_cases bK:l.state=2
 .rw[aD bK]
  go_in
  refine vv;generalize World.alloc w _=m' at *;refine SS;rw[bK]at bB;refine z8;refine It;refine dH (v:=aV #[.agg (aU (⟨0,0,[],0,0,0⟩:bY) none 0),aa 12]) C3 rfl ?_;exact sg
 rw[az bK];have d2:(l.state == 2)=false:=by simpa using bK
 have Q:=λW=>ai0 (w:=W) s aA;have Z:=aiq s.data.toList;generalize gG s.data.toList=u at *;have⟨m,ca⟩:=u;simp only at *;have r':=ad Q;by_cases h1:ca≠0
 .rw[aD h1];refine DJ
  go_in
  refine Sk;have Ed:=ax.aJ.Ed;have vs:=ax.aJ.free 11;refine z8;have g:=ad (g.o.next (V':=L.setCell (ah B.p 11) (aa (l.bad+1))) (l':={l with bad:=l.bad+1}) H.o (g.o.aJ.set 11 (aa (l.bad+1)) _ rfl rfl rfl) (ag.setCell (ag.refl _ _) (.inl rfl) _));refine It;refine dH (v:=aV #[.agg (aU (⟨0,0,[],0,0,0⟩:bY) none 0),aa ca]) C3 rfl ?_;exact sg
 rw[az h1];obtain rfl:ca=0:=I;have hm:=(Z rfl);have P:=λ(W:aj) (a:cr Addr) (c:J) (h:cW W B {l with heard:=l.cA}) (al:dy W a c m.bm) (V:∀ x,a=some x->¬ B.S x.block) (Y:∀ x,a=some x->w.heap.size<=x.block)=>acB h m Y al V aw bg hm;have C:=ahX {l with heard:=l.cA} m;generalize c_ {l with heard:=l.cA} m=T at *;obtain⟨R,ok,a'⟩:=T;simp only at *;obtain⟨zp,Q',K,s',TS,zd,G,A,E,F,w',se,Tq⟩:=a';simp only at C;obtain⟨rfl,rfl,rfl,rfl,rfl,rfl,rfl,rfl⟩:=C;have dr:=ad P;cases ok with
 | true=>
  simp only[if_true]
  go_in
  refine Vv;have sC:=ax.aJ.sC;have vl:=ax.aJ.free 10;have g:=ad ax;refine tC;have X:=D.o.keeps (ag.setCell (S:=λb=>b=B.p) (ag.refl _ _) (p:=ah B.p 10) rfl (aa (l.fE+1))) (λhne x e=>KK D.o g.o.aJ.bh hne x e);have g:=ad (g.o.next (V':=M.setCell (ah B.p 10) (aa (l.fE+1))) (l':=⟨l.cw,l.fg,K,l.kK,l.cA,l.cA,G,A,E,F,l.fE+1,l.bad,l.fT⟩) H.o (g.o.aJ.set 10 (aa (l.fE+1)) _ rfl rfl rfl) (ag.setCell (ag.refl _ _) (.inl rfl) _));have z:=nC.fin (g.o) H.o (aa (R).kind) (aa (R).e8) (.slice f (R).bm.length bB) (aa (R).frame) (bz (R).sum) (aa (R).lead);refine S3;refine dH (v:=aV #[.agg (aU R f bB),aa 0]) C3 rfl ?_;exact⟨⟨f,bB,rfl,k X,gf.o⟩,q,n⟩
 | false=>
  simp only[za,if_false]
  go_in
  refine Vv;have KL:=ax.aJ.KL;have v':=ax.aJ.free 12;refine z8;have g:=ad (g.o.next (V':=M.setCell (ah B.p 12) (aa (l.fT+1))) (l':=⟨l.cw,l.fg,K,l.kK,l.cA,l.cA,G,A,E,F,l.fE,l.bad,l.fT+1⟩) H.o (g.o.aJ.set 12 (aa (l.fT+1)) _ rfl rfl rfl) (ag.setCell (ag.refl _ _) (.inl rfl) _));refine It;refine dH (v:=aV #[.agg (aU (⟨0,0,[],0,0,0⟩:bY) none 0),aa 0]) C3 rfl ?_;exact sg
theorem XT{w A C:aj}(h:Below w w A)(hk:ag S A C)(aA:∀ k,S k->w.heap.size<=k):Below w w C:=
 h.trans (hk.below h.size λk h1 h2=>by have:=aA k h2;omega)
section
def LV(a b:J)(bg:a<=1000)(al:b<=1000):e8 (a:U) ((b:U)%65536)=((b:U),0):=by
 have aA:s6 ((a:U)%65536) ((b:U)%65536)=(b:U)-a:=by
  unfold s6;omega
 unfold e8;rw[az I,aA];simp only[];rw[az I]
 congr 1
 omega
structure fC(n k:J)(o:ai aR)(T A:J)(l:cj):ae where
 cw:l.cw=(k:U)+1
 pat:1<=l.fg/\l.fg<=10000
 st:l.state=0\/l.state=1\/l.state=2
 pT:0<=l.cA/\l.cA<=n
 hd:0<=l.heard/\l.heard<=n
 fE:0<=l.fE/\l.fE<=n
 bad:0<=l.bad/\l.bad<=n
 fT:0<=l.fT/\l.fT<=n
 ac:l.du=(A:U)
 dZ:l.own=o.drop A
 e2:A<=o.length
 eZ:l.next=(T:U)
 wl:o.length<=A+64
 adI:∀ m∈l.out,m.wf/\dR m/\m.bm=[]/\m.kind≠5
 ajL:l.out.length<=8
def j5(c:J)(q:ai aR)(Tq:J)(m:ba):ae:=
 m.wf/\dR m/\(m.kind=3->∃ a e t:J,a+e<=q.length/\t<=Tq/\a+e<=t+c/\m.en=(a:U)%65536/\m.ee=(t:U)%65536/\m.bm=(q.drop a).take e/\0<e)/\(m.kind=5->∃ t:J,t<=Tq/\m.ee=(t:U)%65536)
def j5.mono{c:J}{b:ai aR}{T T':J}{m:ba}(h:j5 c q T m)(d:q <+: b)(v:T<=T'):j5 c b T' m:=by
 refine xP;refine⟨h1,h2,λhk=>?_,λhk=>?_⟩
 .have⟨a,e,t,p,u,f,g,i,j,l⟩:=s hk
  have:=d.length_le
  refine⟨a,e,t,I,I,f,g,i,?_,l⟩;have⟨r,n⟩:=d;rw[j,<-n,HB I,CH b_]
 have⟨t,w,o⟩:=k hk;exact⟨t,I,o⟩
def z32:(0:U)<=0/\(0:U)<4294967296:=I
def rX:(0:U)<=0/\(0:U)<65536:=I
def m16(x:U):0<=x%65536/\x%65536<65536:=I
def uM{m:ba}(h:dR m)(h1:0<=m.cw/\m.cw<4294967296)(h2:0<=m.en/\m.en<65536)(c:0<=m.ee/\m.ee<65536)(d:0<=m.sum/\m.sum<4294967296):m.wf:=by
 have⟨a,_,b,_⟩:=h;exact⟨I,h1,h2,c,d,I⟩
namespace fC
variable{n k T A:J}{o:ai aR}{l:cj}
def up(h:fC n k o T A l):fC (n+1) k o T A l:=by
 refine sf;exact⟨j,u,y,I,I,I,I,I,i,bS,B,d,C,w,E⟩
theorem own(h:fC n k o T A l)(v:aR)(a_:v.toNat<=63)(b:o.length<A+64)(aA:l.state=1):fC n k (o++[v]) T A (lq l o.length v):=by
 have a:=h.e2;have e:yI l o.length v=0:=by
  unfold yI;rw[az I,az I,az (by rw[h.ac,h.dZ,iv];omega),az (by rw[h.dZ,iv];omega)]
 unfold lq;rw[aD e];refine sf;exact⟨j,u,y,D,F,G,H,K,i,by show l.own++[v]=_;rw[bS,HB a],by rw[cG];omega,d,by rw[cG,jG];omega,w,E⟩
def rep(h:fC n k o T A l)(f:U)(s:U)(aA:0<=s/\s<4294967296):fC n k o T A (np l f s):=by
 unfold np;split
 .rename_i e;have b:l.out.length≠8:=λc=>by
   unfold BF at e;split at e
   .omega
   split at e
   .omega
   simp_all
  refine sf;refine⟨j,u,y,D,F,G,H,K,i,bS,B,d,C,λm hm=>?_,QO⟩;rcases gd.1 hm with hm|hm
  .exact w m hm
  refine C8;have a:dR (wO f s):=by
   unfold dR wO;exact⟨o5,rfl,o5,.inl rfl,.inr (.inr (.inl rfl)),.inl rfl,aM,.inr rfl,.inl rfl⟩
  exact⟨uM a z32 (m16 f) rX aA,a,rfl,by unfold wO;simp⟩
 exact h
def Au{c:J}{m:ba}(h:m.wf/\dR m/\m.bm=[]/\m.kind≠5):j5 c q Tq m:=by
 refine⟨h.1,h.2.1,λhk=>?_,λhk=>absurd hk h.2.2.2⟩;have a:=h.2.1.2.2.2.2.2.2.1.2 hk;rw[h.2.2.1]at a;exact absurd a aM
def tick(h:fC n k o T A l)(hk:k<2)(q:∀ x∈o,x.toNat<=63){c:J}(an:o.length<=T+c)(lead:U):fC (n+1) k o T A (dG l lead).2/\(∀ m∈(dG l lead).1,j5 c o T m)/\(dG l lead).1.length<=10:=by
 have e:fC (n+1) k o T A (js l):=by
  unfold js rS;refine sf;split
  .exact⟨j,u,.inr (.inr rfl),by show 0<=l.cA+1/\l.cA+1<=_;omega,by show 0<=l.heard/\l.heard<=_;omega,by show 0<=l.fE/\l.fE<=_;omega,by show 0<=l.bad/\l.bad<=_;omega,by show 0<=l.fT/\l.fT<=_;omega,i,bS,B,d,C,w,E⟩
  exact⟨j,u,y,by show 0<=l.cA+1/\l.cA+1<=_;omega,by show 0<=l.heard/\l.heard<=_;omega,by show 0<=l.fE/\l.fE<=_;omega,by show 0<=l.bad/\l.bad<=_;omega,by show 0<=l.fT/\l.fT<=_;omega,i,bS,B,d,C,w,E⟩
 show fC (n+1) k o T A (ns (js l) lead).2/\(∀ m∈(ns (js l) lead).1,j5 c o T m)/\(ns (js l) lead).1.length<=10;generalize js l=b at e;have p:=e;have⟨j,u,y,D,F,G,H,K,i,bS,B,d,C,w,E⟩:=e;unfold ns;split
 .split
  .refine⟨⟨j,u,y,D,F,G,H,K,i,bS,B,d,C,w,E⟩,λm hm=>?_,aM⟩;refine C8;have a:dR x_:=bs;exact Au ⟨uM a z32 rX rX z32,a,rfl,bs⟩
  exact⟨p,(λm hm=>nomatch hm),aM⟩
 have mn:∀ m∈b.out,j5 c o T m:=λm hm=>Au (w m hm);refine⟨⟨j,u,y,D,F,G,H,K,i,bS,B,d,C,(λ_ hm=>nomatch hm),aM⟩,?_,?_⟩
 .intro m hm;rcases gd.1 hm with hm|hm
  .exact mn m hm
  split at hm
  .refine C8;have a:dR (oz b):=by
    unfold dR oz;exact⟨o5,rfl,o5,.inr (.inl rfl),.inl rfl,.inl rfl,aM,.inl rfl,.inl rfl⟩
   exact Au ⟨uM a (by show 0<=b.cw/\b.cw<4294967296;omega) rX rX z32,a,rfl,by unfold oz;simp⟩
  have f:j5 c o T (oP b):=by
   unfold oP;split
   .have a:dR ⟨5,0,0,b.next%65536,[],0,0⟩:=by
     exact⟨o5,rfl,o5,.inl rfl,.inl rfl,.inr (.inr rfl),aM,.inl rfl,.inl rfl⟩
    exact⟨uM a z32 rX (m16 _) z32,a,λc=>by simp at c,λ_=>⟨T,dm _,by rw[<-d]⟩⟩
   rename_i hne;have s:b.own.length=o.length-A:=by rw[bS];simp
   have g:b.own.length<=64:=I;have r:=tf.2 hne;have a:dR ⟨3,0,b.du%65536,b.next%65536,b.own,0,0⟩:=by
    refine⟨o5,?_,o5,.inl rfl,.inr (.inl rfl),.inr (.inl rfl),⟨λ_=>rfl,λ_=>r⟩,.inl rfl,.inl rfl⟩;unfold fits;rw[e9,fJ];exact⟨λx ak=>dh (q x (by rw[bS]at ak;exact CC ak)),dh g⟩
   exact⟨uM a z32 (m16 _) (m16 _) z32,a,λ_=>⟨A,o.length-A,T,I,dm _,I,by rw[<-i],by rw[<-d],by show b.own=_;rw[bS,o1 aM],I⟩,λc=>by simp at c⟩
  unfold pS at hm;split at hm
  .rcases fW.1 hm with hm|hm
   .rw[hm];exact f
   refine C8;have a:dR (pG b lead):=by
    unfold dR pG;exact⟨o5,rfl,o5,.inl rfl,.inr (.inr (.inr rfl)),.inl rfl,aM,.inl rfl,.inr rfl⟩
   exact Au ⟨uM a z32 (m16 _) rX z32,a,rfl,by unfold pG;simp⟩
  rw[kD.1 hm];exact f
 rw[cG];split
 .rw[jG];omega
 unfold pS;split
 .show _+2<=10;omega
 show _+1<=10;omega
end fC
end
section
structure J3(n k c:J)(o q:ai aR)(T A Tq:J)(l:cj)(r:bY)(e:U)(l':cj):ae where
 inv:∃ T' cV,fC (n+1) k o T' cV l'/\T<=T'/\T'<=q.length/\A<=cV/\(cV=A\/cV<=Tq)/\(T'=T\/T'<=cV+c)/\(e≠0->r.bm=[])/\r.bm=(q.drop T).take (T'-T)/\(r.bm≠[]->r.e8=(T:U))
 sum:0<=r.sum/\r.sum<4294967296
namespace fC
variable{n k T A:J}{o:ai aR}{l:cj}
def ee(h:fC n k o T A l)(ar:o.length<=1000)(t:J)(aW:t<=1000):∃ cV,fC n k o T cV (iR l ((t:U)%65536))/\A<=cV/\(cV=A\/cV=t)/\(t<=o.length->t<=cV):=by
 have c:=h.e2;have b:min l.du 1073741824=(A:U):=by rw[h.ac];omega
 have a:l.own.length=o.length-A:=by rw[h.dZ];simp
 unfold iR;rw[b,LV A t I aW];simp only;by_cases e:t<A\/o.length<t
 .rw[aD (by rw[h.ac,a];omega)];exact⟨A,h,dm _,.inl rfl,λ_=>I⟩
 rw[az (by rw[h.ac,a];omega)];refine sf;refine⟨t,⟨j,u,y,D,F,G,H,K,rfl,?_,I,d,I,w,E⟩,I,.inr rfl,λ_=>dm _⟩;rw[show((t:U)-l.du).toNat=t-A by rw[i];omega,bS,n5,show A+(t-A)=t by omega]
def cc(h:fC n k o T A l)(q:ai aR)(f:T<=q.length)(s:q.length<=1000)(a e:J)(g:a+e<=q.length)(p:0<e)(m:ba)(aA:m.en=(a:U)%65536)(av:m.bm=(q.drop a).take e):∃ T' r l',kb l m=(r,(if T'=T then false else true),l')/\fC n k o T' A l'/\T<=T'/\(T'=T\/T'=a+e)/\r.bm=(q.drop T).take (T'-T)/\(r.bm≠[]->r.e8=(T:U))/\r.sum=0:=by
 have hm:min l.next 1073741824=(T:U):=by rw[h.eZ];omega
 have b:m.bm.length=e:=by rw[av];simp;omega
 unfold kb;rw[hm,aA,LV T a I I];simp only[b];by_cases an:T<a\/a+e<=T
 .rw[aD (by rw[h.eZ];omega)];exact⟨T,_,_,by rw[aD rfl],h,dm _,.inl rfl,by simp[bY.zero],λc=>absurd rfl c,rfl⟩
 rw[az (by rw[h.eZ];omega)];refine sf;refine⟨a+e,⟨m.kind,l.next,m.bm.drop (l.next-(a:U)).toNat,0,0,0⟩,{l with next:=(a:U)+(e:U)},by rw[az I],⟨j,u,y,D,F,G,H,K,i,bS,B,by show(a:U)+(e:U)=((a+e:J):U);omega,C,w,E⟩,I,.inr rfl,?_,λ_=>d,rfl⟩;rw[show(l.next-(a:U)).toNat=T-a by rw[d];omega,av,drop_take,n5,show a+(T-a)=T by omega,show e-(T-a)=a+e-T by omega]
def set(h:fC n k o T A l)(hd g b t:U)(h1:0<=hd/\hd<=n)(h2:0<=g/\g<=n)(a:0<=b/\b<=n)(c:0<=t/\t<=n):fC n k o T A {l with heard:=hd,fE:=g,bad:=b,fT:=t}:=by
 refine sf;exact⟨j,u,y,D,h1,h2,a,c,i,bS,B,d,C,w,E⟩
theorem state(h:fC n k o T A l)(s:U)(aA:s=0\/s=1\/s=2):fC n k o T A {l with state:=s}:=by
 refine sf;exact⟨j,u,aA,D,F,G,H,K,i,bS,B,d,C,w,E⟩
def ahV(h:fC n k o T A l)(ar:o.length<=1000)(q:ai aR)(O:T<=q.length)(fr:q.length<=1000){c:J}(m':Tq<=o.length){m:ba}(ok:j5 c q Tq m):∃ T' cV,fC n k o T' cV (c_ l m).2.2/\T<=T'/\T'<=q.length/\A<=cV/\(cV=A\/cV<=Tq)/\(T'=T\/T'<=cV+c)/\(c_ l m).1.bm=(q.drop T).take (T'-T)/\((c_ l m).1.bm≠[]->(c_ l m).1.e8=(T:U))/\(0<=(c_ l m).1.sum/\(c_ l m).1.sum<4294967296)/\((c_ l m).2.1=false->(c_ l m).1.bm=[]):=by
 obtain⟨wf,ps,Z,a'⟩:=ok;have same:∀ {l':cj} {r:bY} {b:aY},c_ l m=(r,b,l')->fC n k o T A l'->r.bm=[]->(0<=r.sum/\r.sum<4294967296)->_:=λ{l' r b} e fo av aA=>(⟨T,A,by rw[e];exact fo,dm _,O,dm _,.inl rfl,.inl rfl,by rw[e];show r.bm=_;rw[av];simp,λc=>absurd (by rw[e];exact av) c,by rw[e];exact aA,λ_=>by rw[e];exact av⟩:∃ T' cV,fC n k o T' cV (c_ l m).2.2/\T<=T'/\T'<=q.length/\A<=cV/\(cV=A\/cV<=Tq)/\(T'=T\/T'<=cV+c)/\(c_ l m).1.bm=(q.drop T).take (T'-T)/\((c_ l m).1.bm≠[]->(c_ l m).1.e8=(T:U))/\(0<=(c_ l m).1.sum/\(c_ l m).1.sum<4294967296)/\((c_ l m).2.1=false->(c_ l m).1.bm=[]));have z:(0:U)<=0/\(0:U)<4294967296:=I;by_cases f:m.kind=1
 .refine same (show c_ l m=_ by unfold c_;rw[aD f]) ?_ rfl z;split
  .exact h
  rename_i mv;refine sf;refine⟨j,u,y,D,F,G,H,K,i,bS,B,d,C,λx ak=>?_,QO⟩;rcases gd.1 ak with ak|ak
  .exact w x ak
  rw[kD.1 ak];have S:dR ⟨2,m.cw,0,0,[],0,0⟩:=by
   exact⟨o5,rfl,o5,.inr (.inr rfl),.inl rfl,.inl rfl,aM,.inl rfl,.inl rfl⟩
  exact⟨uM S wf.cw rX rX z32,S,rfl,aM⟩
 by_cases bK:m.kind=2
 .by_cases aw:m.cw=l.cw
  .exact same (show c_ l m=_ by unfold c_;rw[az f,aD bK,aD aw]) (h.state 1 (.inr (.inl rfl))) rfl z
  exact same (show c_ l m=_ by unfold c_;rw[az f,aD bK,az aw]) h rfl z
 by_cases P:m.kind=7
 .exact same (show c_ l m=_ by unfold c_;rw[az f,az bK,aD P]) (h.state 2 (.inr (.inr rfl))) rfl z
 by_cases aA:l.state=1
 .have p:c_ l m=iW l m:=by unfold c_;rw[az f,az bK,az P,aD aA]
  by_cases g:m.kind=3
  .have⟨a,e,t,gf,r',sd,g',hd,h2,lb⟩:=Z g;have⟨cV,g1,N,Y,R⟩:=h.ee ar t I;rw[<-hd]at g1;have⟨T',r,l',i1,i2,i3,s,V,i6,i7⟩:=g1.cc q O fr a e gf lb m g' h2;have M:c_ l m=(r,(if T'=T then false else true),l'):=by rw[p];unfold iW;rw[aD g,i1]
   rw[M];refine⟨T',cV,i2,i3,I,N,I,?_,V,i6,by show 0<=r.sum/\r.sum<_;omega,λal=>?_⟩
   .rcases s with s|s
    .exact .inl s
    have:=R I;omega
   show r.bm=[];have al:=al;split at al
   .rename_i X;rw[V,X];simp
   cases al
  by_cases v:m.kind=4
  .exact same (show c_ l m=_ by rw[p];unfold iW;rw[az g,aD v]) h rfl wf.sum
  by_cases L:m.kind=5
  .have⟨t,t1,t2⟩:=a' L;have⟨cV,g1,N,Y,R⟩:=h.ee ar t I;rw[<-t2]at g1;have M:c_ l m=(⟨5,0,[],0,0,0⟩,true,iR l m.ee):=by rw[p];unfold iW;rw[az g,az v,aD L]
   rw[M];exact⟨T,cV,g1,dm _,O,N,I,.inl rfl,aM,λc=>absurd rfl c,z,λ_=>rfl⟩
  by_cases W:m.kind=6
  .exact same (show c_ l m=_ by rw[p];unfold iW;rw[az g,az v,az L,aD W]) h rfl z
  exact same (show c_ l m=_ by rw[p];unfold iW;rw[az g,az v,az L,az W]) h rfl z
 exact same (show c_ l m=_ by unfold c_;rw[az f,az bK,az P,az aA]) h rfl z
def Ba(h:fC n k o T A l)(ar:o.length<=1000)(q:ai aR)(d:T<=q.length)(E:q.length<=1000){c:J}(B:Tq<=o.length){t:ai aR}(aW:(∃ m,t=ec m/\j5 c q Tq m)\/(gG t).2≠0):J3 n k c o q T A Tq l (cX l t).1 (cX l t).2.1 (cX l t).2.2:=by
 have z:(0:U)<=0/\(0:U)<4294967296:=I;have f:∀ {l':cj} {e:U},cX l t=(bY.zero,e,l')->fC (n+1) k o T A l'->J3 n k c o q T A Tq l (cX l t).1 (cX l t).2.1 (cX l t).2.2:=λ{l' e} C D=>by
  rw[C];exact⟨⟨T,A,D,dm _,d,dm _,.inl rfl,.inl rfl,λ_=>rfl,by show []=_;simp,λc=>absurd rfl c⟩,z⟩
 by_cases aA:l.state=2
 .exact f (show cX l t=_ by unfold cX;rw[aD aA]) h.up
 have h1:=h.hd;have h2:=h.fE;have v:=h.bad;have w:=h.fT;have x:=h.pT;by_cases b:(gG t).2≠0
 .exact f (show cX l t=_ by unfold cX;rw[az aA,aD b]) (h.up.set l.heard l.fE (l.bad+1) l.fT I I I I)
 rcases aW with⟨m,rfl,ok⟩|aW
 .have F:=GL m ok.2.1 ok.1;have u:cX l (ec m)=if (c_ {l with heard:=l.cA} m).2.1 then((c_ {l with heard:=l.cA} m).1,0,{(c_ {l with heard:=l.cA} m).2.2 with fE:=(c_ {l with heard:=l.cA} m).2.2.fE+1})else(bY.zero,0,{(c_ {l with heard:=l.cA} m).2.2 with fT:=(c_ {l with heard:=l.cA} m).2.2.fT+1}):=by
   unfold cX;rw[az aA,az b,F]
  have⟨T',cV,a,g,i,j,p,r,s,H,K,G⟩:=(h.set l.cA l.fE l.bad l.fT x h2 v w).ahV ar q d E B ok;rw[u];have g1:=a.hd;have L:=a.fE;have M:=a.bad;have N:=a.fT;split
  .exact⟨⟨T',cV,a.up.set _ _ _ _ I I I I,g,i,j,p,r,λc=>absurd rfl c,s,H⟩,K⟩
  rename_i al;have av:=G (by simpa using al);have y:T'=T:=by
   rw[s]at av
   have:=c6 length av
   exact Rr
  exact⟨⟨T',cV,a.up.set _ _ _ _ I I I I,g,i,j,p,r,λ_=>rfl,by show []=_;rw[y];simp,λc=>absurd rfl c⟩,z⟩
 exact absurd aW b
end fC
end
def YL(w:aj)(b cap:J)(l:ai aR)(k:J)(c:aR)(hk:k<l.length)(a:∀ i (h:i<l.length),w.cell? (ah b i)=some (bf l[i].toNat)):(convert 51 9 (au (bT b) l.length cap)).run prog (w.setCell (ah b k) (bf c.toNat))=.ok (.string ⟨(l.set k c).toArray⟩) (w.setCell (ah b k) (bf c.toNat)):=by
 have h:=Hp (P:=prog) (w.setCell (ah b k) (bf c.toNat)) 51 9 5 (ah b 0) cap (l.set k c) underlying51 underlying5 underlying9 (by
  intro j f;have d:j<l.length:=by simpa using f
  have e6:((ah b 0):Addr).add j=(ah b j):=by rw[iB,gM]
  rw[e6];by_cases e:k=j
  .subst e;rw[zf _ _ _ (a k hk)];simp
  .rw[Hl _ _ _ _ aM,a j d];simp[zn e])
 simpa using h
def jC(x:U)(n:J):J:=if x.tmod n<0 then(x.tmod n+n).toNat else(x.tmod n).toNat
def ah'(x:U)(n:J)(a:0<n):-(n:U)<x.tmod n/\x.tmod n<n:=by
 have c:=ah_ x n;by_cases h:0<=x
 .rw[c.1 h]
  have:=zi x (show(0:U)<n by omega)
  have:=zj x (show(n:U)≠0 by omega)
  omega
 rw[c.2 I]
 have:=zi (-x) (show(0:U)<n by omega)
 have:=zj (-x) (show(n:U)≠0 by omega)
 omega
def PD(x:U)(n:J)(a:0<n)(h1:n<=256):∃ r:U,x.tmod (n:U)=r/\((r<0/\wrap64 (r+n)=(jC x n:U)/\jC x n<n)\/(0<=r/\r=(jC x n:U)/\jC x n<n)):=by
 have h:=ah' x n a;refine⟨x.tmod n,rfl,?_⟩;unfold jC;split
 .left;unfold wrap64;omega
 right;omega
def n3(x:aR)(b:J):aR:=UInt8.ofNat (x.toNat ^^^ b)
def ajh(x:aR)(b:J)(al:b<256):bits .xor .u8 (x.toNat:U) (b:U)=((n3 x b).toNat:U):=by
 rw[u8_xor_nat _ b x.toNat_lt al,n3];simp[kE (QF (n:=8) x.toNat_lt al),-UInt8.toNat_xor,-UInt8.ofNat_xor]
def uI(l:ai aR)(x:U)(b:J):ai aR:=l.set (jC x l.length) (n3 (l.getD (jC x l.length) 0) b)
def qJ(t:cl)(x:U)(b:J):cl:=⟨(uI t.data.toList x b).toArray⟩
section
variable{w w':aj}{c m most:J}{s:dd}
def X_(h:fK w c most s)(toq i x:U)(b:J)(aw:hB s toq i=none):aB 100 #[c,aa toq,aa i,aa x,bf b] w λe w'=>e=aV #[.string ByteArray.empty,false]/\fK w' c most s/\ag (iG c) w w':=by
 have a:=vR h toq i;rw[aw,GC aw]at a
 go_in
 go_wp2_with fail;refine aS a ?_;rintro aF ⟨h2,bK⟩;go_wp2;go_ret2;exact⟨rfl,h2,bK⟩
def X9(h:fK w c most s)(toq i x:U)(b:J)(al:b<256)(v:cl)(aw:hB s toq i=some v)(L:0<v.size)(N:v.size<=256):aB 100 #[c,aa toq,aa i,aa x,bf b] w λe w'=>e=aV #[.string (qJ v x b),true]/\fK w' c most (hb s toq i)/\ag (iG c) w w':=by
 have l:=vR h toq i;rw[aw,show Gz (some v)=Value.string v from rfl]at l;have dr:=ad l;have u:v.data.toList.length=v.size:=aM;obtain⟨r,F,f⟩:=PD x v.data.toList.length I I;have d:=ad (show jC x v.data.toList.length<v.data.toList.length by rcases f with⟨_,_,h⟩|⟨_,_,h⟩<;>exact h);have hE:=ad (show uI v.data.toList x b=v.data.toList.set (jC x v.data.toList.length) (n3 (v.data.toList[jC x v.data.toList.length]'d.out) b)by unfold uI;rw[n9,gW d.o];rfl);generalize jC x v.data.toList.length=k at *;have hk:=d.o;have ak:=ajh (v.data.toList[k]'hk) b al;unfold qJ;rw[hE.o];rw[u]at f F;generalize H:v.data.toList[k]=z at *;generalize a8:n3 z b=y at *;generalize B:v.data.toList.set k y=M at *;have g:=ad H;have A:=ad a8;have b5:=ad B;rcases f with⟨h1,h2,_⟩|⟨h1,rfl,_⟩
 focus
  go_in
  go_wp2_with fail;refine aS dr.o ?_;rintro aF ⟨j,bK⟩;have⟨cap,aq,D,C,m,G,a,q⟩:=AF aF v;have an:=a k I;have K:=q k I
 rotate_left
 focus
  go_in
  go_wp2_with fail;refine aS dr.o ?_;rintro aF ⟨j,bK⟩;have⟨cap,aq,D,C,m,G,a,q⟩:=AF aF v;have an:=a k I
 rotate_left
 all_goals
  have n:=YL aq aF cap v.data.toList k (n3 (v.data.toList[k]'hk) b) hk (λi h=>a i I);rw[g.o,A.o,b5.o]at n;rw[g.o]at an;have E:fK (aq.setCell (ah aF k) (bf y.toNat)) c most (hb s toq i)/\ag (iG c) w (aq.setCell (ah aF k) (bf y.toNat)):=by
   have t:ag aH aF (aq.setCell (ah aF k) (bf y.toNat)):=(ag.bU m a1).pL (p:=ah aF k) bu _;exact⟨j.keeps t (λ_ _=>id),bK.trans (mr t)⟩
  rw[u]at n;go_wp2;go_ret2;exact⟨rfl,E⟩
end
end Go.Proofs.YtalagblioepadaaGreatDoor
