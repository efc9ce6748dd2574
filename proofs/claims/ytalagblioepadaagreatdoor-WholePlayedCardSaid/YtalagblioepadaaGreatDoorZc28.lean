/- The proof, part 28. -/
import Derived.Test.YtalagblioepadaaGreatDoorZc24
import Derived.Test.YtalagblioepadaaGreatDoorZc25
namespace Go.Proofs.YtalagblioepadaaGreatDoor
set_option linter.all false
open Proofs.Tryz List Go.RowKit
set_option maxRecDepth 100000
set_option maxHeartbeats 8000000
def xb{p:ak}(h:p:=by simp[aT,results,results247,asAddr,loadVar,loadCells,isAgg199,sizeOf199,A]):p:=h
def uV{p:ak}(h:p:=by simp[aT,results,results167,asAddr,loadVar,loadCells,isAgg199,sizeOf199,D]):p:=h
def Mq{p:ak}(h:p:=by simp[aT,bG.zero,results,results306,asAddr,loadVar,loadCells,isAgg199,sizeOf199,g]):p:=h
def LM{p:ak}(h:p:=by
 obtain⟨x,g⟩:∃ x,xs[k]?=some x:=⟨xs[k],gl gf⟩;obtain⟨bR,o,rfl,_⟩:=f.o.br.at' U;have St:wr.cell? (ad bR (o+k*7) ab)=some (I x.m.kind):=sx f.o b k x g 0 U (I x.m.kind) rfl;have Tq:=sx f.o b k x g 1 U (aP x.m.bK) rfl;have TS:=sx f.o b k x g 2 U (bx x.m.cj) rfl;have T':=sx f.o b k x g 3 U (bx x.m.ch) rfl;have V':=sx f.o b k x g 4 U (aq x.a x.m.a8.length x.c) rfl;have W':=sx f.o b k x g 5 U (aP x.m.sum) rfl;have ZG:=sx f.o b k x g 6 U (I x.m.lead) rfl;have F:(x.m).wf/\di x.m:=Y.o x.m (by rw[<-E.o];exact e3.2 ⟨x,kH g,rfl⟩);have a':=FP (f.o.a8 x (kH g)).1 b;have Z:yE x.m=0:=by unfold yE;rw[aD F.2]
 have X:yF x.m=dn x.m:=by unfold yF;rw[aD F.2]
 have g':lk ((xs.take (k+1)).map ht.m)=lk ((xs.take k).map ht.m)++[.string ⟨(dn x.m).toArray⟩]:=by
  rw[take_add_one,g];simp[lk]
 have sd:=af g';have ps:=af b;have h2:=b.size;clear g' b;go_wp2_with fail;have vl:Below d wr (wr.alloc (ae (ky x) 254)):=(b3 _ wr).alloc h2 _;refine aU (YY x.m (FP a' ((b3 _ wr).alloc bs _)) F.1) λK fr=>?_;rw[Z,X];have V:Keeps aI wr K:=((ba wr).alloc _).trans (Keeps.bD fr a7);clear Z X vl fr a' F St Tq TS T' V' W' ZG;have ZH:=V.size;generalize dn x.m=lb at *;have zp:=KU K (.string ⟨lb.toArray⟩) 9;have hd:=b4 G V (λ_ _=>id);go_wp2_with (at_builtin;refine Db _ rfl (.tmp 51) (.tmp 53) _ rfl d.heap.size 9 i0 _ 1 16 underlying33 r'.out Aw CW Q' rfl U _ k _ rfl (b4 hd ((ba _).alloc _) (λ_ _=>id)) (some (ad _ 0 ab)) 1 1 [.string ⟨lb.toArray⟩] rfl zp mJ pB U bT ?_);intro v1 l' zd v' _;have ys:Keeps (λk=>d.heap.size<=k) K l':=((Keeps.refl _ K).alloc _).grown v' (λk hk=>.inl (hd.lt k hk).1);have w':Keeps (λk=>d.heap.size<=k) wr l':=cL (V.mono λ_ _ x=>x.elim) ys (λk _ h=>h);have s':=ps.o.trans (w'.below h2 a7);go_wp2_with fail;go_roundw
 case rel=>exact⟨k+1,U,by go_num,by rw[sd.o];simpa using zd,s'⟩
 simp[intOf];omega
 ):p:=h
def M7{p:ak}(h:p:=by
 go_wp2_with fail;go_quiet ((go_at_call 307;exact(n.o _).mono λ_ _ h=>⟨h.1,_,h.2.symm⟩));go_wp2_with fail;go_quiet (fail);go_wp2_with fail
 all_goals try (exfalso;omega)
 rename_i d _ _;have b:=(((ba w).alloc (ae #[I m.kind,aP m.bK,bx m.cj,bx m.ch,aq a m.a8.length c,aP m.sum,I m.lead] 254)).alloc (ae (aT bG.zero none 0) 199)).drewN (d+nq);have j:(((w.alloc (ae #[I m.kind,aP m.bK,bx m.cj,bx m.ch,aq a m.a8.length c,aP m.sum,I m.lead] 254)).alloc (ae (aT bG.zero none 0) 199)).drewN (d+nq)).heap[w.heap.size+1]?=some (ae (aT bG.zero none 0) 199 (0,0)):=by
  have:=aX (w.alloc (ae #[I m.kind,aP m.bK,bx m.cj,bx m.ch,aq a m.a8.length c,aP m.sum,I m.lead] 254)) (ae (aT bG.zero none 0) 199)
  simpa using this
 have g:=dx _ _ _ _ (gw j rfl (I 0) (I 0) (aq none 0 0) (I 0) (aP 0) (I 0)) 6 rfl;simp only[aT,bG.zero,e_]at g;refine cU (v:=aV #[.agg (aT bG.zero none 0),false]) Mq rfl ?_;exact⟨⟨none,0,rfl,nR _,λ_ e=>nomatch e⟩,H.o.keeps (r2 b (uQ _) _ _ _ _ _ _) (λ_ _ h=>h),(r2 b (uQ _) _ _ _ _ _ _).mono λ_ _ h=>h.elim⟩
 ):p:=h
def NM{p:ak}(h:p:=by
 have f:=(((Keeps.refl (λb=>b=B.h2\/b=B.d2) s).drewN nq).trans hk).heap L.out U;have u:=(an).aE.lt;have q:=aS (an).box;have y:=bI (an).res;have t:=aS (an).res;have M:=bP f;have N:=aS f;have d:=af an;go_wp2_with fail;have n:=gZ.fin (d.o) H.out (I ((⟨1,0,[],0,0,0⟩:bG)).kind) (I ((⟨1,0,[],0,0,0⟩:bG)).ec) (.slice none ((⟨1,0,[],0,0,0⟩:bG)).a8.length 0) (I ((⟨1,0,[],0,0,0⟩:bG)).frame) (aP ((⟨1,0,[],0,0,0⟩:bG)).sum) (I ((⟨1,0,[],0,0,0⟩:bG)).lead);simp only at n;generalize World.setCell _ (ad (w+1) 5 ab) _=F at *;obtain⟨r,k,j,i⟩:=n;have D:=dx _ _ _ _ r 6 rfl;refine cU (v:=aV #[.agg (aT (⟨1,0,[],0,0,0⟩:bG) none 0),true]) uV rfl ?_;exact⟨⟨none,0,rfl,i (nR _),(λ_ e=>nomatch e)⟩,k,j⟩
 ):p:=h
def MP{p:ak}(h:p:=by
 go_wp2_with fail;refine(j.out _).mono ?_;rintro e _ ⟨rfl,rfl⟩;go_wp2_with fail;go_quiet ((go_at_call 55;exact(m.out _).mono λ_ _ h=>⟨h.1,_,h.2.symm⟩));go_wp2_with fail
 all_goals try (exfalso;omega)
 refine cU (v:=aV #[]) jj rfl ?_;exact⟨rfl,H.out.drew _,(Keeps.refl _ _).drewN _⟩
 ):p:=h
def Nr{p:ak}(h:p:=by
 rw[show(w.alloc (ae #[I m.kind,aP m.bK,bx m.cj,bx m.ch,aq a m.a8.length c,aP m.sum,I m.lead] 254)).heap.size=w.heap.size+1 by simp]at this;exact this
 ):p:=h
def NP{p:ak}(h:p:=by
 have ps:=O.alloc (ae #[I m.kind,I l.next,aq a' (m.a8.length-d) (c-d),I 0,aP 0,I 0] 199);have r':=ps.drew;exact r'
 ):p:=h
def qw{p:ak}(h:p:=by
 exact⟨⟨none,0,rfl,i (nR _),(λ_ e=>nomatch e)⟩,k,j⟩
 ):p:=h
def zV{p:ak}(h:p:=by
 simp only[IntKind.wrap,IntKind.bits,IntKind.signed];simp;omega
 ):p:=h
variable{w:ai}{B:iB}{l:b9}
def qf(l:b9):b9:={l with b_:=l.b_+1}
def gu(l:b9):b9:=if (qf l).ey<(qf l).b_-(qf l).heard then {qf l with state:=2}else qf l
def c1(l:b9)(lead:aa):ah a1×b9:=lX (gu l) lead
def lk(a:ah a1):ah ax:=a.map λm=>Value.string ⟨(dn m).toArray⟩
def Od(w:ai)(B:iB)(l:b9)(lead:aa)(e:Ending)(w':ai):ak:=
 (∃ A cap,e=.returned (.slice A (c1 l lead).1.length cap)/\dR w' 1 A (c1 l lead).1.length cap (lk (c1 l lead).1)/\∀ y,A=some y->w.heap.size<=y.block)/\IsLink w' B (c1 l lead).2/\Keeps B.S w w'
def Sj:(prog.info? 9).map (λi=>(i.zero,i.size,i.bytes))=some (some (.string ByteArray.empty),1,16):=aH
theorem FP{w w':ai}{a:b5 Addr}{c:J}{L:ah aR}(h:c3 w a c L)(aj:Below w w w'):c3 w' a c L:=
 h.keeps (S:=aI) (Keeps.bD aj a7) (λ_ _ _=>id)
def QM{xs:ah ht}{k:J}{x:ht}(h:xs[k]?=some x)(j:J)(c:j<7):(jm xs)[k*7+j]?=(ky x).toList[j]?:=by
 induction xs generalizing k with
 | nil=>simp at h
 | cons y ys a=>
  have b:(ky y).toList.length=7:=rfl;unfold jm at a⊢;rw[iS];cases k with
  | zero=>
   simp only[kG,hr]at h;subst h;rw[jU U]
   congr 1
   omega
  | succ k=>
   rw[jV]at h;rw[l3 U,b,<-a h]
   congr 1
   omega
def sx{a wr:ai}{b:J}{bR o cap:J}{xs:ah ht}(h:Al b a (some (ad bR o ab)) cap xs)(aj:Below a a wr)(k:J)(x:ht)(c:xs[k]?=some x)(j:J)(d:j<7)(u:ax)(f:(ky x).toList[j]?=some u):wr.cell? (ad bR (o+k*7+j) ab)=some u:=by
 rw[ih];have hk:=(hp.1 c).1;have⟨g,i,e,al⟩:=h.br.at' U;cases e
 have:=al (k*7+j) u (by rw[QM c j d,f])
 exact(Keeps.bD (S:=aI) aj a7).cell this id
def Ip(h:IsLink w B l)(lead:aa)(aO:0<=l.b_/\l.b_<=1000000)(aJ:0<=l.heard/\l.heard<=1000000)(j7:∀ m∈l.out,m.a8=[])(hm:∀ m∈(c1 l lead).1,m.wf/\di m)(ar:(c1 l lead).1.length<=100):aA 85 #[B.p,I lead] w (Od w B l lead):=by
 have dM:=h.dM;have W:=h.free 4;have a:=h.set 4 (I (l.b_+1)) (qf l) rfl rfl rfl;have D:=Keeps.setCell (S:=B.S) (Keeps.refl _ w) (p:=ad B.p 4 ab) (.inl rfl) (I (l.b_+1));have H:=af h;obtain⟨i0,aw,Aw,CW,Q'⟩:∃ i,prog.info? 9=some i/\i.zero=some (.string ByteArray.empty)/\i.size=1/\i.bytes=16:=by
  have h:=Sj;cases aJ:prog.info? 9 with
  | none=>rw[aJ]at h;cases h
  | some i=>rw[aJ]at h;simp only[pw,hr,jA]at h;exact⟨i,rfl,h.1,h.2.1,h.2.2⟩
 have r':=af aw;by_cases au:l.ey<l.b_+1-l.heard
 .have t:gu l={qf l with state:=2}:=by unfold gu;rw[aD (by exact au)]
  go_in
  go_wp2_with fail;generalize w.setCell (ad B.p 4 ab) (I (l.b_+1))=ao at *;have P:ao.cell? (ad B.p 4 ab)=some (I (l.b_+1)):=a.dM;have Q:ao.cell? (ad B.p 5 ab)=some (I l.heard):=a.fN;have d1:ao.cell? (ad B.p 1 ab)=some (I l.ey):=a.bY;go_quiet (fail);have d2:=(a.drew nq).bo;have g2:=(a.drew nq).free 2;have s:=(a.drew nq).set 2 (I 2) (gu l) (by rw[t];rfl) (by rw[t]) (by rw[t]);have j:=Keeps.setCell (S:=B.S) (D.drewN nq) (p:=ad B.p 2 ab) (.inl rfl) (I 2);go_wp2_with fail;clear P Q d1 d2 g2 a D dM W;generalize (ao.drewN nq).setCell (ad B.p 2 ab) (I 2)=bm at *;have z:0<=(gu l).b_/\(gu l).b_<=1099511627776:=by
   have:(gu l).b_=l.b_+1:=by unfold gu;split<;>rfl
   rw[this];omega
  have x:∀ m∈(gu l).out,m.a8=[]:=by
   have:(gu l).out=l.out:=by unfold gu;split<;>rfl
   rw[this];exact j7
  refine(Ir s lead z x).mono ?_;rintro e d ⟨⟨A,cap,xs,rfl,an,r⟩,u,C⟩;have c:=j.trans C;have M:=af u;have L:=af c;have q:xs.length=(c1 l lead).1.length:=by
   have:=cV length r
   rwa [gV]at this
  have T:w.heap.size<=d.heap.size:=c.size;have mv:∀ y,A=some y->w.heap.size<=y.block:=λy e=>b7 j.size (an.new y e);have f:=af an;have E:=af (show xs.map ht.m=(c1 l lead).1 from r);have Y:=af hm;have N:=af ar;clear z x an u C c s j hm j7 r ar;have m':xs.length<=100:=by rw[q];exact N.o
  go_wp2_with fail;go_loopw [5,40] (λv i wr=>∃ k:J,k<=xs.length/\i=I k/\wr.ownsRow d.heap.size 9 1 v k (lk ((xs.take k).map ht.m))/\Below d d wr) (λ_ i _=>xs.length-(intOf i).toNat)
  case atStart=>exact⟨0,c' _,rfl,gI _ _ _ _,b3 _ _⟩
  obtain⟨k,hk,rfl,G,b⟩:=hrel;by_cases gf:k<xs.length
  .exact LM
  obtain rfl:k=xs.length:=U;obtain⟨cB,O,rfl,n,R⟩:=cS G;rw[nE,E.o]at n;rw[q]at n;go_wp2_with fail;go_ret;refine⟨⟨cB,O,by rw[<-q];rfl,n,λy e=>b7 T (R y e).1⟩,M.o.below b,?_⟩;exact cL L.o (Keeps.bD (S:=aI) b a7) (λk _ h=>h.elim)
 have t:gu l=qf l:=by unfold gu;rw[az (by exact au)]
 go_in
 go_wp2_with fail;generalize w.setCell (ad B.p 4 ab) (I (l.b_+1))=ao at *;have P:ao.cell? (ad B.p 4 ab)=some (I (l.b_+1)):=a.dM;have Q:ao.cell? (ad B.p 5 ab)=some (I l.heard):=a.fN;have d1:ao.cell? (ad B.p 1 ab)=some (I l.ey):=a.bY;go_quiet (fail);have s:=a.drew nq;rw[<-t]at s;have j:=D.drewN nq;clear t;go_wp2_with fail;clear P Q d1 a D dM W;generalize ao.drewN nq=bm at *;have z:0<=(gu l).b_/\(gu l).b_<=1099511627776:=by
  have:(gu l).b_=l.b_+1:=by unfold gu;split<;>rfl
  rw[this];omega
 have x:∀ m∈(gu l).out,m.a8=[]:=by
  have:(gu l).out=l.out:=by unfold gu;split<;>rfl
  rw[this];exact j7
 refine(Ir s lead z x).mono ?_;rintro e d ⟨⟨A,cap,xs,rfl,an,r⟩,u,C⟩;have c:=j.trans C;have M:=af u;have L:=af c;have q:xs.length=(c1 l lead).1.length:=by
  have:=cV length r
  rwa [gV]at this
 have T:w.heap.size<=d.heap.size:=c.size;have mv:∀ y,A=some y->w.heap.size<=y.block:=λy e=>b7 j.size (an.new y e);have f:=af an;have E:=af (show xs.map ht.m=(c1 l lead).1 from r);have Y:=af hm;have N:=af ar;clear z x an u C c s j hm j7 r ar;have m':xs.length<=100:=by rw[q];exact N.o
 go_wp2_with fail;go_loopw [5,40] (λv i wr=>∃ k:J,k<=xs.length/\i=I k/\wr.ownsRow d.heap.size 9 1 v k (lk ((xs.take k).map ht.m))/\Below d d wr) (λ_ i _=>xs.length-(intOf i).toNat)
 case atStart=>exact⟨0,c' _,rfl,gI _ _ _ _,b3 _ _⟩
 obtain⟨k,hk,rfl,G,b⟩:=hrel;by_cases gf:k<xs.length
 .exact LM
 obtain rfl:k=xs.length:=U;obtain⟨cB,O,rfl,n,R⟩:=cS G;rw[nE,E.o]at n;rw[q]at n;go_wp2_with fail;go_ret;refine⟨⟨cB,O,by rw[<-q];rfl,n,λy e=>b7 T (R y e).1⟩,M.o.below b,?_⟩;exact cL L.o (Keeps.bD (S:=aI) b a7) (λk _ h=>h.elim)
def hK(l:b9)(s:aa):b9:=
 let p:=ec (min l.c4 1073741824) s
 if p.2≠0\/p.1<l.c4\/l.c4+l.own.length<p.1 then l else {l with c4:=p.1,own:=l.own.drop (p.1-l.c4).toNat}
def Iq(h:IsLink w B l)(s:aa)(bd:0<=l.c4/\l.c4<=1073741824):aA 305 #[B.p,bx s] w λe w'=>e=aV #[]/\IsLink w' B (hK l s)/\Keeps B.S w w':=by
 have c5:=h.c5;have eb:=h.eb;have V:min l.c4 1073741824=l.c4:=U;unfold hK;rw[V];have K:(kc l.own).length=l.own.length:=by simp[kc]
 have T:=h.own.le.1;rw[K]at T;have Z:IntKind.i64.wrap (l.c4+(l.own.length:aa))=l.c4+(l.own.length:aa):=by
  exact zV
 have t:=λn=>vU (h.drew n).own;rw[K]at t;have A:=λW=>Cv l.c4 s W;generalize au:ec l.c4 s=p at *;have⟨f,b0⟩:=p;simp only at *;have m:=af t;have j:=af A;have H:=af h;clear h t A au;by_cases h1:b0≠0
 .rw[aD (.inl h1)];have a':(b0 != 0)=true:=by simpa using h1
  go_in
  go_wp2_with fail;refine(j.o _).mono ?_;rintro e _ ⟨rfl,rfl⟩;go_wp2_with fail;go_quiet ((go_at_call 55;exact(m.out _).mono λ_ _ h=>⟨h.1,_,h.2.symm⟩));go_wp2_with fail
  all_goals try (exfalso;omega)
  refine cU (v:=aV #[]) jj rfl ?_;exact⟨rfl,H.out.drew _,(Keeps.refl _ _).drewN _⟩
 have h1:b0=0:=U;subst h1;by_cases h2:f<l.c4
 .rw[aD (.inr (.inl h2))]
  go_in
  exact MP
 by_cases P:l.c4+l.own.length<f
 .rw[aD (.inr (.inr P))]
  go_in
  exact MP
 rw[az U];obtain⟨d,hd⟩:∃ d:J,f=l.c4+d:=⟨(f-l.c4).toNat,U⟩;subst hd;rw[show(l.c4+(d:aa)-l.c4).toNat=d by omega];have X:d<=l.own.length:=U
 go_in
 go_wp2_with fail;refine(j.out _).mono ?_;rintro e _ ⟨rfl,rfl⟩;go_wp2_with fail;go_quiet ((go_at_call 55;exact(m.out _).mono λ_ _ h=>⟨h.1,_,h.2.symm⟩));go_wp2_with fail
 all_goals try (exfalso;omega)
 have Q:=H.out.drew nq;have R:=(Keeps.refl B.S w).drewN nq;generalize w.drewN nq=ao at *;clear eb c5 m j;have y:decide (l.own.length<d)=false:=bT;have z:decide (l.c4+(d:aa)<l.c4)=false:=bT;simp only[y,z,wP];clear y z;go_loopg [] d (λg wr=>∃ k:J,g=d-k/\k<=d/\IsLink wr B {l with c4:=l.c4+k,own:=l.own.drop k}/\Keeps B.S w wr)
 case atStart=>exact⟨0,rfl,c' _,by simpa using Q,R⟩
 obtain⟨k,rfl,hk,a,i⟩:=hrel;have c5:=a.c5;have eb:=a.eb;have O:=a.free 7;by_cases Y:k<d
 .have G:l.own.drop k=l.own[k] :: l.own.drop (k+1):=qm U;have u:=a.own;rw[show kc (l.own.drop k)=((l.own[k]).toNat:aa) :: kc (l.own.drop (k+1))by rw[G];rfl]at u;have q:=af a;have r:=af i;clear a i G;go_wp2_with fail;refine(Sx u).mono ?_;rintro e aC ⟨rfl,F,x⟩;have c:=q.out.B1 (L:=l.own.drop (k+1)) (l':={l with c4:=l.c4+k,own:=l.own.drop (k+1)}) F x rfl rfl rfl;have C:=c.set 7 (I (l.c4+k+1)) {l with c4:=l.c4+(k+1:J),own:=l.own.drop (k+1)} (by simp[lH];omega) rfl rfl;have D:=r.out.trans (x.mono λb _ h=>h.elim (λe=>.inr (.inl e)) (λe=>.inr (.inr (.inl e))));have E:=Keeps.setCell (S:=B.S) D (p:=ad B.p 7 ab) (.inl rfl) (I (l.c4+k+1));have c5:=c.c5;have O:=c.free 7;have M:=af C;have N:=af E;clear c C D E F x u;go_wp2_with fail;go_roundg (d-(k+1))
  case rel=>exact⟨k+1,U,U,M.o,N.o⟩
  omega
 obtain rfl:k=d:=U;have q:=af a;have r:=af i;clear a i;go_wp2_with fail;refine qk (v:=aV #[]) jj rfl ?_;exact⟨rfl,q.o,r.o⟩
structure bG where
 kind:aa
 ec:aa
 a8:ah aR
 frame:aa
 sum:aa
 lead:aa
def bG.zero:bG:=⟨0,0,[],0,0,0⟩
def aT(h:bG)(a:b5 Addr)(c:J):a6 ax:=#[I h.kind,I h.ec,aq a h.a8.length c,I h.frame,aP h.sum,I h.lead]
def s_(bl:J)(w:ai)(B:iB)(h:bG)(ok:ax)(l':b9)(e:Ending)(w':ai):ak:=
 (∃ a c,e=aV #[.agg (aT h a c),ok]/\c3 w' a c h.a8/\∀ x,a=some x->bl<=x.block)/\IsLink w' B l'/\Keeps B.S w w'
def ja(l:b9)(m:a1):bG×aY×b9:=
 let p:=ec (min l.next 1073741824) m.cj
 if p.2≠0\/l.next<p.1\/p.1+m.a8.length<=l.next then(bG.zero,false,l)else(⟨m.kind,l.next,m.a8.drop (l.next-p.1).toNat,0,0,0⟩,true,{l with next:=p.1+m.a8.length})
def gw{W:ai}{b:J}{bQ:a6 ax}(h:W.heap[b]?=some (ae bQ 199 (0,0)))(av:bQ.size=6)(g i v2 j k l:ax):((((((W.setCell (ad b 0 ab) g).setCell (ad b 1 ab) i).setCell (ad b 2 ab) v2).setCell (ad b 3 ab) j).setCell (ad b 4 ab) k).setCell (ad b 5 ab) l).heap[b]?=some (ae #[g,i,v2,j,k,l] 199 (0,0)):=by
 rw[bV (bV (bV (bV (bV (bV h 0 g) 1 i) 2 v2) 3 j) 4 k) 5 l];have⟨bQ⟩:=bQ
 match bQ,av with
 | [a,b,c,d,e,f],_=>rfl
theorem r2{S:J->ak}{w W:ai}{b:J}(h:Keeps S w W)(aj:w.heap.size<=b)(a c v2 d e f:ax):Keeps S w ((((((W.setCell (ad b 0 ab) a).setCell (ad b 1 ab) c).setCell (ad b 2 ab) v2).setCell (ad b 3 ab) d).setCell (ad b 4 ab) e).setCell (ad b 5 ab) f):=
 (((((h.oi (p:=ad b 0 ab) aj a).oi (p:=ad b 1 ab) aj c).oi (p:=ad b 2 ab) aj v2).oi (p:=ad b 3 ab) aj d).oi (p:=ad b 4 ab) aj e).oi (p:=ad b 5 ab) aj f
theorem BB{S:J->ak}{w W:ai}{b:J}(h:Keeps S w W)(aj:S b)(a c v2 d e f:ax):Keeps S w ((((((W.setCell (ad b 0 ab) a).setCell (ad b 1 ab) c).setCell (ad b 2 ab) v2).setCell (ad b 3 ab) d).setCell (ad b 4 ab) e).setCell (ad b 5 ab) f):=
 (((((h.setCell (p:=ad b 0 ab) aj a).setCell (p:=ad b 1 ab) aj c).setCell (p:=ad b 2 ab) aj v2).setCell (p:=ad b 3 ab) aj d).setCell (p:=ad b 4 ab) aj e).setCell (p:=ad b 5 ab) aj f
def G5(a b:aa):0<=(ec a b).1/\(ec a b).1<=1073741824:=by
 unfold ec;simp only[]
 (repeat' split)<;>simp only[]<;>omega
def Sn(h:IsLink w B l)(m:a1){a:b5 Addr}{c:J}{bl:J}(ar:0<=l.next/\l.next<=1073741824)(hm:m.a8.length<=1000000)(f b0:aa)(k:∀ W,aA 307 #[I l.next,bx m.cj] W λe w'=>e=aV #[I f,I b0]/\W=w')(s:0<=f/\f<=1073741824)(i:b0≠0\/l.next<f\/f+m.a8.length<=l.next):aA 306 #[B.p,(aQ #[I m.kind,aP m.bK,bx m.cj,bx m.ch,aq a m.a8.length c,aP m.sum,I m.lead])] w (s_ bl w B bG.zero (.bool false) l):=by
 have fy:=h.fy;have q:=h.free 8;have u:min l.next 1073741824=l.next:=U;have t:=h.lt.1;have n:=af k;have H:=af h;clear h k;by_cases h1:b0≠0
 .clear i;have y:(b0 != 0)=true:=by simpa using h1
  go_in
  exact M7
 have h1:b0=0:=U;subst h1;by_cases h2:l.next<f
 .clear i
  go_in
  exact M7
 have x:IntKind.i64.wrap (f+(m.a8.length:aa))=f+(m.a8.length:aa):=by
  exact zV
 have r:f+m.a8.length<=l.next:=U;clear i
 go_in
 go_wp2_with fail;go_quiet ((go_at_call 307;exact(n.o _).mono λ_ _ h=>⟨h.1,_,h.2.symm⟩));go_wp2_with fail;go_quiet (fail);go_wp2_with fail
 all_goals try (exfalso;omega)
 rename_i d _ _;have b:=(((ba w).alloc (ae #[I m.kind,aP m.bK,bx m.cj,bx m.ch,aq a m.a8.length c,aP m.sum,I m.lead] 254)).alloc (ae (aT bG.zero none 0) 199)).drewN (d+nq);have j:(((w.alloc (ae #[I m.kind,aP m.bK,bx m.cj,bx m.ch,aq a m.a8.length c,aP m.sum,I m.lead] 254)).alloc (ae (aT bG.zero none 0) 199)).drewN (d+nq)).heap[w.heap.size+1]?=some (ae (aT bG.zero none 0) 199 (0,0)):=by
  have:=aX (w.alloc (ae #[I m.kind,aP m.bK,bx m.cj,bx m.ch,aq a m.a8.length c,aP m.sum,I m.lead] 254)) (ae (aT bG.zero none 0) 199)
  simpa using this
 have g:=dx _ _ _ _ (gw j rfl (I 0) (I 0) (aq none 0 0) (I 0) (aP 0) (I 0)) 6 rfl;simp only[aT,bG.zero,e_]at g;refine cU (v:=aV #[.agg (aT bG.zero none 0),false]) Mq rfl ?_;exact⟨⟨none,0,rfl,nR _,λ_ e=>nomatch e⟩,H.o.keeps (r2 b (uQ _) _ _ _ _ _ _) (λ_ _ h=>h),(r2 b (uQ _) _ _ _ _ _ _).mono λ_ _ h=>h.elim⟩
def PU(X:ai):X.drew.heap=X.heap:=rfl
def FR{a:b5 Addr}{c:J}{L:ah aR}(h:c3 w a c L)(f:w.heap[B.p]?=some (ae (lH B l) 124 (0,0)))(hne:L≠[])(x:Addr)(g:a=some x):x.block≠B.p:=by
 obtain⟨b,o,rfl,al⟩:=h.at' hne;cases g;intro e;simp only at e;subst e;have d:=al 0 (qo.2 hne);unfold World.cell? at d;rw[f]at d;have h1:(lH B l)[o]?=some (ef (L[0]'(qo.2 hne))):=by simpa using d
 unfold lH ef at h1
 match o,h1 with
 | 0,h1=>simp at h1
 | 1,h1=>simp at h1
 | 2,h1=>simp at h1
 | 3,h1=>simp at h1
 | 4,h1=>simp at h1
 | 5,h1=>simp at h1
 | 6,h1=>simp at h1
 | 7,h1=>simp at h1
 | 8,h1=>simp at h1
 | 9,h1=>simp at h1
 | 10,h1=>simp at h1
 | 11,h1=>simp at h1
 | 12,h1=>simp at h1
 | o+13,h1=>simp at h1
def Sp(h:IsLink w B l)(m:a1){a:b5 Addr}{c:J}{bl:J}(M:∀ x,a=some x->bl<=x.block)(aj:c3 w a c m.a8)(ar:0<=l.next/\l.next<=1073741824)(hm:m.a8.length<=1000000)(f:aa)(E:∀ W,aA 307 #[I l.next,bx m.cj] W λe w'=>e=aV #[I f,I 0]/\W=w')(ys:0<=f/\f<=1073741824)(h2:¬ l.next<f)(v':¬ f+m.a8.length<=l.next):aA 306 #[B.p,(aQ #[I m.kind,aP m.bK,bx m.cj,bx m.ch,aq a m.a8.length c,aP m.sum,I m.lead])] w (s_ bl w B ⟨m.kind,l.next,m.a8.drop (l.next-f).toNat,0,0,0⟩ (.bool true) {l with next:=f+m.a8.length}):=by
 have fy:=h.fy;have D:=h.free 8;have CW:min l.next 1073741824=l.next:=U;have zd:=h.lt.1;have Q:=af E;have H:=af h;clear h E;have Tq:IntKind.i64.wrap (f+(m.a8.length:aa))=f+(m.a8.length:aa):=by
  exact zV
 have⟨d,hd⟩:∃ d:J,l.next-f=d:=⟨(l.next-f).toNat,U⟩;have s:d<m.a8.length:=U;have⟨a',Q',P,G⟩:=aj.drop d U;have Y:=af (show ∀ x,a'=some x->bl<=x.block from λx C=>by have⟨y,u,mv⟩:=G x C;have:=M y u;omega);clear M;have m':(l.next-f).toNat=d:=U;rw[m']
 go_in
 go_wp2_with fail;go_quiet ((go_at_call 307;exact(Q.o _).mono λ_ _ h=>⟨h.1,_,h.2.symm⟩));go_wp2_with fail;go_quiet (fail);go_wp2_with fail
 all_goals try (exfalso;omega)
 have St:IntKind.i64.wrap (l.next-f)=(d:aa):=by
  exact zV
 generalize g:World.drewN (World.drewN (World.alloc (World.alloc w _) _) _) _=W;have t:Keeps aI w W:=by
  rw[<-g];exact((((ba w).alloc _).alloc _).drewN _).drewN _
 have q:W.heap[w.heap.size+1]?=some (ae (aT bG.zero none 0) 199 (0,0)):=by
  rw[<-g]
  have:=aX (w.alloc (ae #[I m.kind,aP m.bK,bx m.cj,bx m.ch,aq a m.a8.length c,aP m.sum,I m.lead] 254)) (ae (aT bG.zero none 0) 199)
  exact Nr
 have A:W.heap[w.heap.size]?=some (ae #[I m.kind,aP m.bK,bx m.cj,bx m.ch,aq a m.a8.length c,aP m.sum,I m.lead] 254 (0,0)):=by
  rw[<-g];exact cm (aX w (ae #[I m.kind,aP m.bK,bx m.cj,bx m.ch,aq a m.a8.length c,aP m.sum,I m.lead] 254)) (ae (aT bG.zero none 0) 199)
 have N:W.heap.size=w.heap.size+2:=by rw[<-g];simp
 clear g fy D;have j:=H.o.keeps t (λ_ _ h=>h);have sd:B.p<W.heap.size:=U;have zp:w.heap.size<W.heap.size:=U;have Aw:w.heap.size+1<W.heap.size:=U;have fy:=j.fy;have D:=j.free 8;have ZI:=aS A;have dg:=λk=>fx q k;have TS:=dg 0;have T':=dg 1;have V':=dg 2;have W':=dg 3;have ZG:=dg 4;have ZH:=dg 5;have eO:=aS q;clear dg;have r:=P.keeps t (λ_ _ _=>id);have T:=af j;have X:=af t;have R:=af q;have s':=af A;have vl:=af N;have V:=af r;clear j t q A N r
 go_region
 go_wp2_with fail;generalize n:World.drew _=z;have F:=eU (p:=ad B.p 8 ab) R.o (by show w.heap.size+1≠B.p;omega) (I (f+(m.a8.length:aa)));have fr:z.heap[w.heap.size+1]?=some (ae #[I m.kind,I l.next,aq a' (m.a8.length-d) (c-d),I 0,aP 0,I 0] 199 (0,0)):=by
  rw[<-n,PU];exact cm (gw F rfl (I m.kind) (I l.next) (aq a' (m.a8.length-d) (c-d)) (I 0) (aP 0) (I 0)) _
 have lb:=dx _ _ _ _ fr 6 rfl;have an:=T.o.set 8 (I (f+(m.a8.length:aa))) {l with next:=f+m.a8.length} rfl rfl rfl;have K:Keeps B.S w _:=Keeps.setCell (S:=B.S) (X.o.mono λ_ _ h=>h.elim) (p:=ad B.p 8 ab) (.inl rfl) (I (f+(m.a8.length:aa)));have gf:Keeps B.S w z:=by
  rw[<-n];have O:=r2 (b:=w.heap.size+1) K (Nat.le_add_right _ 1) (I m.kind) (I l.next) (aq a' (m.a8.length-d) (c-d)) (I 0) (aP 0) (I 0);exact NP
 have L:Keeps (λb=>b=w+1) (W.setCell (ad B.p 8 ab) (I (f+(m.a8.length:aa)))) z:=by
  rw[<-n];have O:=BB (S:=λb=>b=w.heap.size+1) (b:=w.heap.size+1) (Keeps.refl _ (W.setCell (ad B.p 8 ab) (I (f+(m.a8.length:aa))))) rfl (I m.kind) (I l.next) (aq a' (m.a8.length-d) (c-d)) (I 0) (aP 0) (I 0);exact NP
 have g':=(Keeps.setCell (S:=λb=>b=B.p\/b=w.heap.size+1) (Keeps.refl _ W) (p:=ad B.p 8 ab) (.inl rfl) (I (f+(m.a8.length:aa)))).trans (L.mono λ_ _ h=>.inr h);clear n K F;refine cU (v:=aV #[.agg (aT ⟨m.kind,l.next,m.a8.drop d,0,0,0⟩ a' (c-d)),true]) (by simp[aT,results,results306,asAddr,loadVar,loadCells,isAgg199,sizeOf199,lb]) rfl ?_;refine⟨⟨a',c-d,rfl,V.o.keeps g' ?_,Y.o⟩,an.keeps (S:=λb=>b=w.heap.size+1) L ?_,gf⟩
 .intro _ x C l';obtain⟨y,u,mv⟩:=G x C;have Z:y.block<w.heap.size:=aj.lt (by intro e;rw[e]at s;simp at s) y u;rcases l' with e|e
  .exact FR aj H.out.bc (by intro e;rw[e]at s;simp at s) y u U
  omega
 intro b r e;have Z:=H.out.lt;rcases r with i|i|i|i|i<;>omega
def Te(h:IsLink w B l)(m:a1){a:b5 Addr}{c:J}{bl:J}(g:∀ x,a=some x->bl<=x.block)(aj:c3 w a c m.a8)(ar:0<=l.next/\l.next<=1073741824)(hm:m.a8.length<=1000000):aA 306 #[B.p,(aQ #[I m.kind,aP m.bK,bx m.cj,bx m.ch,aq a m.a8.length c,aP m.sum,I m.lead])] w (s_ bl w B (ja l m).1 (.bool (ja l m).2.1) (ja l m).2.2):=by
 have i:min l.next 1073741824=l.next:=U;unfold ja;rw[i];have d:=λW=>Cv l.next m.cj W;have e:=G5 l.next m.cj;generalize ec l.next m.cj=p at *;have⟨f,b0⟩:=p;simp only at *;by_cases b:b0≠0\/l.next<f\/f+m.a8.length<=l.next
 .rw[aD b];exact Sn h m ar hm f b0 d e b
 rw[az b];obtain rfl:b0=0:=U;exact Sp h m g aj ar hm f d e U U
structure gZ(w V:ai)(B:iB)(l:b9)(m:a1)(a:b5 Addr)(c:J):ak where
 box:V.heap[w.heap.size]?=some (ae #[I m.kind,aP m.bK,bx m.cj,bx m.ch,aq a m.a8.length c,aP m.sum,I m.lead] 254 (0,0))
 res:V.heap[w.heap.size+1]?=some (ae (aT bG.zero none 0) 199 (0,0))
 aE:IsLink V B l
 cv:Keeps B.S w V
 a8:c3 V a c m.a8
def gZ.start(h:IsLink w B l)(m:a1){a:b5 Addr}{c:J}(aj:c3 w a c m.a8):gZ w ((w.alloc (ae #[I m.kind,aP m.bK,bx m.cj,bx m.ch,aq a m.a8.length c,aP m.sum,I m.lead] 254)).alloc (ae (aT bG.zero none 0) 199)) B l m a c:=by
 have hk:=((ba w).alloc (ae #[I m.kind,aP m.bK,bx m.cj,bx m.ch,aq a m.a8.length c,aP m.sum,I m.lead] 254)).alloc (ae (aT bG.zero none 0) 199);refine⟨cm (aX w _) _,?_,h.keeps hk (λ_ _=>id),hk.mono λ_ _ h=>h.elim,aj.keeps hk λ_ _ _=>id⟩
 have:=aX (w.alloc (ae #[I m.kind,aP m.bK,bx m.cj,bx m.ch,aq a m.a8.length c,aP m.sum,I m.lead] 254)) (ae (aT bG.zero none 0) 199)
 exact Nr
def gZ.next{V V':ai}{m:a1}{a:b5 Addr}{c:J}{l' g:b9}(h:gZ w V B l m a c)(d:IsLink w B g)(ar:∀ x,a=some x->¬ B.S x.block)(f:IsLink V' B l')(hk:Keeps B.S V V'):gZ w V' B l' m a c:=by
 have i:=d.lt;have av:∀ b,B.S b->b<w.heap.size:=λb aj=>by rcases aj with e|e|e|e|e<;>omega
 exact⟨hk.heap h.box (λx=>by have:=av _ x;omega),hk.heap h.res (λx=>by have:=av _ x;omega),f,h.cv.trans hk,h.a8.keeps hk λ_=>ar⟩
theorem gZ.drew{V:ai}{m:a1}{a:b5 Addr}{c:J}(h:gZ w V B l m a c)(n:J):gZ w (V.drewN n) B l m a c:=
 ⟨h.box,h.res,h.aE.drew n,h.cv.drewN n,h.a8.keeps ((ba V).drewN n) λ_ _ _=>id⟩
def FQ{a:b5 Addr}{c:J}{L:ah aR}{b:J}{cs:a6 ax}{t:TypeId}(h:c3 w a c L)(f:w.heap[b]?=some (ae cs t (0,0)))(g:∀ n,aF n ∉ cs.toList)(hne:L≠[])(x:Addr)(j:a=some x):x.block≠b:=by
 obtain⟨k,o,rfl,al⟩:=h.at' hne;cases j;intro e;subst e;have d:=al 0 (qo.2 hne);unfold World.cell? at d;rw[f]at d;have h1:cs[o]?=some (ef (L[0]'(qo.2 hne))):=by simpa using d
 refine g _ (kH (i:=o) (a:=ef (L[0]'(qo.2 hne))) ?_);simpa using h1
def gZ.fin{p:b9}{V:ai}{m:a1}{a:b5 Addr}{c:J}(h:gZ w V B l m a c)(o:IsLink w B p)(d f v2 g i j:ax):let k:=((((((V.setCell (ad (w+1) 0 ab) d).setCell (ad (w+1) 1 ab) f).setCell (ad (w+1) 2 ab) v2).setCell (ad (w+1) 3 ab) g).setCell (ad (w+1) 4 ab) i).setCell (ad (w+1) 5 ab) j)
  k.heap[w.heap.size+1]?=some (ae #[d,f,v2,g,i,j] 199 (0,0))/\IsLink k B l/\Keeps B.S w k/\(∀ {a':b5 Addr} {n:J} {L:ah aR},c3 V a' n L->c3 k a' n L):=by
 have q:=o.lt;have hk:=BB (S:=λb=>b=w.heap.size+1) (b:=w.heap.size+1) (Keeps.refl _ V) rfl d f v2 g i j;refine⟨gw h.res rfl d f v2 g i j,h.aE.keeps hk (λb aj=>?_),r2 h.cv (uQ _) d f v2 g i j,λaj=>aj.keeps hk λhne x e=>FQ aj h.res (by simp[aT,bG.zero]) hne x e⟩;rcases aj with e|e|e|e|e<;>omega
def hR(l:b9)(m:a1):bG×aY×b9:=
 if m.kind=3 then ja (hK l m.ch) m else
 if m.kind=4 then(⟨4,0,[],(ec (min l.next 1073741824) m.cj).1,m.sum,0⟩,(ec (min l.next 1073741824) m.cj).2 == 0,l)else
 if m.kind=5 then(⟨5,0,[],0,0,0⟩,true,hK l m.ch)else
 if m.kind=6 then(⟨6,0,[],0,0,m.lead⟩,true,l)else(⟨m.kind,0,[],0,0,0⟩,true,l)
def Of(l:b9)(s:aa):(hK l s).next=l.next:=by
 unfold hK;simp only[];split<;>rfl
def Tf(h:IsLink w B l)(m:a1){a:b5 Addr}{c:J}{bl:J}(fr:∀ x,a=some x->bl<=x.block)(aj:c3 w a c m.a8)(G:∀ x,a=some x->¬ B.S x.block)(ar:0<=l.next/\l.next<=1073741824)(bd:0<=l.c4/\l.c4<=1073741824)(hm:m.a8.length<=1000000):aA 247 #[B.p,(aQ #[I m.kind,aP m.bK,bx m.cj,bx m.ch,aq a m.a8.length c,aP m.sum,I m.lead])] w (s_ bl w B (hR l m).1 (.bool (hR l m).2.1) (hR l m).2.2):=by
 have an:=gZ.start h m aj;simp only[aT,bG.zero,e_]at an;have g':=Of l m.ch;have⟨mk,Q,D,O,P,q,n⟩:=m;simp only at *;have H:=af h;have Y:=af fr;unfold hR;by_cases K:mk=3
 .subst K;rw[aD rfl];simp only;have b:=af an
  go_in
  go_wp2_with fail;refine aU (Iq b.o.aE _ bd) ?_;rintro V ⟨z,y⟩;have an:=b.out.next H.out G z y;have t:=(an).aE.lt;have s:=aS (an).box;have u:=bI (an).res;have r:=aS (an).res;have b:=af an;go_wp2_with fail;refine(Te b.o.aE ⟨3,Q,D,O,P,q,n⟩ Y.out b.o.a8 (by rw[g'];exact ar) hm).mono ?_;rintro e h2 ⟨⟨F,bo,rfl,a',gf⟩,z,y⟩;have Z:=af gf;have an:=b.out.next H.out G z y;generalize ja (hK l O) ⟨3,Q,D,O,P,q,n⟩=R at *;obtain⟨R,ok,lb⟩:=R;simp only at *;have t:=(an).aE.lt;have s:=aS (an).box;have u:=bI (an).res;have r:=aS (an).res;have b:=af an;have X:=af a';unfold aT;go_wp2_with fail;have d:=gZ.fin (b.o) H.out (I (R).kind) (I (R).ec) (.slice F (R).a8.length bo) (I (R).frame) (aP (R).sum) (I (R).lead);simp only at d;generalize World.setCell _ (ad (w+1) 5 ab) _=C at *;obtain⟨g,k,j,i⟩:=d;have A:=dx _ _ _ _ g 6 rfl;refine cU (v:=aV #[.agg (aT R F bo),.bool ok]) xb rfl ?_;exact⟨⟨F,bo,rfl,i X.o,Z.o⟩,k,j⟩
 rw[az K];by_cases L:mk=4
 .subst L;rw[aD rfl];have d:=λW=>Cv l.next D W;have hd:min l.next 1073741824=l.next:=U;rw[hd];generalize ec l.next D=p at *;obtain⟨f,b0⟩:=p;have T:=af d;have fy:=an.aE.fy
  go_in
  go_upto_region 1 with fail
  generalize World.alloc (World.alloc w _) _=E at *;have t:=(an).aE.lt;have s:=aS (an).box;have u:=bI (an).res;have r:=aS (an).res;have b:=af an;go_wp2_with fail;go_quiet ((go_at_call 307;exact(T.o _).mono λ_ _ h=>⟨h.1,_,h.2.symm⟩));go_wp2_with fail;have b:=af (b.o.drew nq);have d:=gZ.fin (b.o) H.out (I ((⟨4,0,[],f,q,0⟩:bG)).kind) (I ((⟨4,0,[],f,q,0⟩:bG)).ec) (.slice none ((⟨4,0,[],f,q,0⟩:bG)).a8.length 0) (I ((⟨4,0,[],f,q,0⟩:bG)).frame) (aP ((⟨4,0,[],f,q,0⟩:bG)).sum) (I ((⟨4,0,[],f,q,0⟩:bG)).lead);simp only at d;generalize World.setCell _ (ad (w+1) 5 ab) _=C at *;obtain⟨g,k,j,i⟩:=d;have A:=dx _ _ _ _ g 6 rfl;refine cU (v:=aV #[.agg (aT (⟨4,0,[],f,q,0⟩:bG) none 0),(b0 == 0)]) xb rfl ?_;exact qw
 rw[az L];by_cases M:mk=5
 .subst M;rw[aD rfl]
  go_in
  go_upto_region 1 with fail
  generalize World.alloc (World.alloc w _) _=E at *;have t:=(an).aE.lt;have s:=aS (an).box;have u:=bI (an).res;have r:=aS (an).res;have b:=af an;go_wp2_with fail;refine aU (Iq b.o.aE _ bd) ?_;rintro V ⟨z,y⟩;have an:=b.out.next H.out G z y;have t:=(an).aE.lt;have s:=aS (an).box;have u:=bI (an).res;have r:=aS (an).res;have b:=af an;go_wp2_with fail;have d:=gZ.fin (b.o) H.out (I ((⟨5,0,[],0,0,0⟩:bG)).kind) (I ((⟨5,0,[],0,0,0⟩:bG)).ec) (.slice none ((⟨5,0,[],0,0,0⟩:bG)).a8.length 0) (I ((⟨5,0,[],0,0,0⟩:bG)).frame) (aP ((⟨5,0,[],0,0,0⟩:bG)).sum) (I ((⟨5,0,[],0,0,0⟩:bG)).lead);simp only at d;generalize World.setCell _ (ad (w+1) 5 ab) _=C at *;obtain⟨g,k,j,i⟩:=d;have A:=dx _ _ _ _ g 6 rfl;refine cU (v:=aV #[.agg (aT (⟨5,0,[],0,0,0⟩:bG) none 0),true]) xb rfl ?_;exact qw
 rw[az M];by_cases N:mk=6
 .subst N;rw[aD rfl]
  go_in
  go_upto_region 1 with fail
  generalize World.alloc (World.alloc w _) _=E at *;have t:=(an).aE.lt;have s:=aS (an).box;have u:=bI (an).res;have r:=aS (an).res;have b:=af an;go_wp2_with fail;have d:=gZ.fin (b.o) H.out (I ((⟨6,0,[],0,0,n⟩:bG)).kind) (I ((⟨6,0,[],0,0,n⟩:bG)).ec) (.slice none ((⟨6,0,[],0,0,n⟩:bG)).a8.length 0) (I ((⟨6,0,[],0,0,n⟩:bG)).frame) (aP ((⟨6,0,[],0,0,n⟩:bG)).sum) (I ((⟨6,0,[],0,0,n⟩:bG)).lead);simp only at d;generalize World.setCell _ (ad (w+1) 5 ab) _=C at *;obtain⟨g,k,j,i⟩:=d;have A:=dx _ _ _ _ g 6 rfl;refine cU (v:=aV #[.agg (aT (⟨6,0,[],0,0,n⟩:bG) none 0),true]) xb rfl ?_;exact qw
 rw[az N];have d3:(mk == 3)=false:=by simpa using K
 have d4:(mk == 4)=false:=by simpa using L
 have d5:(mk == 5)=false:=by simpa using M
 have d6:(mk == 6)=false:=by simpa using N
 go_in
 go_upto_region 1 with fail
 generalize World.alloc (World.alloc w _) _=E at *;have t:=(an).aE.lt;have s:=aS (an).box;have u:=bI (an).res;have r:=aS (an).res;have b:=af an;go_wp2_with fail;have d:=gZ.fin (b.o) H.out (I ((⟨mk,0,[],0,0,0⟩:bG)).kind) (I ((⟨mk,0,[],0,0,0⟩:bG)).ec) (.slice none ((⟨mk,0,[],0,0,0⟩:bG)).a8.length 0) (I ((⟨mk,0,[],0,0,0⟩:bG)).frame) (aP ((⟨mk,0,[],0,0,0⟩:bG)).sum) (I ((⟨mk,0,[],0,0,0⟩:bG)).lead);simp only at d;generalize World.setCell _ (ad (w+1) 5 ab) _=C at *;obtain⟨g,k,j,i⟩:=d;have A:=dx _ _ _ _ g 6 rfl;refine cU (v:=aV #[.agg (aT (⟨mk,0,[],0,0,0⟩:bG) none 0),true]) xb rfl ?_;exact⟨⟨none,0,rfl,i (nR _),(λ_ e=>nomatch e)⟩,k,j⟩
theorem gZ.kA{V V':ai}{m:a1}{a:b5 Addr}{c:J}(h:gZ w V B l m a c)(hk:Keeps aI V V'):gZ w V' B l m a c:=
 ⟨hk.heap h.box id,hk.heap h.res id,h.aE.keeps hk λ_ _=>id,h.cv.trans (hk.mono λ_ _ h=>h.elim),h.a8.keeps hk λ_ _ _=>id⟩
def cP(l:b9)(m:a1):bG×aY×b9:=
 if m.kind=1 then(⟨1,0,[],0,0,0⟩,true,if l.out.length=8 then l else {l with out:=l.out++[⟨2,m.bK,0,0,[],0,0⟩]})else
 if m.kind=2 then(if m.bK=l.bK then(⟨2,0,[],0,0,0⟩,true,{l with state:=1})else(bG.zero,false,l))else
 if m.kind=7 then(⟨7,0,[],0,0,0⟩,true,{l with state:=2})else
 if l.state=1 then hR l m else(bG.zero,false,l)
def Tg(h:IsLink w B l)(m:a1){a:b5 Addr}{c:J}{bl:J}(sd:∀ x,a=some x->bl<=x.block)(aj:c3 w a c m.a8)(A:∀ x,a=some x->¬ B.S x.block)(ar:0<=l.next/\l.next<=1073741824)(bd:0<=l.c4/\l.c4<=1073741824)(hm:m.a8.length<=1000000):aA 167 #[B.p,(aQ #[I m.kind,aP m.bK,bx m.cj,bx m.ch,aq a m.a8.length c,aP m.sum,I m.lead])] w (s_ bl w B (cP l m).1 (.bool (cP l m).2.1) (cP l m).2.2):=by
 have an:=gZ.start h m aj;simp only[aT,bG.zero,e_]at an;have v':=h.lt;have⟨mk,z,ms,a',fr,g',gf⟩:=m;simp only at *;have H:=af h;have lb:=af sd;unfold cP;by_cases W:mk=1
 .subst W;rw[aD rfl];by_cases T:l.out.length=8
  .simp only[aD T]
   go_in
   go_upto_region 1 with fail
   generalize World.alloc (World.alloc w _) _=g at *;have C:=bP an.box;have q:=aS an.box;go_upto_region 2 with fail
   have f:=aX g (ae (aT ⟨1,0,[],0,0,0⟩ none 0) 199);simp only[aT,e_]at f;have an:=an.kA ((ba g).alloc (ae (aT ⟨1,0,[],0,0,0⟩ none 0) 199));simp only[aT,e_]at an;generalize World.alloc g _=s at *;have u:=(an).aE.lt;have q:=aS (an).box;have y:=bI (an).res;have t:=aS (an).res;have M:=bP f;have N:=aS f;have fa:=an.aE.fa;have d:=af an;have L:=af f;go_wp2_with fail;refine iR 7 aH aH ?_;simp only[hV,iy,hU,hI]
   repeat (go_big_quiet_step ((fail)))
   refine wpQuiet_nil ?_;intro _ O;obtain⟨nq,P⟩:=O;subst P;go_wp2_with fail;refine aU ((IF (d.o.drew nq).aE.out T ⟨2,z,0,0,[],0,0⟩)) ?_;rintro Z ⟨V,hk⟩;have an:=(d.out.drew nq).next (l':=l) H.out A ((d.out.drew nq).aE.BY V hk rfl rfl rfl) (hk.mono λb _ h=>h.elim (λe=>.inr (.inr (.inr (.inl e)))) (λe=>.inr (.inr (.inr (.inr e)))));exact NM
  simp only[az T];have hd:l.out.length<8:=by have:=H.out.out.le.1;omega
  go_in
  go_upto_region 1 with fail
  generalize World.alloc (World.alloc w _) _=g at *;have C:=bP an.box;have q:=aS an.box;go_upto_region 2 with fail
  have f:=aX g (ae (aT ⟨1,0,[],0,0,0⟩ none 0) 199);simp only[aT,e_]at f;have an:=an.kA ((ba g).alloc (ae (aT ⟨1,0,[],0,0,0⟩ none 0) 199));simp only[aT,e_]at an;generalize World.alloc g _=s at *;have u:=(an).aE.lt;have q:=aS (an).box;have y:=bI (an).res;have t:=aS (an).res;have M:=bP f;have N:=aS f;have fa:=an.aE.fa;have d:=af an;have L:=af f;go_wp2_with fail;refine iR 7 aH aH ?_;simp only[hV,iy,hU,hI]
  repeat (go_big_quiet_step ((fail)))
  refine wpQuiet_nil ?_;intro _ O;obtain⟨nq,P⟩:=O;subst P;go_wp2_with fail;refine aU ((IE (d.o.drew nq).aE.out hd ⟨2,z,0,0,[],0,0⟩)) ?_;rintro Z ⟨V,hk⟩;have an:=(d.out.drew nq).next (l':={l with out:=l.out++[⟨2,z,0,0,[],0,0⟩]}) H.out A ((d.out.drew nq).aE.BY V hk rfl rfl rfl) (hk.mono λb _ h=>h.elim (λe=>.inr (.inr (.inr (.inl e)))) (λe=>.inr (.inr (.inr (.inr e)))));exact NM
 rw[az W];by_cases X:mk=2
 .subst X;rw[aD rfl];by_cases G:z=l.bK
  .rw[aD G];subst G
   go_in
   go_upto_region 1 with fail
   generalize World.alloc (World.alloc w _) _=g at *;have C:=bP an.box;have q:=aS an.box;go_upto_region 2 with fail
   have f:=aX g (ae (aT ⟨2,0,[],0,0,0⟩ none 0) 199);simp only[aT,e_]at f;have an:=an.kA ((ba g).alloc (ae (aT ⟨2,0,[],0,0,0⟩ none 0) 199));simp only[aT,e_]at an;generalize World.alloc g _=s at *;have u:=(an).aE.lt;have q:=aS (an).box;have y:=bI (an).res;have t:=aS (an).res;have M:=bP f;have N:=aS f;have bt:=an.aE.bt;have f2:=an.aE.free 2;have bo:=an.aE.bo;have d:=af an;have L:=af f;go_wp2_with fail;go_quiet (fail);go_wp2_with fail;have E:=d.o.drew nq;have d:=af (E.next (V':=(s.drewN nq).setCell (ad B.p 2 ab) (I 1)) (l':={l with state:=1}) H.out A (E.aE.set 2 (I 1) _ rfl rfl rfl) (Keeps.setCell (Keeps.refl _ _) (.inl rfl) _));have n:=gZ.fin (d.o) H.out (I ((⟨2,0,[],0,0,0⟩:bG)).kind) (I ((⟨2,0,[],0,0,0⟩:bG)).ec) (.slice none ((⟨2,0,[],0,0,0⟩:bG)).a8.length 0) (I ((⟨2,0,[],0,0,0⟩:bG)).frame) (aP ((⟨2,0,[],0,0,0⟩:bG)).sum) (I ((⟨2,0,[],0,0,0⟩:bG)).lead);simp only at n;generalize World.setCell _ (ad (w+1) 5 ab) _=F at *;obtain⟨r,k,j,i⟩:=n;have D:=dx _ _ _ _ r 6 rfl;refine cU (v:=aV #[.agg (aT (⟨2,0,[],0,0,0⟩:bG) none 0),true]) uV rfl ?_;exact qw
  rw[az G];have vl:(z != l.bK)=true:=by simpa using G
  go_in
  go_upto_region 1 with fail
  generalize World.alloc (World.alloc w _) _=g at *;have C:=bP an.box;have q:=aS an.box;go_upto_region 2 with fail
  have f:=aX g (ae (aT ⟨2,0,[],0,0,0⟩ none 0) 199);simp only[aT,e_]at f;have an:=an.kA ((ba g).alloc (ae (aT ⟨2,0,[],0,0,0⟩ none 0) 199));simp only[aT,e_]at an;generalize World.alloc g _=s at *;have u:=(an).aE.lt;have q:=aS (an).box;have y:=bI (an).res;have t:=aS (an).res;have bt:=an.aE.bt;have d:=af an;go_wp2_with fail;go_quiet (fail);go_wp2_with fail;have d:=af (d.o.drew nq);have n:=gZ.fin (d.o) H.out (I ((⟨0,0,[],0,0,0⟩:bG)).kind) (I ((⟨0,0,[],0,0,0⟩:bG)).ec) (.slice none ((⟨0,0,[],0,0,0⟩:bG)).a8.length 0) (I ((⟨0,0,[],0,0,0⟩:bG)).frame) (aP ((⟨0,0,[],0,0,0⟩:bG)).sum) (I ((⟨0,0,[],0,0,0⟩:bG)).lead);simp only at n;generalize World.setCell _ (ad (w+1) 5 ab) _=F at *;obtain⟨r,k,j,i⟩:=n;have D:=dx _ _ _ _ r 6 rfl;refine cU (v:=aV #[.agg (aT (⟨0,0,[],0,0,0⟩:bG) none 0),false]) uV rfl ?_;exact qw
 rw[az X];by_cases Y:mk=7
 .subst Y;rw[aD rfl]
  go_in
  go_upto_region 1 with fail
  generalize World.alloc (World.alloc w _) _=g at *;have C:=bP an.box;have q:=aS an.box;go_upto_region 2 with fail
  have f:=aX g (ae (aT ⟨7,0,[],0,0,0⟩ none 0) 199);simp only[aT,e_]at f;have an:=an.kA ((ba g).alloc (ae (aT ⟨7,0,[],0,0,0⟩ none 0) 199));simp only[aT,e_]at an;generalize World.alloc g _=s at *;have u:=(an).aE.lt;have q:=aS (an).box;have y:=bI (an).res;have t:=aS (an).res;have M:=bP f;have N:=aS f;have f2:=an.aE.free 2;have bo:=an.aE.bo;have d:=af an;have L:=af f;go_wp2_with fail;have E:=d.o;have d:=af (E.next (V':=s.setCell (ad B.p 2 ab) (I 2)) (l':={l with state:=2}) H.out A (E.aE.set 2 (I 2) _ rfl rfl rfl) (Keeps.setCell (Keeps.refl _ _) (.inl rfl) _));have n:=gZ.fin (d.o) H.out (I ((⟨7,0,[],0,0,0⟩:bG)).kind) (I ((⟨7,0,[],0,0,0⟩:bG)).ec) (.slice none ((⟨7,0,[],0,0,0⟩:bG)).a8.length 0) (I ((⟨7,0,[],0,0,0⟩:bG)).frame) (aP ((⟨7,0,[],0,0,0⟩:bG)).sum) (I ((⟨7,0,[],0,0,0⟩:bG)).lead);simp only at n;generalize World.setCell _ (ad (w+1) 5 ab) _=F at *;obtain⟨r,k,j,i⟩:=n;have D:=dx _ _ _ _ r 6 rfl;refine cU (v:=aV #[.agg (aT (⟨7,0,[],0,0,0⟩:bG) none 0),true]) uV rfl ?_;exact qw
 rw[az Y];have d1:(mk == 1)=false:=by simpa using W
 have d2:(mk == 2)=false:=by simpa using X
 have d7:(mk == 7)=false:=by simpa using Y
 by_cases K:l.state=1
 .rw[aD K]
  go_in
  go_upto_region 1 with fail
  generalize World.alloc (World.alloc w _) _=g at *;have C:=bP an.box;have q:=aS an.box;go_upto_region 2 with fail
  have f:=aX g (ae (aT ⟨mk,0,[],0,0,0⟩ none 0) 199);simp only[aT,e_]at f;have an:=an.kA ((ba g).alloc (ae (aT ⟨mk,0,[],0,0,0⟩ none 0) 199));simp only[aT,e_]at an;generalize World.alloc g _=s at *;have u:=(an).aE.lt;have q:=aS (an).box;have y:=bI (an).res;have t:=aS (an).res;have bo:=an.aE.bo;rw[K]at bo;have d:=af an;go_wp2_with fail;refine(Tf d.o.aE ⟨mk,z,ms,a',fr,g',gf⟩ lb.out d.o.a8 A ar bd hm).mono ?_;rintro e Z ⟨⟨Q,bo,rfl,r',s'⟩,ps,m'⟩;have mv:=af s';have an:=d.out.next H.out A ps m';generalize hR l ⟨mk,z,ms,a',fr,g',gf⟩=R at *;obtain⟨R,ok,w'⟩:=R;simp only at *;have u:=(an).aE.lt;have q:=aS (an).box;have y:=bI (an).res;have t:=aS (an).res;have d:=af an;have h2:=af r';unfold aT;go_wp2_with fail;have n:=gZ.fin (d.o) H.out (I (R).kind) (I (R).ec) (.slice Q (R).a8.length bo) (I (R).frame) (aP (R).sum) (I (R).lead);simp only at n;generalize World.setCell _ (ad (w+1) 5 ab) _=F at *;obtain⟨r,k,j,i⟩:=n;have D:=dx _ _ _ _ r 6 rfl;refine cU (v:=aV #[.agg (aT R Q bo),.bool ok]) uV rfl ?_;exact⟨⟨Q,bo,rfl,i h2.o,mv.o⟩,k,j⟩
 rw[az K];have d9:(l.state != 1)=true:=by simpa using K
 go_in
 go_upto_region 1 with fail
 generalize World.alloc (World.alloc w _) _=g at *;have C:=bP an.box;have q:=aS an.box;go_upto_region 2 with fail
 have f:=aX g (ae (aT ⟨mk,0,[],0,0,0⟩ none 0) 199);simp only[aT,e_]at f;have an:=an.kA ((ba g).alloc (ae (aT ⟨mk,0,[],0,0,0⟩ none 0) 199));simp only[aT,e_]at an;generalize World.alloc g _=s at *;have u:=(an).aE.lt;have q:=aS (an).box;have y:=bI (an).res;have t:=aS (an).res;have bo:=an.aE.bo;have d:=af an;go_wp2_with fail;have n:=gZ.fin (d.o) H.out (I ((⟨0,0,[],0,0,0⟩:bG)).kind) (I ((⟨0,0,[],0,0,0⟩:bG)).ec) (.slice none ((⟨0,0,[],0,0,0⟩:bG)).a8.length 0) (I ((⟨0,0,[],0,0,0⟩:bG)).frame) (aP ((⟨0,0,[],0,0,0⟩:bG)).sum) (I ((⟨0,0,[],0,0,0⟩:bG)).lead);simp only at n;generalize World.setCell _ (ad (w+1) 5 ab) _=F at *;obtain⟨r,k,j,i⟩:=n;have D:=dx _ _ _ _ r 6 rfl;refine cU (v:=aV #[.agg (aT (⟨0,0,[],0,0,0⟩:bG) none 0),false]) uV rfl ?_;exact⟨⟨none,0,rfl,i (nR _),(λ_ e=>nomatch e)⟩,k,j⟩
end Go.Proofs.YtalagblioepadaaGreatDoor
