/- The proof, part 28. -/
import Derived.Test.YtalagblioepadaaGreatDoorZb24
import Derived.Test.YtalagblioepadaaGreatDoorZb25
namespace Go.Proofs.YtalagblioepadaaGreatDoor
set_option linter.all false
open Proofs.Tryz List Go.RowKit
set_option maxRecDepth 100000
set_option maxHeartbeats 8000000
def wS{p:ak}(h:p:=by simp[aU,results,results247,asAddr,loadVar,loadCells,isAgg199,sizeOf199,A]):p:=h
def uG{p:ak}(h:p:=by simp[aU,results,results167,asAddr,loadVar,loadCells,isAgg199,sizeOf199,D]):p:=h
def LU{p:ak}(h:p:=by simp[aU,bG.zero,results,results306,asAddr,loadVar,loadCells,isAgg199,sizeOf199,g]):p:=h
def Lf{p:ak}(h:p:=by
 obtain⟨x,g⟩:∃ x,xs[k]?=some x:=⟨xs[k],gb gf⟩;obtain⟨bS,o,rfl,_⟩:=f.o.bt.at' U;have Tq:wr.cell? (ad bS (o+k*7) ab)=some (I x.m.kind):=si f.o b k x g 0 U (I x.m.kind) rfl;have TS:=si f.o b k x g 1 U (aK x.m.bL) rfl;have T':=si f.o b k x g 2 U (bz x.m.cl) rfl;have V':=si f.o b k x g 3 U (bz x.m.cj) rfl;have W':=si f.o b k x g 4 U (ao x.a x.m.a8.length x.c) rfl;have Y2:=si f.o b k x g 5 U (aK x.m.sum) rfl;have Y3:=si f.o b k x g 6 U (I x.m.lead) rfl;have F:(x.m).wf/\dh x.m:=Y.o x.m (by rw[<-E.o];exact fu.2 ⟨x,ky g,rfl⟩);have a':=Fm (f.o.a8 x (ky g)).1 b;have Z:yi x.m=0:=by unfold yi;rw[aD F.2]
 have X:yj x.m=dk x.m:=by unfold yj;rw[aD F.2]
 have g':k4 ((xs.take (k+1)).map ho.m)=k4 ((xs.take k).map ho.m)++[.string ⟨(dk x.m).toArray⟩]:=by
  rw[take_add_one,g];simp[k4]
 have s':=af g';have r':=af b;have h2:=b.size;clear g' b;go_wp2_with fail;have v':Below d wr (wr.alloc (ae (ko x) 254)):=(bY _ wr).alloc h2 _;refine aT (Yk x.m (Fm a' ((bY _ wr).alloc bA _)) F.1) λK fr=>?_;rw[Z,X];have V:Keeps aG wr K:=((a_ wr).alloc _).trans (Keeps.bE fr a7);clear Z X v' fr a' F Tq TS T' V' W' Y2 Y3;have Y4:=V.size;generalize dk x.m=lb at *;have Aw:=Ko K (.string ⟨lb.toArray⟩) 9;have hd:=b3 G V (λ_ _=>id);go_wp2_with (at_builtin;refine CL _ rfl (.tmp 51) (.tmp 53) _ rfl d.heap.size 9 i0 _ 1 16 underlying33 sd.out CW Q' St rfl U _ k _ rfl (b3 hd ((a_ _).alloc _) (λ_ _=>id)) (some (ad _ 0 ab)) 1 1 [.string ⟨lb.toArray⟩] rfl Aw mw pj U bU ?_);intro v1 l' zp w' _;have zd:Keeps (λk=>d.heap.size<=k) K l':=((Keeps.refl _ K).alloc _).grown w' (λk hk=>.inl (hd.lt k hk).1);have ys:Keeps (λk=>d.heap.size<=k) wr l':=cK (V.mono λ_ _ x=>x.elim) zd (λk _ h=>h);have vl:=r'.o.trans (ys.below h2 a7);go_wp2_with fail;go_roundw
 case rel=>exact⟨k+1,U,by go_num,by rw[s'.o];simpa using zp,vl⟩
 simp[intOf];omega
 ):p:=h
def My{p:ak}(h:p:=by
 go_wp2_with fail;go_quiet ((go_at_call 307;exact(n.o _).mono λ_ _ h=>⟨h.1,_,h.2.symm⟩));go_wp2_with fail;go_quiet (fail);go_wp2_with fail
 all_goals try (exfalso;omega)
 rename_i d _ _;have b:=(((a_ w).alloc (ae #[I m.kind,aK m.bL,bz m.cl,bz m.cj,ao a m.a8.length c,aK m.sum,I m.lead] 254)).alloc (ae (aU bG.zero none 0) 199)).drewN (d+nq);have j:(((w.alloc (ae #[I m.kind,aK m.bL,bz m.cl,bz m.cj,ao a m.a8.length c,aK m.sum,I m.lead] 254)).alloc (ae (aU bG.zero none 0) 199)).drewN (d+nq)).heap[w.heap.size+1]?=some (ae (aU bG.zero none 0) 199 (0,0)):=by
  have:=aW (w.alloc (ae #[I m.kind,aK m.bL,bz m.cl,bz m.cj,ao a m.a8.length c,aK m.sum,I m.lead] 254)) (ae (aU bG.zero none 0) 199)
  simpa using this
 have g:=dv _ _ _ _ (gm j rfl (I 0) (I 0) (ao none 0 0) (I 0) (aK 0) (I 0)) 6 rfl;simp only[aU,bG.zero,e2]at g;refine cU (v:=aV #[.agg (aU bG.zero none 0),false]) LU rfl ?_;exact⟨⟨none,0,rfl,nA _,λ_ e=>nomatch e⟩,H.o.keeps (rP b (uB _) _ _ _ _ _ _) (λ_ _ h=>h),(rP b (uB _) _ _ _ _ _ _).mono λ_ _ h=>h.elim⟩
 ):p:=h
def Nb{p:ak}(h:p:=by
 have f:=(((Keeps.refl (λb=>b=B.h2\/b=B.d2) s).drewN nq).trans hk).heap L.out U;have u:=(al).aE.lt;have q:=aP (al).box;have y:=bJ (al).res;have t:=aP (al).res;have M:=bR f;have N:=aP f;have d:=af al;go_wp2_with fail;have n:=gT.fin (d.o) H.out (I ((⟨1,0,[],0,0,0⟩:bG)).kind) (I ((⟨1,0,[],0,0,0⟩:bG)).ec) (.slice none ((⟨1,0,[],0,0,0⟩:bG)).a8.length 0) (I ((⟨1,0,[],0,0,0⟩:bG)).frame) (aK ((⟨1,0,[],0,0,0⟩:bG)).sum) (I ((⟨1,0,[],0,0,0⟩:bG)).lead);simp only at n;generalize World.setCell _ (ad (w+1) 5 ab) _=F at *;obtain⟨r,k,j,i⟩:=n;have D:=dv _ _ _ _ r 6 rfl;refine cU (v:=aV #[.agg (aU (⟨1,0,[],0,0,0⟩:bG) none 0),true]) uG rfl ?_;exact⟨⟨none,0,rfl,i (nA _),(λ_ e=>nomatch e)⟩,k,j⟩
 ):p:=h
def Mh{p:ak}(h:p:=by
 go_wp2_with fail;refine(j.out _).mono ?_;rintro e _ ⟨rfl,rfl⟩;go_wp2_with fail;go_quiet ((go_at_call 55;exact(m.out _).mono λ_ _ h=>⟨h.1,_,h.2.symm⟩));go_wp2_with fail
 all_goals try (exfalso;omega)
 refine cU (v:=aV #[]) jc rfl ?_;exact⟨rfl,H.out.drew _,(Keeps.refl _ _).drewN _⟩
 ):p:=h
def MS{p:ak}(h:p:=by
 rw[show(w.alloc (ae #[I m.kind,aK m.bL,bz m.cl,bz m.cj,ao a m.a8.length c,aK m.sum,I m.lead] 254)).heap.size=w.heap.size+1 by simp]at this;exact this
 ):p:=h
def Nf{p:ak}(h:p:=by
 have r':=O.alloc (ae #[I m.kind,I l.next,ao a' (m.a8.length-d) (c-d),I 0,aK 0,I 0] 199);have sd:=r'.drew;exact sd
 ):p:=h
def qf{p:ak}(h:p:=by
 exact⟨⟨none,0,rfl,i (nA _),(λ_ e=>nomatch e)⟩,k,j⟩
 ):p:=h
def zB{p:ak}(h:p:=by
 simp only[IntKind.wrap,IntKind.bits,IntKind.signed];simp;omega
 ):p:=h
variable{w:ai}{B:ir}{l:b9}
def p3(l:b9):b9:={l with b_:=l.b_+1}
def gk(l:b9):b9:=if (p3 l).ev<(p3 l).b_-(p3 l).heard then {p3 l with state:=2}else p3 l
def c5(l:b9)(lead:aa):ah aZ×b9:=lI (gk l) lead
def k4(a:ah aZ):ah aw:=a.map λm=>Value.string ⟨(dk m).toArray⟩
def NI(w:ai)(B:ir)(l:b9)(lead:aa)(e:Ending)(w':ai):ak:=
 (∃ A cap,e=.returned (.slice A (c5 l lead).1.length cap)/\dQ w' 1 A (c5 l lead).1.length cap (k4 (c5 l lead).1)/\∀ y,A=some y->w.heap.size<=y.block)/\IsLink w' B (c5 l lead).2/\Keeps B.S w w'
def RI:(prog.info? 9).map (λi=>(i.zero,i.size,i.bytes))=some (some (.string ByteArray.empty),1,16):=aH
theorem Fm{w w':ai}{a:b4 Addr}{c:J}{L:ah aQ}(h:c1 w a c L)(aj:Below w w w'):c1 w' a c L:=
 h.keeps (S:=aG) (Keeps.bE aj a7) (λ_ _ _=>id)
def Qb{xs:ah ho}{k:J}{x:ho}(h:xs[k]?=some x)(j:J)(c:j<7):(je xs)[k*7+j]?=(ko x).toList[j]?:=by
 induction xs generalizing k with
 | nil=>simp at h
 | cons y ys a=>
  have b:(ko y).toList.length=7:=rfl;unfold je at a⊢;rw[iL];cases k with
  | zero=>
   simp only[kv,hi]at h;subst h;rw[jL U]
   congr 1
   omega
  | succ k=>
   rw[jM]at h;rw[mu U,b,<-a h]
   congr 1
   omega
def si{a wr:ai}{b:J}{bS o cap:J}{xs:ah ho}(h:zX b a (some (ad bS o ab)) cap xs)(aj:Below a a wr)(k:J)(x:ho)(c:xs[k]?=some x)(j:J)(d:j<7)(u:aw)(f:(ko x).toList[j]?=some u):wr.cell? (ad bS (o+k*7+j) ab)=some u:=by
 rw[iN];have hk:=(hf.1 c).1;have⟨g,i,e,aq⟩:=h.bt.at' U;cases e
 have:=aq (k*7+j) u (by rw[Qb c j d,f])
 exact(Keeps.bE (S:=aG) aj a7).cell this id
def HV(h:IsLink w B l)(lead:aa)(aN:0<=l.b_/\l.b_<=1000000)(aR:0<=l.heard/\l.heard<=1000000)(jZ:∀ m∈l.out,m.a8=[])(hm:∀ m∈(c5 l lead).1,m.wf/\dh m)(au:(c5 l lead).1.length<=100):az 85 #[B.p,I lead] w (NI w B l lead):=by
 have dR:=h.dR;have W:=h.free 4;have a:=h.set 4 (I (l.b_+1)) (p3 l) rfl rfl rfl;have D:=Keeps.setCell (S:=B.S) (Keeps.refl _ w) (p:=ad B.p 4 ab) (.inl rfl) (I (l.b_+1));have H:=af h;obtain⟨i0,av,CW,Q',St⟩:∃ i,prog.info? 9=some i/\i.zero=some (.string ByteArray.empty)/\i.size=1/\i.bytes=16:=by
  have h:=RI;cases aR:prog.info? 9 with
  | none=>rw[aR]at h;cases h
  | some i=>rw[aR]at h;simp only[pb,hi,jq]at h;exact⟨i,rfl,h.1,h.2.1,h.2.2⟩
 have sd:=af av;by_cases ar:l.ev<l.b_+1-l.heard
 .have t:gk l={p3 l with state:=2}:=by unfold gk;rw[aD (by exact ar)]
  go_in
  go_wp2_with fail;generalize w.setCell (ad B.p 4 ab) (I (l.b_+1))=an at *;have P:an.cell? (ad B.p 4 ab)=some (I (l.b_+1)):=a.dR;have Q:an.cell? (ad B.p 5 ab)=some (I l.heard):=a.fV;have d1:an.cell? (ad B.p 1 ab)=some (I l.ev):=a.b0;go_quiet (fail);have d2:=(a.drew nq).bs;have g2:=(a.drew nq).free 2;have s:=(a.drew nq).set 2 (I 2) (gk l) (by rw[t];rfl) (by rw[t]) (by rw[t]);have j:=Keeps.setCell (S:=B.S) (D.drewN nq) (p:=ad B.p 2 ab) (.inl rfl) (I 2);go_wp2_with fail;clear P Q d1 d2 g2 a D dR W;generalize (an.drewN nq).setCell (ad B.p 2 ab) (I 2)=bn at *;have z:0<=(gk l).b_/\(gk l).b_<=1099511627776:=by
   have:(gk l).b_=l.b_+1:=by unfold gk;split<;>rfl
   rw[this];omega
  have x:∀ m∈(gk l).out,m.a8=[]:=by
   have:(gk l).out=l.out:=by unfold gk;split<;>rfl
   rw[this];exact jZ
  refine(HX s lead z x).mono ?_;rintro e d ⟨⟨A,cap,xs,rfl,al,r⟩,u,C⟩;have c:=j.trans C;have M:=af u;have L:=af c;have q:xs.length=(c5 l lead).1.length:=by
   have:=cV length r
   rwa [hh]at this
  have T:w.heap.size<=d.heap.size:=c.size;have m':∀ y,A=some y->w.heap.size<=y.block:=λy e=>b7 j.size (al.new y e);have f:=af al;have E:=af (show xs.map ho.m=(c5 l lead).1 from r);have Y:=af hm;have N:=af au;clear z x al u C c s j hm jZ r au;have ps:xs.length<=100:=by rw[q];exact N.o
  go_wp2_with fail;go_loopw [5,40] (λv i wr=>∃ k:J,k<=xs.length/\i=I k/\wr.ownsRow d.heap.size 9 1 v k (k4 ((xs.take k).map ho.m))/\Below d d wr) (λ_ i _=>xs.length-(intOf i).toNat)
  case atStart=>exact⟨0,c' _,rfl,gB _ _ _ _,bY _ _⟩
  obtain⟨k,hk,rfl,G,b⟩:=hrel;by_cases gf:k<xs.length
  .exact Lf
  obtain rfl:k=xs.length:=U;obtain⟨cA,O,rfl,n,R⟩:=cP G;rw[nk,E.o]at n;rw[q]at n;go_wp2_with fail;go_ret;refine⟨⟨cA,O,by rw[<-q];rfl,n,λy e=>b7 T (R y e).1⟩,M.o.below b,?_⟩;exact cK L.o (Keeps.bE (S:=aG) b a7) (λk _ h=>h.elim)
 have t:gk l=p3 l:=by unfold gk;rw[aA (by exact ar)]
 go_in
 go_wp2_with fail;generalize w.setCell (ad B.p 4 ab) (I (l.b_+1))=an at *;have P:an.cell? (ad B.p 4 ab)=some (I (l.b_+1)):=a.dR;have Q:an.cell? (ad B.p 5 ab)=some (I l.heard):=a.fV;have d1:an.cell? (ad B.p 1 ab)=some (I l.ev):=a.b0;go_quiet (fail);have s:=a.drew nq;rw[<-t]at s;have j:=D.drewN nq;clear t;go_wp2_with fail;clear P Q d1 a D dR W;generalize an.drewN nq=bn at *;have z:0<=(gk l).b_/\(gk l).b_<=1099511627776:=by
  have:(gk l).b_=l.b_+1:=by unfold gk;split<;>rfl
  rw[this];omega
 have x:∀ m∈(gk l).out,m.a8=[]:=by
  have:(gk l).out=l.out:=by unfold gk;split<;>rfl
  rw[this];exact jZ
 refine(HX s lead z x).mono ?_;rintro e d ⟨⟨A,cap,xs,rfl,al,r⟩,u,C⟩;have c:=j.trans C;have M:=af u;have L:=af c;have q:xs.length=(c5 l lead).1.length:=by
  have:=cV length r
  rwa [hh]at this
 have T:w.heap.size<=d.heap.size:=c.size;have m':∀ y,A=some y->w.heap.size<=y.block:=λy e=>b7 j.size (al.new y e);have f:=af al;have E:=af (show xs.map ho.m=(c5 l lead).1 from r);have Y:=af hm;have N:=af au;clear z x al u C c s j hm jZ r au;have ps:xs.length<=100:=by rw[q];exact N.o
 go_wp2_with fail;go_loopw [5,40] (λv i wr=>∃ k:J,k<=xs.length/\i=I k/\wr.ownsRow d.heap.size 9 1 v k (k4 ((xs.take k).map ho.m))/\Below d d wr) (λ_ i _=>xs.length-(intOf i).toNat)
 case atStart=>exact⟨0,c' _,rfl,gB _ _ _ _,bY _ _⟩
 obtain⟨k,hk,rfl,G,b⟩:=hrel;by_cases gf:k<xs.length
 .exact Lf
 obtain rfl:k=xs.length:=U;obtain⟨cA,O,rfl,n,R⟩:=cP G;rw[nk,E.o]at n;rw[q]at n;go_wp2_with fail;go_ret;refine⟨⟨cA,O,by rw[<-q];rfl,n,λy e=>b7 T (R y e).1⟩,M.o.below b,?_⟩;exact cK L.o (Keeps.bE (S:=aG) b a7) (λk _ h=>h.elim)
def hB(l:b9)(s:aa):b9:=
 let p:=ec (min l.c2 1073741824) s
 if p.2≠0\/p.1<l.c2\/l.c2+l.own.length<p.1 then l else {l with c2:=p.1,own:=l.own.drop (p.1-l.c2).toNat}
def HW(h:IsLink w B l)(s:aa)(bj:0<=l.c2/\l.c2<=1073741824):az 305 #[B.p,bz s] w λe w'=>e=aV #[]/\IsLink w' B (hB l s)/\Keeps B.S w w':=by
 have c6:=h.c6;have dS:=h.dS;have V:min l.c2 1073741824=l.c2:=U;unfold hB;rw[V];have K:(j5 l.own).length=l.own.length:=by simp[j5]
 have T:=h.own.le.1;rw[K]at T;have Z:IntKind.i64.wrap (l.c2+(l.own.length:aa))=l.c2+(l.own.length:aa):=by
  exact zB
 have t:=λn=>vG (h.drew n).own;rw[K]at t;have A:=λW=>B9 l.c2 s W;generalize ar:ec l.c2 s=p at *;have⟨f,bZ⟩:=p;simp only at *;have m:=af t;have j:=af A;have H:=af h;clear h t A ar;by_cases h1:bZ≠0
 .rw[aD (.inl h1)];have a':(bZ != 0)=true:=by simpa using h1
  go_in
  go_wp2_with fail;refine(j.o _).mono ?_;rintro e _ ⟨rfl,rfl⟩;go_wp2_with fail;go_quiet ((go_at_call 55;exact(m.out _).mono λ_ _ h=>⟨h.1,_,h.2.symm⟩));go_wp2_with fail
  all_goals try (exfalso;omega)
  refine cU (v:=aV #[]) jc rfl ?_;exact⟨rfl,H.out.drew _,(Keeps.refl _ _).drewN _⟩
 have h1:bZ=0:=U;subst h1;by_cases h2:f<l.c2
 .rw[aD (.inr (.inl h2))]
  go_in
  exact Mh
 by_cases P:l.c2+l.own.length<f
 .rw[aD (.inr (.inr P))]
  go_in
  exact Mh
 rw[aA U];obtain⟨d,hd⟩:∃ d:J,f=l.c2+d:=⟨(f-l.c2).toNat,U⟩;subst hd;rw[show(l.c2+(d:aa)-l.c2).toNat=d by omega];have X:d<=l.own.length:=U
 go_in
 go_wp2_with fail;refine(j.out _).mono ?_;rintro e _ ⟨rfl,rfl⟩;go_wp2_with fail;go_quiet ((go_at_call 55;exact(m.out _).mono λ_ _ h=>⟨h.1,_,h.2.symm⟩));go_wp2_with fail
 all_goals try (exfalso;omega)
 have Q:=H.out.drew nq;have R:=(Keeps.refl B.S w).drewN nq;generalize w.drewN nq=an at *;clear dS c6 m j;have y:decide (l.own.length<d)=false:=bU;have z:decide (l.c2+(d:aa)<l.c2)=false:=bU;simp only[y,z,wv];clear y z;go_loopg [] d (λg wr=>∃ k:J,g=d-k/\k<=d/\IsLink wr B {l with c2:=l.c2+k,own:=l.own.drop k}/\Keeps B.S w wr)
 case atStart=>exact⟨0,rfl,c' _,by simpa using Q,R⟩
 obtain⟨k,rfl,hk,a,i⟩:=hrel;have c6:=a.c6;have dS:=a.dS;have O:=a.free 7;by_cases Y:k<d
 .have G:l.own.drop k=l.own[k] :: l.own.drop (k+1):=p9 U;have u:=a.own;rw[show j5 (l.own.drop k)=((l.own[k]).toNat:aa) :: j5 (l.own.drop (k+1))by rw[G];rfl]at u;have q:=af a;have r:=af i;clear a i G;go_wp2_with fail;refine(RU u).mono ?_;rintro e aB ⟨rfl,F,x⟩;have c:=q.out.BC (L:=l.own.drop (k+1)) (l':={l with c2:=l.c2+k,own:=l.own.drop (k+1)}) F x rfl rfl rfl;have C:=c.set 7 (I (l.c2+k+1)) {l with c2:=l.c2+(k+1:J),own:=l.own.drop (k+1)} (by simp[lo];omega) rfl rfl;have D:=r.out.trans (x.mono λb _ h=>h.elim (λe=>.inr (.inl e)) (λe=>.inr (.inr (.inl e))));have E:=Keeps.setCell (S:=B.S) D (p:=ad B.p 7 ab) (.inl rfl) (I (l.c2+k+1));have c6:=c.c6;have O:=c.free 7;have M:=af C;have N:=af E;clear c C D E F x u;go_wp2_with fail;go_roundg (d-(k+1))
  case rel=>exact⟨k+1,U,U,M.o,N.o⟩
  omega
 obtain rfl:k=d:=U;have q:=af a;have r:=af i;clear a i;go_wp2_with fail;refine p7 (v:=aV #[]) jc rfl ?_;exact⟨rfl,q.o,r.o⟩
structure bG where
 kind:aa
 ec:aa
 a8:ah aQ
 frame:aa
 sum:aa
 lead:aa
def bG.zero:bG:=⟨0,0,[],0,0,0⟩
def aU(h:bG)(a:b4 Addr)(c:J):a6 aw:=#[I h.kind,I h.ec,ao a h.a8.length c,I h.frame,aK h.sum,I h.lead]
def sW(bm:J)(w:ai)(B:ir)(h:bG)(ok:aw)(l':b9)(e:Ending)(w':ai):ak:=
 (∃ a c,e=aV #[.agg (aU h a c),ok]/\c1 w' a c h.a8/\∀ x,a=some x->bm<=x.block)/\IsLink w' B l'/\Keeps B.S w w'
def iU(l:b9)(m:aZ):bG×aY×b9:=
 let p:=ec (min l.next 1073741824) m.cl
 if p.2≠0\/l.next<p.1\/p.1+m.a8.length<=l.next then(bG.zero,false,l)else(⟨m.kind,l.next,m.a8.drop (l.next-p.1).toNat,0,0,0⟩,true,{l with next:=p.1+m.a8.length})
def gm{W:ai}{b:J}{bQ:a6 aw}(h:W.heap[b]?=some (ae bQ 199 (0,0)))(ax:bQ.size=6)(g i v2 j k l:aw):((((((W.setCell (ad b 0 ab) g).setCell (ad b 1 ab) i).setCell (ad b 2 ab) v2).setCell (ad b 3 ab) j).setCell (ad b 4 ab) k).setCell (ad b 5 ab) l).heap[b]?=some (ae #[g,i,v2,j,k,l] 199 (0,0)):=by
 rw[bW (bW (bW (bW (bW (bW h 0 g) 1 i) 2 v2) 3 j) 4 k) 5 l];have⟨bQ⟩:=bQ
 match bQ,ax with
 | [a,b,c,d,e,f],_=>rfl
theorem rP{S:J->ak}{w W:ai}{b:J}(h:Keeps S w W)(aj:w.heap.size<=b)(a c v2 d e f:aw):Keeps S w ((((((W.setCell (ad b 0 ab) a).setCell (ad b 1 ab) c).setCell (ad b 2 ab) v2).setCell (ad b 3 ab) d).setCell (ad b 4 ab) e).setCell (ad b 5 ab) f):=
 (((((h.nZ (p:=ad b 0 ab) aj a).nZ (p:=ad b 1 ab) aj c).nZ (p:=ad b 2 ab) aj v2).nZ (p:=ad b 3 ab) aj d).nZ (p:=ad b 4 ab) aj e).nZ (p:=ad b 5 ab) aj f
theorem Be{S:J->ak}{w W:ai}{b:J}(h:Keeps S w W)(aj:S b)(a c v2 d e f:aw):Keeps S w ((((((W.setCell (ad b 0 ab) a).setCell (ad b 1 ab) c).setCell (ad b 2 ab) v2).setCell (ad b 3 ab) d).setCell (ad b 4 ab) e).setCell (ad b 5 ab) f):=
 (((((h.setCell (p:=ad b 0 ab) aj a).setCell (p:=ad b 1 ab) aj c).setCell (p:=ad b 2 ab) aj v2).setCell (p:=ad b 3 ab) aj d).setCell (p:=ad b 4 ab) aj e).setCell (p:=ad b 5 ab) aj f
def Gz(a b:aa):0<=(ec a b).1/\(ec a b).1<=1073741824:=by
 unfold ec;simp only[]
 (repeat' split)<;>simp only[]<;>omega
def RM(h:IsLink w B l)(m:aZ){a:b4 Addr}{c:J}{bm:J}(au:0<=l.next/\l.next<=1073741824)(hm:m.a8.length<=1000000)(f bZ:aa)(k:∀ W,az 307 #[I l.next,bz m.cl] W λe w'=>e=aV #[I f,I bZ]/\W=w')(s:0<=f/\f<=1073741824)(i:bZ≠0\/l.next<f\/f+m.a8.length<=l.next):az 306 #[B.p,(aM #[I m.kind,aK m.bL,bz m.cl,bz m.cj,ao a m.a8.length c,aK m.sum,I m.lead])] w (sW bm w B bG.zero (.bool false) l):=by
 have fv:=h.fv;have q:=h.free 8;have u:min l.next 1073741824=l.next:=U;have t:=h.lt.1;have n:=af k;have H:=af h;clear h k;by_cases h1:bZ≠0
 .clear i;have y:(bZ != 0)=true:=by simpa using h1
  go_in
  exact My
 have h1:bZ=0:=U;subst h1;by_cases h2:l.next<f
 .clear i
  go_in
  exact My
 have x:IntKind.i64.wrap (f+(m.a8.length:aa))=f+(m.a8.length:aa):=by
  exact zB
 have r:f+m.a8.length<=l.next:=U;clear i
 go_in
 go_wp2_with fail;go_quiet ((go_at_call 307;exact(n.o _).mono λ_ _ h=>⟨h.1,_,h.2.symm⟩));go_wp2_with fail;go_quiet (fail);go_wp2_with fail
 all_goals try (exfalso;omega)
 rename_i d _ _;have b:=(((a_ w).alloc (ae #[I m.kind,aK m.bL,bz m.cl,bz m.cj,ao a m.a8.length c,aK m.sum,I m.lead] 254)).alloc (ae (aU bG.zero none 0) 199)).drewN (d+nq);have j:(((w.alloc (ae #[I m.kind,aK m.bL,bz m.cl,bz m.cj,ao a m.a8.length c,aK m.sum,I m.lead] 254)).alloc (ae (aU bG.zero none 0) 199)).drewN (d+nq)).heap[w.heap.size+1]?=some (ae (aU bG.zero none 0) 199 (0,0)):=by
  have:=aW (w.alloc (ae #[I m.kind,aK m.bL,bz m.cl,bz m.cj,ao a m.a8.length c,aK m.sum,I m.lead] 254)) (ae (aU bG.zero none 0) 199)
  simpa using this
 have g:=dv _ _ _ _ (gm j rfl (I 0) (I 0) (ao none 0 0) (I 0) (aK 0) (I 0)) 6 rfl;simp only[aU,bG.zero,e2]at g;refine cU (v:=aV #[.agg (aU bG.zero none 0),false]) LU rfl ?_;exact⟨⟨none,0,rfl,nA _,λ_ e=>nomatch e⟩,H.o.keeps (rP b (uB _) _ _ _ _ _ _) (λ_ _ h=>h),(rP b (uB _) _ _ _ _ _ _).mono λ_ _ h=>h.elim⟩
def Pg(X:ai):X.drew.heap=X.heap:=rfl
def Fp{a:b4 Addr}{c:J}{L:ah aQ}(h:c1 w a c L)(f:w.heap[B.p]?=some (ae (lo B l) 124 (0,0)))(hne:L≠[])(x:Addr)(g:a=some x):x.block≠B.p:=by
 obtain⟨b,o,rfl,aq⟩:=h.at' hne;cases g;intro e;simp only at e;subst e;have d:=aq 0 (p'.2 hne);unfold World.cell? at d;rw[f]at d;have h1:(lo B l)[o]?=some (eg (L[0]'(p'.2 hne))):=by simpa using d
 unfold lo eg at h1
 match o,h1 with
 | 0,h1=>simp at h1
 | 1,h1=>simp at h1
 | 2,h1=>simp at h1
 | 3,h1=>simp at h1
 | 4,h1=>simp at h1
 | 5,h1=>simp at h1
 | 6,h1=>simp at h1
 | 7,h1=>simp at h1
 | 8,h1=>simp at h1
 | 9,h1=>simp at h1
 | 10,h1=>simp at h1
 | 11,h1=>simp at h1
 | 12,h1=>simp at h1
 | o+13,h1=>simp at h1
def RN(h:IsLink w B l)(m:aZ){a:b4 Addr}{c:J}{bm:J}(M:∀ x,a=some x->bm<=x.block)(aj:c1 w a c m.a8)(au:0<=l.next/\l.next<=1073741824)(hm:m.a8.length<=1000000)(f:aa)(E:∀ W,az 307 #[I l.next,bz m.cl] W λe w'=>e=aV #[I f,I 0]/\W=w')(zd:0<=f/\f<=1073741824)(h2:¬ l.next<f)(ys:¬ f+m.a8.length<=l.next):az 306 #[B.p,(aM #[I m.kind,aK m.bL,bz m.cl,bz m.cj,ao a m.a8.length c,aK m.sum,I m.lead])] w (sW bm w B ⟨m.kind,l.next,m.a8.drop (l.next-f).toNat,0,0,0⟩ (.bool true) {l with next:=f+m.a8.length}):=by
 have fv:=h.fv;have D:=h.free 8;have Q':min l.next 1073741824=l.next:=U;have zp:=h.lt.1;have Q:=af E;have H:=af h;clear h E;have TS:IntKind.i64.wrap (f+(m.a8.length:aa))=f+(m.a8.length:aa):=by
  exact zB
 have⟨d,hd⟩:∃ d:J,l.next-f=d:=⟨(l.next-f).toNat,U⟩;have s:d<m.a8.length:=U;have⟨a',St,P,G⟩:=aj.drop d U;have Y:=af (show ∀ x,a'=some x->bm<=x.block from λx C=>by obtain⟨y,u,m'⟩:=G x C;have:=M y u;omega);clear M;have ps:(l.next-f).toNat=d:=U;rw[ps]
 go_in
 go_wp2_with fail;go_quiet ((go_at_call 307;exact(Q.o _).mono λ_ _ h=>⟨h.1,_,h.2.symm⟩));go_wp2_with fail;go_quiet (fail);go_wp2_with fail
 all_goals try (exfalso;omega)
 have Tq:IntKind.i64.wrap (l.next-f)=(d:aa):=by
  exact zB
 generalize g:World.drewN (World.drewN (World.alloc (World.alloc w _) _) _) _=W;have t:Keeps aG w W:=by
  rw[<-g];exact((((a_ w).alloc _).alloc _).drewN _).drewN _
 have q:W.heap[w.heap.size+1]?=some (ae (aU bG.zero none 0) 199 (0,0)):=by
  rw[<-g]
  have:=aW (w.alloc (ae #[I m.kind,aK m.bL,bz m.cl,bz m.cj,ao a m.a8.length c,aK m.sum,I m.lead] 254)) (ae (aU bG.zero none 0) 199)
  exact MS
 have A:W.heap[w.heap.size]?=some (ae #[I m.kind,aK m.bL,bz m.cl,bz m.cj,ao a m.a8.length c,aK m.sum,I m.lead] 254 (0,0)):=by
  rw[<-g];exact cm (aW w (ae #[I m.kind,aK m.bL,bz m.cl,bz m.cj,ao a m.a8.length c,aK m.sum,I m.lead] 254)) (ae (aU bG.zero none 0) 199)
 have N:W.heap.size=w.heap.size+2:=by rw[<-g];simp
 clear g fv D;have j:=H.o.keeps t (λ_ _ h=>h);have s':B.p<W.heap.size:=U;have Aw:w.heap.size<W.heap.size:=U;have CW:w.heap.size+1<W.heap.size:=U;have fv:=j.fv;have D:=j.free 8;have Y5:=aP A;have df:=λk=>fJ q k;have T':=df 0;have V':=df 1;have W':=df 2;have Y2:=df 3;have Y3:=df 4;have Y4:=df 5;have eJ:=aP q;clear df;have r:=P.keeps t (λ_ _ _=>id);have T:=af j;have X:=af t;have R:=af q;have vl:=af A;have v':=af N;have V:=af r;clear j t q A N r
 go_region
 go_wp2_with fail;generalize n:World.drew _=z;have F:=eO (p:=ad B.p 8 ab) R.o (by show w.heap.size+1≠B.p;omega) (I (f+(m.a8.length:aa)));have fr:z.heap[w.heap.size+1]?=some (ae #[I m.kind,I l.next,ao a' (m.a8.length-d) (c-d),I 0,aK 0,I 0] 199 (0,0)):=by
  rw[<-n,Pg];exact cm (gm F rfl (I m.kind) (I l.next) (ao a' (m.a8.length-d) (c-d)) (I 0) (aK 0) (I 0)) _
 have lb:=dv _ _ _ _ fr 6 rfl;have al:=T.o.set 8 (I (f+(m.a8.length:aa))) {l with next:=f+m.a8.length} rfl rfl rfl;have K:Keeps B.S w _:=Keeps.setCell (S:=B.S) (X.o.mono λ_ _ h=>h.elim) (p:=ad B.p 8 ab) (.inl rfl) (I (f+(m.a8.length:aa)));have gf:Keeps B.S w z:=by
  rw[<-n];have O:=rP (b:=w.heap.size+1) K (Nat.le_add_right _ 1) (I m.kind) (I l.next) (ao a' (m.a8.length-d) (c-d)) (I 0) (aK 0) (I 0);exact Nf
 have L:Keeps (λb=>b=w+1) (W.setCell (ad B.p 8 ab) (I (f+(m.a8.length:aa)))) z:=by
  rw[<-n];have O:=Be (S:=λb=>b=w.heap.size+1) (b:=w.heap.size+1) (Keeps.refl _ (W.setCell (ad B.p 8 ab) (I (f+(m.a8.length:aa))))) rfl (I m.kind) (I l.next) (ao a' (m.a8.length-d) (c-d)) (I 0) (aK 0) (I 0);exact Nf
 have g':=(Keeps.setCell (S:=λb=>b=B.p\/b=w.heap.size+1) (Keeps.refl _ W) (p:=ad B.p 8 ab) (.inl rfl) (I (f+(m.a8.length:aa)))).trans (L.mono λ_ _ h=>.inr h);clear n K F;refine cU (v:=aV #[.agg (aU ⟨m.kind,l.next,m.a8.drop d,0,0,0⟩ a' (c-d)),true]) (by simp[aU,results,results306,asAddr,loadVar,loadCells,isAgg199,sizeOf199,lb]) rfl ?_;refine⟨⟨a',c-d,rfl,V.o.keeps g' ?_,Y.o⟩,al.keeps (S:=λb=>b=w.heap.size+1) L ?_,gf⟩
 .intro _ x C l';obtain⟨y,u,m'⟩:=G x C;have Z:y.block<w.heap.size:=aj.lt (by intro e;rw[e]at s;simp at s) y u;rcases l' with e|e
  .exact Fp aj H.out.bc (by intro e;rw[e]at s;simp at s) y u U
  omega
 intro b r e;have Z:=H.out.lt;rcases r with i|i|i|i|i<;>omega
def SD(h:IsLink w B l)(m:aZ){a:b4 Addr}{c:J}{bm:J}(g:∀ x,a=some x->bm<=x.block)(aj:c1 w a c m.a8)(au:0<=l.next/\l.next<=1073741824)(hm:m.a8.length<=1000000):az 306 #[B.p,(aM #[I m.kind,aK m.bL,bz m.cl,bz m.cj,ao a m.a8.length c,aK m.sum,I m.lead])] w (sW bm w B (iU l m).1 (.bool (iU l m).2.1) (iU l m).2.2):=by
 have i:min l.next 1073741824=l.next:=U;unfold iU;rw[i];have d:=λW=>B9 l.next m.cl W;have e:=Gz l.next m.cl;generalize ec l.next m.cl=p at *;have⟨f,bZ⟩:=p;simp only at *;by_cases b:bZ≠0\/l.next<f\/f+m.a8.length<=l.next
 .rw[aD b];exact RM h m au hm f bZ d e b
 rw[aA b];obtain rfl:bZ=0:=U;exact RN h m g aj au hm f d e U U
structure gT(w V:ai)(B:ir)(l:b9)(m:aZ)(a:b4 Addr)(c:J):ak where
 box:V.heap[w.heap.size]?=some (ae #[I m.kind,aK m.bL,bz m.cl,bz m.cj,ao a m.a8.length c,aK m.sum,I m.lead] 254 (0,0))
 res:V.heap[w.heap.size+1]?=some (ae (aU bG.zero none 0) 199 (0,0))
 aE:IsLink V B l
 cv:Keeps B.S w V
 a8:c1 V a c m.a8
def gT.start(h:IsLink w B l)(m:aZ){a:b4 Addr}{c:J}(aj:c1 w a c m.a8):gT w ((w.alloc (ae #[I m.kind,aK m.bL,bz m.cl,bz m.cj,ao a m.a8.length c,aK m.sum,I m.lead] 254)).alloc (ae (aU bG.zero none 0) 199)) B l m a c:=by
 have hk:=((a_ w).alloc (ae #[I m.kind,aK m.bL,bz m.cl,bz m.cj,ao a m.a8.length c,aK m.sum,I m.lead] 254)).alloc (ae (aU bG.zero none 0) 199);refine⟨cm (aW w _) _,?_,h.keeps hk (λ_ _=>id),hk.mono λ_ _ h=>h.elim,aj.keeps hk λ_ _ _=>id⟩
 have:=aW (w.alloc (ae #[I m.kind,aK m.bL,bz m.cl,bz m.cj,ao a m.a8.length c,aK m.sum,I m.lead] 254)) (ae (aU bG.zero none 0) 199)
 exact MS
def gT.next{V V':ai}{m:aZ}{a:b4 Addr}{c:J}{l' g:b9}(h:gT w V B l m a c)(d:IsLink w B g)(au:∀ x,a=some x->¬ B.S x.block)(f:IsLink V' B l')(hk:Keeps B.S V V'):gT w V' B l' m a c:=by
 have i:=d.lt;have ax:∀ b,B.S b->b<w.heap.size:=λb aj=>by rcases aj with e|e|e|e|e<;>omega
 exact⟨hk.heap h.box (λx=>by have:=ax _ x;omega),hk.heap h.res (λx=>by have:=ax _ x;omega),f,h.cv.trans hk,h.a8.keeps hk λ_=>au⟩
theorem gT.drew{V:ai}{m:aZ}{a:b4 Addr}{c:J}(h:gT w V B l m a c)(n:J):gT w (V.drewN n) B l m a c:=
 ⟨h.box,h.res,h.aE.drew n,h.cv.drewN n,h.a8.keeps ((a_ V).drewN n) λ_ _ _=>id⟩
def Fo{a:b4 Addr}{c:J}{L:ah aQ}{b:J}{cs:a6 aw}{t:TypeId}(h:c1 w a c L)(f:w.heap[b]?=some (ae cs t (0,0)))(g:∀ n,aF n ∉ cs.toList)(hne:L≠[])(x:Addr)(j:a=some x):x.block≠b:=by
 obtain⟨k,o,rfl,aq⟩:=h.at' hne;cases j;intro e;subst e;have d:=aq 0 (p'.2 hne);unfold World.cell? at d;rw[f]at d;have h1:cs[o]?=some (eg (L[0]'(p'.2 hne))):=by simpa using d
 refine g _ (ky (i:=o) (a:=eg (L[0]'(p'.2 hne))) ?_);simpa using h1
def gT.fin{p:b9}{V:ai}{m:aZ}{a:b4 Addr}{c:J}(h:gT w V B l m a c)(o:IsLink w B p)(d f v2 g i j:aw):let k:=((((((V.setCell (ad (w+1) 0 ab) d).setCell (ad (w+1) 1 ab) f).setCell (ad (w+1) 2 ab) v2).setCell (ad (w+1) 3 ab) g).setCell (ad (w+1) 4 ab) i).setCell (ad (w+1) 5 ab) j)
  k.heap[w.heap.size+1]?=some (ae #[d,f,v2,g,i,j] 199 (0,0))/\IsLink k B l/\Keeps B.S w k/\(∀ {a':b4 Addr} {n:J} {L:ah aQ},c1 V a' n L->c1 k a' n L):=by
 have q:=o.lt;have hk:=Be (S:=λb=>b=w.heap.size+1) (b:=w.heap.size+1) (Keeps.refl _ V) rfl d f v2 g i j;refine⟨gm h.res rfl d f v2 g i j,h.aE.keeps hk (λb aj=>?_),rP h.cv (uB _) d f v2 g i j,λaj=>aj.keeps hk λhne x e=>Fo aj h.res (by simp[aU,bG.zero]) hne x e⟩;rcases aj with e|e|e|e|e<;>omega
def hE(l:b9)(m:aZ):bG×aY×b9:=
 if m.kind=3 then iU (hB l m.cj) m else
 if m.kind=4 then(⟨4,0,[],(ec (min l.next 1073741824) m.cl).1,m.sum,0⟩,(ec (min l.next 1073741824) m.cl).2 == 0,l)else
 if m.kind=5 then(⟨5,0,[],0,0,0⟩,true,hB l m.cj)else
 if m.kind=6 then(⟨6,0,[],0,0,m.lead⟩,true,l)else(⟨m.kind,0,[],0,0,0⟩,true,l)
def NK(l:b9)(s:aa):(hB l s).next=l.next:=by
 unfold hB;simp only[];split<;>rfl
def SE(h:IsLink w B l)(m:aZ){a:b4 Addr}{c:J}{bm:J}(fr:∀ x,a=some x->bm<=x.block)(aj:c1 w a c m.a8)(G:∀ x,a=some x->¬ B.S x.block)(au:0<=l.next/\l.next<=1073741824)(bj:0<=l.c2/\l.c2<=1073741824)(hm:m.a8.length<=1000000):az 247 #[B.p,(aM #[I m.kind,aK m.bL,bz m.cl,bz m.cj,ao a m.a8.length c,aK m.sum,I m.lead])] w (sW bm w B (hE l m).1 (.bool (hE l m).2.1) (hE l m).2.2):=by
 have al:=gT.start h m aj;simp only[aU,bG.zero,e2]at al;have g':=NK l m.cj;have⟨mk,Q,D,O,P,q,n⟩:=m;simp only at *;have H:=af h;have Y:=af fr;unfold hE;by_cases K:mk=3
 .subst K;rw[aD rfl];simp only;have b:=af al
  go_in
  go_wp2_with fail;refine aT (HW b.o.aE _ bj) ?_;rintro V ⟨z,y⟩;have al:=b.out.next H.out G z y;have t:=(al).aE.lt;have s:=aP (al).box;have u:=bJ (al).res;have r:=aP (al).res;have b:=af al;go_wp2_with fail;refine(SD b.o.aE ⟨3,Q,D,O,P,q,n⟩ Y.out b.o.a8 (by rw[g'];exact au) hm).mono ?_;rintro e h2 ⟨⟨F,bs,rfl,a',gf⟩,z,y⟩;have Z:=af gf;have al:=b.out.next H.out G z y;generalize iU (hB l O) ⟨3,Q,D,O,P,q,n⟩=R at *;obtain⟨R,ok,lb⟩:=R;simp only at *;have t:=(al).aE.lt;have s:=aP (al).box;have u:=bJ (al).res;have r:=aP (al).res;have b:=af al;have X:=af a';unfold aU;go_wp2_with fail;have d:=gT.fin (b.o) H.out (I (R).kind) (I (R).ec) (.slice F (R).a8.length bs) (I (R).frame) (aK (R).sum) (I (R).lead);simp only at d;generalize World.setCell _ (ad (w+1) 5 ab) _=C at *;obtain⟨g,k,j,i⟩:=d;have A:=dv _ _ _ _ g 6 rfl;refine cU (v:=aV #[.agg (aU R F bs),.bool ok]) wS rfl ?_;exact⟨⟨F,bs,rfl,i X.o,Z.o⟩,k,j⟩
 rw[aA K];by_cases L:mk=4
 .subst L;rw[aD rfl];have d:=λW=>B9 l.next D W;have hd:min l.next 1073741824=l.next:=U;rw[hd];generalize ec l.next D=p at *;obtain⟨f,bZ⟩:=p;have T:=af d;have fv:=al.aE.fv
  go_in
  go_upto_region 1 with fail
  generalize World.alloc (World.alloc w _) _=E at *;have t:=(al).aE.lt;have s:=aP (al).box;have u:=bJ (al).res;have r:=aP (al).res;have b:=af al;go_wp2_with fail;go_quiet ((go_at_call 307;exact(T.o _).mono λ_ _ h=>⟨h.1,_,h.2.symm⟩));go_wp2_with fail;have b:=af (b.o.drew nq);have d:=gT.fin (b.o) H.out (I ((⟨4,0,[],f,q,0⟩:bG)).kind) (I ((⟨4,0,[],f,q,0⟩:bG)).ec) (.slice none ((⟨4,0,[],f,q,0⟩:bG)).a8.length 0) (I ((⟨4,0,[],f,q,0⟩:bG)).frame) (aK ((⟨4,0,[],f,q,0⟩:bG)).sum) (I ((⟨4,0,[],f,q,0⟩:bG)).lead);simp only at d;generalize World.setCell _ (ad (w+1) 5 ab) _=C at *;obtain⟨g,k,j,i⟩:=d;have A:=dv _ _ _ _ g 6 rfl;refine cU (v:=aV #[.agg (aU (⟨4,0,[],f,q,0⟩:bG) none 0),(bZ == 0)]) wS rfl ?_;exact qf
 rw[aA L];by_cases M:mk=5
 .subst M;rw[aD rfl]
  go_in
  go_upto_region 1 with fail
  generalize World.alloc (World.alloc w _) _=E at *;have t:=(al).aE.lt;have s:=aP (al).box;have u:=bJ (al).res;have r:=aP (al).res;have b:=af al;go_wp2_with fail;refine aT (HW b.o.aE _ bj) ?_;rintro V ⟨z,y⟩;have al:=b.out.next H.out G z y;have t:=(al).aE.lt;have s:=aP (al).box;have u:=bJ (al).res;have r:=aP (al).res;have b:=af al;go_wp2_with fail;have d:=gT.fin (b.o) H.out (I ((⟨5,0,[],0,0,0⟩:bG)).kind) (I ((⟨5,0,[],0,0,0⟩:bG)).ec) (.slice none ((⟨5,0,[],0,0,0⟩:bG)).a8.length 0) (I ((⟨5,0,[],0,0,0⟩:bG)).frame) (aK ((⟨5,0,[],0,0,0⟩:bG)).sum) (I ((⟨5,0,[],0,0,0⟩:bG)).lead);simp only at d;generalize World.setCell _ (ad (w+1) 5 ab) _=C at *;obtain⟨g,k,j,i⟩:=d;have A:=dv _ _ _ _ g 6 rfl;refine cU (v:=aV #[.agg (aU (⟨5,0,[],0,0,0⟩:bG) none 0),true]) wS rfl ?_;exact qf
 rw[aA M];by_cases N:mk=6
 .subst N;rw[aD rfl]
  go_in
  go_upto_region 1 with fail
  generalize World.alloc (World.alloc w _) _=E at *;have t:=(al).aE.lt;have s:=aP (al).box;have u:=bJ (al).res;have r:=aP (al).res;have b:=af al;go_wp2_with fail;have d:=gT.fin (b.o) H.out (I ((⟨6,0,[],0,0,n⟩:bG)).kind) (I ((⟨6,0,[],0,0,n⟩:bG)).ec) (.slice none ((⟨6,0,[],0,0,n⟩:bG)).a8.length 0) (I ((⟨6,0,[],0,0,n⟩:bG)).frame) (aK ((⟨6,0,[],0,0,n⟩:bG)).sum) (I ((⟨6,0,[],0,0,n⟩:bG)).lead);simp only at d;generalize World.setCell _ (ad (w+1) 5 ab) _=C at *;obtain⟨g,k,j,i⟩:=d;have A:=dv _ _ _ _ g 6 rfl;refine cU (v:=aV #[.agg (aU (⟨6,0,[],0,0,n⟩:bG) none 0),true]) wS rfl ?_;exact qf
 rw[aA N];have d3:(mk == 3)=false:=by simpa using K
 have d4:(mk == 4)=false:=by simpa using L
 have d5:(mk == 5)=false:=by simpa using M
 have d6:(mk == 6)=false:=by simpa using N
 go_in
 go_upto_region 1 with fail
 generalize World.alloc (World.alloc w _) _=E at *;have t:=(al).aE.lt;have s:=aP (al).box;have u:=bJ (al).res;have r:=aP (al).res;have b:=af al;go_wp2_with fail;have d:=gT.fin (b.o) H.out (I ((⟨mk,0,[],0,0,0⟩:bG)).kind) (I ((⟨mk,0,[],0,0,0⟩:bG)).ec) (.slice none ((⟨mk,0,[],0,0,0⟩:bG)).a8.length 0) (I ((⟨mk,0,[],0,0,0⟩:bG)).frame) (aK ((⟨mk,0,[],0,0,0⟩:bG)).sum) (I ((⟨mk,0,[],0,0,0⟩:bG)).lead);simp only at d;generalize World.setCell _ (ad (w+1) 5 ab) _=C at *;obtain⟨g,k,j,i⟩:=d;have A:=dv _ _ _ _ g 6 rfl;refine cU (v:=aV #[.agg (aU (⟨mk,0,[],0,0,0⟩:bG) none 0),true]) wS rfl ?_;exact⟨⟨none,0,rfl,i (nA _),(λ_ e=>nomatch e)⟩,k,j⟩
theorem gT.kq{V V':ai}{m:aZ}{a:b4 Addr}{c:J}(h:gT w V B l m a c)(hk:Keeps aG V V'):gT w V' B l m a c:=
 ⟨hk.heap h.box id,hk.heap h.res id,h.aE.keeps hk λ_ _=>id,h.cv.trans (hk.mono λ_ _ h=>h.elim),h.a8.keeps hk λ_ _ _=>id⟩
def cO(l:b9)(m:aZ):bG×aY×b9:=
 if m.kind=1 then(⟨1,0,[],0,0,0⟩,true,if l.out.length=8 then l else {l with out:=l.out++[⟨2,m.bL,0,0,[],0,0⟩]})else
 if m.kind=2 then(if m.bL=l.bL then(⟨2,0,[],0,0,0⟩,true,{l with state:=1})else(bG.zero,false,l))else
 if m.kind=7 then(⟨7,0,[],0,0,0⟩,true,{l with state:=2})else
 if l.state=1 then hE l m else(bG.zero,false,l)
def SF(h:IsLink w B l)(m:aZ){a:b4 Addr}{c:J}{bm:J}(s':∀ x,a=some x->bm<=x.block)(aj:c1 w a c m.a8)(A:∀ x,a=some x->¬ B.S x.block)(au:0<=l.next/\l.next<=1073741824)(bj:0<=l.c2/\l.c2<=1073741824)(hm:m.a8.length<=1000000):az 167 #[B.p,(aM #[I m.kind,aK m.bL,bz m.cl,bz m.cj,ao a m.a8.length c,aK m.sum,I m.lead])] w (sW bm w B (cO l m).1 (.bool (cO l m).2.1) (cO l m).2.2):=by
 have al:=gT.start h m aj;simp only[aU,bG.zero,e2]at al;have w':=h.lt;have⟨mk,z,ms,a',fr,g',gf⟩:=m;simp only at *;have H:=af h;have lb:=af s';unfold cO;by_cases W:mk=1
 .subst W;rw[aD rfl];by_cases T:l.out.length=8
  .simp only[aD T]
   go_in
   go_upto_region 1 with fail
   generalize World.alloc (World.alloc w _) _=g at *;have C:=bR al.box;have q:=aP al.box;go_upto_region 2 with fail
   have f:=aW g (ae (aU ⟨1,0,[],0,0,0⟩ none 0) 199);simp only[aU,e2]at f;have al:=al.kq ((a_ g).alloc (ae (aU ⟨1,0,[],0,0,0⟩ none 0) 199));simp only[aU,e2]at al;generalize World.alloc g _=s at *;have u:=(al).aE.lt;have q:=aP (al).box;have y:=bJ (al).res;have t:=aP (al).res;have M:=bR f;have N:=aP f;have e5:=al.aE.e5;have d:=af al;have L:=af f;go_wp2_with fail;refine iK 7 aH aH ?_;simp only[hI,il,hG,hA]
   repeat (go_big_quiet_step ((fail)))
   refine wpQuiet_nil ?_;intro _ O;obtain⟨nq,P⟩:=O;subst P;go_wp2_with fail;refine aT ((Ic (d.o.drew nq).aE.out T ⟨2,z,0,0,[],0,0⟩)) ?_;rintro Z ⟨V,hk⟩;have al:=(d.out.drew nq).next (l':=l) H.out A ((d.out.drew nq).aE.Bz V hk rfl rfl rfl) (hk.mono λb _ h=>h.elim (λe=>.inr (.inr (.inr (.inl e)))) (λe=>.inr (.inr (.inr (.inr e)))));exact Nb
  simp only[aA T];have hd:l.out.length<8:=by have:=H.out.out.le.1;omega
  go_in
  go_upto_region 1 with fail
  generalize World.alloc (World.alloc w _) _=g at *;have C:=bR al.box;have q:=aP al.box;go_upto_region 2 with fail
  have f:=aW g (ae (aU ⟨1,0,[],0,0,0⟩ none 0) 199);simp only[aU,e2]at f;have al:=al.kq ((a_ g).alloc (ae (aU ⟨1,0,[],0,0,0⟩ none 0) 199));simp only[aU,e2]at al;generalize World.alloc g _=s at *;have u:=(al).aE.lt;have q:=aP (al).box;have y:=bJ (al).res;have t:=aP (al).res;have M:=bR f;have N:=aP f;have e5:=al.aE.e5;have d:=af al;have L:=af f;go_wp2_with fail;refine iK 7 aH aH ?_;simp only[hI,il,hG,hA]
  repeat (go_big_quiet_step ((fail)))
  refine wpQuiet_nil ?_;intro _ O;obtain⟨nq,P⟩:=O;subst P;go_wp2_with fail;refine aT ((Ib (d.o.drew nq).aE.out hd ⟨2,z,0,0,[],0,0⟩)) ?_;rintro Z ⟨V,hk⟩;have al:=(d.out.drew nq).next (l':={l with out:=l.out++[⟨2,z,0,0,[],0,0⟩]}) H.out A ((d.out.drew nq).aE.Bz V hk rfl rfl rfl) (hk.mono λb _ h=>h.elim (λe=>.inr (.inr (.inr (.inl e)))) (λe=>.inr (.inr (.inr (.inr e)))));exact Nb
 rw[aA W];by_cases X:mk=2
 .subst X;rw[aD rfl];by_cases G:z=l.bL
  .rw[aD G];subst G
   go_in
   go_upto_region 1 with fail
   generalize World.alloc (World.alloc w _) _=g at *;have C:=bR al.box;have q:=aP al.box;go_upto_region 2 with fail
   have f:=aW g (ae (aU ⟨2,0,[],0,0,0⟩ none 0) 199);simp only[aU,e2]at f;have al:=al.kq ((a_ g).alloc (ae (aU ⟨2,0,[],0,0,0⟩ none 0) 199));simp only[aU,e2]at al;generalize World.alloc g _=s at *;have u:=(al).aE.lt;have q:=aP (al).box;have y:=bJ (al).res;have t:=aP (al).res;have M:=bR f;have N:=aP f;have bu:=al.aE.bu;have f2:=al.aE.free 2;have bs:=al.aE.bs;have d:=af al;have L:=af f;go_wp2_with fail;go_quiet (fail);go_wp2_with fail;have E:=d.o.drew nq;have d:=af (E.next (V':=(s.drewN nq).setCell (ad B.p 2 ab) (I 1)) (l':={l with state:=1}) H.out A (E.aE.set 2 (I 1) _ rfl rfl rfl) (Keeps.setCell (Keeps.refl _ _) (.inl rfl) _));have n:=gT.fin (d.o) H.out (I ((⟨2,0,[],0,0,0⟩:bG)).kind) (I ((⟨2,0,[],0,0,0⟩:bG)).ec) (.slice none ((⟨2,0,[],0,0,0⟩:bG)).a8.length 0) (I ((⟨2,0,[],0,0,0⟩:bG)).frame) (aK ((⟨2,0,[],0,0,0⟩:bG)).sum) (I ((⟨2,0,[],0,0,0⟩:bG)).lead);simp only at n;generalize World.setCell _ (ad (w+1) 5 ab) _=F at *;obtain⟨r,k,j,i⟩:=n;have D:=dv _ _ _ _ r 6 rfl;refine cU (v:=aV #[.agg (aU (⟨2,0,[],0,0,0⟩:bG) none 0),true]) uG rfl ?_;exact qf
  rw[aA G];have v':(z != l.bL)=true:=by simpa using G
  go_in
  go_upto_region 1 with fail
  generalize World.alloc (World.alloc w _) _=g at *;have C:=bR al.box;have q:=aP al.box;go_upto_region 2 with fail
  have f:=aW g (ae (aU ⟨2,0,[],0,0,0⟩ none 0) 199);simp only[aU,e2]at f;have al:=al.kq ((a_ g).alloc (ae (aU ⟨2,0,[],0,0,0⟩ none 0) 199));simp only[aU,e2]at al;generalize World.alloc g _=s at *;have u:=(al).aE.lt;have q:=aP (al).box;have y:=bJ (al).res;have t:=aP (al).res;have bu:=al.aE.bu;have d:=af al;go_wp2_with fail;go_quiet (fail);go_wp2_with fail;have d:=af (d.o.drew nq);have n:=gT.fin (d.o) H.out (I ((⟨0,0,[],0,0,0⟩:bG)).kind) (I ((⟨0,0,[],0,0,0⟩:bG)).ec) (.slice none ((⟨0,0,[],0,0,0⟩:bG)).a8.length 0) (I ((⟨0,0,[],0,0,0⟩:bG)).frame) (aK ((⟨0,0,[],0,0,0⟩:bG)).sum) (I ((⟨0,0,[],0,0,0⟩:bG)).lead);simp only at n;generalize World.setCell _ (ad (w+1) 5 ab) _=F at *;obtain⟨r,k,j,i⟩:=n;have D:=dv _ _ _ _ r 6 rfl;refine cU (v:=aV #[.agg (aU (⟨0,0,[],0,0,0⟩:bG) none 0),false]) uG rfl ?_;exact qf
 rw[aA X];by_cases Y:mk=7
 .subst Y;rw[aD rfl]
  go_in
  go_upto_region 1 with fail
  generalize World.alloc (World.alloc w _) _=g at *;have C:=bR al.box;have q:=aP al.box;go_upto_region 2 with fail
  have f:=aW g (ae (aU ⟨7,0,[],0,0,0⟩ none 0) 199);simp only[aU,e2]at f;have al:=al.kq ((a_ g).alloc (ae (aU ⟨7,0,[],0,0,0⟩ none 0) 199));simp only[aU,e2]at al;generalize World.alloc g _=s at *;have u:=(al).aE.lt;have q:=aP (al).box;have y:=bJ (al).res;have t:=aP (al).res;have M:=bR f;have N:=aP f;have f2:=al.aE.free 2;have bs:=al.aE.bs;have d:=af al;have L:=af f;go_wp2_with fail;have E:=d.o;have d:=af (E.next (V':=s.setCell (ad B.p 2 ab) (I 2)) (l':={l with state:=2}) H.out A (E.aE.set 2 (I 2) _ rfl rfl rfl) (Keeps.setCell (Keeps.refl _ _) (.inl rfl) _));have n:=gT.fin (d.o) H.out (I ((⟨7,0,[],0,0,0⟩:bG)).kind) (I ((⟨7,0,[],0,0,0⟩:bG)).ec) (.slice none ((⟨7,0,[],0,0,0⟩:bG)).a8.length 0) (I ((⟨7,0,[],0,0,0⟩:bG)).frame) (aK ((⟨7,0,[],0,0,0⟩:bG)).sum) (I ((⟨7,0,[],0,0,0⟩:bG)).lead);simp only at n;generalize World.setCell _ (ad (w+1) 5 ab) _=F at *;obtain⟨r,k,j,i⟩:=n;have D:=dv _ _ _ _ r 6 rfl;refine cU (v:=aV #[.agg (aU (⟨7,0,[],0,0,0⟩:bG) none 0),true]) uG rfl ?_;exact qf
 rw[aA Y];have d1:(mk == 1)=false:=by simpa using W
 have d2:(mk == 2)=false:=by simpa using X
 have d7:(mk == 7)=false:=by simpa using Y
 by_cases K:l.state=1
 .rw[aD K]
  go_in
  go_upto_region 1 with fail
  generalize World.alloc (World.alloc w _) _=g at *;have C:=bR al.box;have q:=aP al.box;go_upto_region 2 with fail
  have f:=aW g (ae (aU ⟨mk,0,[],0,0,0⟩ none 0) 199);simp only[aU,e2]at f;have al:=al.kq ((a_ g).alloc (ae (aU ⟨mk,0,[],0,0,0⟩ none 0) 199));simp only[aU,e2]at al;generalize World.alloc g _=s at *;have u:=(al).aE.lt;have q:=aP (al).box;have y:=bJ (al).res;have t:=aP (al).res;have bs:=al.aE.bs;rw[K]at bs;have d:=af al;go_wp2_with fail;refine(SE d.o.aE ⟨mk,z,ms,a',fr,g',gf⟩ lb.out d.o.a8 A au bj hm).mono ?_;rintro e Z ⟨⟨Q,bs,rfl,sd,vl⟩,r',ps⟩;have m':=af vl;have al:=d.out.next H.out A r' ps;generalize hE l ⟨mk,z,ms,a',fr,g',gf⟩=R at *;obtain⟨R,ok,ys⟩:=R;simp only at *;have u:=(al).aE.lt;have q:=aP (al).box;have y:=bJ (al).res;have t:=aP (al).res;have d:=af al;have h2:=af sd;unfold aU;go_wp2_with fail;have n:=gT.fin (d.o) H.out (I (R).kind) (I (R).ec) (.slice Q (R).a8.length bs) (I (R).frame) (aK (R).sum) (I (R).lead);simp only at n;generalize World.setCell _ (ad (w+1) 5 ab) _=F at *;obtain⟨r,k,j,i⟩:=n;have D:=dv _ _ _ _ r 6 rfl;refine cU (v:=aV #[.agg (aU R Q bs),.bool ok]) uG rfl ?_;exact⟨⟨Q,bs,rfl,i h2.o,m'.o⟩,k,j⟩
 rw[aA K];have d9:(l.state != 1)=true:=by simpa using K
 go_in
 go_upto_region 1 with fail
 generalize World.alloc (World.alloc w _) _=g at *;have C:=bR al.box;have q:=aP al.box;go_upto_region 2 with fail
 have f:=aW g (ae (aU ⟨mk,0,[],0,0,0⟩ none 0) 199);simp only[aU,e2]at f;have al:=al.kq ((a_ g).alloc (ae (aU ⟨mk,0,[],0,0,0⟩ none 0) 199));simp only[aU,e2]at al;generalize World.alloc g _=s at *;have u:=(al).aE.lt;have q:=aP (al).box;have y:=bJ (al).res;have t:=aP (al).res;have bs:=al.aE.bs;have d:=af al;go_wp2_with fail;have n:=gT.fin (d.o) H.out (I ((⟨0,0,[],0,0,0⟩:bG)).kind) (I ((⟨0,0,[],0,0,0⟩:bG)).ec) (.slice none ((⟨0,0,[],0,0,0⟩:bG)).a8.length 0) (I ((⟨0,0,[],0,0,0⟩:bG)).frame) (aK ((⟨0,0,[],0,0,0⟩:bG)).sum) (I ((⟨0,0,[],0,0,0⟩:bG)).lead);simp only at n;generalize World.setCell _ (ad (w+1) 5 ab) _=F at *;obtain⟨r,k,j,i⟩:=n;have D:=dv _ _ _ _ r 6 rfl;refine cU (v:=aV #[.agg (aU (⟨0,0,[],0,0,0⟩:bG) none 0),false]) uG rfl ?_;exact⟨⟨none,0,rfl,i (nA _),(λ_ e=>nomatch e)⟩,k,j⟩
end Go.Proofs.YtalagblioepadaaGreatDoor
