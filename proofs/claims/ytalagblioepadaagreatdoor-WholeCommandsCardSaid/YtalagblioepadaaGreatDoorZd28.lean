/- The proof, part 28. -/
import Derived.Test.YtalagblioepadaaGreatDoorZd24
import Derived.Test.YtalagblioepadaaGreatDoorZd25
namespace Go.Proofs.YtalagblioepadaaGreatDoor
set_option linter.all false
open Proofs.Tryz List Go.RowKit
set_option maxRecDepth 100000
set_option maxHeartbeats 8000000
def xu{p:al}(h:p:=by simp[aV,results,results247,asAddr,loadVar,loadCells,isAgg199,sizeOf199,A]):p:=h
def vj{p:al}(h:p:=by simp[aV,results,results167,asAddr,loadVar,loadCells,isAgg199,sizeOf199,D]):p:=h
def M8{p:al}(h:p:=by simp[aV,bL.zero,results,results306,asAddr,loadVar,loadCells,isAgg199,sizeOf199,g]):p:=h
def Mn{p:al}(h:p:=by
 obtain⟨x,g⟩:∃ x,xs[k]?=some x:=⟨xs[k],gA fr⟩;obtain⟨bX,o,rfl,_⟩:=f.o.bu.at' U;have St:wr.cell? (ae bX (o+k*7) ad)=some (I x.m.kind):=sR f.o b k x g 0 U (I x.m.kind) rfl;have Tq:=sR f.o b k x g 1 U (aR x.m.bQ) rfl;have TS:=sR f.o b k x g 2 U (bC x.m.cr) rfl;have T':=sR f.o b k x g 3 U (bC x.m.cp) rfl;have V':=sR f.o b k x g 4 U (aq x.a x.m.a_.length x.c) rfl;have W':=sR f.o b k x g 5 U (aR x.m.sum) rfl;have aaq:=sR f.o b k x g 6 U (I x.m.lead) rfl;have F:(x.m).wf/\ds x.m:=Y.o x.m (by rw[<-E.o];exact e9.2 ⟨x,kX g,rfl⟩);have ab:=Gq (f.o.a_ x (kX g)).1 b;have Z:yW x.m=0:=by unfold yW;rw[aE F.2]
 have X:yX x.m=dv x.m:=by unfold yX;rw[aE F.2]
 have gf:lB ((xs.take (k+1)).map hK.m)=lB ((xs.take k).map hK.m)++[.string ⟨(dv x.m).toArray⟩]:=by
  rw[take_add_one,g];simp[lB]
 have sd:=ag gf;have ps:=ag b;have hd:=b.size;clear gf b;go_wp2_with fail;have vl:Below d wr (wr.alloc (af (kN x) 254)):=(b7 _ wr).alloc hd _;refine aW (ZH x.m (Gq ab ((b7 _ wr).alloc bx _)) F.1) λK a'=>?_;rw[Z,X];have V:Keeps aG wr K:=((bb wr).alloc _).trans (Keeps.bJ a' a8);clear Z X vl a' ab F St Tq TS T' V' W' aaq;have aar:=V.size;generalize dv x.m=h2 at *;have zp:=Lv K (.string ⟨h2.toArray⟩) 9;have g':=b5 G V (λ_ _=>id);go_wp2_with (at_builtin;refine DI _ rfl (.tmp 51) (.tmp 53) _ rfl d.heap.size 9 i0 _ 1 16 underlying33 r'.out Aw CW Q' rfl U _ k _ rfl (b5 g' ((bb _).alloc _) (λ_ _=>id)) (some (ae _ 0 ad)) 1 1 [.string ⟨h2.toArray⟩] rfl zp mZ pR U b1 ?_);intro v1 lb zd v' _;have ys:Keeps (λk=>d.heap.size<=k) K lb:=((Keeps.refl _ K).alloc _).grown v' (λk hk=>.inl (g'.lt k hk).1);have w':Keeps (λk=>d.heap.size<=k) wr lb:=cN (V.mono λ_ _ x=>x.elim) ys (λk _ h=>h);have s':=ps.o.trans (w'.below hd a8);go_wp2_with fail;go_roundw
 case rel=>exact⟨k+1,U,by go_num,by rw[sd.o];simpa using zd,s'⟩
 simp[intOf];omega
 ):p:=h
def NP{p:al}(h:p:=by
 go_wp2_with fail;go_quiet ((go_at_call 307;exact(n.o _).mono λ_ _ h=>⟨h.1,_,h.2.symm⟩));go_wp2_with fail;go_quiet (fail);go_wp2_with fail
 all_goals try (exfalso;omega)
 rename_i d _ _;have b:=(((bb w).alloc (af #[I m.kind,aR m.bQ,bC m.cr,bC m.cp,aq a m.a_.length c,aR m.sum,I m.lead] 254)).alloc (af (aV bL.zero none 0) 199)).drewN (d+nq);have j:(((w.alloc (af #[I m.kind,aR m.bQ,bC m.cr,bC m.cp,aq a m.a_.length c,aR m.sum,I m.lead] 254)).alloc (af (aV bL.zero none 0) 199)).drewN (d+nq)).heap[w.heap.size+1]?=some (af (aV bL.zero none 0) 199 (0,0)):=by
  have:=aX (w.alloc (af #[I m.kind,aR m.bQ,bC m.cr,bC m.cp,aq a m.a_.length c,aR m.sum,I m.lead] 254)) (af (aV bL.zero none 0) 199)
  simpa using this
 have g:=dF _ _ _ _ (gK j rfl (I 0) (I 0) (aq none 0 0) (I 0) (aR 0) (I 0)) 6 rfl;simp only[aV,bL.zero,fg]at g;refine c1 (v:=aY #[.agg (aV bL.zero none 0),false]) M8 rfl ?_;exact⟨⟨none,0,rfl,ob _,λ_ e=>nomatch e⟩,H.o.keeps (sn b (vd _) _ _ _ _ _ _) (λ_ _ h=>h),(sn b (vd _) _ _ _ _ _ _).mono λ_ _ h=>h.elim⟩
 ):p:=h
def Ov{p:al}(h:p:=by
 have f:=(((Keeps.refl (λb=>b=B.h2\/b=B.d2) s).drewN nq).trans hk).heap L.out U;have u:=(ar).aF.lt;have q:=aO (ar).box;have y:=bP (ar).res;have t:=aO (ar).res;have M:=bT f;have N:=aO f;have d:=ag ar;go_wp2_with fail;have n:=hl.fin (d.o) H.out (I ((⟨1,0,[],0,0,0⟩:bL)).kind) (I ((⟨1,0,[],0,0,0⟩:bL)).en) (.slice none ((⟨1,0,[],0,0,0⟩:bL)).a_.length 0) (I ((⟨1,0,[],0,0,0⟩:bL)).frame) (aR ((⟨1,0,[],0,0,0⟩:bL)).sum) (I ((⟨1,0,[],0,0,0⟩:bL)).lead);simp only at n;generalize World.setCell _ (ae (w+1) 5 ad) _=F at *;obtain⟨r,k,j,i⟩:=n;have D:=dF _ _ _ _ r 6 rfl;refine c1 (v:=aY #[.agg (aV (⟨1,0,[],0,0,0⟩:bL) none 0),true]) vj rfl ?_;exact⟨⟨none,0,rfl,i (ob _),(λ_ e=>nomatch e)⟩,k,j⟩
 ):p:=h
def Nx{p:al}(h:p:=by
 go_wp2_with fail;refine(j.out _).mono ?_;rintro e _ ⟨rfl,rfl⟩;go_wp2_with fail;go_quiet ((go_at_call 55;exact(m.out _).mono λ_ _ h=>⟨h.1,_,h.2.symm⟩));go_wp2_with fail
 all_goals try (exfalso;omega)
 refine c1 (v:=aY #[]) jA rfl ?_;exact⟨rfl,H.out.drew _,(Keeps.refl _ _).drewN _⟩
 ):p:=h
def N_{p:al}(h:p:=by
 rw[show(w.alloc (af #[I m.kind,aR m.bQ,bC m.cr,bC m.cp,aq a m.a_.length c,aR m.sum,I m.lead] 254)).heap.size=w.heap.size+1 by simp]at this;exact this
 ):p:=h
def OA{p:al}(h:p:=by
 have ps:=O.alloc (af #[I m.kind,I l.next,aq a' (m.a_.length-d) (c-d),I 0,aR 0,I 0] 199);have r':=ps.drew;exact r'
 ):p:=h
def qN{p:al}(h:p:=by
 exact⟨⟨none,0,rfl,i (ob _),(λ_ e=>nomatch e)⟩,k,j⟩
 ):p:=h
def Aq{p:al}(h:p:=by
 simp only[IntKind.wrap,IntKind.bits,IntKind.signed];simp;omega
 ):p:=h
variable{w:aj}{B:iR}{l:cd}
def qy(l:cd):cd:={l with cf:=l.cf+1}
def gI(l:cd):cd:=if (qy l).eI<(qy l).cf-(qy l).heard then {qy l with state:=2}else qy l
def c9(l:cd)(lead:aa):ah a6×cd:=mb (gI l) lead
def lB(a:ah a6):ah ay:=a.map λm=>Value.string ⟨(dv m).toArray⟩
def O1(w:aj)(B:iR)(l:cd)(lead:aa)(e:Ending)(w':aj):al:=
 (∃ A cap,e=.returned (.slice A (c9 l lead).1.length cap)/\eb w' 1 A (c9 l lead).1.length cap (lB (c9 l lead).1)/\∀ y,A=some y->w.heap.size<=y.block)/\IsLink w' B (c9 l lead).2/\Keeps B.S w w'
def S4:(prog.info? 9).map (λi=>(i.zero,i.size,i.bytes))=some (some (.string ByteArray.empty),1,16):=aI
theorem Gq{w w':aj}{a:b_ Addr}{c:J}{L:ah aT}(h:c' w a c L)(ak:Below w w w'):c' w' a c L:=
 h.keeps (S:=aG) (Keeps.bJ ak a8) (λ_ _ _=>id)
def Rw{xs:ah hK}{k:J}{x:hK}(h:xs[k]?=some x)(j:J)(c:j<7):(jD xs)[k*7+j]?=(kN x).toList[j]?:=by
 induction xs generalizing k with
 | nil=>simp at h
 | cons y ys a=>
  have b:(kN y).toList.length=7:=rfl;unfold jD at a⊢;rw[jc];cases k with
  | zero=>
   simp only[kW,hI]at h;subst h;rw[jO U]
   congr 1
   omega
  | succ k=>
   rw[j']at h;rw[lF U,b,<-a h]
   congr 1
   omega
def sR{a wr:aj}{b:J}{bX o cap:J}{xs:ah hK}(h:AP b a (some (ae bX o ad)) cap xs)(ak:Below a a wr)(k:J)(x:hK)(c:xs[k]?=some x)(j:J)(d:j<7)(u:ay)(f:(kN x).toList[j]?=some u):wr.cell? (ae bX (o+k*7+j) ad)=some u:=by
 rw[hZ];have hk:=(hD.1 c).1;have⟨g,i,e,an⟩:=h.bu.at' U;cases e
 have:=an (k*7+j) u (by rw[Rw c j d,f])
 exact(Keeps.bJ (S:=aG) ak a8).cell this id
def I3(h:IsLink w B l)(lead:aa)(aK:0<=l.cf/\l.cf<=1000000)(aS:0<=l.heard/\l.heard<=1000000)(kl:∀ m∈l.out,m.a_=[])(hm:∀ m∈(c9 l lead).1,m.wf/\ds m)(av:(c9 l lead).1.length<=100):aA 85 #[B.p,I lead] w (O1 w B l lead):=by
 have dY:=h.dY;have W:=h.free 4;have a:=h.set 4 (I (l.cf+1)) (qy l) rfl rfl rfl;have D:=Keeps.setCell (S:=B.S) (Keeps.refl _ w) (p:=ae B.p 4 ad) (.inl rfl) (I (l.cf+1));have H:=ag h;obtain⟨i0,ax,Aw,CW,Q'⟩:∃ i,prog.info? 9=some i/\i.zero=some (.string ByteArray.empty)/\i.size=1/\i.bytes=16:=by
  have h:=S4;cases aS:prog.info? 9 with
  | none=>rw[aS]at h;cases h
  | some i=>rw[aS]at h;simp only[pN,hI,jR]at h;exact⟨i,rfl,h.1,h.2.1,h.2.2⟩
 have r':=ag ax;by_cases au:l.eI<l.cf+1-l.heard
 .have t:gI l={qy l with state:=2}:=by unfold gI;rw[aE (by exact au)]
  go_in
  go_wp2_with fail;generalize w.setCell (ae B.p 4 ad) (I (l.cf+1))=ao at *;have P:ao.cell? (ae B.p 4 ad)=some (I (l.cf+1)):=a.dY;have Q:ao.cell? (ae B.p 5 ad)=some (I l.heard):=a.fV;have d1:ao.cell? (ae B.p 1 ad)=some (I l.eI):=a.b6;go_quiet (fail);have d2:=(a.drew nq).bw;have g2:=(a.drew nq).free 2;have s:=(a.drew nq).set 2 (I 2) (gI l) (by rw[t];rfl) (by rw[t]) (by rw[t]);have j:=Keeps.setCell (S:=B.S) (D.drewN nq) (p:=ae B.p 2 ad) (.inl rfl) (I 2);go_wp2_with fail;clear P Q d1 d2 g2 a D dY W;generalize (ao.drewN nq).setCell (ae B.p 2 ad) (I 2)=bq at *;have z:0<=(gI l).cf/\(gI l).cf<=1099511627776:=by
   have:(gI l).cf=l.cf+1:=by unfold gI;split<;>rfl
   rw[this];omega
  have x:∀ m∈(gI l).out,m.a_=[]:=by
   have:(gI l).out=l.out:=by unfold gI;split<;>rfl
   rw[this];exact kl
  refine(I5 s lead z x).mono ?_;rintro e d ⟨⟨A,cap,xs,rfl,ar,r⟩,u,C⟩;have c:=j.trans C;have M:=ag u;have L:=ag c;have q:xs.length=(c9 l lead).1.length:=by
   have:=c5 length r
   rwa [hG]at this
  have T:w.heap.size<=d.heap.size:=c.size;have l':∀ y,A=some y->w.heap.size<=y.block:=λy e=>ca j.size (ar.new y e);have f:=ag ar;have E:=ag (show xs.map hK.m=(c9 l lead).1 from r);have Y:=ag hm;have N:=ag av;clear z x ar u C c s j hm kl r av;have m':xs.length<=100:=by rw[q];exact N.o
  go_wp2_with fail;go_loopw [5,40] (λv i wr=>∃ k:J,k<=xs.length/\i=I k/\wr.ownsRow d.heap.size 9 1 v k (lB ((xs.take k).map hK.m))/\Below d d wr) (λ_ i _=>xs.length-(intOf i).toNat)
  case atStart=>exact⟨0,de _,rfl,gx _ _ _ _,b7 _ _⟩
  obtain⟨k,hk,rfl,G,b⟩:=hrel;by_cases fr:k<xs.length
  .exact Mn
  obtain rfl:k=xs.length:=U;obtain⟨cG,O,rfl,n,R⟩:=cS G;rw[nU,E.o]at n;rw[q]at n;go_wp2_with fail;go_ret;refine⟨⟨cG,O,by rw[<-q];rfl,n,λy e=>ca T (R y e).1⟩,M.o.below b,?_⟩;exact cN L.o (Keeps.bJ (S:=aG) b a8) (λk _ h=>h.elim)
 have t:gI l=qy l:=by unfold gI;rw[aB (by exact au)]
 go_in
 go_wp2_with fail;generalize w.setCell (ae B.p 4 ad) (I (l.cf+1))=ao at *;have P:ao.cell? (ae B.p 4 ad)=some (I (l.cf+1)):=a.dY;have Q:ao.cell? (ae B.p 5 ad)=some (I l.heard):=a.fV;have d1:ao.cell? (ae B.p 1 ad)=some (I l.eI):=a.b6;go_quiet (fail);have s:=a.drew nq;rw[<-t]at s;have j:=D.drewN nq;clear t;go_wp2_with fail;clear P Q d1 a D dY W;generalize ao.drewN nq=bq at *;have z:0<=(gI l).cf/\(gI l).cf<=1099511627776:=by
  have:(gI l).cf=l.cf+1:=by unfold gI;split<;>rfl
  rw[this];omega
 have x:∀ m∈(gI l).out,m.a_=[]:=by
  have:(gI l).out=l.out:=by unfold gI;split<;>rfl
  rw[this];exact kl
 refine(I5 s lead z x).mono ?_;rintro e d ⟨⟨A,cap,xs,rfl,ar,r⟩,u,C⟩;have c:=j.trans C;have M:=ag u;have L:=ag c;have q:xs.length=(c9 l lead).1.length:=by
  have:=c5 length r
  rwa [hG]at this
 have T:w.heap.size<=d.heap.size:=c.size;have l':∀ y,A=some y->w.heap.size<=y.block:=λy e=>ca j.size (ar.new y e);have f:=ag ar;have E:=ag (show xs.map hK.m=(c9 l lead).1 from r);have Y:=ag hm;have N:=ag av;clear z x ar u C c s j hm kl r av;have m':xs.length<=100:=by rw[q];exact N.o
 go_wp2_with fail;go_loopw [5,40] (λv i wr=>∃ k:J,k<=xs.length/\i=I k/\wr.ownsRow d.heap.size 9 1 v k (lB ((xs.take k).map hK.m))/\Below d d wr) (λ_ i _=>xs.length-(intOf i).toNat)
 case atStart=>exact⟨0,de _,rfl,gx _ _ _ _,b7 _ _⟩
 obtain⟨k,hk,rfl,G,b⟩:=hrel;by_cases fr:k<xs.length
 .exact Mn
 obtain rfl:k=xs.length:=U;obtain⟨cG,O,rfl,n,R⟩:=cS G;rw[nU,E.o]at n;rw[q]at n;go_wp2_with fail;go_ret;refine⟨⟨cG,O,by rw[<-q];rfl,n,λy e=>ca T (R y e).1⟩,M.o.below b,?_⟩;exact cN L.o (Keeps.bJ (S:=aG) b a8) (λk _ h=>h.elim)
def h3(l:cd)(s:aa):cd:=
 let p:=en (min l.da 1073741824) s
 if p.2≠0\/p.1<l.da\/l.da+l.own.length<p.1 then l else {l with da:=p.1,own:=l.own.drop (p.1-l.da).toNat}
def I4(h:IsLink w B l)(s:aa)(bh:0<=l.da/\l.da<=1073741824):aA 305 #[B.p,bC s] w λe w'=>e=aY #[]/\IsLink w' B (h3 l s)/\Keeps B.S w w':=by
 have c2:=h.c2;have ek:=h.ek;have V:min l.da 1073741824=l.da:=U;unfold h3;rw[V];have K:(ku l.own).length=l.own.length:=by simp[ku]
 have T:=h.own.le.1;rw[K]at T;have Z:IntKind.i64.wrap (l.da+(l.own.length:aa))=l.da+(l.own.length:aa):=by
  exact Aq
 have t:=λn=>wm (h.drew n).own;rw[K]at t;have A:=λW=>C2 l.da s W;generalize au:en l.da s=p at *;have⟨f,b0⟩:=p;simp only at *;have m:=ag t;have j:=ag A;have H:=ag h;clear h t A au;by_cases h1:b0≠0
 .rw[aE (.inl h1)];have ab:(b0 != 0)=true:=by simpa using h1
  go_in
  go_wp2_with fail;refine(j.o _).mono ?_;rintro e _ ⟨rfl,rfl⟩;go_wp2_with fail;go_quiet ((go_at_call 55;exact(m.out _).mono λ_ _ h=>⟨h.1,_,h.2.symm⟩));go_wp2_with fail
  all_goals try (exfalso;omega)
  refine c1 (v:=aY #[]) jA rfl ?_;exact⟨rfl,H.out.drew _,(Keeps.refl _ _).drewN _⟩
 have h1:b0=0:=U;subst h1;by_cases h2:f<l.da
 .rw[aE (.inr (.inl h2))]
  go_in
  exact Nx
 by_cases P:l.da+l.own.length<f
 .rw[aE (.inr (.inr P))]
  go_in
  exact Nx
 rw[aB U];obtain⟨d,hd⟩:∃ d:J,f=l.da+d:=⟨(f-l.da).toNat,U⟩;subst hd;rw[show(l.da+(d:aa)-l.da).toNat=d by omega];have X:d<=l.own.length:=U
 go_in
 go_wp2_with fail;refine(j.out _).mono ?_;rintro e _ ⟨rfl,rfl⟩;go_wp2_with fail;go_quiet ((go_at_call 55;exact(m.out _).mono λ_ _ h=>⟨h.1,_,h.2.symm⟩));go_wp2_with fail
 all_goals try (exfalso;omega)
 have Q:=H.out.drew nq;have R:=(Keeps.refl B.S w).drewN nq;generalize w.drewN nq=ao at *;clear ek c2 m j;have y:decide (l.own.length<d)=false:=b1;have z:decide (l.da+(d:aa)<l.da)=false:=b1;simp only[y,z,w5];clear y z;go_loopg [] d (λg wr=>∃ k:J,g=d-k/\k<=d/\IsLink wr B {l with da:=l.da+k,own:=l.own.drop k}/\Keeps B.S w wr)
 case atStart=>exact⟨0,rfl,de _,by simpa using Q,R⟩
 obtain⟨k,rfl,hk,a,i⟩:=hrel;have c2:=a.c2;have ek:=a.ek;have O:=a.free 7;by_cases Y:k<d
 .have G:l.own.drop k=l.own[k] :: l.own.drop (k+1):=pH U;have u:=a.own;rw[show ku (l.own.drop k)=((l.own[k]).toNat:aa) :: ku (l.own.drop (k+1))by rw[G];rfl]at u;have q:=ag a;have r:=ag i;clear a i G;go_wp2_with fail;refine(Te u).mono ?_;rintro e aD ⟨rfl,F,x⟩;have c:=q.out.Cv (L:=l.own.drop (k+1)) (l':={l with da:=l.da+k,own:=l.own.drop (k+1)}) F x rfl rfl rfl;have C:=c.set 7 (I (l.da+k+1)) {l with da:=l.da+(k+1:J),own:=l.own.drop (k+1)} (by simp[lY];omega) rfl rfl;have D:=r.out.trans (x.mono λb _ h=>h.elim (λe=>.inr (.inl e)) (λe=>.inr (.inr (.inl e))));have E:=Keeps.setCell (S:=B.S) D (p:=ae B.p 7 ad) (.inl rfl) (I (l.da+k+1));have c2:=c.c2;have O:=c.free 7;have M:=ag C;have N:=ag E;clear c C D E F x u;go_wp2_with fail;go_roundg (d-(k+1))
  case rel=>exact⟨k+1,U,U,M.o,N.o⟩
  omega
 obtain rfl:k=d:=U;have q:=ag a;have r:=ag i;clear a i;go_wp2_with fail;refine qD (v:=aY #[]) jA rfl ?_;exact⟨rfl,q.o,r.o⟩
structure bL where
 kind:aa
 en:aa
 a_:ah aT
 frame:aa
 sum:aa
 lead:aa
def bL.zero:bL:=⟨0,0,[],0,0,0⟩
def aV(h:bL)(a:b_ Addr)(c:J):a7 ay:=#[I h.kind,I h.en,aq a h.a_.length c,I h.frame,aR h.sum,I h.lead]
def tq(bo:J)(w:aj)(B:iR)(h:bL)(ok:ay)(l':cd)(e:Ending)(w':aj):al:=
 (∃ a c,e=aY #[.agg (aV h a c),ok]/\c' w' a c h.a_/\∀ x,a=some x->bo<=x.block)/\IsLink w' B l'/\Keeps B.S w w'
def jm(l:cd)(m:a6):bL×a1×cd:=
 let p:=en (min l.next 1073741824) m.cr
 if p.2≠0\/l.next<p.1\/p.1+m.a_.length<=l.next then(bL.zero,false,l)else(⟨m.kind,l.next,m.a_.drop (l.next-p.1).toNat,0,0,0⟩,true,{l with next:=p.1+m.a_.length})
def gK{W:aj}{b:J}{bV:a7 ay}(h:W.heap[b]?=some (af bV 199 (0,0)))(aw:bV.size=6)(g i v2 j k l:ay):((((((W.setCell (ae b 0 ad) g).setCell (ae b 1 ad) i).setCell (ae b 2 ad) v2).setCell (ae b 3 ad) j).setCell (ae b 4 ad) k).setCell (ae b 5 ad) l).heap[b]?=some (af #[g,i,v2,j,k,l] 199 (0,0)):=by
 rw[b3 (b3 (b3 (b3 (b3 (b3 h 0 g) 1 i) 2 v2) 3 j) 4 k) 5 l];have⟨bV⟩:=bV
 match bV,aw with
 | [a,b,c,d,e,f],_=>rfl
theorem sn{S:J->al}{w W:aj}{b:J}(h:Keeps S w W)(ak:w.heap.size<=b)(a c v2 d e f:ay):Keeps S w ((((((W.setCell (ae b 0 ad) a).setCell (ae b 1 ad) c).setCell (ae b 2 ad) v2).setCell (ae b 3 ad) d).setCell (ae b 4 ad) e).setCell (ae b 5 ad) f):=
 (((((h.oH (p:=ae b 0 ad) ak a).oH (p:=ae b 1 ad) ak c).oH (p:=ae b 2 ad) ak v2).oH (p:=ae b 3 ad) ak d).oH (p:=ae b 4 ad) ak e).oH (p:=ae b 5 ad) ak f
theorem B7{S:J->al}{w W:aj}{b:J}(h:Keeps S w W)(ak:S b)(a c v2 d e f:ay):Keeps S w ((((((W.setCell (ae b 0 ad) a).setCell (ae b 1 ad) c).setCell (ae b 2 ad) v2).setCell (ae b 3 ad) d).setCell (ae b 4 ad) e).setCell (ae b 5 ad) f):=
 (((((h.setCell (p:=ae b 0 ad) ak a).setCell (p:=ae b 1 ad) ak c).setCell (p:=ae b 2 ad) ak v2).setCell (p:=ae b 3 ad) ak d).setCell (p:=ae b 4 ad) ak e).setCell (p:=ae b 5 ad) ak f
def HI(a b:aa):0<=(en a b).1/\(en a b).1<=1073741824:=by
 unfold en;simp only[]
 (repeat' split)<;>simp only[]<;>omega
def S8(h:IsLink w B l)(m:a6){a:b_ Addr}{c:J}{bo:J}(av:0<=l.next/\l.next<=1073741824)(hm:m.a_.length<=1000000)(f b0:aa)(k:∀ W,aA 307 #[I l.next,bC m.cr] W λe w'=>e=aY #[I f,I b0]/\W=w')(s:0<=f/\f<=1073741824)(i:b0≠0\/l.next<f\/f+m.a_.length<=l.next):aA 306 #[B.p,(aL #[I m.kind,aR m.bQ,bC m.cr,bC m.cp,aq a m.a_.length c,aR m.sum,I m.lead])] w (tq bo w B bL.zero (.bool false) l):=by
 have fI:=h.fI;have q:=h.free 8;have u:min l.next 1073741824=l.next:=U;have t:=h.lt.1;have n:=ag k;have H:=ag h;clear h k;by_cases h1:b0≠0
 .clear i;have y:(b0 != 0)=true:=by simpa using h1
  go_in
  exact NP
 have h1:b0=0:=U;subst h1;by_cases h2:l.next<f
 .clear i
  go_in
  exact NP
 have x:IntKind.i64.wrap (f+(m.a_.length:aa))=f+(m.a_.length:aa):=by
  exact Aq
 have r:f+m.a_.length<=l.next:=U;clear i
 go_in
 go_wp2_with fail;go_quiet ((go_at_call 307;exact(n.o _).mono λ_ _ h=>⟨h.1,_,h.2.symm⟩));go_wp2_with fail;go_quiet (fail);go_wp2_with fail
 all_goals try (exfalso;omega)
 rename_i d _ _;have b:=(((bb w).alloc (af #[I m.kind,aR m.bQ,bC m.cr,bC m.cp,aq a m.a_.length c,aR m.sum,I m.lead] 254)).alloc (af (aV bL.zero none 0) 199)).drewN (d+nq);have j:(((w.alloc (af #[I m.kind,aR m.bQ,bC m.cr,bC m.cp,aq a m.a_.length c,aR m.sum,I m.lead] 254)).alloc (af (aV bL.zero none 0) 199)).drewN (d+nq)).heap[w.heap.size+1]?=some (af (aV bL.zero none 0) 199 (0,0)):=by
  have:=aX (w.alloc (af #[I m.kind,aR m.bQ,bC m.cr,bC m.cp,aq a m.a_.length c,aR m.sum,I m.lead] 254)) (af (aV bL.zero none 0) 199)
  simpa using this
 have g:=dF _ _ _ _ (gK j rfl (I 0) (I 0) (aq none 0 0) (I 0) (aR 0) (I 0)) 6 rfl;simp only[aV,bL.zero,fg]at g;refine c1 (v:=aY #[.agg (aV bL.zero none 0),false]) M8 rfl ?_;exact⟨⟨none,0,rfl,ob _,λ_ e=>nomatch e⟩,H.o.keeps (sn b (vd _) _ _ _ _ _ _) (λ_ _ h=>h),(sn b (vd _) _ _ _ _ _ _).mono λ_ _ h=>h.elim⟩
def QB(X:aj):X.drew.heap=X.heap:=rfl
def Gs{a:b_ Addr}{c:J}{L:ah aT}(h:c' w a c L)(f:w.heap[B.p]?=some (af (lY B l) 124 (0,0)))(hne:L≠[])(x:Addr)(g:a=some x):x.block≠B.p:=by
 obtain⟨b,o,rfl,an⟩:=h.at' hne;cases g;intro e;simp only at e;subst e;have d:=an 0 (qH.2 hne);unfold World.cell? at d;rw[f]at d;have h1:(lY B l)[o]?=some (er (L[0]'(qH.2 hne))):=by simpa using d
 unfold lY er at h1
 match o,h1 with
 | 0,h1=>simp at h1
 | 1,h1=>simp at h1
 | 2,h1=>simp at h1
 | 3,h1=>simp at h1
 | 4,h1=>simp at h1
 | 5,h1=>simp at h1
 | 6,h1=>simp at h1
 | 7,h1=>simp at h1
 | 8,h1=>simp at h1
 | 9,h1=>simp at h1
 | 10,h1=>simp at h1
 | 11,h1=>simp at h1
 | 12,h1=>simp at h1
 | o+13,h1=>simp at h1
def S9(h:IsLink w B l)(m:a6){a:b_ Addr}{c:J}{bo:J}(M:∀ x,a=some x->bo<=x.block)(ak:c' w a c m.a_)(av:0<=l.next/\l.next<=1073741824)(hm:m.a_.length<=1000000)(f:aa)(E:∀ W,aA 307 #[I l.next,bC m.cr] W λe w'=>e=aY #[I f,I 0]/\W=w')(ys:0<=f/\f<=1073741824)(h2:¬ l.next<f)(v':¬ f+m.a_.length<=l.next):aA 306 #[B.p,(aL #[I m.kind,aR m.bQ,bC m.cr,bC m.cp,aq a m.a_.length c,aR m.sum,I m.lead])] w (tq bo w B ⟨m.kind,l.next,m.a_.drop (l.next-f).toNat,0,0,0⟩ (.bool true) {l with next:=f+m.a_.length}):=by
 have fI:=h.fI;have D:=h.free 8;have CW:min l.next 1073741824=l.next:=U;have zd:=h.lt.1;have Q:=ag E;have H:=ag h;clear h E;have Tq:IntKind.i64.wrap (f+(m.a_.length:aa))=f+(m.a_.length:aa):=by
  exact Aq
 have⟨d,hd⟩:∃ d:J,l.next-f=d:=⟨(l.next-f).toNat,U⟩;have s:d<m.a_.length:=U;have⟨a',Q',P,G⟩:=ak.drop d U;have Y:=ag (show ∀ x,a'=some x->bo<=x.block from λx C=>by obtain⟨y,u,l'⟩:=G x C;have:=M y u;omega);clear M;have m':(l.next-f).toNat=d:=U;rw[m']
 go_in
 go_wp2_with fail;go_quiet ((go_at_call 307;exact(Q.o _).mono λ_ _ h=>⟨h.1,_,h.2.symm⟩));go_wp2_with fail;go_quiet (fail);go_wp2_with fail
 all_goals try (exfalso;omega)
 have St:IntKind.i64.wrap (l.next-f)=(d:aa):=by
  exact Aq
 generalize g:World.drewN (World.drewN (World.alloc (World.alloc w _) _) _) _=W;have t:Keeps aG w W:=by
  rw[<-g];exact((((bb w).alloc _).alloc _).drewN _).drewN _
 have q:W.heap[w.heap.size+1]?=some (af (aV bL.zero none 0) 199 (0,0)):=by
  rw[<-g]
  have:=aX (w.alloc (af #[I m.kind,aR m.bQ,bC m.cr,bC m.cp,aq a m.a_.length c,aR m.sum,I m.lead] 254)) (af (aV bL.zero none 0) 199)
  exact N_
 have A:W.heap[w.heap.size]?=some (af #[I m.kind,aR m.bQ,bC m.cr,bC m.cp,aq a m.a_.length c,aR m.sum,I m.lead] 254 (0,0)):=by
  rw[<-g];exact cw (aX w (af #[I m.kind,aR m.bQ,bC m.cr,bC m.cp,aq a m.a_.length c,aR m.sum,I m.lead] 254)) (af (aV bL.zero none 0) 199)
 have N:W.heap.size=w.heap.size+2:=by rw[<-g];simp
 clear g fI D;have j:=H.o.keeps t (λ_ _ h=>h);have sd:B.p<W.heap.size:=U;have zp:w.heap.size<W.heap.size:=U;have Aw:w.heap.size+1<W.heap.size:=U;have fI:=j.fI;have D:=j.free 8;have aas:=aO A;have dq:=λk=>fO q k;have TS:=dq 0;have T':=dq 1;have V':=dq 2;have W':=dq 3;have aaq:=dq 4;have aar:=dq 5;have eV:=aO q;clear dq;have r:=P.keeps t (λ_ _ _=>id);have T:=ag j;have X:=ag t;have R:=ag q;have s':=ag A;have vl:=ag N;have V:=ag r;clear j t q A N r
 go_region
 go_wp2_with fail;generalize n:World.drew _=z;have F:=e0 (p:=ae B.p 8 ad) R.o (by show w.heap.size+1≠B.p;omega) (I (f+(m.a_.length:aa)));have ab:z.heap[w.heap.size+1]?=some (af #[I m.kind,I l.next,aq a' (m.a_.length-d) (c-d),I 0,aR 0,I 0] 199 (0,0)):=by
  rw[<-n,QB];exact cw (gK F rfl (I m.kind) (I l.next) (aq a' (m.a_.length-d) (c-d)) (I 0) (aR 0) (I 0)) _
 have g':=dF _ _ _ _ ab 6 rfl;have ar:=T.o.set 8 (I (f+(m.a_.length:aa))) {l with next:=f+m.a_.length} rfl rfl rfl;have K:Keeps B.S w _:=Keeps.setCell (S:=B.S) (X.o.mono λ_ _ h=>h.elim) (p:=ae B.p 8 ad) (.inl rfl) (I (f+(m.a_.length:aa)));have fr:Keeps B.S w z:=by
  rw[<-n];have O:=sn (b:=w.heap.size+1) K (Nat.le_add_right _ 1) (I m.kind) (I l.next) (aq a' (m.a_.length-d) (c-d)) (I 0) (aR 0) (I 0);exact OA
 have L:Keeps (λb=>b=w+1) (W.setCell (ae B.p 8 ad) (I (f+(m.a_.length:aa)))) z:=by
  rw[<-n];have O:=B7 (S:=λb=>b=w.heap.size+1) (b:=w.heap.size+1) (Keeps.refl _ (W.setCell (ae B.p 8 ad) (I (f+(m.a_.length:aa))))) rfl (I m.kind) (I l.next) (aq a' (m.a_.length-d) (c-d)) (I 0) (aR 0) (I 0);exact OA
 have gf:=(Keeps.setCell (S:=λb=>b=B.p\/b=w.heap.size+1) (Keeps.refl _ W) (p:=ae B.p 8 ad) (.inl rfl) (I (f+(m.a_.length:aa)))).trans (L.mono λ_ _ h=>.inr h);clear n K F;refine c1 (v:=aY #[.agg (aV ⟨m.kind,l.next,m.a_.drop d,0,0,0⟩ a' (c-d)),true]) (by simp[aV,results,results306,asAddr,loadVar,loadCells,isAgg199,sizeOf199,g']) rfl ?_;refine⟨⟨a',c-d,rfl,V.o.keeps gf ?_,Y.o⟩,ar.keeps (S:=λb=>b=w.heap.size+1) L ?_,fr⟩
 .intro _ x C lb;obtain⟨y,u,l'⟩:=G x C;have Z:y.block<w.heap.size:=ak.lt (by intro e;rw[e]at s;simp at s) y u;rcases lb with e|e
  .exact Gs ak H.out.bd (by intro e;rw[e]at s;simp at s) y u U
  omega
 intro b r e;have Z:=H.out.lt;rcases r with i|i|i|i|i<;>omega
def TX(h:IsLink w B l)(m:a6){a:b_ Addr}{c:J}{bo:J}(g:∀ x,a=some x->bo<=x.block)(ak:c' w a c m.a_)(av:0<=l.next/\l.next<=1073741824)(hm:m.a_.length<=1000000):aA 306 #[B.p,(aL #[I m.kind,aR m.bQ,bC m.cr,bC m.cp,aq a m.a_.length c,aR m.sum,I m.lead])] w (tq bo w B (jm l m).1 (.bool (jm l m).2.1) (jm l m).2.2):=by
 have i:min l.next 1073741824=l.next:=U;unfold jm;rw[i];have d:=λW=>C2 l.next m.cr W;have e:=HI l.next m.cr;generalize en l.next m.cr=p at *;have⟨f,b0⟩:=p;simp only at *;by_cases b:b0≠0\/l.next<f\/f+m.a_.length<=l.next
 .rw[aE b];exact S8 h m av hm f b0 d e b
 rw[aB b];obtain rfl:b0=0:=U;exact S9 h m g ak av hm f d e U U
structure hl(w V:aj)(B:iR)(l:cd)(m:a6)(a:b_ Addr)(c:J):al where
 box:V.heap[w.heap.size]?=some (af #[I m.kind,aR m.bQ,bC m.cr,bC m.cp,aq a m.a_.length c,aR m.sum,I m.lead] 254 (0,0))
 res:V.heap[w.heap.size+1]?=some (af (aV bL.zero none 0) 199 (0,0))
 aF:IsLink V B l
 cu:Keeps B.S w V
 a_:c' V a c m.a_
def hl.start(h:IsLink w B l)(m:a6){a:b_ Addr}{c:J}(ak:c' w a c m.a_):hl w ((w.alloc (af #[I m.kind,aR m.bQ,bC m.cr,bC m.cp,aq a m.a_.length c,aR m.sum,I m.lead] 254)).alloc (af (aV bL.zero none 0) 199)) B l m a c:=by
 have hk:=((bb w).alloc (af #[I m.kind,aR m.bQ,bC m.cr,bC m.cp,aq a m.a_.length c,aR m.sum,I m.lead] 254)).alloc (af (aV bL.zero none 0) 199);refine⟨cw (aX w _) _,?_,h.keeps hk (λ_ _=>id),hk.mono λ_ _ h=>h.elim,ak.keeps hk λ_ _ _=>id⟩
 have:=aX (w.alloc (af #[I m.kind,aR m.bQ,bC m.cr,bC m.cp,aq a m.a_.length c,aR m.sum,I m.lead] 254)) (af (aV bL.zero none 0) 199)
 exact N_
def hl.next{V V':aj}{m:a6}{a:b_ Addr}{c:J}{l' g:cd}(h:hl w V B l m a c)(d:IsLink w B g)(av:∀ x,a=some x->¬ B.S x.block)(f:IsLink V' B l')(hk:Keeps B.S V V'):hl w V' B l' m a c:=by
 have i:=d.lt;have aw:∀ b,B.S b->b<w.heap.size:=λb ak=>by rcases ak with e|e|e|e|e<;>omega
 exact⟨hk.heap h.box (λx=>by have:=aw _ x;omega),hk.heap h.res (λx=>by have:=aw _ x;omega),f,h.cu.trans hk,h.a_.keeps hk λ_=>av⟩
theorem hl.drew{V:aj}{m:a6}{a:b_ Addr}{c:J}(h:hl w V B l m a c)(n:J):hl w (V.drewN n) B l m a c:=
 ⟨h.box,h.res,h.aF.drew n,h.cu.drewN n,h.a_.keeps ((bb V).drewN n) λ_ _ _=>id⟩
def Gr{a:b_ Addr}{c:J}{L:ah aT}{b:J}{cs:a7 ay}{t:TypeId}(h:c' w a c L)(f:w.heap[b]?=some (af cs t (0,0)))(g:∀ n,aH n ∉ cs.toList)(hne:L≠[])(x:Addr)(j:a=some x):x.block≠b:=by
 obtain⟨k,o,rfl,an⟩:=h.at' hne;cases j;intro e;subst e;have d:=an 0 (qH.2 hne);unfold World.cell? at d;rw[f]at d;have h1:cs[o]?=some (er (L[0]'(qH.2 hne))):=by simpa using d
 refine g _ (kX (i:=o) (a:=er (L[0]'(qH.2 hne))) ?_);simpa using h1
def hl.fin{p:cd}{V:aj}{m:a6}{a:b_ Addr}{c:J}(h:hl w V B l m a c)(o:IsLink w B p)(d f v2 g i j:ay):let k:=((((((V.setCell (ae (w+1) 0 ad) d).setCell (ae (w+1) 1 ad) f).setCell (ae (w+1) 2 ad) v2).setCell (ae (w+1) 3 ad) g).setCell (ae (w+1) 4 ad) i).setCell (ae (w+1) 5 ad) j)
  k.heap[w.heap.size+1]?=some (af #[d,f,v2,g,i,j] 199 (0,0))/\IsLink k B l/\Keeps B.S w k/\(∀ {a':b_ Addr} {n:J} {L:ah aT},c' V a' n L->c' k a' n L):=by
 have q:=o.lt;have hk:=B7 (S:=λb=>b=w.heap.size+1) (b:=w.heap.size+1) (Keeps.refl _ V) rfl d f v2 g i j;refine⟨gK h.res rfl d f v2 g i j,h.aF.keeps hk (λb ak=>?_),sn h.cu (vd _) d f v2 g i j,λak=>ak.keeps hk λhne x e=>Gr ak h.res (by simp[aV,bL.zero]) hne x e⟩;rcases ak with e|e|e|e|e<;>omega
def h_(l:cd)(m:a6):bL×a1×cd:=
 if m.kind=3 then jm (h3 l m.cp) m else
 if m.kind=4 then(⟨4,0,[],(en (min l.next 1073741824) m.cr).1,m.sum,0⟩,(en (min l.next 1073741824) m.cr).2 == 0,l)else
 if m.kind=5 then(⟨5,0,[],0,0,0⟩,true,h3 l m.cp)else
 if m.kind=6 then(⟨6,0,[],0,0,m.lead⟩,true,l)else(⟨m.kind,0,[],0,0,0⟩,true,l)
def O3(l:cd)(s:aa):(h3 l s).next=l.next:=by
 unfold h3;simp only[];split<;>rfl
def TY(h:IsLink w B l)(m:a6){a:b_ Addr}{c:J}{bo:J}(ab:∀ x,a=some x->bo<=x.block)(ak:c' w a c m.a_)(G:∀ x,a=some x->¬ B.S x.block)(av:0<=l.next/\l.next<=1073741824)(bh:0<=l.da/\l.da<=1073741824)(hm:m.a_.length<=1000000):aA 247 #[B.p,(aL #[I m.kind,aR m.bQ,bC m.cr,bC m.cp,aq a m.a_.length c,aR m.sum,I m.lead])] w (tq bo w B (h_ l m).1 (.bool (h_ l m).2.1) (h_ l m).2.2):=by
 have ar:=hl.start h m ak;simp only[aV,bL.zero,fg]at ar;have fr:=O3 l m.cp;have⟨mk,P,D,N,O,q,n⟩:=m;simp only at *;have H:=ag h;have X:=ag ab;unfold h_;by_cases K:mk=3
 .subst K;rw[aE rfl];simp only;have b:=ag ar
  go_in
  go_wp2_with fail;refine aW (I4 b.o.aF _ bh) ?_;rintro V ⟨z,y⟩;have ar:=b.out.next H.out G z y;have t:=(ar).aF.lt;have s:=aO (ar).box;have u:=bP (ar).res;have r:=aO (ar).res;have b:=ag ar;go_wp2_with fail;refine(TX b.o.aF ⟨3,P,D,N,O,q,n⟩ X.out b.o.a_ (by rw[fr];exact av) hm).mono ?_;rintro e g' ⟨⟨F,bw,rfl,Z,a'⟩,z,y⟩;have Y:=ag a';have ar:=b.out.next H.out G z y;generalize jm (h3 l N) ⟨3,P,D,N,O,q,n⟩=R at *;obtain⟨R,ok,hd⟩:=R;simp only at *;have t:=(ar).aF.lt;have s:=aO (ar).box;have u:=bP (ar).res;have r:=aO (ar).res;have b:=ag ar;have T:=ag Z;unfold aV;go_wp2_with fail;have d:=hl.fin (b.o) H.out (I (R).kind) (I (R).en) (.slice F (R).a_.length bw) (I (R).frame) (aR (R).sum) (I (R).lead);simp only at d;generalize World.setCell _ (ae (w+1) 5 ad) _=C at *;obtain⟨g,k,j,i⟩:=d;have A:=dF _ _ _ _ g 6 rfl;refine c1 (v:=aY #[.agg (aV R F bw),.bool ok]) xu rfl ?_;exact⟨⟨F,bw,rfl,i T.o,Y.o⟩,k,j⟩
 rw[aB K];by_cases cP:mk=4
 .subst cP;rw[aE rfl];have d:=λW=>C2 l.next D W;have gf:min l.next 1073741824=l.next:=U;rw[gf];generalize en l.next D=p at *;obtain⟨f,b0⟩:=p;have Q:=ag d;have fI:=ar.aF.fI
  go_in
  go_upto_region 1 with fail
  generalize World.alloc (World.alloc w _) _=E at *;have t:=(ar).aF.lt;have s:=aO (ar).box;have u:=bP (ar).res;have r:=aO (ar).res;have b:=ag ar;go_wp2_with fail;go_quiet ((go_at_call 307;exact(Q.o _).mono λ_ _ h=>⟨h.1,_,h.2.symm⟩));go_wp2_with fail;have b:=ag (b.o.drew nq);have d:=hl.fin (b.o) H.out (I ((⟨4,0,[],f,q,0⟩:bL)).kind) (I ((⟨4,0,[],f,q,0⟩:bL)).en) (.slice none ((⟨4,0,[],f,q,0⟩:bL)).a_.length 0) (I ((⟨4,0,[],f,q,0⟩:bL)).frame) (aR ((⟨4,0,[],f,q,0⟩:bL)).sum) (I ((⟨4,0,[],f,q,0⟩:bL)).lead);simp only at d;generalize World.setCell _ (ae (w+1) 5 ad) _=C at *;obtain⟨g,k,j,i⟩:=d;have A:=dF _ _ _ _ g 6 rfl;refine c1 (v:=aY #[.agg (aV (⟨4,0,[],f,q,0⟩:bL) none 0),(b0 == 0)]) xu rfl ?_;exact qN
 rw[aB cP];by_cases L:mk=5
 .subst L;rw[aE rfl]
  go_in
  go_upto_region 1 with fail
  generalize World.alloc (World.alloc w _) _=E at *;have t:=(ar).aF.lt;have s:=aO (ar).box;have u:=bP (ar).res;have r:=aO (ar).res;have b:=ag ar;go_wp2_with fail;refine aW (I4 b.o.aF _ bh) ?_;rintro V ⟨z,y⟩;have ar:=b.out.next H.out G z y;have t:=(ar).aF.lt;have s:=aO (ar).box;have u:=bP (ar).res;have r:=aO (ar).res;have b:=ag ar;go_wp2_with fail;have d:=hl.fin (b.o) H.out (I ((⟨5,0,[],0,0,0⟩:bL)).kind) (I ((⟨5,0,[],0,0,0⟩:bL)).en) (.slice none ((⟨5,0,[],0,0,0⟩:bL)).a_.length 0) (I ((⟨5,0,[],0,0,0⟩:bL)).frame) (aR ((⟨5,0,[],0,0,0⟩:bL)).sum) (I ((⟨5,0,[],0,0,0⟩:bL)).lead);simp only at d;generalize World.setCell _ (ae (w+1) 5 ad) _=C at *;obtain⟨g,k,j,i⟩:=d;have A:=dF _ _ _ _ g 6 rfl;refine c1 (v:=aY #[.agg (aV (⟨5,0,[],0,0,0⟩:bL) none 0),true]) xu rfl ?_;exact qN
 rw[aB L];by_cases M:mk=6
 .subst M;rw[aE rfl]
  go_in
  go_upto_region 1 with fail
  generalize World.alloc (World.alloc w _) _=E at *;have t:=(ar).aF.lt;have s:=aO (ar).box;have u:=bP (ar).res;have r:=aO (ar).res;have b:=ag ar;go_wp2_with fail;have d:=hl.fin (b.o) H.out (I ((⟨6,0,[],0,0,n⟩:bL)).kind) (I ((⟨6,0,[],0,0,n⟩:bL)).en) (.slice none ((⟨6,0,[],0,0,n⟩:bL)).a_.length 0) (I ((⟨6,0,[],0,0,n⟩:bL)).frame) (aR ((⟨6,0,[],0,0,n⟩:bL)).sum) (I ((⟨6,0,[],0,0,n⟩:bL)).lead);simp only at d;generalize World.setCell _ (ae (w+1) 5 ad) _=C at *;obtain⟨g,k,j,i⟩:=d;have A:=dF _ _ _ _ g 6 rfl;refine c1 (v:=aY #[.agg (aV (⟨6,0,[],0,0,n⟩:bL) none 0),true]) xu rfl ?_;exact qN
 rw[aB M];have d3:(mk == 3)=false:=by simpa using K
 have d4:(mk == 4)=false:=by simpa using cP
 have d5:(mk == 5)=false:=by simpa using L
 have d6:(mk == 6)=false:=by simpa using M
 go_in
 go_upto_region 1 with fail
 generalize World.alloc (World.alloc w _) _=E at *;have t:=(ar).aF.lt;have s:=aO (ar).box;have u:=bP (ar).res;have r:=aO (ar).res;have b:=ag ar;go_wp2_with fail;have d:=hl.fin (b.o) H.out (I ((⟨mk,0,[],0,0,0⟩:bL)).kind) (I ((⟨mk,0,[],0,0,0⟩:bL)).en) (.slice none ((⟨mk,0,[],0,0,0⟩:bL)).a_.length 0) (I ((⟨mk,0,[],0,0,0⟩:bL)).frame) (aR ((⟨mk,0,[],0,0,0⟩:bL)).sum) (I ((⟨mk,0,[],0,0,0⟩:bL)).lead);simp only at d;generalize World.setCell _ (ae (w+1) 5 ad) _=C at *;obtain⟨g,k,j,i⟩:=d;have A:=dF _ _ _ _ g 6 rfl;refine c1 (v:=aY #[.agg (aV (⟨mk,0,[],0,0,0⟩:bL) none 0),true]) xu rfl ?_;exact⟨⟨none,0,rfl,i (ob _),(λ_ e=>nomatch e)⟩,k,j⟩
theorem hl.kP{V V':aj}{m:a6}{a:b_ Addr}{c:J}(h:hl w V B l m a c)(hk:Keeps aG V V'):hl w V' B l m a c:=
 ⟨hk.heap h.box id,hk.heap h.res id,h.aF.keeps hk λ_ _=>id,h.cu.trans (hk.mono λ_ _ h=>h.elim),h.a_.keeps hk λ_ _ _=>id⟩
def cW(l:cd)(m:a6):bL×a1×cd:=
 if m.kind=1 then(⟨1,0,[],0,0,0⟩,true,if l.out.length=8 then l else {l with out:=l.out++[⟨2,m.bQ,0,0,[],0,0⟩]})else
 if m.kind=2 then(if m.bQ=l.bQ then(⟨2,0,[],0,0,0⟩,true,{l with state:=1})else(bL.zero,false,l))else
 if m.kind=7 then(⟨7,0,[],0,0,0⟩,true,{l with state:=2})else
 if l.state=1 then h_ l m else(bL.zero,false,l)
def TZ(h:IsLink w B l)(m:a6){a:b_ Addr}{c:J}{bo:J}(sd:∀ x,a=some x->bo<=x.block)(ak:c' w a c m.a_)(A:∀ x,a=some x->¬ B.S x.block)(av:0<=l.next/\l.next<=1073741824)(bh:0<=l.da/\l.da<=1073741824)(hm:m.a_.length<=1000000):aA 167 #[B.p,(aL #[I m.kind,aR m.bQ,bC m.cr,bC m.cp,aq a m.a_.length c,aR m.sum,I m.lead])] w (tq bo w B (cW l m).1 (.bool (cW l m).2.1) (cW l m).2.2):=by
 have ar:=hl.start h m ak;simp only[aV,bL.zero,fg]at ar;have v':=h.lt;have⟨mk,z,ms,ab,a',gf,fr⟩:=m;simp only at *;have H:=ag h;have h2:=ag sd;unfold cW;by_cases W:mk=1
 .subst W;rw[aE rfl];by_cases T:l.out.length=8
  .simp only[aE T]
   go_in
   go_upto_region 1 with fail
   generalize World.alloc (World.alloc w _) _=g at *;have C:=bT ar.box;have q:=aO ar.box;go_upto_region 2 with fail
   have f:=aX g (af (aV ⟨1,0,[],0,0,0⟩ none 0) 199);simp only[aV,fg]at f;have ar:=ar.kP ((bb g).alloc (af (aV ⟨1,0,[],0,0,0⟩ none 0) 199));simp only[aV,fg]at ar;generalize World.alloc g _=s at *;have u:=(ar).aF.lt;have q:=aO (ar).box;have y:=bP (ar).res;have t:=aO (ar).res;have M:=bT f;have N:=aO f;have fq:=ar.aF.fq;have d:=ag ar;have L:=ag f;go_wp2_with fail;refine iN 7 aI aI ?_;simp only[hY,iE,hX,hF]
   repeat (go_big_quiet_step ((fail)))
   refine wpQuiet_nil ?_;intro _ O;obtain⟨nq,P⟩:=O;subst P;go_wp2_with fail;refine aW ((Ji (d.o.drew nq).aF.out T ⟨2,z,0,0,[],0,0⟩)) ?_;rintro Z ⟨V,hk⟩;have ar:=(d.out.drew nq).next (l':=l) H.out A ((d.out.drew nq).aF.Cs V hk rfl rfl rfl) (hk.mono λb _ h=>h.elim (λe=>.inr (.inr (.inr (.inl e)))) (λe=>.inr (.inr (.inr (.inr e)))));exact Ov
  simp only[aB T];have g':l.out.length<8:=by have:=H.out.out.le.1;omega
  go_in
  go_upto_region 1 with fail
  generalize World.alloc (World.alloc w _) _=g at *;have C:=bT ar.box;have q:=aO ar.box;go_upto_region 2 with fail
  have f:=aX g (af (aV ⟨1,0,[],0,0,0⟩ none 0) 199);simp only[aV,fg]at f;have ar:=ar.kP ((bb g).alloc (af (aV ⟨1,0,[],0,0,0⟩ none 0) 199));simp only[aV,fg]at ar;generalize World.alloc g _=s at *;have u:=(ar).aF.lt;have q:=aO (ar).box;have y:=bP (ar).res;have t:=aO (ar).res;have M:=bT f;have N:=aO f;have fq:=ar.aF.fq;have d:=ag ar;have L:=ag f;go_wp2_with fail;refine iN 7 aI aI ?_;simp only[hY,iE,hX,hF]
  repeat (go_big_quiet_step ((fail)))
  refine wpQuiet_nil ?_;intro _ O;obtain⟨nq,P⟩:=O;subst P;go_wp2_with fail;refine aW ((Jh (d.o.drew nq).aF.out g' ⟨2,z,0,0,[],0,0⟩)) ?_;rintro Z ⟨V,hk⟩;have ar:=(d.out.drew nq).next (l':={l with out:=l.out++[⟨2,z,0,0,[],0,0⟩]}) H.out A ((d.out.drew nq).aF.Cs V hk rfl rfl rfl) (hk.mono λb _ h=>h.elim (λe=>.inr (.inr (.inr (.inl e)))) (λe=>.inr (.inr (.inr (.inr e)))));exact Ov
 rw[aB W];by_cases X:mk=2
 .subst X;rw[aE rfl];by_cases G:z=l.bQ
  .rw[aE G];subst G
   go_in
   go_upto_region 1 with fail
   generalize World.alloc (World.alloc w _) _=g at *;have C:=bT ar.box;have q:=aO ar.box;go_upto_region 2 with fail
   have f:=aX g (af (aV ⟨2,0,[],0,0,0⟩ none 0) 199);simp only[aV,fg]at f;have ar:=ar.kP ((bb g).alloc (af (aV ⟨2,0,[],0,0,0⟩ none 0) 199));simp only[aV,fg]at ar;generalize World.alloc g _=s at *;have u:=(ar).aF.lt;have q:=aO (ar).box;have y:=bP (ar).res;have t:=aO (ar).res;have M:=bT f;have N:=aO f;have bz:=ar.aF.bz;have f2:=ar.aF.free 2;have bw:=ar.aF.bw;have d:=ag ar;have L:=ag f;go_wp2_with fail;go_quiet (fail);go_wp2_with fail;have E:=d.o.drew nq;have d:=ag (E.next (V':=(s.drewN nq).setCell (ae B.p 2 ad) (I 1)) (l':={l with state:=1}) H.out A (E.aF.set 2 (I 1) _ rfl rfl rfl) (Keeps.setCell (Keeps.refl _ _) (.inl rfl) _));have n:=hl.fin (d.o) H.out (I ((⟨2,0,[],0,0,0⟩:bL)).kind) (I ((⟨2,0,[],0,0,0⟩:bL)).en) (.slice none ((⟨2,0,[],0,0,0⟩:bL)).a_.length 0) (I ((⟨2,0,[],0,0,0⟩:bL)).frame) (aR ((⟨2,0,[],0,0,0⟩:bL)).sum) (I ((⟨2,0,[],0,0,0⟩:bL)).lead);simp only at n;generalize World.setCell _ (ae (w+1) 5 ad) _=F at *;obtain⟨r,k,j,i⟩:=n;have D:=dF _ _ _ _ r 6 rfl;refine c1 (v:=aY #[.agg (aV (⟨2,0,[],0,0,0⟩:bL) none 0),true]) vj rfl ?_;exact qN
  rw[aB G];have vl:(z != l.bQ)=true:=by simpa using G
  go_in
  go_upto_region 1 with fail
  generalize World.alloc (World.alloc w _) _=g at *;have C:=bT ar.box;have q:=aO ar.box;go_upto_region 2 with fail
  have f:=aX g (af (aV ⟨2,0,[],0,0,0⟩ none 0) 199);simp only[aV,fg]at f;have ar:=ar.kP ((bb g).alloc (af (aV ⟨2,0,[],0,0,0⟩ none 0) 199));simp only[aV,fg]at ar;generalize World.alloc g _=s at *;have u:=(ar).aF.lt;have q:=aO (ar).box;have y:=bP (ar).res;have t:=aO (ar).res;have bz:=ar.aF.bz;have d:=ag ar;go_wp2_with fail;go_quiet (fail);go_wp2_with fail;have d:=ag (d.o.drew nq);have n:=hl.fin (d.o) H.out (I ((⟨0,0,[],0,0,0⟩:bL)).kind) (I ((⟨0,0,[],0,0,0⟩:bL)).en) (.slice none ((⟨0,0,[],0,0,0⟩:bL)).a_.length 0) (I ((⟨0,0,[],0,0,0⟩:bL)).frame) (aR ((⟨0,0,[],0,0,0⟩:bL)).sum) (I ((⟨0,0,[],0,0,0⟩:bL)).lead);simp only at n;generalize World.setCell _ (ae (w+1) 5 ad) _=F at *;obtain⟨r,k,j,i⟩:=n;have D:=dF _ _ _ _ r 6 rfl;refine c1 (v:=aY #[.agg (aV (⟨0,0,[],0,0,0⟩:bL) none 0),false]) vj rfl ?_;exact qN
 rw[aB X];by_cases Y:mk=7
 .subst Y;rw[aE rfl]
  go_in
  go_upto_region 1 with fail
  generalize World.alloc (World.alloc w _) _=g at *;have C:=bT ar.box;have q:=aO ar.box;go_upto_region 2 with fail
  have f:=aX g (af (aV ⟨7,0,[],0,0,0⟩ none 0) 199);simp only[aV,fg]at f;have ar:=ar.kP ((bb g).alloc (af (aV ⟨7,0,[],0,0,0⟩ none 0) 199));simp only[aV,fg]at ar;generalize World.alloc g _=s at *;have u:=(ar).aF.lt;have q:=aO (ar).box;have y:=bP (ar).res;have t:=aO (ar).res;have M:=bT f;have N:=aO f;have f2:=ar.aF.free 2;have bw:=ar.aF.bw;have d:=ag ar;have L:=ag f;go_wp2_with fail;have E:=d.o;have d:=ag (E.next (V':=s.setCell (ae B.p 2 ad) (I 2)) (l':={l with state:=2}) H.out A (E.aF.set 2 (I 2) _ rfl rfl rfl) (Keeps.setCell (Keeps.refl _ _) (.inl rfl) _));have n:=hl.fin (d.o) H.out (I ((⟨7,0,[],0,0,0⟩:bL)).kind) (I ((⟨7,0,[],0,0,0⟩:bL)).en) (.slice none ((⟨7,0,[],0,0,0⟩:bL)).a_.length 0) (I ((⟨7,0,[],0,0,0⟩:bL)).frame) (aR ((⟨7,0,[],0,0,0⟩:bL)).sum) (I ((⟨7,0,[],0,0,0⟩:bL)).lead);simp only at n;generalize World.setCell _ (ae (w+1) 5 ad) _=F at *;obtain⟨r,k,j,i⟩:=n;have D:=dF _ _ _ _ r 6 rfl;refine c1 (v:=aY #[.agg (aV (⟨7,0,[],0,0,0⟩:bL) none 0),true]) vj rfl ?_;exact qN
 rw[aB Y];have d1:(mk == 1)=false:=by simpa using W
 have d2:(mk == 2)=false:=by simpa using X
 have d7:(mk == 7)=false:=by simpa using Y
 by_cases K:l.state=1
 .rw[aE K]
  go_in
  go_upto_region 1 with fail
  generalize World.alloc (World.alloc w _) _=g at *;have C:=bT ar.box;have q:=aO ar.box;go_upto_region 2 with fail
  have f:=aX g (af (aV ⟨mk,0,[],0,0,0⟩ none 0) 199);simp only[aV,fg]at f;have ar:=ar.kP ((bb g).alloc (af (aV ⟨mk,0,[],0,0,0⟩ none 0) 199));simp only[aV,fg]at ar;generalize World.alloc g _=s at *;have u:=(ar).aF.lt;have q:=aO (ar).box;have y:=bP (ar).res;have t:=aO (ar).res;have bw:=ar.aF.bw;rw[K]at bw;have d:=ag ar;go_wp2_with fail;refine(TY d.o.aF ⟨mk,z,ms,ab,a',gf,fr⟩ h2.out d.o.a_ A av bh hm).mono ?_;rintro e Z ⟨⟨Q,bw,rfl,r',s'⟩,ps,m'⟩;have lb:=ag s';have ar:=d.out.next H.out A ps m';generalize h_ l ⟨mk,z,ms,ab,a',gf,fr⟩=R at *;obtain⟨R,ok,w'⟩:=R;simp only at *;have u:=(ar).aF.lt;have q:=aO (ar).box;have y:=bP (ar).res;have t:=aO (ar).res;have d:=ag ar;have hd:=ag r';unfold aV;go_wp2_with fail;have n:=hl.fin (d.o) H.out (I (R).kind) (I (R).en) (.slice Q (R).a_.length bw) (I (R).frame) (aR (R).sum) (I (R).lead);simp only at n;generalize World.setCell _ (ae (w+1) 5 ad) _=F at *;obtain⟨r,k,j,i⟩:=n;have D:=dF _ _ _ _ r 6 rfl;refine c1 (v:=aY #[.agg (aV R Q bw),.bool ok]) vj rfl ?_;exact⟨⟨Q,bw,rfl,i hd.o,lb.o⟩,k,j⟩
 rw[aB K];have d9:(l.state != 1)=true:=by simpa using K
 go_in
 go_upto_region 1 with fail
 generalize World.alloc (World.alloc w _) _=g at *;have C:=bT ar.box;have q:=aO ar.box;go_upto_region 2 with fail
 have f:=aX g (af (aV ⟨mk,0,[],0,0,0⟩ none 0) 199);simp only[aV,fg]at f;have ar:=ar.kP ((bb g).alloc (af (aV ⟨mk,0,[],0,0,0⟩ none 0) 199));simp only[aV,fg]at ar;generalize World.alloc g _=s at *;have u:=(ar).aF.lt;have q:=aO (ar).box;have y:=bP (ar).res;have t:=aO (ar).res;have bw:=ar.aF.bw;have d:=ag ar;go_wp2_with fail;have n:=hl.fin (d.o) H.out (I ((⟨0,0,[],0,0,0⟩:bL)).kind) (I ((⟨0,0,[],0,0,0⟩:bL)).en) (.slice none ((⟨0,0,[],0,0,0⟩:bL)).a_.length 0) (I ((⟨0,0,[],0,0,0⟩:bL)).frame) (aR ((⟨0,0,[],0,0,0⟩:bL)).sum) (I ((⟨0,0,[],0,0,0⟩:bL)).lead);simp only at n;generalize World.setCell _ (ae (w+1) 5 ad) _=F at *;obtain⟨r,k,j,i⟩:=n;have D:=dF _ _ _ _ r 6 rfl;refine c1 (v:=aY #[.agg (aV (⟨0,0,[],0,0,0⟩:bL) none 0),false]) vj rfl ?_;exact⟨⟨none,0,rfl,i (ob _),(λ_ e=>nomatch e)⟩,k,j⟩
end Go.Proofs.YtalagblioepadaaGreatDoor
