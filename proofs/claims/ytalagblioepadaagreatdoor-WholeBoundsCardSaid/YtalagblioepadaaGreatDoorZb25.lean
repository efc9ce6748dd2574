/- The proof, part 25. -/
import Derived.Test.YtalagblioepadaaGreatDoorZb23
import Derived.Test.YtalagblioepadaaGreatDoorZb06
import Derived.Deep.DeepCutAuto
namespace Go.Proofs.YtalagblioepadaaGreatDoor
set_option linter.all false
open Proofs.Tryz List Go.RowKit
set_option maxRecDepth 100000
set_option maxHeartbeats 4000000
def DP{p:ak}(h:p:=by simp[results,results166,go_sem,R,uD]):p:=h
def zQ{p:ak}(h:p:=by
 have A:=af (λv W=>kF.put (v:=v) (W':=W) aj f (aA aN));clear b f aj au d;go_wp2_with fail;refine q.o.mono ?_;rintro _ bn ⟨v3,rfl,O,h2⟩;have D:=af (A.out _ _ (by rw[cx];exact Is O) h2);clear O h2 A q;go_wp2_with fail;go_meet;exact D.o
 ):p:=h
def Ms{p:ak}(h:p:=by
 go_wp2_with fail;have R:=aP (xi g.o.res (I 0) (aK 0) (bz 0) (bz 0) (ao none 0 0) (aK 0) (I 0));refine cU (v:=aV #[.agg uD,I 4]) DP rfl ?_;rw[M.o];exact qn.zero (yH g.o.below _ _ _ _ _ _ _) 4
 ):p:=h
def ME{p:ak}(h:p:=by
 intro Aw CW fr lb _;rw[Xe]at fr;have D:=af (A.o _ _ (by rw[cx];exact Is fr) (a'.grown lb d (λk e=>(b.lt k e).1)));clear fr lb A q b a' d;go_wp2_with fail;go_meet;exact D.o
 ):p:=h
def uU{p:ak}(h:p:=by
 rw[ed aN];have f:=af (jd.skip ⟨q,a,c,e,ax,av,au⟩ (λq=>aD aN));clear e ax av au;go_wp2_with fail;go_meet;exact f.o
 ):p:=h
def uE{p:ak}(h:p:=by
 rw[ed aN];have D:=af (g.skip (aD aN));clear g;go_wp2_with fail;go_meet;exact D.o
 ):p:=h
def Lt{p:ak}(h:p:=by
 simp only[jq,aZ.mk.injEq,and_true,true_and];exact⟨U,U,e.symm,U,U⟩
 ):p:=h
def Lx{p:ak}(h:p:=by
 simp only[jq,aZ.mk.injEq,and_true,true_and];exact⟨U,U,e.symm,U⟩
 ):p:=h
def wP{p:ak}(h:p:=by
 clear V a1 g d hk;go_wp2_with fail;go_meet;exact f.o
 ):p:=h
section
open Go.Lib (strCells)
variable{w:ai}{a:b4 Addr}{c:J}
def Xe(l:ah aQ):strCells ⟨l.toArray⟩=l.map eg:=by simp[strCells,eg]
def Is{w:ai}{base n:J}{v:aw}{l r:ah aQ}(h:w.ownsRow base 5 1 v n (l.map eg++r.map eg)):w.ownsRow base 5 1 v n ((l++r).map eg):=by
 rwa [jO]
def CU(l:ah aQ):(⟨l.toArray⟩:cc).size=l.length:=by simp[ByteArray.size]
def Fg{H:aa}(h:H=0\/H=1\/H=4\/H=14\/H=18\/H=34):(bits .and .i64 H 1 != 0)=!decide (H%2<1)/\(bits .and .i64 H 2 != 0)=!decide (H%4<2)/\(bits .and .i64 H 4 != 0)=!decide (H%8<4)/\(bits .and .i64 H 8 != 0)=!decide (H%16<8)/\(bits .and .i64 H 16 != 0)=!decide (H%32<16)/\(bits .and .i64 H 32 != 0)=!decide (H%64<32):=by
 rcases h with rfl|rfl|rfl|rfl|rfl|rfl<;>decide
def Ig(k:aa):f' k=0\/f' k=1\/f' k=4\/f' k=14\/f' k=18\/f' k=34:=by unfold f';(repeat' split)<;>simp
def pQ(H:aa)(m:aZ)(j:J):ah aQ:=
 match j with
 | 5=>if H%2<1 then []else eF m.bL
 | 4=>if H%4<2 then []else iw m.cl
 | 3=>if H%8<4 then []else iw m.cj
 | 2=>if H%16<8 then []else lF m.a8
 | 1=>if H%32<16 then []else eF m.sum
 | _=>if H%64<32 then []else num (fz m.lead)
def mY(H:aa)(m:aZ):J->ah aQ
 | 0=>[]
 | j+1=>pQ H m j++mY H m j
def Xm(m:aZ):mY (f' m.kind) m 6=ry m:=by
 unfold ry f';by_cases a:m.kind=1\/m.kind=2
 .simp[mY,pQ,a]
 by_cases b:m.kind=3
 .simp[mY,pQ,b]
 by_cases c:m.kind=4
 .simp[mY,pQ,c]
 by_cases d:m.kind=5
 .simp[mY,pQ,d]
 by_cases e:m.kind=6
 .simp[mY,pQ,e]
 simp[mY,pQ,a,b,c,d,e]
structure kF(w an:ai)(R:ah aQ)(H:aa)(m:aZ)(j:J)(s:aw)(W:ai):ak where
 ex:∃ L:ah aQ,W.ownsRow (w.heap.size+1) 5 1 s L.length (L.map eg)/\L++mY H m j=R
 below:Below (w.heap.size+1) an W
def kF.skip{w an W:ai}{R:ah aQ}{H:aa}{m:aZ}{j:J}{s:aw}(h:kF w an R H m (j+1) s W)(ax:pQ H m j=[]):kF w an R H m j s W:=by
 have⟨⟨L,h1,h2⟩,a⟩:=h;exact⟨⟨L,h1,by unfold mY at h2;rw[ax]at h2;exact h2⟩,a⟩
theorem kF.put{w an W W':ai}{R L X:ah aQ}{H:aa}{m:aZ}{j:J}{v:aw}(h:Below (w.heap.size+1) an W)(a:L++mY H m (j+1)=R)(ax:pQ H m j=X)(b:W'.ownsRow (w.heap.size+1) 5 1 v (L++X).length ((L++X).map eg))(aj:Below (w.heap.size+1) W W'):kF w an R H m j v W':=
 ⟨⟨L++X,b,by rw[<-a,<-ax,dD];rfl⟩,h.trans aj⟩
def TT(m:aZ)(h:c1 w a c m.a8)(C:dh m)(hw:m.wf):az 135 #[(aM #[I m.kind,aK m.bL,bz m.cl,bz m.cj,ao a m.a8.length c,aK m.sum,I m.lead])] w λe w'=>e=aV #[.string ⟨(dk m).toArray⟩,I 0]/\Below w w w':=by
 have Q:=CF (m:=m) (h.keeps ((a_ w).alloc (ae #[I m.kind,aK m.bL,bz m.cl,bz m.cj,ao a m.a8.length c,aK m.sum,I m.lead] 254)) (λ_ _ _=>id));rw[ed C]at Q;have m':=af Q;have T:=IQ _ C;have N:nV m=[80,UInt8.ofNat m.kind.toNat]++mY (f' m.kind) m 6:=by rw[Xm];rfl
 unfold dk;obtain⟨R,g'⟩:∃ R,nV m=R:=⟨_,rfl⟩;obtain⟨H,G⟩:∃ H,f' m.kind=H:=⟨_,rfl⟩;have x:=af (Fg (G▸Ig m.kind));rw[g']at T N⊢;rw[G]at N;have ps:=af N;have r:=af T;have l':=af G;have E:=af C;have F:=af hw;have r':=af h;have hk:=C.1;have vl:IntKind.u8.wrap m.kind=((UInt8.ofNat m.kind.toNat).toNat:aa):=by
  obtain⟨k,n,s,ys,i,u,l⟩:=m;simp only at *;obtain rfl|rfl|rfl|rfl|rfl|rfl|rfl:k=1\/k=2\/k=3\/k=4\/k=5\/k=6\/k=7:=U
  all_goals rfl
 obtain⟨z,d⟩:∃ z:aa,((UInt8.ofNat m.kind.toNat).toNat:aa)=z:=⟨_,rfl⟩;rw[d]at vl;have sd:=af d;clear d;clear Q C T N g' G hw h hk
 go_in
 go_wp2_with fail;refine aT m'.o λan M=>?_;have j:w.heap.size+1<=an.heap.size:=by have:=M.size;simpa using this
 have K:=((bY _ w).alloc bA _).trans (M.mono aI);have cE:=af ((Keeps.bE (S:=aG) M a7).heap (aW w _) id);have zp:=aP cE.o;clear M;go_wp2_with fail;refine br (q2 _ _) ?_;rw[l'.o];have g:kF w an R H m 6 (ao (some (ad an 0 ab)) 2 2) (an.alloc (ae #[aF 80,aF z] 5)):=⟨⟨[80,UInt8.ofNat m.kind.toNat],by rw[<-sd.o];exact TO j 80 _,ps.o.symm⟩,(bY _ an).alloc j _⟩;go_upto_if 20 with fail
 go_cut [5] (kF w an R H m 5)
 case first=>
  rw[x.o.1];by_cases aN:H%2<1
  .exact uE
  rw[cZ aN];have⟨⟨L,b,f⟩,aj⟩:=g;have au:L.length<=4096:=by have:=r.o;rw[<-f,cx]at this;omega
  have d:=b7 j aj.size;have y:=(aj.cell (p:=ad w 1 ab) aI).trans (bb cE.o (k:=1) rfl);have q:=af (KB b d au m.bL F.o.bL);exact zQ
 have g:=hcut;clear hcut;go_upto_if 27 with fail
 go_cut [5] (kF w an R H m 4)
 case first=>
  rw[x.out.2.1];by_cases aN:H%4<2
  .exact uE
  rw[cZ aN];have⟨⟨L,b,f⟩,aj⟩:=g;have au:L.length<=4096:=by have:=r.out;rw[<-f,cx]at this;omega
  have d:=b7 j aj.size;have y:=(aj.cell (p:=ad w 2 ab) aI).trans (bb cE.out (k:=2) rfl);have q:=af (KA b d au m.cl F.out.cl);exact zQ
 have g:=hcut;clear hcut;go_upto_if 34 with fail
 go_cut [5] (kF w an R H m 3)
 case first=>
  rw[x.out.2.2.1];by_cases aN:H%8<4
  .exact uE
  rw[cZ aN];have⟨⟨L,b,f⟩,aj⟩:=g;have au:L.length<=4096:=by have:=r.out;rw[<-f,cx]at this;omega
  have d:=b7 j aj.size;have y:=(aj.cell (p:=ad w 3 ab) aI).trans (bb cE.out (k:=3) rfl);have q:=af (KA b d au m.cj F.out.cj);exact zQ
 have g:=hcut;clear hcut;go_upto_if 41 with fail
 go_cut [5] (kF w an R H m 2)
 case first=>
  rw[x.out.2.2.2.1];by_cases aN:H%16<8
  .exact uE
  rw[cZ aN];have⟨⟨L,b,f⟩,aj⟩:=g;have au:L.length<=4096:=by have:=r.out;rw[<-f,cx]at this;omega
  have d:=b7 j aj.size;have y:=(aj.cell (p:=ad w 4 ab) aI).trans (bb cE.out (k:=4) rfl);have q:=af (TR _ a c m.a8 (r'.out.keeps (Keeps.bE (S:=aG) (K.trans (aj.mono U)) a7) (λ_ _ _=>id)) E.out.2.1);have A:=af (λv W=>kF.put (v:=v) (W':=W) aj f (aA aN));have B:=b8 b (bD aj au);clear b f aj au d;go_wp2_with fail;refine aT q.o λv' t=>?_;obtain⟨b,aj,au⟩:=B.o;have d:=b7 j aj.size;have b:=b3 b (Keeps.bE (S:=aG) t a7) (λ_ _=>id);have a':=t.mono d;have d:=b7 d t.size;obtain⟨Z,av,V,X,Y⟩:=ng tw;have P:=af av;have O:(⟨(lF m.a8).toArray⟩:cc).size<=138:=by rw[CU];exact I_ m.a8 E.out.2.1
  clear av B aj;go_wp2_with (at_builtin;refine K5 _ rfl (.tmp 51) (.tmp 52) 51 9 rfl (w.heap.size+1) 5 Z underlying51 underlying9 P.o V X Y _ L.length _ rfl b ⟨(lF m.a8).toArray⟩ rfl jR U d ?_);exact ME
 have g:=hcut;clear hcut;go_upto_if 56 with fail
 go_cut [5] (kF w an R H m 1)
 case first=>
  rw[x.out.2.2.2.2.1];by_cases aN:H%32<16
  .exact uE
  rw[cZ aN];have⟨⟨L,b,f⟩,aj⟩:=g;have au:L.length<=4096:=by have:=r.out;rw[<-f,cx]at this;omega
  have d:=b7 j aj.size;have y:=(aj.cell (p:=ad w 5 ab) aI).trans (bb cE.out (k:=5) rfl);have q:=af (KB b d au m.sum F.out.sum);exact zQ
 have g:=hcut;clear hcut;go_upto_if 63 with fail
 go_cut [5] (kF w an R H m 0)
 case first=>
  rw[x.out.2.2.2.2.2];by_cases aN:H%64<32
  .exact uE
  rw[cZ aN];have⟨⟨L,b,f⟩,aj⟩:=g;have au:L.length<=4096:=by have:=r.out;rw[<-f,cx]at this;omega
  have d:=b7 j aj.size;have y:=(aj.cell (p:=ad w 6 ab) aI).trans (bb cE.out (k:=6) rfl);have q:=af (Iu m.lead (by have:=E.out.2.2.1;omega) wc);have A:=af (λv W=>kF.put (v:=v) (W':=W) aj f (aA aN));have B:=b8 b (bD aj au);clear b f aj au d;go_wp2_with fail;refine aT q.o λv' t=>?_;obtain⟨b,aj,au⟩:=B.o;have d:=b7 j aj.size;have b:=b3 b (Keeps.bE (S:=aG) t a7) (λ_ _=>id);have a':=t.mono d;have d:=b7 d t.size;obtain⟨Z,av,V,X,Y⟩:=ng tw;have P:=af av;have O:(⟨(num (fz m.lead)).toArray⟩:cc).size<=138:=by rw[CU];exact by have:=Nw m.lead E.out.2.2.1;omega
  clear av B aj;go_wp2_with (at_builtin;refine K5 _ rfl (.tmp 64) (.tmp 67) 51 9 rfl (w.heap.size+1) 5 Z underlying51 underlying9 P.o V X Y _ L.length _ rfl b ⟨(num (fz m.lead)).toArray⟩ rfl jR U d ?_);exact ME
 have g:=hcut;clear hcut;have⟨⟨L,b,f⟩,aj⟩:=g;have gf:L=R:=by rw[<-f];exact(eX L).symm
 rw[gf]at b;have s':=FM R b;clear f gf;go_wp2_with fail;refine aT (Xj ⟨R.toArray⟩ (by rw[CU];have:=r.out;omega) _) λzd hd=>?_;have hfin:=(K.trans (aj.mono U)).trans (hd.mono (b7 K.size aj.size));clear hd b aj s' K;go_wp2_with fail;go_ret2;exact⟨aI,hfin⟩
end
variable{w:ai}{a:b4 Addr}{c:J}
def yj(m:aZ):ah aQ:=if dh m then dk m else []
def yi(m:aZ):aa:=if dh m then 0 else 1
def Yk(m:aZ)(h:c1 w a c m.a8)(d:m.wf):az 135 #[(aM #[I m.kind,aK m.bL,bz m.cl,bz m.cj,ao a m.a8.length c,aK m.sum,I m.lead])] w λe w'=>e=aV #[.string ⟨(yj m).toArray⟩,I (yi m)]/\Below w w w':=by
 unfold yj yi;by_cases b:dh m
 .rw[aD b,aD b];exact TT m h b d
 rw[aA b,aA b];exact Yl m h b
section
def gH(b:cc):aa:=((hO b.data.toList:J):aa)
def vU(k:aa)(x:Rd):aZ×Rd:=
 if k=1\/k=2 then(⟨k,gH (dP 4 x).1,0,0,[],0,0⟩,(dP 4 x).2)
 else if k=3 then(⟨k,0,gH (dP 2 x).1,gH (dP 2 (dP 2 x).2).1,(mR (dP 2 (dP 2 x).2).2).1,0,0⟩,(mR (dP 2 (dP 2 x).2).2).2)
 else if k=4 then(⟨k,0,gH (dP 2 x).1,0,[],gH (dP 4 (dP 2 x).2).1,0⟩,(dP 4 (dP 2 x).2).2)
 else if k=5 then(⟨k,0,0,gH (dP 2 x).1,[],0,0⟩,(dP 2 x).2)
 else if k=6 then(⟨k,0,gH (dP 2 x).1,0,[],0,(oZ (dP 2 x).2).1⟩,(oZ (dP 2 x).2).2)
 else(⟨k,0,0,0,[],0,0⟩,x)
def xE(t:ah aQ):cc×Rd:=dP 1 ⟨⟨t.toArray⟩,false⟩
def tB(t:ah aQ):cc×Rd:=dP 1 ⟨(xE t).2.s,gH (xE t).1 != 80⟩
def ly(t:ah aQ):aZ×Rd:=vU (gH (tB t).1) (tB t).2
def y3(p:aZ×Rd):ak:=p.2.bad=true\/p.2.s.toList≠[]\/¬ dh p.1
instance (p:aZ×Rd):Decidable (y3 p):=by unfold y3;infer_instance
def q0(t:ah aQ):aZ×aa:=if y3 (ly t)then(aZ.zero,4)else((ly t).1,0)
def fs(l:ah aQ):aZ×aa:=if (opened l).2=0 then q0 (opened l).1 else(aZ.zero,(opened l).2)
def qn(w:ai)(m:aZ)(b:aa)(e:Ending)(w':ai):ak:=∃ a c,e=aV #[(aM #[I m.kind,aK m.bL,bz m.cl,bz m.cj,ao a m.a8.length c,aK m.sum,I m.lead]),I b]/\c1 w' a c m.a8/\Below w w w'/\∀ x,a=some x->w.heap.size<=x.block
def uD:a6 aw:=#[I 0,aK 0,bz 0,bz 0,ao none 0 0,aK 0,I 0]
structure UnpSt(bl:ai)(r m:J)(x:Rd)(cs:a6 aw)(w:ai):ak where
 rd:gj w r x
 msg:w.heap[m]?=some (ae cs 254 (0,0))
 res:w.heap[bl.heap.size]?=some (ae uD 254 (0,0))
 below:Below bl bl w
 j1:bl.heap.size<r
 lm:r<m
 cD:x.s.size<=100000
namespace UnpSt
variable{bl w w':ai}{r m:J}{x dY:Rd}{cs:a6 aw}
theorem get(h:UnpSt bl r m x cs w)(hk:Keeps (λb=>b=r) w w')(h2:gj w' r dY)(ax:dY.s.size<=x.s.size):UnpSt bl r m dY cs w':=
 ⟨h2,hk.heap h.msg (by have:=h.lm;omega),hk.heap h.res (by have:=h.j1;omega),h.below.trans (hk.below h.below.size (λk hk=>by have:=h.j1;omega)),h.j1,h.lm,b7 ax h.cD⟩
def set(h:UnpSt bl r m x cs w)(j:J)(v:aw):UnpSt bl r m x (cs.setIfInBounds j v) (w.setCell (ad m j ab) v):=by
 have hk:=(Keeps.refl (λb=>b=m) w).setCell (p:=ad m j ab) rfl v;exact⟨hk.heap h.rd (by have:=h.lm;omega),by simpa using bW h.msg j v,hk.heap h.res (by have:=h.lm;have:=h.j1;omega),h.below.trans (hk.below h.below.size (λk hk=>by have:=h.lm;have:=h.j1;omega)),h.j1,h.lm,h.cD⟩
def max(h:UnpSt bl r m x cs w):x.s.size<=maxLen:=by have:=h.cD;unfold maxLen;omega
end UnpSt
def UK(x:Rd):(mR x).2.s.size<=x.s.size:=take_size _ _
def IX(x:Rd):(oZ x).2.s.size<=x.s.size:=take_size _ _
variable{w:ai}
def xi{w:ai}{b:J}{t:TypeId}{bu b0 bs ez dR fV dS:aw}(h:w.heap[b]?=some (ae #[bu,b0,bs,ez,dR,fV,dS] t (0,0)))(a c v2 d e f g:aw):(((((((w.setCell (ad b 0 ab) a).setCell (ad b 1 ab) c).setCell (ad b 2 ab) v2).setCell (ad b 3 ab) d).setCell (ad b 4 ab) e).setCell (ad b 5 ab) f).setCell (ad b 6 ab) g).heap[b]?=some (ae #[a,c,v2,d,e,f,g] t (0,0)):=by
 have:=bW (bW (bW (bW (bW (bW (bW h 0 a) 1 c) 2 v2) 3 d) 4 e) 5 f) 6 g
 simpa using this
def n1(H:aa)(j:J)(q:aZ×Rd):aZ×Rd:=
 match j with
 | 5=>if H%2<1 then q else({q.1 with bL:=gH (dP 4 q.2).1},(dP 4 q.2).2)
 | 4=>if H%4<2 then q else({q.1 with cl:=gH (dP 2 q.2).1},(dP 2 q.2).2)
 | 3=>if H%8<4 then q else({q.1 with cj:=gH (dP 2 q.2).1},(dP 2 q.2).2)
 | 2=>if H%16<8 then q else({q.1 with a8:=(mR q.2).1},(mR q.2).2)
 | 1=>if H%32<16 then q else({q.1 with sum:=gH (dP 4 q.2).1},(dP 4 q.2).2)
 | _=>if H%64<32 then q else({q.1 with lead:=(oZ q.2).1},(oZ q.2).2)
def mJ(H:aa):J->aZ×Rd->aZ×Rd
 | 0,q=>q
 | j+1,q=>mJ H j (n1 H j q)
def Sd(k:aa)(x:Rd):mJ (f' k) 6 (⟨k,0,0,0,[],0,0⟩,x)=vU k x:=by
 unfold vU f';by_cases a:k=1\/k=2
 .simp[mJ,n1,a]
 by_cases b:k=3
 .simp[mJ,n1,b]
 by_cases c:k=4
 .simp[mJ,n1,c]
 by_cases d:k=5
 .simp[mJ,n1,d]
 by_cases e:k=6
 .simp[mJ,n1,e]
 simp[mJ,n1,a,b,c,d,e]
def tG(m:aZ)(a:b4 Addr)(c:J):a6 aw:=#[I m.kind,aK m.bL,bz m.cl,bz m.cj,ao a m.a8.length c,aK m.sum,I m.lead]
def jd(bl:ai)(r m:J)(H:aa)(R:aZ×Rd)(j:J)(W:ai):ak:=
 ∃ q a c,mJ H j q=R/\UnpSt bl r m q.2 (tG q.1 a c) W/\c1 W a c q.1.a8/\∀ x,a=some x->m<x.block
def jd.skip{bl W:ai}{r m:J}{H:aa}{R:aZ×Rd}{j:J}(h:jd bl r m H R (j+1) W)(ax:∀ q,n1 H j q=q):jd bl r m H R j W:=by
 have⟨q,a,c,e,h1⟩:=h;exact⟨q,a,c,by rw[<-e];exact(cV (mJ H j) (ax q)).symm,h1⟩
def jd.vB{bl W W':ai}{r m:J}{H:aa}{R:aZ×Rd}{j:J}{q d:aZ×Rd}{a:b4 Addr}{c:J}(e:mJ H (j+1) q=R)(ax:UnpSt bl r m q.2 (tG q.1 a c) W)(av:c1 W a c q.1.a8)(au:∀ x,a=some x->m<x.block)(g:n1 H j q=d)(hk:Keeps (λb=>b=r) W W')(k:gj W' r d.2)(l:d.2.s.size<=q.2.s.size)(i:J)(v:aw)(hm:tG d.1 a c=(tG q.1 a c).setIfInBounds i v)(h:d.1.a8=q.1.a8):jd bl r m H R j (W'.setCell (ad m i ab) v):=by
 have n:=ax.lm;refine⟨n1 H j q,a,c,e,by rw[g,hm];exact((ax.get hk k l).set i v),?_,au⟩;rw[g,h];exact(av.keeps hk (λ_ x f=>by have:=au x f;omega)).keeps ((Keeps.refl (λb=>b=m) W').setCell (p:=ad m i ab) rfl v) (λ_ x f=>by have:=au x f;omega)
theorem yH{W:ai}(h:Below w w W)(a b v2 c d e f:aw):Below w w (((((((W.setCell (ad w 0 ab) a).setCell (ad w 1 ab) b).setCell (ad w 2 ab) v2).setCell (ad w 3 ab) c).setCell (ad w 4 ab) d).setCell (ad w 5 ab) e).setCell (ad w 6 ab) f):=
 ((((((h.setCell (p:=ad w 0 ab) bA a).setCell (p:=ad w 1 ab) bA b).setCell (p:=ad w 2 ab) bA v2).setCell (p:=ad w 3 ab) bA c).setCell (p:=ad w 4 ab) bA d).setCell (p:=ad w 5 ab) bA e).setCell (p:=ad w 6 ab) bA f
theorem qn.zero{W:ai}(h:Below w w W)(e:aa):qn w aZ.zero e (aV #[.agg uD,I e]) W:=⟨none,0,rfl,c1.none _,h,λ_ h=>nt⟩
def XR(s:cc)(t:ah aQ)(ax:s.size<=maxLen)(Y9:opened s.data.toList=(t,0))(gf:t.length<=100000):az 166 #[.string s] w (qn w (q0 t).1 (q0 t).2):=by
 obtain⟨⟨bP,n⟩,St⟩:∃ q,xE t=q:=⟨_,rfl⟩;obtain⟨⟨N,D⟩,TS⟩:∃ q,tB t=q:=⟨_,rfl⟩;obtain⟨k,a'⟩:∃ k,gH N=k:=⟨_,rfl⟩;have m':=J6 s ax (w.alloc (ae #[I 0,aK 0,bz 0,bz 0,ao none 0 0,aK 0,I 0] 254));rw[Y9]at m';have Zj:=af m';have Tq:dP 1 ⟨⟨t.toArray⟩,false⟩=(bP,n):=St;have g':dP 1 ⟨n.s,gH bP != 80⟩=(N,D):=by have:=TS;unfold tB at this;rwa [St]at this
 have Zl:=af Tq;have Zm:=af g';have Y4:=af a';have Q':n.s.size<=t.length:=by have:=take_size 1 ⟨⟨t.toArray⟩,false⟩;rw[Tq]at this;exact b7 this (by show t.toArray.size<=t.length;simp)
 have Zd:D.s.size<=n.s.size:=by have:=take_size 1 ⟨n.s,gH bP != 80⟩;rw[g']at this;exact this
 have zp:0<=k/\k<65536:=by
  have h1:=take_len 1 ⟨n.s,gH bP != 80⟩;rw[g']at h1;have h2:=z_ _ N.data.toList rfl;have Y:N.data.toList.length<=1:=by simpa using h1
  have l':=lT h2 (rh U Y);rw[<-a'];unfold gH;omega
 have Y6:=af zp;have Zq:=af gf;have Zo:=af (b7 Q' gf);have Zp:=af (b7 Zd (b7 Q' gf));have l:=af (show mJ (f' k) 6 (⟨k,0,0,0,[],0,0⟩,D)=ly t by rw[Sd];unfold ly;rw[TS];exact(cV (λq=>vU q D) a').symm);clear m' Y9 ax St TS Tq g' a' Q' Zd gf
 go_in
 go_wp2_with fail;refine aT Zj.o λan Z=>?_;have Y8:Keeps aG (w.alloc (ae #[I 0,aK 0,bz 0,bz 0,ao none 0 0,aK 0,I 0] 254)) an:=Keeps.bE Z a7;have ps:Below w w an:=((bY _ w).alloc bA _).trans (Z.mono aI);have Zy:w.heap.size+1<=an.heap.size:=by have:=Z.size;simpa using this
 have Y':=Y8.heap (aW w (ae #[I 0,aK 0,bz 0,bz 0,ao none 0 0,aK 0,I 0] 254)) id;clear Z Y8;go_wp2_with fail;have Y_:gj (an.alloc (ae #[.string ⟨t.toArray⟩,false] 369)) an.heap.size ⟨⟨t.toArray⟩,false⟩:=aW _ _;have a1:=xS Y_ 1 U (by show(⟨t.toArray⟩:cc).size<=maxLen;have:=Zq.o;simp[ByteArray.size,maxLen];omega);rw[Zl.o]at a1;refine aT a1 ?_;rintro aB ⟨h2,w'⟩;have T:gj aB an.heap.size n:=h2;have Za:=w'.heap (cm Y' _) U;have r':=(ps.alloc ps.size _).trans (w'.below (B:=w.heap.size) bU a7);have f1:=bJ T;have Zr:=aP T;clear a1 h2 w' Y_ Y' ps;have Y:=T.B_ (gH bP != 80);have ys:Keeps (λb=>b=an) aB (aB.setCell (ad an 1 ab) (.bool (gH bP != 80))):=(Keeps.refl (λb=>b=an) aB).setCell (p:=ad an 1 ab) rfl _;have Zb:=ys.heap Za U;have sd:=r'.trans (ys.below r'.size a7);have a1:=xS Y 1 U (by have:=Zo.out;show n.s.size<=maxLen;unfold maxLen;omega);rw[Zm.out]at a1;have Y5:=af a1;clear a1 T Za r' ys Y;rw[show((hO (bP,n).1.data.toList:J):aa)=gH bP from rfl];go_wp2_with fail;refine aT Y5.o ?_;rintro i ⟨l',zd⟩;have hd:gj i an.heap.size D:=l';have Zc:=zd.heap Zb U;have s':=sd.trans (zd.below sd.size a7);have Zv:=bR hd;clear Y5 l' zd Zb sd f1 Zr;rw[show((hO (N,D).1.data.toList:J):aa)=k from Y4.out];have zp:=Y6.out;have j:jd w an.heap.size i.heap.size (f' k) (ly t) 6 (i.alloc (ae #[I k,aK 0,bz 0,bz 0,ao none 0 0,aK 0,I 0] 254)):=⟨_,none,0,l.out,
 show UnpSt w an.heap.size i.heap.size D #[I k,aK 0,bz 0,bz 0,ao none 0 0,aK 0,I 0] (i.alloc (ae #[I k,aK 0,bz 0,bz 0,ao none 0 0,aK 0,I 0] 254))from
  ⟨hd.keeps ((a_ i).alloc _) id,aW _ _,cm Zc _,s'.alloc s'.size _,U,Zv,Zp.out⟩,c1.none _,λ_ h=>nt⟩
 clear hd Zc s';go_wp2_with fail;refine br (q2 k _) ?_;have⟨H,hH⟩:=cQ (f' k);have v':=Ig k;rw[<-hH]at j v';rw[<-hH];generalize World.alloc i _=Zz at *;have r:=af (Fg v');clear v' hH l Y4 Y6 zp;go_upto_if 36 with fail
 go_cut [] (jd w an.heap.size i.heap.size H (ly t) 5)
 case first=>
  have⟨q,a,c,e,ax,av,au⟩:=j;rw[r.o.1];by_cases aN:H%2<1
  .exact uU
  rw[cZ aN];have a1:=af (GV ax.rd 4 U ax.max);have f:=af (λW'=>jd.vB (W':=W') e ax av au (aA aN));have g:=af ax;clear e ax av au;go_wp2_with fail;refine aT a1.o ?_;rintro C ⟨d,hk⟩;have V:=g.out.get hk d (take_size 4 q.2);have P:=bJ V.msg;have O:=aP V.msg;have f:=af (f.out _ hk d (take_size 4 q.2) 1 (aK _) rfl trivial);exact wP
 have j:=hcut;clear hcut;go_upto_if 42 with fail
 go_cut [] (jd w an.heap.size i.heap.size H (ly t) 4)
 case first=>
  have⟨q,a,c,e,ax,av,au⟩:=j;rw[r.out.2.1];by_cases aN:H%4<2
  .exact uU
  rw[cZ aN];have a1:=af (xS ax.rd 2 U ax.max);have f:=af (λW'=>jd.vB (W':=W') e ax av au (aA aN));have g:=af ax;clear e ax av au;go_wp2_with fail;refine aT a1.o ?_;rintro C ⟨d,hk⟩;have V:=g.out.get hk d (take_size 2 q.2);have P:=bJ V.msg;have O:=aP V.msg;have f:=af (f.out _ hk d (take_size 2 q.2) 2 (bz _) rfl trivial);exact wP
 have j:=hcut;clear hcut;go_upto_if 48 with fail
 go_cut [] (jd w an.heap.size i.heap.size H (ly t) 3)
 case first=>
  have⟨q,a,c,e,ax,av,au⟩:=j;rw[r.out.2.2.1];by_cases aN:H%8<4
  .exact uU
  rw[cZ aN];have a1:=af (xS ax.rd 2 U ax.max);have f:=af (λW'=>jd.vB (W':=W') e ax av au (aA aN));have g:=af ax;clear e ax av au;go_wp2_with fail;refine aT a1.o ?_;rintro C ⟨d,hk⟩;have V:=g.out.get hk d (take_size 2 q.2);have P:=bJ V.msg;have O:=aP V.msg;have f:=af (f.out _ hk d (take_size 2 q.2) 3 (bz _) rfl trivial);exact wP
 have j:=hcut;clear hcut;go_upto_if 54 with fail
 go_cut [] (jd w an.heap.size i.heap.size H (ly t) 2)
 case first=>
  have⟨q,a,c,e,ax,av,au⟩:=j;rw[r.out.2.2.2.1];by_cases aN:H%16<8
  .exact uU
  rw[cZ aN];have a1:=af (UN ax.rd ax.max);have f:=b8 e (bD (show n1 H 2 q=_ from aA aN) ax);clear e ax av au;go_wp2_with fail;refine a1.o.mono ?_;rintro _ C ⟨v,rfl,Aw,d,hk⟩;obtain⟨e,CW,ax⟩:=f.out;obtain⟨A,cap,rfl,Q⟩:=Iq Aw;obtain⟨cA,Zx,Zi,_,Y7⟩:=cP Aw;cases Zi;have Zu:=bR ax.msg;have Zt:=ax.j1;have Zs:=ax.lm;have au:∀ x,A=some x->i.heap.size<x.block:=λx u=>lT Zu (Y7 x u).1;have V:=ax.get hk d (UK q.2);have P:=bJ V.msg;have O:=aP V.msg;have f:=af (show jd w an.heap.size i.heap.size H (ly t) 2 (C.setCell (ad i 4 ab) (.slice A (mR q.2).1.length cap))from⟨_,A,cap,e,by rw[CW];exact V.set 4 _,by rw[CW];exact Q.keeps ((Keeps.refl (λb=>b=i) C).setCell (p:=ad i 4 ab) rfl _) (λ_ x u=>by have:=au x u;omega),au⟩);clear V a1 d hk e CW ax Q Aw Y7 au;go_wp2_with fail;go_meet;exact f.o
 have j:=hcut;clear hcut;go_upto_if 60 with fail
 go_cut [] (jd w an.heap.size i.heap.size H (ly t) 1)
 case first=>
  have⟨q,a,c,e,ax,av,au⟩:=j;rw[r.out.2.2.2.2.1];by_cases aN:H%32<16
  .exact uU
  rw[cZ aN];have a1:=af (GV ax.rd 4 U ax.max);have f:=af (λW'=>jd.vB (W':=W') e ax av au (aA aN));have g:=af ax;clear e ax av au;go_wp2_with fail;refine aT a1.o ?_;rintro C ⟨d,hk⟩;have V:=g.out.get hk d (take_size 4 q.2);have P:=bJ V.msg;have O:=aP V.msg;have f:=af (f.out _ hk d (take_size 4 q.2) 5 (aK _) rfl trivial);exact wP
 have j:=hcut;clear hcut;go_upto_if 66 with fail
 go_cut [] (jd w an.heap.size i.heap.size H (ly t) 0)
 case first=>
  have⟨q,a,c,e,ax,av,au⟩:=j;rw[r.out.2.2.2.2.2];by_cases aN:H%64<32
  .exact uU
  rw[cZ aN];have a1:=af (UM ax.rd ax.max);have f:=af (λW'=>jd.vB (W':=W') e ax av au (aA aN));have g:=af ax;clear e ax av au;go_wp2_with fail;refine aT a1.o ?_;rintro C ⟨d,hk⟩;have V:=g.out.get hk d (IX q.2);have P:=bJ V.msg;have O:=aP V.msg;have f:=af (f.out _ hk d (IX q.2) 6 (I _) rfl trivial);exact wP
 have j:=hcut;clear hcut;obtain⟨⟨⟨G,K,ik,E,z,L,lm⟩,y⟩,a,c,e,ax,Q,au⟩:=j;have l:=af (show q0 t=if y3 (⟨G,K,ik,E,z,L,lm⟩,y)then(aZ.zero,4)else(⟨G,K,ik,E,z,L,lm⟩,0)by unfold q0;rw[<-e];rfl);have Zk:=af (λW (aj:c1 W a c z)=>CF (w:=W) (m:=⟨G,K,ik,E,z,L,lm⟩) aj);have T':=aP ax.rd;have Ze:=aP ax.msg;have Zf:=bJ ax.res;have Zg:=aP ax.res;have g:=af ax;have X:=b8 Q au;clear e ax Q au r;by_cases aj:y.bad=true
 .have M:=af (l.o.trans (aD (.inl aj)));rw[aj]at T';clear l aj;exact Ms
 have lb:y.bad=false:=by simpa using aj
 rw[lb]at T';by_cases F:y.s.toList=[];rotate_left
 .have M:=af (l.o.trans (aD (.inr (.inl F))));have Zw:y.s.toList.isEmpty=false:=by simpa using F
  clear l aj lb F;exact Ms
 have Zw:y.s.toList.isEmpty=true:=by simpa using F
 have V':=b8 aj F;clear aj lb F;go_wp2_with fail;refine aT (Zk.o _ X.o.1) λZh vl=>?_;have fr:Keeps aG _ Zh:=Keeps.bE vl a7;have d:=fr.heap g.o.res id;have hm:=fr.heap g.o.msg id;have Y3:=af (g.o.below.trans (vl.mono g.o.below.size));have Zn:=af (X.o.1.keeps fr (λ_ _ _=>id));clear T' Ze Zf Zg vl fr;have Ze:=aP hm;have Zf:=bJ d;have Zg:=aP d;have Y2:=af d;clear d hm;by_cases d:dh ⟨G,K,ik,E,z,L,lm⟩;rotate_left
 .have M:=af (l.o.trans (aD (.inr (.inr d))));rw[cZ d];clear d;go_wp2_with fail;have R:=aP (xi Y2.o (I 0) (aK 0) (bz 0) (bz 0) (ao none 0 0) (aK 0) (I 0));refine cU (v:=aV #[.agg uD,I 4]) DP rfl ?_;rw[M.o];exact qn.zero (yH Y3.o _ _ _ _ _ _ _) 4
 have M:=af (l.o.trans (aA (λh=>h.elim V'.o.1 λh=>h.elim (λh=>h V'.o.2) λh=>h d)));rw[ed d];clear d;go_wp2_with fail;have R:=aP (xi Y2.o (I G) (aK K) (bz ik) (bz E) (ao a z.length c) (aK L) (I lm));refine cU (v:=aV #[.agg (tG ⟨G,K,ik,E,z,L,lm⟩ a c),I 0]) (by simp[results,results166,go_sem,R,tG]) rfl ?_;rw[M.o];have Zt:=g.o.j1;have Zs:=g.o.lm;exact⟨a,c,rfl,Zn.o.keeps (S:=λb=>b=w.heap.size) (((((((Keeps.refl (λb=>b=w) Zh).setCell (p:=ad w 0 ab) rfl _).setCell (p:=ad w 1 ab) rfl _).setCell (p:=ad w 2 ab) rfl _).setCell (p:=ad w 3 ab) rfl _).setCell (p:=ad w 4 ab) rfl _).setCell (p:=ad w 5 ab) rfl _ |>.setCell (p:=ad w 6 ab) rfl _) (λ_ x u=>by have:=X.o.2 x u;omega),yH Y3.o _ _ _ _ _ _ _,λx u=>by have:=X.o.2 x u;omega⟩
end
def XT(s:cc)(ax:s.size<=maxLen)(l:ah aQ)(a:aa)(h:opened s.data.toList=(l,a))(f:a≠0):az 166 #[.string s] w (qn w aZ.zero a):=by
 have b:=J6 s ax (w.alloc (ae #[I 0,aK 0,bz 0,bz 0,ao none 0 0,aK 0,I 0] 254));rw[h]at b;have i:=af b;have k:(a != 0)=true:=by simp[f]
 clear b h f ax
 go_in
 go_wp2_with fail;refine i.o.mono ?_;rintro e an ⟨rfl,c⟩;have g:Keeps aG (w.alloc (ae #[I 0,aK 0,bz 0,bz 0,ao none 0 0,aK 0,I 0] 254)) an:=Keeps.bE c a7;have j:Below w w an:=((bY _ w).alloc bA _).trans (c.mono aI);have d:=g.heap (aW w (ae #[I 0,aK 0,bz 0,bz 0,ao none 0 0,aK 0,I 0] 254)) id;clear c g;have m:=bJ d;have n:=aP d;go_wp2_with fail;have R:=aP (xi d (I 0) (aK 0) (bz 0) (bz 0) (ao none 0 0) (aK 0) (I 0));refine cU (v:=aV #[.agg uD,I a]) DP rfl ?_;exact qn.zero (yH j _ _ _ _ _ _ _) a
def TB(l:ah aQ):(opened l).1.length<=l.length:=by
 unfold opened;split
 .exact c' _
 split
 .simp
 exact c' _
def Yn(s:cc)(ax:s.size<=100000):az 166 #[.string s] w (qn w (fs s.data.toList).1 (fs s.data.toList).2):=by
 have hm:s.size<=maxLen:=by unfold maxLen;omega
 unfold fs;by_cases a:(opened s.data.toList).2=0
 .rw[aD a];have b:opened s.data.toList=((opened s.data.toList).1,0):=qe rfl a;have c:(opened s.data.toList).1.length<=100000:=b7 (TB _) (by simpa using ax);generalize (opened s.data.toList).1=t at *;clear a;exact XR s t hm b c
 rw[aA a];exact XT s hm _ _ rfl a
def n2(n:J)(l r:ah aQ)(au:l.length=n):dP n ⟨⟨(l++r).toArray⟩,false⟩=(⟨l.toArray⟩,⟨⟨r.toArray⟩,false⟩):=by
 subst au;have ax:(⟨(l++r).toArray⟩:cc).size=l.length+r.length:=by show(l++r).toArray.size=_;simp
 unfold dP;rw[aA (by simp only[ax];simp)];refine qe ?_ ?_
 .refine Bw _ _ ?_;rw[extract_data];simp
 show Rd.mk _ _=Rd.mk _ _
 congr 1
 refine Bw _ _ ?_;simp only[ax];rw[extract_data];simp
def xf(l:ah aQ):gH ⟨l.toArray⟩=(hO l:aa):=by simp[gH]
def E_(n:aa)(h:0<=n/\n<4294967296):gH ⟨(eF n).toArray⟩=n:=by
 rw[xf];simp only[eF,hO,od,q9];rw[pw _ U,pw _ U,pw _ U,pw _ U];omega
def vf(n:aa)(h:0<=n/\n<65536):gH ⟨(iw n).toArray⟩=n:=by
 rw[xf];simp only[iw,hO,od,q9];rw[pw _ U,pw _ U];omega
def UJ(L:ah aQ)(a:fits L=true):mR ⟨⟨(lF L).toArray⟩,false⟩=(L,⟨⟨([]:ah aQ).toArray⟩,false⟩):=by
 have h:=UI L [] a;rw[eX]at h;unfold mR;simp only[h];rw[show((0:aa) != 0)=false by decide,wv];have aN:=n2 (lF L).length (lF L) [] rfl;rw[eX]at aN;rw[aN]
def UL(n:aa)(h:-1000<=n/\n<=1000):oZ ⟨⟨(num (fz n)).toArray⟩,false⟩=(n,⟨⟨([]:ah aQ).toArray⟩,false⟩):=by
 have h1:=BS (fz n) (Nv n U) [];rw[eX]at h1;unfold oZ;simp only[h1,XU];rw[show((0:aa) != 0)=false by decide,wv];have aN:=n2 (num (fz n)).length (num (fz n)) [] rfl;rw[eX]at aN;rw[aN]
def T0(m:aZ)(t:dh m)(wf:m.wf):ly (nV m)=(m,⟨⟨([]:ah aQ).toArray⟩,false⟩):=by
 obtain⟨k,n,s,a,i,u,l⟩:=m;obtain⟨w,p,q,x,y,z,j,A,B⟩:=t;obtain⟨_,wn,h,o,v,_⟩:=wf;simp only at *;have h1:xE (nV ⟨k,n,s,a,i,u,l⟩)=(⟨[(80:aQ)].toArray⟩,⟨⟨(UInt8.ofNat k.toNat :: ry ⟨k,n,s,a,i,u,l⟩).toArray⟩,false⟩):=n2 1 [80] _ rfl;have aj:(gH ⟨[(80:aQ)].toArray⟩ != 80)=false:=by rw[xf];rfl
 have h2:tB (nV ⟨k,n,s,a,i,u,l⟩)=(⟨[UInt8.ofNat k.toNat].toArray⟩,⟨⟨(ry ⟨k,n,s,a,i,u,l⟩).toArray⟩,false⟩):=by
  unfold tB;rw[h1];simp only;rw[aj];exact n2 1 [UInt8.ofNat k.toNat] _ rfl
 have r:gH ⟨[UInt8.ofNat k.toNat].toArray⟩=k:=by
  rw[xf];simp only[hO,od,q9];rw[pw _ U];omega
 unfold ly;rw[h2];simp only;rw[r];unfold vU ry;simp only;by_cases c:k=1\/k=2
 .rw[aD c,aD c];have aN:=n2 4 (eF n) [] rfl;rw[eX]at aN;rw[aN,E_ n wn];have e:=Ii j U;exact Lt
 rw[aA c,aA c];by_cases b:k=3
 .rw[aD b,aD b];rw[dD,n2 2 (iw s) _ rfl];simp only;rw[n2 2 (iw a) _ rfl];simp only;rw[UJ i p,vf s h,vf a o];simp only[jq,aZ.mk.injEq,and_true,true_and];exact⟨U,U,U⟩
 have e:=Ii j b;rw[aA b,aA b];by_cases d:k=4
 .rw[aD d,aD d,n2 2 (iw s) _ rfl];simp only;have aN:=n2 4 (eF u) [] rfl;rw[eX]at aN;rw[aN,vf s h,E_ u v];exact Lx
 rw[aA d,aA d];by_cases f:k=5
 .rw[aD f,aD f];have aN:=n2 2 (iw a) [] rfl;rw[eX]at aN;rw[aN,vf a o];exact Lt
 rw[aA f,aA f];by_cases g:k=6
 .rw[aD g,aD g,n2 2 (iw s) _ rfl];simp only;rw[UL l q,vf s h];exact Lx
 rw[aA g,aA g];simp only[jq,aZ.mk.injEq,and_true,true_and];exact⟨U,U,U,e.symm,U,U⟩
def XQ(m:aZ)(a:dh m)(wf:m.wf):q0 (nV m)=(m,0):=by
 unfold q0;rw[T0 m a wf,aA];rintro(h|h|h)
 .cases h
 .exact h (by simp[wx])
 exact h a
variable{m:aZ}
def TC(l:ah aQ):opened (iI l)=(l,0):=by
 unfold opened iI;rw[if_neg (by simp[sg])];have e:(l++eF (more 1 l)).length-4=l.length:=by simp[sg]
 rw[e,zt];simp
def Cw(m:aZ)(a:dh m)(wf:m.wf):fs (dk m)=(m,0):=by
 unfold fs dk;rw[TC,if_pos rfl];exact XQ m a wf
end Go.Proofs.YtalagblioepadaaGreatDoor
