/- The proof, part 25. -/
import Derived.Test.YtalagblioepadaaGreatDoorZc23
import Derived.Test.YtalagblioepadaaGreatDoorZc06
import Derived.Deep.DeepCutAuto
namespace Go.Proofs.YtalagblioepadaaGreatDoor
set_option linter.all false
open Proofs.Tryz List Go.RowKit
set_option maxRecDepth 100000
set_option maxHeartbeats 4000000
def Ed{p:ak}(h:p:=by simp[results,results166,go_sem,R,uS]):p:=h
def Af{p:ak}(h:p:=by
 have A:=af (λv W=>kP.put (v:=v) (W':=W) aj f (az aO));clear b f aj ar d;go_wp2_with fail;refine q.o.mono ?_;rintro _ bm ⟨v3,rfl,O,h2⟩;have D:=af (A.out _ _ (by rw[cx];exact IU O) h2);clear O h2 A q;go_wp2_with fail;go_meet;exact D.o
 ):p:=h
def M0{p:ak}(h:p:=by
 go_wp2_with fail;have R:=aS (xE g.o.res (I 0) (aP 0) (bx 0) (bx 0) (aq none 0 0) (aP 0) (I 0));refine cU (v:=aV #[.agg uS,I 4]) Ed rfl ?_;rw[M.o];exact qE.zero (y3 g.o.below _ _ _ _ _ _ _) 4
 ):p:=h
def Nb{p:ak}(h:p:=by
 intro zp Aw fr lb _;rw[XR]at fr;have D:=af (A.o _ _ (by rw[cx];exact IU fr) (a'.grown lb d (λk e=>(b.lt k e).1)));clear fr lb A q b a' d;go_wp2_with fail;go_meet;exact D.o
 ):p:=h
def vh{p:ak}(h:p:=by
 rw[ee aO];have f:=af (jl.skip ⟨q,a,c,e,av,aw,ar⟩ (λq=>aD aO));clear e av aw ar;go_wp2_with fail;go_meet;exact f.o
 ):p:=h
def uT{p:ak}(h:p:=by
 rw[ee aO];have D:=af (g.skip (aD aO));clear g;go_wp2_with fail;go_meet;exact D.o
 ):p:=h
def L2{p:ak}(h:p:=by
 simp only[jA,a1.mk.injEq,and_true,true_and];exact⟨U,U,e.symm,U,U⟩
 ):p:=h
def L7{p:ak}(h:p:=by
 simp only[jA,a1.mk.injEq,and_true,true_and];exact⟨U,U,e.symm,U⟩
 ):p:=h
def w9{p:ak}(h:p:=by
 clear V aZ g d hk;go_wp2_with fail;go_meet;exact f.o
 ):p:=h
section
open Go.Lib (strCells)
variable{w:ai}{a:b5 Addr}{c:J}
def XR(l:ah aR):strCells ⟨l.toArray⟩=l.map ef:=by simp[strCells,ef]
def IU{w:ai}{base n:J}{v:ax}{l r:ah aR}(h:w.ownsRow base 5 1 v n (l.map ef++r.map ef)):w.ownsRow base 5 1 v n ((l++r).map ef):=by
 rwa [jy]
def Dj(l:ah aR):(⟨l.toArray⟩:cc).size=l.length:=by simp[ByteArray.size]
def FJ{H:aa}(h:H=0\/H=1\/H=4\/H=14\/H=18\/H=34):(bits .and .i64 H 1 != 0)=!decide (H%2<1)/\(bits .and .i64 H 2 != 0)=!decide (H%4<2)/\(bits .and .i64 H 4 != 0)=!decide (H%8<4)/\(bits .and .i64 H 8 != 0)=!decide (H%16<8)/\(bits .and .i64 H 16 != 0)=!decide (H%32<16)/\(bits .and .i64 H 32 != 0)=!decide (H%64<32):=by
 rcases h with rfl|rfl|rfl|rfl|rfl|rfl<;>decide
def IH(k:aa):gj k=0\/gj k=1\/gj k=4\/gj k=14\/gj k=18\/gj k=34:=by unfold gj;(repeat' split)<;>simp
def p5(H:aa)(m:a1)(j:J):ah aR:=
 match j with
 | 5=>if H%2<1 then []else eI m.bK
 | 4=>if H%4<2 then []else iD m.cj
 | 3=>if H%8<4 then []else iD m.ch
 | 2=>if H%16<8 then []else lU m.a8
 | 1=>if H%32<16 then []else eI m.sum
 | _=>if H%64<32 then []else num (fC m.lead)
def np(H:aa)(m:a1):J->ah aR
 | 0=>[]
 | j+1=>p5 H m j++np H m j
def XZ(m:a1):np (gj m.kind) m 6=rQ m:=by
 unfold rQ gj;by_cases a:m.kind=1\/m.kind=2
 .simp[np,p5,a]
 by_cases b:m.kind=3
 .simp[np,p5,b]
 by_cases c:m.kind=4
 .simp[np,p5,c]
 by_cases d:m.kind=5
 .simp[np,p5,d]
 by_cases e:m.kind=6
 .simp[np,p5,e]
 simp[np,p5,a,b,c,d,e]
structure kP(w ao:ai)(R:ah aR)(H:aa)(m:a1)(j:J)(s:ax)(W:ai):ak where
 ex:∃ L:ah aR,W.ownsRow (w.heap.size+1) 5 1 s L.length (L.map ef)/\L++np H m j=R
 below:Below (w.heap.size+1) ao W
def kP.skip{w ao W:ai}{R:ah aR}{H:aa}{m:a1}{j:J}{s:ax}(h:kP w ao R H m (j+1) s W)(av:p5 H m j=[]):kP w ao R H m j s W:=by
 have⟨⟨L,h1,h2⟩,a⟩:=h;exact⟨⟨L,h1,by unfold np at h2;rw[av]at h2;exact h2⟩,a⟩
theorem kP.put{w ao W W':ai}{R L X:ah aR}{H:aa}{m:a1}{j:J}{v:ax}(h:Below (w.heap.size+1) ao W)(a:L++np H m (j+1)=R)(av:p5 H m j=X)(b:W'.ownsRow (w.heap.size+1) 5 1 v (L++X).length ((L++X).map ef))(aj:Below (w.heap.size+1) W W'):kP w ao R H m j v W':=
 ⟨⟨L++X,b,by rw[<-a,<-av,dD];rfl⟩,h.trans aj⟩
def Uu(m:a1)(h:c3 w a c m.a8)(C:di m)(hw:m.wf):aA 135 #[(aQ #[I m.kind,aP m.bK,bx m.cj,bx m.ch,aq a m.a8.length c,aP m.sum,I m.lead])] w λe w'=>e=aV #[.string ⟨(dn m).toArray⟩,I 0]/\Below w w w':=by
 have Q:=C7 (m:=m) (h.keeps ((ba w).alloc (ae #[I m.kind,aP m.bK,bx m.cj,bx m.ch,aq a m.a8.length c,aP m.sum,I m.lead] 254)) (λ_ _ _=>id));rw[ee C]at Q;have mv:=af Q;have T:=Jf _ C;have N:od m=[80,UInt8.ofNat m.kind.toNat]++np (gj m.kind) m 6:=by rw[XZ];rfl
 unfold dn;obtain⟨R,g'⟩:∃ R,od m=R:=⟨_,rfl⟩;obtain⟨H,G⟩:∃ H,gj m.kind=H:=⟨_,rfl⟩;have x:=af (FJ (G▸IH m.kind));rw[g']at T N⊢;rw[G]at N;have m':=af N;have r:=af T;have l':=af G;have E:=af C;have F:=af hw;have ps:=af h;have hk:=C.1;have s':IntKind.u8.wrap m.kind=((UInt8.ofNat m.kind.toNat).toNat:aa):=by
  obtain⟨k,n,s,v',i,u,l⟩:=m;simp only at *;obtain rfl|rfl|rfl|rfl|rfl|rfl|rfl:k=1\/k=2\/k=3\/k=4\/k=5\/k=6\/k=7:=U
  all_goals rfl
 obtain⟨z,d⟩:∃ z:aa,((UInt8.ofNat m.kind.toNat).toNat:aa)=z:=⟨_,rfl⟩;rw[d]at s';have r':=af d;clear d;clear Q C T N g' G hw h hk
 go_in
 go_wp2_with fail;refine aU mv.o λao M=>?_;have j:w.heap.size+1<=ao.heap.size:=by have:=M.size;simpa using this
 have K:=((b3 _ w).alloc bs _).trans (M.mono aK);have cF:=af ((Keeps.bD (S:=aI) M a7).heap (aX w _) id);have zd:=aS cF.o;clear M;go_wp2_with fail;refine bA (rn _ _) ?_;rw[l'.o];have g:kP w ao R H m 6 (aq (some (ad ao 0 ab)) 2 2) (ao.alloc (ae #[aF 80,aF z] 5)):=⟨⟨[80,UInt8.ofNat m.kind.toNat],by rw[<-r'.o];exact Uq j 80 _,m'.o.symm⟩,(b3 _ ao).alloc j _⟩;go_upto_if 20 with fail
 go_cut [5] (kP w ao R H m 5)
 case first=>
  rw[x.o.1];by_cases aO:H%2<1
  .exact uT
  rw[dd aO];have⟨⟨L,b,f⟩,aj⟩:=g;have ar:L.length<=4096:=by have:=r.o;rw[<-f,cx]at this;omega
  have d:=b7 j aj.size;have y:=(aj.cell (p:=ad w 1 ab) aK).trans (bb cF.o (k:=1) rfl);have q:=af (K7 b d ar m.bK F.o.bK);exact Af
 have g:=hcut;clear hcut;go_upto_if 27 with fail
 go_cut [5] (kP w ao R H m 4)
 case first=>
  rw[x.out.2.1];by_cases aO:H%4<2
  .exact uT
  rw[dd aO];have⟨⟨L,b,f⟩,aj⟩:=g;have ar:L.length<=4096:=by have:=r.out;rw[<-f,cx]at this;omega
  have d:=b7 j aj.size;have y:=(aj.cell (p:=ad w 2 ab) aK).trans (bb cF.out (k:=2) rfl);have q:=af (K6 b d ar m.cj F.out.cj);exact Af
 have g:=hcut;clear hcut;go_upto_if 34 with fail
 go_cut [5] (kP w ao R H m 3)
 case first=>
  rw[x.out.2.2.1];by_cases aO:H%8<4
  .exact uT
  rw[dd aO];have⟨⟨L,b,f⟩,aj⟩:=g;have ar:L.length<=4096:=by have:=r.out;rw[<-f,cx]at this;omega
  have d:=b7 j aj.size;have y:=(aj.cell (p:=ad w 3 ab) aK).trans (bb cF.out (k:=3) rfl);have q:=af (K6 b d ar m.ch F.out.ch);exact Af
 have g:=hcut;clear hcut;go_upto_if 41 with fail
 go_cut [5] (kP w ao R H m 2)
 case first=>
  rw[x.out.2.2.2.1];by_cases aO:H%16<8
  .exact uT
  rw[dd aO];have⟨⟨L,b,f⟩,aj⟩:=g;have ar:L.length<=4096:=by have:=r.out;rw[<-f,cx]at this;omega
  have d:=b7 j aj.size;have y:=(aj.cell (p:=ad w 4 ab) aK).trans (bb cF.out (k:=4) rfl);have q:=af (Ut _ a c m.a8 (ps.out.keeps (Keeps.bD (S:=aI) (K.trans (aj.mono U)) a7) (λ_ _ _=>id)) E.out.2.1);have A:=af (λv W=>kP.put (v:=v) (W':=W) aj f (az aO));have B:=b6 b (bB aj ar);clear b f aj ar d;go_wp2_with fail;refine aU q.o λvl t=>?_;obtain⟨b,aj,ar⟩:=B.o;have d:=b7 j aj.size;have b:=b4 b (Keeps.bD (S:=aI) t a7) (λ_ _=>id);have a':=t.mono d;have d:=b7 d t.size;obtain⟨Z,aw,V,X,Y⟩:=ny tM;have P:=af aw;have O:(⟨(lU m.a8).toArray⟩:cc).size<=138:=by rw[Dj];exact JB m.a8 E.out.2.1
  clear aw B aj;go_wp2_with (at_builtin;refine LA _ rfl (.tmp 51) (.tmp 52) 51 9 rfl (w.heap.size+1) 5 Z underlying51 underlying9 P.o V X Y _ L.length _ rfl b ⟨(lU m.a8).toArray⟩ rfl jY U d ?_);exact Nb
 have g:=hcut;clear hcut;go_upto_if 56 with fail
 go_cut [5] (kP w ao R H m 1)
 case first=>
  rw[x.out.2.2.2.2.1];by_cases aO:H%32<16
  .exact uT
  rw[dd aO];have⟨⟨L,b,f⟩,aj⟩:=g;have ar:L.length<=4096:=by have:=r.out;rw[<-f,cx]at this;omega
  have d:=b7 j aj.size;have y:=(aj.cell (p:=ad w 5 ab) aK).trans (bb cF.out (k:=5) rfl);have q:=af (K7 b d ar m.sum F.out.sum);exact Af
 have g:=hcut;clear hcut;go_upto_if 63 with fail
 go_cut [5] (kP w ao R H m 0)
 case first=>
  rw[x.out.2.2.2.2.2];by_cases aO:H%64<32
  .exact uT
  rw[dd aO];have⟨⟨L,b,f⟩,aj⟩:=g;have ar:L.length<=4096:=by have:=r.out;rw[<-f,cx]at this;omega
  have d:=b7 j aj.size;have y:=(aj.cell (p:=ad w 6 ab) aK).trans (bb cF.out (k:=6) rfl);have q:=af (IW m.lead (by have:=E.out.2.2.1;omega) wc);have A:=af (λv W=>kP.put (v:=v) (W':=W) aj f (az aO));have B:=b6 b (bB aj ar);clear b f aj ar d;go_wp2_with fail;refine aU q.o λvl t=>?_;obtain⟨b,aj,ar⟩:=B.o;have d:=b7 j aj.size;have b:=b4 b (Keeps.bD (S:=aI) t a7) (λ_ _=>id);have a':=t.mono d;have d:=b7 d t.size;obtain⟨Z,aw,V,X,Y⟩:=ny tM;have P:=af aw;have O:(⟨(num (fC m.lead)).toArray⟩:cc).size<=138:=by rw[Dj];exact by have:=N5 m.lead E.out.2.2.1;omega
  clear aw B aj;go_wp2_with (at_builtin;refine LA _ rfl (.tmp 64) (.tmp 67) 51 9 rfl (w.heap.size+1) 5 Z underlying51 underlying9 P.o V X Y _ L.length _ rfl b ⟨(num (fC m.lead)).toArray⟩ rfl jY U d ?_);exact Nb
 have g:=hcut;clear hcut;have⟨⟨L,b,f⟩,aj⟩:=g;have gf:L=R:=by rw[<-f];exact(e4 L).symm
 rw[gf]at b;have sd:=Gg R b;clear f gf;go_wp2_with fail;refine aU (XW ⟨R.toArray⟩ (by rw[Dj];have:=r.out;omega) _) λys hd=>?_;have hfin:=(K.trans (aj.mono U)).trans (hd.mono (b7 K.size aj.size));clear hd b aj sd K;go_wp2_with fail;go_ret2;exact⟨aK,hfin⟩
end
variable{w:ai}{a:b5 Addr}{c:J}
def yF(m:a1):ah aR:=if di m then dn m else []
def yE(m:a1):aa:=if di m then 0 else 1
def YY(m:a1)(h:c3 w a c m.a8)(d:m.wf):aA 135 #[(aQ #[I m.kind,aP m.bK,bx m.cj,bx m.ch,aq a m.a8.length c,aP m.sum,I m.lead])] w λe w'=>e=aV #[.string ⟨(yF m).toArray⟩,I (yE m)]/\Below w w w':=by
 unfold yF yE;by_cases b:di m
 .rw[aD b,aD b];exact Uu m h b d
 rw[az b,az b];exact YZ m h b
section
def gN(b:cc):aa:=((h4 b.data.toList:J):aa)
def wk(k:aa)(x:Rd):a1×Rd:=
 if k=1\/k=2 then(⟨k,gN (dQ 4 x).1,0,0,[],0,0⟩,(dQ 4 x).2)
 else if k=3 then(⟨k,0,gN (dQ 2 x).1,gN (dQ 2 (dQ 2 x).2).1,(nf (dQ 2 (dQ 2 x).2).2).1,0,0⟩,(nf (dQ 2 (dQ 2 x).2).2).2)
 else if k=4 then(⟨k,0,gN (dQ 2 x).1,0,[],gN (dQ 4 (dQ 2 x).2).1,0⟩,(dQ 4 (dQ 2 x).2).2)
 else if k=5 then(⟨k,0,0,gN (dQ 2 x).1,[],0,0⟩,(dQ 2 x).2)
 else if k=6 then(⟨k,0,gN (dQ 2 x).1,0,[],0,(pb (dQ 2 x).2).1⟩,(pb (dQ 2 x).2).2)
 else(⟨k,0,0,0,[],0,0⟩,x)
def x2(t:ah aR):cc×Rd:=dQ 1 ⟨⟨t.toArray⟩,false⟩
def tQ(t:ah aR):cc×Rd:=dQ 1 ⟨(x2 t).2.s,gN (x2 t).1 != 80⟩
def lN(t:ah aR):a1×Rd:=wk (gN (tQ t).1) (tQ t).2
def zn(p:a1×Rd):ak:=p.2.bad=true\/p.2.s.toList≠[]\/¬ di p.1
instance (p:a1×Rd):Decidable (zn p):=by unfold zn;infer_instance
def rl(t:ah aR):a1×aa:=if zn (lN t)then(a1.zero,4)else((lN t).1,0)
def fw(l:ah aR):a1×aa:=if (opened l).2=0 then rl (opened l).1 else(a1.zero,(opened l).2)
def qE(w:ai)(m:a1)(b:aa)(e:Ending)(w':ai):ak:=∃ a c,e=aV #[(aQ #[I m.kind,aP m.bK,bx m.cj,bx m.ch,aq a m.a8.length c,aP m.sum,I m.lead]),I b]/\c3 w' a c m.a8/\Below w w w'/\∀ x,a=some x->w.heap.size<=x.block
def uS:a6 ax:=#[I 0,aP 0,bx 0,bx 0,aq none 0 0,aP 0,I 0]
structure UnpSt(bk:ai)(r m:J)(x:Rd)(cs:a6 ax)(w:ai):ak where
 rd:gr w r x
 msg:w.heap[m]?=some (ae cs 254 (0,0))
 res:w.heap[bk.heap.size]?=some (ae uS 254 (0,0))
 below:Below bk bk w
 j9:bk.heap.size<r
 lm:r<m
 cE:x.s.size<=100000
namespace UnpSt
variable{bk w w':ai}{r m:J}{x dW:Rd}{cs:a6 ax}
theorem get(h:UnpSt bk r m x cs w)(hk:Keeps (λb=>b=r) w w')(h2:gr w' r dW)(av:dW.s.size<=x.s.size):UnpSt bk r m dW cs w':=
 ⟨h2,hk.heap h.msg (by have:=h.lm;omega),hk.heap h.res (by have:=h.j9;omega),h.below.trans (hk.below h.below.size (λk hk=>by have:=h.j9;omega)),h.j9,h.lm,b7 av h.cE⟩
def set(h:UnpSt bk r m x cs w)(j:J)(v:ax):UnpSt bk r m x (cs.setIfInBounds j v) (w.setCell (ad m j ab) v):=by
 have hk:=(Keeps.refl (λb=>b=m) w).setCell (p:=ad m j ab) rfl v;exact⟨hk.heap h.rd (by have:=h.lm;omega),by simpa using bV h.msg j v,hk.heap h.res (by have:=h.lm;have:=h.j9;omega),h.below.trans (hk.below h.below.size (λk hk=>by have:=h.lm;have:=h.j9;omega)),h.j9,h.lm,h.cE⟩
def max(h:UnpSt bk r m x cs w):x.s.size<=maxLen:=by have:=h.cE;unfold maxLen;omega
end UnpSt
def Vl(x:Rd):(nf x).2.s.size<=x.s.size:=take_size _ _
def Jl(x:Rd):(pb x).2.s.size<=x.s.size:=take_size _ _
variable{w:ai}
def xE{w:ai}{b:J}{t:TypeId}{bt bY bo eo dM fN eb:ax}(h:w.heap[b]?=some (ae #[bt,bY,bo,eo,dM,fN,eb] t (0,0)))(a c v2 d e f g:ax):(((((((w.setCell (ad b 0 ab) a).setCell (ad b 1 ab) c).setCell (ad b 2 ab) v2).setCell (ad b 3 ab) d).setCell (ad b 4 ab) e).setCell (ad b 5 ab) f).setCell (ad b 6 ab) g).heap[b]?=some (ae #[a,c,v2,d,e,f,g] t (0,0)):=by
 have:=bV (bV (bV (bV (bV (bV (bV h 0 a) 1 c) 2 v2) 3 d) 4 e) 5 f) 6 g
 simpa using this
def om(H:aa)(j:J)(q:a1×Rd):a1×Rd:=
 match j with
 | 5=>if H%2<1 then q else({q.1 with bK:=gN (dQ 4 q.2).1},(dQ 4 q.2).2)
 | 4=>if H%4<2 then q else({q.1 with cj:=gN (dQ 2 q.2).1},(dQ 2 q.2).2)
 | 3=>if H%8<4 then q else({q.1 with ch:=gN (dQ 2 q.2).1},(dQ 2 q.2).2)
 | 2=>if H%16<8 then q else({q.1 with a8:=(nf q.2).1},(nf q.2).2)
 | 1=>if H%32<16 then q else({q.1 with sum:=gN (dQ 4 q.2).1},(dQ 4 q.2).2)
 | _=>if H%64<32 then q else({q.1 with lead:=(pb q.2).1},(pb q.2).2)
def mW(H:aa):J->a1×Rd->a1×Rd
 | 0,q=>q
 | j+1,q=>mW H j (om H j q)
def SQ(k:aa)(x:Rd):mW (gj k) 6 (⟨k,0,0,0,[],0,0⟩,x)=wk k x:=by
 unfold wk gj;by_cases a:k=1\/k=2
 .simp[mW,om,a]
 by_cases b:k=3
 .simp[mW,om,b]
 by_cases c:k=4
 .simp[mW,om,c]
 by_cases d:k=5
 .simp[mW,om,d]
 by_cases e:k=6
 .simp[mW,om,e]
 simp[mW,om,a,b,c,d,e]
def tX(m:a1)(a:b5 Addr)(c:J):a6 ax:=#[I m.kind,aP m.bK,bx m.cj,bx m.ch,aq a m.a8.length c,aP m.sum,I m.lead]
def jl(bk:ai)(r m:J)(H:aa)(R:a1×Rd)(j:J)(W:ai):ak:=
 ∃ q a c,mW H j q=R/\UnpSt bk r m q.2 (tX q.1 a c) W/\c3 W a c q.1.a8/\∀ x,a=some x->m<x.block
def jl.skip{bk W:ai}{r m:J}{H:aa}{R:a1×Rd}{j:J}(h:jl bk r m H R (j+1) W)(av:∀ q,om H j q=q):jl bk r m H R j W:=by
 have⟨q,a,c,e,h1⟩:=h;exact⟨q,a,c,by rw[<-e];exact(cV (mW H j) (av q)).symm,h1⟩
def jl.vR{bk W W':ai}{r m:J}{H:aa}{R:a1×Rd}{j:J}{q d:a1×Rd}{a:b5 Addr}{c:J}(e:mW H (j+1) q=R)(av:UnpSt bk r m q.2 (tX q.1 a c) W)(aw:c3 W a c q.1.a8)(ar:∀ x,a=some x->m<x.block)(g:om H j q=d)(hk:Keeps (λb=>b=r) W W')(k:gr W' r d.2)(l:d.2.s.size<=q.2.s.size)(i:J)(v:ax)(hm:tX d.1 a c=(tX q.1 a c).setIfInBounds i v)(h:d.1.a8=q.1.a8):jl bk r m H R j (W'.setCell (ad m i ab) v):=by
 have n:=av.lm;refine⟨om H j q,a,c,e,by rw[g,hm];exact((av.get hk k l).set i v),?_,ar⟩;rw[g,h];exact(aw.keeps hk (λ_ x f=>by have:=ar x f;omega)).keeps ((Keeps.refl (λb=>b=m) W').setCell (p:=ad m i ab) rfl v) (λ_ x f=>by have:=ar x f;omega)
theorem y3{W:ai}(h:Below w w W)(a b v2 c d e f:ax):Below w w (((((((W.setCell (ad w 0 ab) a).setCell (ad w 1 ab) b).setCell (ad w 2 ab) v2).setCell (ad w 3 ab) c).setCell (ad w 4 ab) d).setCell (ad w 5 ab) e).setCell (ad w 6 ab) f):=
 ((((((h.setCell (p:=ad w 0 ab) bs a).setCell (p:=ad w 1 ab) bs b).setCell (p:=ad w 2 ab) bs v2).setCell (p:=ad w 3 ab) bs c).setCell (p:=ad w 4 ab) bs d).setCell (p:=ad w 5 ab) bs e).setCell (p:=ad w 6 ab) bs f
theorem qE.zero{W:ai}(h:Below w w W)(e:aa):qE w a1.zero e (aV #[.agg uS,I e]) W:=⟨none,0,rfl,c3.none _,h,λ_ h=>nK⟩
def Yt(s:cc)(t:ah aR)(av:s.size<=maxLen)(ZM:opened s.data.toList=(t,0))(gf:t.length<=100000):aA 166 #[.string s] w (qE w (rl t).1 (rl t).2):=by
 obtain⟨⟨bO,n⟩,Q'⟩:∃ q,x2 t=q:=⟨_,rfl⟩;obtain⟨⟨N,D⟩,Tq⟩:∃ q,tQ t=q:=⟨_,rfl⟩;obtain⟨k,a'⟩:∃ k,gN N=k:=⟨_,rfl⟩;have mv:=KA s av (w.alloc (ae #[I 0,aP 0,bx 0,bx 0,aq none 0 0,aP 0,I 0] 254));rw[ZM]at mv;have ZY:=af mv;have St:dQ 1 ⟨⟨t.toArray⟩,false⟩=(bO,n):=Q';have g':dQ 1 ⟨n.s,gN bO != 80⟩=(N,D):=by have:=Tq;unfold tQ at this;rwa [Q']at this
 have Z0:=af St;have Z1:=af g';have ZH:=af a';have CW:n.s.size<=t.length:=by have:=take_size 1 ⟨⟨t.toArray⟩,false⟩;rw[St]at this;exact b7 this (by show t.toArray.size<=t.length;simp)
 have ZS:D.s.size<=n.s.size:=by have:=take_size 1 ⟨n.s,gN bO != 80⟩;rw[g']at this;exact this
 have zd:0<=k/\k<65536:=by
  have h1:=take_len 1 ⟨n.s,gN bO != 80⟩;rw[g']at h1;have h2:=Au _ N.data.toList rfl;have Y:N.data.toList.length<=1:=by simpa using h1
  have l':=l7 h2 (rF U Y);rw[<-a'];unfold gN;omega
 have ZJ:=af zd;have Z5:=af gf;have Z3:=af (b7 CW gf);have Z4:=af (b7 ZS (b7 CW gf));have l:=af (show mW (gj k) 6 (⟨k,0,0,0,[],0,0⟩,D)=lN t by rw[SQ];unfold lN;rw[Tq];exact(cV (λq=>wk q D) a').symm);clear mv ZM av Q' Tq St g' a' CW ZS gf
 go_in
 go_wp2_with fail;refine aU ZY.o λao Z=>?_;have ZL:Keeps aI (w.alloc (ae #[I 0,aP 0,bx 0,bx 0,aq none 0 0,aP 0,I 0] 254)) ao:=Keeps.bD Z a7;have m':Below w w ao:=((b3 _ w).alloc bs _).trans (Z.mono aK);have aab:w.heap.size+1<=ao.heap.size:=by have:=Z.size;simpa using this
 have ZO:=ZL.heap (aX w (ae #[I 0,aP 0,bx 0,bx 0,aq none 0 0,aP 0,I 0] 254)) id;clear Z ZL;go_wp2_with fail;have ZN:gr (ao.alloc (ae #[.string ⟨t.toArray⟩,false] 369)) ao.heap.size ⟨⟨t.toArray⟩,false⟩:=aX _ _;have aZ:=yc ZN 1 U (by show(⟨t.toArray⟩:cc).size<=maxLen;have:=Z5.o;simp[ByteArray.size,maxLen];omega);rw[Z0.o]at aZ;refine aU aZ ?_;rintro aC ⟨h2,v'⟩;have T:gr aC ao.heap.size n:=h2;have ZP:=v'.heap (cm ZO _) U;have ps:=(m'.alloc m'.size _).trans (v'.below (B:=w.heap.size) bT a7);have f1:=bI T;have Z6:=aS T;clear aZ h2 v' ZN ZO m';have Y:=T.Cw (gN bO != 80);have w':Keeps (λb=>b=ao) aC (aC.setCell (ad ao 1 ab) (.bool (gN bO != 80))):=(Keeps.refl (λb=>b=ao) aC).setCell (p:=ad ao 1 ab) rfl _;have ZQ:=w'.heap ZP U;have r':=ps.trans (w'.below ps.size a7);have aZ:=yc Y 1 U (by have:=Z3.out;show n.s.size<=maxLen;unfold maxLen;omega);rw[Z1.out]at aZ;have ZI:=af aZ;clear aZ T ZP ps w' Y;rw[show((h4 (bO,n).1.data.toList:J):aa)=gN bO from rfl];go_wp2_with fail;refine aU ZI.o ?_;rintro i ⟨l',ys⟩;have hd:gr i ao.heap.size D:=l';have ZR:=ys.heap ZQ U;have sd:=r'.trans (ys.below r'.size a7);have Z_:=bP hd;clear ZI l' ys ZQ r' f1 Z6;rw[show((h4 (N,D).1.data.toList:J):aa)=k from ZH.out];have zd:=ZJ.out;have j:jl w ao.heap.size i.heap.size (gj k) (lN t) 6 (i.alloc (ae #[I k,aP 0,bx 0,bx 0,aq none 0 0,aP 0,I 0] 254)):=⟨_,none,0,l.out,
 show UnpSt w ao.heap.size i.heap.size D #[I k,aP 0,bx 0,bx 0,aq none 0 0,aP 0,I 0] (i.alloc (ae #[I k,aP 0,bx 0,bx 0,aq none 0 0,aP 0,I 0] 254))from
  ⟨hd.keeps ((ba i).alloc _) id,aX _ _,cm ZR _,sd.alloc sd.size _,U,Z_,Z4.out⟩,c3.none _,λ_ h=>nK⟩
 clear hd ZR sd;go_wp2_with fail;refine bA (rn k _) ?_;have⟨H,hH⟩:=cO (gj k);have vl:=IH k;rw[<-hH]at j vl;rw[<-hH];generalize World.alloc i _=aac at *;have r:=af (FJ vl);clear vl hH l ZH ZJ zd;go_upto_if 36 with fail
 go_cut [] (jl w ao.heap.size i.heap.size H (lN t) 5)
 case first=>
  have⟨q,a,c,e,av,aw,ar⟩:=j;rw[r.o.1];by_cases aO:H%2<1
  .exact vh
  rw[dd aO];have aZ:=af (Hn av.rd 4 U av.max);have f:=af (λW'=>jl.vR (W':=W') e av aw ar (az aO));have g:=af av;clear e av aw ar;go_wp2_with fail;refine aU aZ.o ?_;rintro C ⟨d,hk⟩;have V:=g.out.get hk d (take_size 4 q.2);have P:=bI V.msg;have O:=aS V.msg;have f:=af (f.out _ hk d (take_size 4 q.2) 1 (aP _) rfl trivial);exact w9
 have j:=hcut;clear hcut;go_upto_if 42 with fail
 go_cut [] (jl w ao.heap.size i.heap.size H (lN t) 4)
 case first=>
  have⟨q,a,c,e,av,aw,ar⟩:=j;rw[r.out.2.1];by_cases aO:H%4<2
  .exact vh
  rw[dd aO];have aZ:=af (yc av.rd 2 U av.max);have f:=af (λW'=>jl.vR (W':=W') e av aw ar (az aO));have g:=af av;clear e av aw ar;go_wp2_with fail;refine aU aZ.o ?_;rintro C ⟨d,hk⟩;have V:=g.out.get hk d (take_size 2 q.2);have P:=bI V.msg;have O:=aS V.msg;have f:=af (f.out _ hk d (take_size 2 q.2) 2 (bx _) rfl trivial);exact w9
 have j:=hcut;clear hcut;go_upto_if 48 with fail
 go_cut [] (jl w ao.heap.size i.heap.size H (lN t) 3)
 case first=>
  have⟨q,a,c,e,av,aw,ar⟩:=j;rw[r.out.2.2.1];by_cases aO:H%8<4
  .exact vh
  rw[dd aO];have aZ:=af (yc av.rd 2 U av.max);have f:=af (λW'=>jl.vR (W':=W') e av aw ar (az aO));have g:=af av;clear e av aw ar;go_wp2_with fail;refine aU aZ.o ?_;rintro C ⟨d,hk⟩;have V:=g.out.get hk d (take_size 2 q.2);have P:=bI V.msg;have O:=aS V.msg;have f:=af (f.out _ hk d (take_size 2 q.2) 3 (bx _) rfl trivial);exact w9
 have j:=hcut;clear hcut;go_upto_if 54 with fail
 go_cut [] (jl w ao.heap.size i.heap.size H (lN t) 2)
 case first=>
  have⟨q,a,c,e,av,aw,ar⟩:=j;rw[r.out.2.2.2.1];by_cases aO:H%16<8
  .exact vh
  rw[dd aO];have aZ:=af (Vo av.rd av.max);have f:=b6 e (bB (show om H 2 q=_ from az aO) av);clear e av aw ar;go_wp2_with fail;refine aZ.o.mono ?_;rintro _ C ⟨v,rfl,zp,d,hk⟩;obtain⟨e,Aw,av⟩:=f.out;obtain⟨A,cap,rfl,Q⟩:=IS zp;obtain⟨cB,aaa,ZX,_,ZK⟩:=cS zp;cases ZX;have Z9:=bP av.msg;have Z8:=av.j9;have Z7:=av.lm;have ar:∀ x,A=some x->i.heap.size<x.block:=λx u=>l7 Z9 (ZK x u).1;have V:=av.get hk d (Vl q.2);have P:=bI V.msg;have O:=aS V.msg;have f:=af (show jl w ao.heap.size i.heap.size H (lN t) 2 (C.setCell (ad i 4 ab) (.slice A (nf q.2).1.length cap))from⟨_,A,cap,e,by rw[Aw];exact V.set 4 _,by rw[Aw];exact Q.keeps ((Keeps.refl (λb=>b=i) C).setCell (p:=ad i 4 ab) rfl _) (λ_ x u=>by have:=ar x u;omega),ar⟩);clear V aZ d hk e Aw av Q zp ZK ar;go_wp2_with fail;go_meet;exact f.o
 have j:=hcut;clear hcut;go_upto_if 60 with fail
 go_cut [] (jl w ao.heap.size i.heap.size H (lN t) 1)
 case first=>
  have⟨q,a,c,e,av,aw,ar⟩:=j;rw[r.out.2.2.2.2.1];by_cases aO:H%32<16
  .exact vh
  rw[dd aO];have aZ:=af (Hn av.rd 4 U av.max);have f:=af (λW'=>jl.vR (W':=W') e av aw ar (az aO));have g:=af av;clear e av aw ar;go_wp2_with fail;refine aU aZ.o ?_;rintro C ⟨d,hk⟩;have V:=g.out.get hk d (take_size 4 q.2);have P:=bI V.msg;have O:=aS V.msg;have f:=af (f.out _ hk d (take_size 4 q.2) 5 (aP _) rfl trivial);exact w9
 have j:=hcut;clear hcut;go_upto_if 66 with fail
 go_cut [] (jl w ao.heap.size i.heap.size H (lN t) 0)
 case first=>
  have⟨q,a,c,e,av,aw,ar⟩:=j;rw[r.out.2.2.2.2.2];by_cases aO:H%64<32
  .exact vh
  rw[dd aO];have aZ:=af (Vn av.rd av.max);have f:=af (λW'=>jl.vR (W':=W') e av aw ar (az aO));have g:=af av;clear e av aw ar;go_wp2_with fail;refine aU aZ.o ?_;rintro C ⟨d,hk⟩;have V:=g.out.get hk d (Jl q.2);have P:=bI V.msg;have O:=aS V.msg;have f:=af (f.out _ hk d (Jl q.2) 6 (I _) rfl trivial);exact w9
 have j:=hcut;clear hcut;obtain⟨⟨⟨G,K,iw,E,z,L,lm⟩,y⟩,a,c,e,av,Q,ar⟩:=j;have l:=af (show rl t=if zn (⟨G,K,iw,E,z,L,lm⟩,y)then(a1.zero,4)else(⟨G,K,iw,E,z,L,lm⟩,0)by unfold rl;rw[<-e];rfl);have ZZ:=af (λW (aj:c3 W a c z)=>C7 (w:=W) (m:=⟨G,K,iw,E,z,L,lm⟩) aj);have TS:=aS av.rd;have ZT:=aS av.msg;have ZU:=bI av.res;have ZV:=aS av.res;have g:=af av;have X:=b6 Q ar;clear e av Q ar r;by_cases aj:y.bad=true
 .have M:=af (l.o.trans (aD (.inl aj)));rw[aj]at TS;clear l aj;exact M0
 have lb:y.bad=false:=by simpa using aj
 rw[lb]at TS;by_cases F:y.s.toList=[];rotate_left
 .have M:=af (l.o.trans (aD (.inr (.inl F))));have Z':y.s.toList.isEmpty=false:=by simpa using F
  clear l aj lb F;exact M0
 have Z':y.s.toList.isEmpty=true:=by simpa using F
 have T':=b6 aj F;clear aj lb F;go_wp2_with fail;refine aU (ZZ.o _ X.o.1) λZW s'=>?_;have fr:Keeps aI _ ZW:=Keeps.bD s' a7;have d:=fr.heap g.o.res id;have hm:=fr.heap g.o.msg id;have ZG:=af (g.o.below.trans (s'.mono g.o.below.size));have Z2:=af (X.o.1.keeps fr (λ_ _ _=>id));clear TS ZT ZU ZV s' fr;have ZT:=aS hm;have ZU:=bI d;have ZV:=aS d;have V':=af d;clear d hm;by_cases d:di ⟨G,K,iw,E,z,L,lm⟩;rotate_left
 .have M:=af (l.o.trans (aD (.inr (.inr d))));rw[dd d];clear d;go_wp2_with fail;have R:=aS (xE V'.o (I 0) (aP 0) (bx 0) (bx 0) (aq none 0 0) (aP 0) (I 0));refine cU (v:=aV #[.agg uS,I 4]) Ed rfl ?_;rw[M.o];exact qE.zero (y3 ZG.o _ _ _ _ _ _ _) 4
 have M:=af (l.o.trans (az (λh=>h.elim T'.o.1 λh=>h.elim (λh=>h T'.o.2) λh=>h d)));rw[ee d];clear d;go_wp2_with fail;have R:=aS (xE V'.o (I G) (aP K) (bx iw) (bx E) (aq a z.length c) (aP L) (I lm));refine cU (v:=aV #[.agg (tX ⟨G,K,iw,E,z,L,lm⟩ a c),I 0]) (by simp[results,results166,go_sem,R,tX]) rfl ?_;rw[M.o];have Z8:=g.o.j9;have Z7:=g.o.lm;exact⟨a,c,rfl,Z2.o.keeps (S:=λb=>b=w.heap.size) (((((((Keeps.refl (λb=>b=w) ZW).setCell (p:=ad w 0 ab) rfl _).setCell (p:=ad w 1 ab) rfl _).setCell (p:=ad w 2 ab) rfl _).setCell (p:=ad w 3 ab) rfl _).setCell (p:=ad w 4 ab) rfl _).setCell (p:=ad w 5 ab) rfl _ |>.setCell (p:=ad w 6 ab) rfl _) (λ_ x u=>by have:=X.o.2 x u;omega),y3 ZG.o _ _ _ _ _ _ _,λx u=>by have:=X.o.2 x u;omega⟩
end
def Yv(s:cc)(av:s.size<=maxLen)(l:ah aR)(a:aa)(h:opened s.data.toList=(l,a))(f:a≠0):aA 166 #[.string s] w (qE w a1.zero a):=by
 have b:=KA s av (w.alloc (ae #[I 0,aP 0,bx 0,bx 0,aq none 0 0,aP 0,I 0] 254));rw[h]at b;have i:=af b;have k:(a != 0)=true:=by simp[f]
 clear b h f av
 go_in
 go_wp2_with fail;refine i.o.mono ?_;rintro e ao ⟨rfl,c⟩;have g:Keeps aI (w.alloc (ae #[I 0,aP 0,bx 0,bx 0,aq none 0 0,aP 0,I 0] 254)) ao:=Keeps.bD c a7;have j:Below w w ao:=((b3 _ w).alloc bs _).trans (c.mono aK);have d:=g.heap (aX w (ae #[I 0,aP 0,bx 0,bx 0,aq none 0 0,aP 0,I 0] 254)) id;clear c g;have m:=bI d;have n:=aS d;go_wp2_with fail;have R:=aS (xE d (I 0) (aP 0) (bx 0) (bx 0) (aq none 0 0) (aP 0) (I 0));refine cU (v:=aV #[.agg uS,I a]) Ed rfl ?_;exact qE.zero (y3 j _ _ _ _ _ _ _) a
def Ud(l:ah aR):(opened l).1.length<=l.length:=by
 unfold opened;split
 .exact c' _
 split
 .simp
 exact c' _
def Y1(s:cc)(av:s.size<=100000):aA 166 #[.string s] w (qE w (fw s.data.toList).1 (fw s.data.toList).2):=by
 have hm:s.size<=maxLen:=by unfold maxLen;omega
 unfold fw;by_cases a:(opened s.data.toList).2=0
 .rw[aD a];have b:opened s.data.toList=((opened s.data.toList).1,0):=qv rfl a;have c:(opened s.data.toList).1.length<=100000:=b7 (Ud _) (by simpa using av);generalize (opened s.data.toList).1=t at *;clear a;exact Yt s t hm b c
 rw[az a];exact Yv s hm _ _ rfl a
def oo(n:J)(l r:ah aR)(ar:l.length=n):dQ n ⟨⟨(l++r).toArray⟩,false⟩=(⟨l.toArray⟩,⟨⟨r.toArray⟩,false⟩):=by
 subst ar;have av:(⟨(l++r).toArray⟩:cc).size=l.length+r.length:=by show(l++r).toArray.size=_;simp
 unfold dQ;rw[az (by simp only[av];simp)];refine qv ?_ ?_
 .refine BV _ _ ?_;rw[extract_data];simp
 show Rd.mk _ _=Rd.mk _ _
 congr 1
 refine BV _ _ ?_;simp only[av];rw[extract_data];simp
def xB(l:ah aR):gN ⟨l.toArray⟩=(h4 l:aa):=by simp[gN]
def FC(n:aa)(h:0<=n/\n<4294967296):gN ⟨(eI n).toArray⟩=n:=by
 rw[xB];simp only[eI,h4,oC,rz];rw[pK _ U,pK _ U,pK _ U,pK _ U];omega
def vv(n:aa)(h:0<=n/\n<65536):gN ⟨(iD n).toArray⟩=n:=by
 rw[xB];simp only[iD,h4,oC,rz];rw[pK _ U,pK _ U];omega
def Vk(L:ah aR)(a:fits L=true):nf ⟨⟨(lU L).toArray⟩,false⟩=(L,⟨⟨([]:ah aR).toArray⟩,false⟩):=by
 have h:=Vj L [] a;rw[e4]at h;unfold nf;simp only[h];rw[show((0:aa) != 0)=false by decide,wP];have aO:=oo (lU L).length (lU L) [] rfl;rw[e4]at aO;rw[aO]
def Vm(n:aa)(h:-1000<=n/\n<=1000):pb ⟨⟨(num (fC n)).toArray⟩,false⟩=(n,⟨⟨([]:ah aR).toArray⟩,false⟩):=by
 have h1:=Ce (fC n) (N4 n U) [];rw[e4]at h1;unfold pb;simp only[h1,Yw];rw[show((0:aa) != 0)=false by decide,wP];have aO:=oo (num (fC n)).length (num (fC n)) [] rfl;rw[e4]at aO;rw[aO]
def UB(m:a1)(t:di m)(wf:m.wf):lN (od m)=(m,⟨⟨([]:ah aR).toArray⟩,false⟩):=by
 obtain⟨k,n,s,a,i,u,l⟩:=m;obtain⟨w,p,q,x,y,z,j,A,B⟩:=t;obtain⟨_,wn,h,o,v,_⟩:=wf;simp only at *;have h1:x2 (od ⟨k,n,s,a,i,u,l⟩)=(⟨[(80:aR)].toArray⟩,⟨⟨(UInt8.ofNat k.toNat :: rQ ⟨k,n,s,a,i,u,l⟩).toArray⟩,false⟩):=oo 1 [80] _ rfl;have aj:(gN ⟨[(80:aR)].toArray⟩ != 80)=false:=by rw[xB];rfl
 have h2:tQ (od ⟨k,n,s,a,i,u,l⟩)=(⟨[UInt8.ofNat k.toNat].toArray⟩,⟨⟨(rQ ⟨k,n,s,a,i,u,l⟩).toArray⟩,false⟩):=by
  unfold tQ;rw[h1];simp only;rw[aj];exact oo 1 [UInt8.ofNat k.toNat] _ rfl
 have r:gN ⟨[UInt8.ofNat k.toNat].toArray⟩=k:=by
  rw[xB];simp only[h4,oC,rz];rw[pK _ U];omega
 unfold lN;rw[h2];simp only;rw[r];unfold wk rQ;simp only;by_cases c:k=1\/k=2
 .rw[aD c,aD c];have aO:=oo 4 (eI n) [] rfl;rw[e4]at aO;rw[aO,FC n wn];have e:=IJ j U;exact L2
 rw[az c,az c];by_cases b:k=3
 .rw[aD b,aD b];rw[dD,oo 2 (iD s) _ rfl];simp only;rw[oo 2 (iD a) _ rfl];simp only;rw[Vk i p,vv s h,vv a o];simp only[jA,a1.mk.injEq,and_true,true_and];exact⟨U,U,U⟩
 have e:=IJ j b;rw[az b,az b];by_cases d:k=4
 .rw[aD d,aD d,oo 2 (iD s) _ rfl];simp only;have aO:=oo 4 (eI u) [] rfl;rw[e4]at aO;rw[aO,vv s h,FC u v];exact L7
 rw[az d,az d];by_cases f:k=5
 .rw[aD f,aD f];have aO:=oo 2 (iD a) [] rfl;rw[e4]at aO;rw[aO,vv a o];exact L2
 rw[az f,az f];by_cases g:k=6
 .rw[aD g,aD g,oo 2 (iD s) _ rfl];simp only;rw[Vm l q,vv s h];exact L7
 rw[az g,az g];simp only[jA,a1.mk.injEq,and_true,true_and];exact⟨U,U,U,e.symm,U,U⟩
def Ys(m:a1)(a:di m)(wf:m.wf):rl (od m)=(m,0):=by
 unfold rl;rw[UB m a wf,az];rintro(h|h|h)
 .cases h
 .exact h (by simp[wQ])
 exact h a
variable{m:a1}
def Ue(l:ah aR):opened (iO l)=(l,0):=by
 unfold opened iO;rw[if_neg (by simp[sv])];have e:(l++eI (more 1 l)).length-4=l.length:=by simp[sv]
 rw[e,zN];simp
def CX(m:a1)(a:di m)(wf:m.wf):fw (dn m)=(m,0):=by
 unfold fw dn;rw[Ue,if_pos rfl];exact Ys m a wf
end Go.Proofs.YtalagblioepadaaGreatDoor
