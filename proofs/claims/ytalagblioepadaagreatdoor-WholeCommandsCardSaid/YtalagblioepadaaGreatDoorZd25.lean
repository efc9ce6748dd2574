/- The proof, part 25. -/
import Derived.Test.YtalagblioepadaaGreatDoorZd23
import Derived.Test.YtalagblioepadaaGreatDoorZd06
import Derived.Deep.DeepCutAuto
namespace Go.Proofs.YtalagblioepadaaGreatDoor
set_option linter.all false
open Proofs.Tryz List Go.RowKit
set_option maxRecDepth 100000
set_option maxHeartbeats 4000000
def EL{p:al}(h:p:=by simp[results,results166,go_sem,R,vg]):p:=h
def AJ{p:al}(h:p:=by
 have A:=ag (λv W=>k6.put (v:=v) (W':=W) ak f (aB aK));clear b f ak av d;go_wp2_with fail;refine q.o.mono ?_;rintro _ bq ⟨v3,rfl,O,hd⟩;have D:=ag (A.out _ _ (by rw[cx];exact Jx O) hd);clear O hd A q;go_wp2_with fail;go_meet;exact D.o
 ):p:=h
def NJ{p:al}(h:p:=by
 go_wp2_with fail;have R:=aO (xW g.o.res (I 0) (aR 0) (bC 0) (bC 0) (aq none 0 0) (aR 0) (I 0));refine c1 (v:=aY #[.agg vg,I 4]) EL rfl ?_;rw[M.o];exact qY.zero (zl g.o.below _ _ _ _ _ _ _) 4
 ):p:=h
def NW{p:al}(h:p:=by
 intro zp Aw a' h2 _;rw[YA]at a';have D:=ag (A.o _ _ (by rw[cx];exact Jx a') (ab.grown h2 d (λk e=>(b.lt k e).1)));clear a' h2 A q b ab d;go_wp2_with fail;go_meet;exact D.o
 ):p:=h
def vy{p:al}(h:p:=by
 rw[ei aK];have f:=ag (jC.skip ⟨q,a,c,e,aw,ax,av⟩ (λq=>aE aK));clear e aw ax av;go_wp2_with fail;go_meet;exact f.o
 ):p:=h
def vh{p:al}(h:p:=by
 rw[ei aK];have D:=ag (g.skip (aE aK));clear g;go_wp2_with fail;go_meet;exact D.o
 ):p:=h
def MF{p:al}(h:p:=by
 simp only[jR,a6.mk.injEq,and_true,true_and];exact⟨U,U,e.symm,U,U⟩
 ):p:=h
def MK{p:al}(h:p:=by
 simp only[jR,a6.mk.injEq,and_true,true_and];exact⟨U,U,e.symm,U⟩
 ):p:=h
def xq{p:al}(h:p:=by
 clear V aZ g d hk;go_wp2_with fail;go_meet;exact f.o
 ):p:=h
section
open Go.Lib (strCells)
variable{w:aj}{a:b_ Addr}{c:J}
def YA(l:ah aT):strCells ⟨l.toArray⟩=l.map er:=by simp[strCells,er]
def Jx{w:aj}{base n:J}{v:ay}{l r:ah aT}(h:w.ownsRow base 5 1 v n (l.map er++r.map er)):w.ownsRow base 5 1 v n ((l++r).map er):=by
 rwa [jx]
def DP(l:ah aT):(⟨l.toArray⟩:ch).size=l.length:=by simp[ByteArray.size]
def Gj{H:aa}(h:H=0\/H=1\/H=4\/H=14\/H=18\/H=34):(bits .and .i64 H 1 != 0)=!decide (H%2<1)/\(bits .and .i64 H 2 != 0)=!decide (H%4<2)/\(bits .and .i64 H 4 != 0)=!decide (H%8<4)/\(bits .and .i64 H 8 != 0)=!decide (H%16<8)/\(bits .and .i64 H 16 != 0)=!decide (H%32<16)/\(bits .and .i64 H 32 != 0)=!decide (H%64<32):=by
 rcases h with rfl|rfl|rfl|rfl|rfl|rfl<;>decide
def Jl(k:aa):gv k=0\/gv k=1\/gv k=4\/gv k=14\/gv k=18\/gv k=34:=by unfold gv;(repeat' split)<;>simp
def qk(H:aa)(m:a6)(j:J):ah aT:=
 match j with
 | 5=>if H%2<1 then []else eS m.bQ
 | 4=>if H%4<2 then []else iT m.cr
 | 3=>if H%8<4 then []else iT m.cp
 | 2=>if H%16<8 then []else l_ m.a_
 | 1=>if H%32<16 then []else eS m.sum
 | _=>if H%64<32 then []else num (fN m.lead)
def nJ(H:aa)(m:a6):J->ah aT
 | 0=>[]
 | j+1=>qk H m j++nJ H m j
def YI(m:a6):nJ (gv m.kind) m 6=r8 m:=by
 unfold r8 gv;by_cases a:m.kind=1\/m.kind=2
 .simp[nJ,qk,a]
 by_cases b:m.kind=3
 .simp[nJ,qk,b]
 by_cases c:m.kind=4
 .simp[nJ,qk,c]
 by_cases d:m.kind=5
 .simp[nJ,qk,d]
 by_cases e:m.kind=6
 .simp[nJ,qk,e]
 simp[nJ,qk,a,b,c,d,e]
structure k6(w ao:aj)(R:ah aT)(H:aa)(m:a6)(j:J)(s:ay)(W:aj):al where
 ex:∃ L:ah aT,W.ownsRow (w.heap.size+1) 5 1 s L.length (L.map er)/\L++nJ H m j=R
 below:Below (w.heap.size+1) ao W
def k6.skip{w ao W:aj}{R:ah aT}{H:aa}{m:a6}{j:J}{s:ay}(h:k6 w ao R H m (j+1) s W)(aw:qk H m j=[]):k6 w ao R H m j s W:=by
 have⟨⟨L,h1,h2⟩,a⟩:=h;exact⟨⟨L,h1,by unfold nJ at h2;rw[aw]at h2;exact h2⟩,a⟩
theorem k6.put{w ao W W':aj}{R L X:ah aT}{H:aa}{m:a6}{j:J}{v:ay}(h:Below (w.heap.size+1) ao W)(a:L++nJ H m (j+1)=R)(aw:qk H m j=X)(b:W'.ownsRow (w.heap.size+1) 5 1 v (L++X).length ((L++X).map er))(ak:Below (w.heap.size+1) W W'):k6 w ao R H m j v W':=
 ⟨⟨L++X,b,by rw[<-a,<-aw,dL];rfl⟩,h.trans ak⟩
def U9(m:a6)(h:c' w a c m.a_)(C:ds m)(hw:m.wf):aA 135 #[(aL #[I m.kind,aR m.bQ,bC m.cr,bC m.cp,aq a m.a_.length c,aR m.sum,I m.lead])] w λe w'=>e=aY #[.string ⟨(dv m).toArray⟩,I 0]/\Below w w w':=by
 have Q:=DC (m:=m) (h.keeps ((bb w).alloc (af #[I m.kind,aR m.bQ,bC m.cr,bC m.cp,aq a m.a_.length c,aR m.sum,I m.lead] 254)) (λ_ _ _=>id));rw[ei C]at Q;have l':=ag Q;have T:=JV _ C;have N:oE m=[80,UInt8.ofNat m.kind.toNat]++nJ (gv m.kind) m 6:=by rw[YI];rfl
 unfold dv;obtain⟨R,gf⟩:∃ R,oE m=R:=⟨_,rfl⟩;obtain⟨H,G⟩:∃ H,gv m.kind=H:=⟨_,rfl⟩;have x:=ag (Gj (G▸Jl m.kind));rw[gf]at T N⊢;rw[G]at N;have m':=ag N;have r:=ag T;have lb:=ag G;have E:=ag C;have F:=ag hw;have ps:=ag h;have hk:=C.1;have s':IntKind.u8.wrap m.kind=((UInt8.ofNat m.kind.toNat).toNat:aa):=by
  obtain⟨k,n,s,v',i,u,l⟩:=m;simp only at *;obtain rfl|rfl|rfl|rfl|rfl|rfl|rfl:k=1\/k=2\/k=3\/k=4\/k=5\/k=6\/k=7:=U
  all_goals rfl
 obtain⟨z,d⟩:∃ z:aa,((UInt8.ofNat m.kind.toNat).toNat:aa)=z:=⟨_,rfl⟩;rw[d]at s';have r':=ag d;clear d;clear Q C T N gf G hw h hk
 go_in
 go_wp2_with fail;refine aW l'.o λao M=>?_;have j:w.heap.size+1<=ao.heap.size:=by have:=M.size;simpa using this
 have K:=((b7 _ w).alloc bx _).trans (M.mono aM);have cI:=ag ((Keeps.bJ (S:=aG) M a8).heap (aX w _) id);have zd:=aO cI.o;clear M;go_wp2_with fail;refine bE (rL _ _) ?_;rw[lb.o];have g:k6 w ao R H m 6 (aq (some (ae ao 0 ad)) 2 2) (ao.alloc (af #[aH 80,aH z] 5)):=⟨⟨[80,UInt8.ofNat m.kind.toNat],by rw[<-r'.o];exact U5 j 80 _,m'.o.symm⟩,(b7 _ ao).alloc j _⟩;go_upto_if 20 with fail
 go_cut [5] (k6 w ao R H m 5)
 case first=>
  rw[x.o.1];by_cases aK:H%2<1
  .exact vh
  rw[di aK];have⟨⟨L,b,f⟩,ak⟩:=g;have av:L.length<=4096:=by have:=r.o;rw[<-f,cx]at this;omega
  have d:=ca j ak.size;have y:=(ak.cell (p:=ae w 1 ad) aM).trans (bf cI.o (k:=1) rfl);have q:=ag (LK b d av m.bQ F.o.bQ);exact AJ
 have g:=hcut;clear hcut;go_upto_if 27 with fail
 go_cut [5] (k6 w ao R H m 4)
 case first=>
  rw[x.out.2.1];by_cases aK:H%4<2
  .exact vh
  rw[di aK];have⟨⟨L,b,f⟩,ak⟩:=g;have av:L.length<=4096:=by have:=r.out;rw[<-f,cx]at this;omega
  have d:=ca j ak.size;have y:=(ak.cell (p:=ae w 2 ad) aM).trans (bf cI.out (k:=2) rfl);have q:=ag (LJ b d av m.cr F.out.cr);exact AJ
 have g:=hcut;clear hcut;go_upto_if 34 with fail
 go_cut [5] (k6 w ao R H m 3)
 case first=>
  rw[x.out.2.2.1];by_cases aK:H%8<4
  .exact vh
  rw[di aK];have⟨⟨L,b,f⟩,ak⟩:=g;have av:L.length<=4096:=by have:=r.out;rw[<-f,cx]at this;omega
  have d:=ca j ak.size;have y:=(ak.cell (p:=ae w 3 ad) aM).trans (bf cI.out (k:=3) rfl);have q:=ag (LJ b d av m.cp F.out.cp);exact AJ
 have g:=hcut;clear hcut;go_upto_if 41 with fail
 go_cut [5] (k6 w ao R H m 2)
 case first=>
  rw[x.out.2.2.2.1];by_cases aK:H%16<8
  .exact vh
  rw[di aK];have⟨⟨L,b,f⟩,ak⟩:=g;have av:L.length<=4096:=by have:=r.out;rw[<-f,cx]at this;omega
  have d:=ca j ak.size;have y:=(ak.cell (p:=ae w 4 ad) aM).trans (bf cI.out (k:=4) rfl);have q:=ag (U8 _ a c m.a_ (ps.out.keeps (Keeps.bJ (S:=aG) (K.trans (ak.mono U)) a8) (λ_ _ _=>id)) E.out.2.1);have A:=ag (λv W=>k6.put (v:=v) (W':=W) ak f (aB aK));have B:=bW b (bD ak av);clear b f ak av d;go_wp2_with fail;refine aW q.o λvl t=>?_;obtain⟨b,ak,av⟩:=B.o;have d:=ca j ak.size;have b:=b5 b (Keeps.bJ (S:=aG) t a8) (λ_ _=>id);have ab:=t.mono d;have d:=ca d t.size;obtain⟨Z,ax,V,X,Y⟩:=nP t';have P:=ag ax;have O:(⟨(l_ m.a_).toArray⟩:ch).size<=138:=by rw[DP];exact Kc m.a_ E.out.2.1
  clear ax B ak;go_wp2_with (at_builtin;refine Mc _ rfl (.tmp 51) (.tmp 52) 51 9 rfl (w.heap.size+1) 5 Z underlying51 underlying9 P.o V X Y _ L.length _ rfl b ⟨(l_ m.a_).toArray⟩ rfl kd U d ?_);exact NW
 have g:=hcut;clear hcut;go_upto_if 56 with fail
 go_cut [5] (k6 w ao R H m 1)
 case first=>
  rw[x.out.2.2.2.2.1];by_cases aK:H%32<16
  .exact vh
  rw[di aK];have⟨⟨L,b,f⟩,ak⟩:=g;have av:L.length<=4096:=by have:=r.out;rw[<-f,cx]at this;omega
  have d:=ca j ak.size;have y:=(ak.cell (p:=ae w 5 ad) aM).trans (bf cI.out (k:=5) rfl);have q:=ag (LK b d av m.sum F.out.sum);exact AJ
 have g:=hcut;clear hcut;go_upto_if 63 with fail
 go_cut [5] (k6 w ao R H m 0)
 case first=>
  rw[x.out.2.2.2.2.2];by_cases aK:H%64<32
  .exact vh
  rw[di aK];have⟨⟨L,b,f⟩,ak⟩:=g;have av:L.length<=4096:=by have:=r.out;rw[<-f,cx]at this;omega
  have d:=ca j ak.size;have y:=(ak.cell (p:=ae w 6 ad) aM).trans (bf cI.out (k:=6) rfl);have q:=ag (Jz m.lead (by have:=E.out.2.2.1;omega) wc);have A:=ag (λv W=>k6.put (v:=v) (W':=W) ak f (aB aK));have B:=bW b (bD ak av);clear b f ak av d;go_wp2_with fail;refine aW q.o λvl t=>?_;obtain⟨b,ak,av⟩:=B.o;have d:=ca j ak.size;have b:=b5 b (Keeps.bJ (S:=aG) t a8) (λ_ _=>id);have ab:=t.mono d;have d:=ca d t.size;obtain⟨Z,ax,V,X,Y⟩:=nP t';have P:=ag ax;have O:(⟨(num (fN m.lead)).toArray⟩:ch).size<=138:=by rw[DP];exact by have:=OP m.lead E.out.2.2.1;omega
  clear ax B ak;go_wp2_with (at_builtin;refine Mc _ rfl (.tmp 64) (.tmp 67) 51 9 rfl (w.heap.size+1) 5 Z underlying51 underlying9 P.o V X Y _ L.length _ rfl b ⟨(num (fN m.lead)).toArray⟩ rfl kd U d ?_);exact NW
 have g:=hcut;clear hcut;have⟨⟨L,b,f⟩,ak⟩:=g;have fr:L=R:=by rw[<-f];exact(eB L).symm
 rw[fr]at b;have sd:=GV R b;clear f fr;go_wp2_with fail;refine aW (YF ⟨R.toArray⟩ (by rw[DP];have:=r.out;omega) _) λys g'=>?_;have hfin:=(K.trans (ak.mono U)).trans (g'.mono (ca K.size ak.size));clear g' b ak sd K;go_wp2_with fail;go_ret2;exact⟨aM,hfin⟩
end
variable{w:aj}{a:b_ Addr}{c:J}
def yX(m:a6):ah aT:=if ds m then dv m else []
def yW(m:a6):aa:=if ds m then 0 else 1
def ZH(m:a6)(h:c' w a c m.a_)(d:m.wf):aA 135 #[(aL #[I m.kind,aR m.bQ,bC m.cr,bC m.cp,aq a m.a_.length c,aR m.sum,I m.lead])] w λe w'=>e=aY #[.string ⟨(yX m).toArray⟩,I (yW m)]/\Below w w w':=by
 unfold yX yW;by_cases b:ds m
 .rw[aE b,aE b];exact U9 m h b d
 rw[aB b,aB b];exact ZI m h b
section
def gY(b:ch):aa:=((ik b.data.toList:J):aa)
def wG(k:aa)(x:Rd):a6×Rd:=
 if k=1\/k=2 then(⟨k,gY (ea 4 x).1,0,0,[],0,0⟩,(ea 4 x).2)
 else if k=3 then(⟨k,0,gY (ea 2 x).1,gY (ea 2 (ea 2 x).2).1,(nA (ea 2 (ea 2 x).2).2).1,0,0⟩,(nA (ea 2 (ea 2 x).2).2).2)
 else if k=4 then(⟨k,0,gY (ea 2 x).1,0,[],gY (ea 4 (ea 2 x).2).1,0⟩,(ea 4 (ea 2 x).2).2)
 else if k=5 then(⟨k,0,0,gY (ea 2 x).1,[],0,0⟩,(ea 2 x).2)
 else if k=6 then(⟨k,0,gY (ea 2 x).1,0,[],0,(pw (ea 2 x).2).1⟩,(pw (ea 2 x).2).2)
 else(⟨k,0,0,0,[],0,0⟩,x)
def yi(t:ah aT):ch×Rd:=ea 1 ⟨⟨t.toArray⟩,false⟩
def ud(t:ah aT):ch×Rd:=ea 1 ⟨(yi t).2.s,gY (yi t).1 != 80⟩
def l4(t:ah aT):a6×Rd:=wG (gY (ud t).1) (ud t).2
def zL(p:a6×Rd):al:=p.2.bad=true\/p.2.s.toList≠[]\/¬ ds p.1
instance (p:a6×Rd):Decidable (zL p):=by unfold zL;infer_instance
def rJ(t:ah aT):a6×aa:=if zL (l4 t)then(a6.zero,4)else((l4 t).1,0)
def fG(l:ah aT):a6×aa:=if (opened l).2=0 then rJ (opened l).1 else(a6.zero,(opened l).2)
def qY(w:aj)(m:a6)(b:aa)(e:Ending)(w':aj):al:=∃ a c,e=aY #[(aL #[I m.kind,aR m.bQ,bC m.cr,bC m.cp,aq a m.a_.length c,aR m.sum,I m.lead]),I b]/\c' w' a c m.a_/\Below w w w'/\∀ x,a=some x->w.heap.size<=x.block
def vg:a7 ay:=#[I 0,aR 0,bC 0,bC 0,aq none 0 0,aR 0,I 0]
structure UnpSt(bn:aj)(r m:J)(x:Rd)(cs:a7 ay)(w:aj):al where
 rd:gH w r x
 msg:w.heap[m]?=some (af cs 254 (0,0))
 res:w.heap[bn.heap.size]?=some (af vg 254 (0,0))
 below:Below bn bn w
 kn:bn.heap.size<r
 lm:r<m
 cM:x.s.size<=100000
namespace UnpSt
variable{bn w w':aj}{r m:J}{x ee:Rd}{cs:a7 ay}
theorem get(h:UnpSt bn r m x cs w)(hk:Keeps (λb=>b=r) w w')(h2:gH w' r ee)(aw:ee.s.size<=x.s.size):UnpSt bn r m ee cs w':=
 ⟨h2,hk.heap h.msg (by have:=h.lm;omega),hk.heap h.res (by have:=h.kn;omega),h.below.trans (hk.below h.below.size (λk hk=>by have:=h.kn;omega)),h.kn,h.lm,ca aw h.cM⟩
def set(h:UnpSt bn r m x cs w)(j:J)(v:ay):UnpSt bn r m x (cs.setIfInBounds j v) (w.setCell (ae m j ad) v):=by
 have hk:=(Keeps.refl (λb=>b=m) w).setCell (p:=ae m j ad) rfl v;exact⟨hk.heap h.rd (by have:=h.lm;omega),by simpa using b3 h.msg j v,hk.heap h.res (by have:=h.lm;have:=h.kn;omega),h.below.trans (hk.below h.below.size (λk hk=>by have:=h.lm;have:=h.kn;omega)),h.kn,h.lm,h.cM⟩
def max(h:UnpSt bn r m x cs w):x.s.size<=maxLen:=by have:=h.cM;unfold maxLen;omega
end UnpSt
def VZ(x:Rd):(nA x).2.s.size<=x.s.size:=take_size _ _
def J1(x:Rd):(pw x).2.s.size<=x.s.size:=take_size _ _
variable{w:aj}
def xW{w:aj}{b:J}{t:TypeId}{bz b6 bw eC dY fV ek:ay}(h:w.heap[b]?=some (af #[bz,b6,bw,eC,dY,fV,ek] t (0,0)))(a c v2 d e f g:ay):(((((((w.setCell (ae b 0 ad) a).setCell (ae b 1 ad) c).setCell (ae b 2 ad) v2).setCell (ae b 3 ad) d).setCell (ae b 4 ad) e).setCell (ae b 5 ad) f).setCell (ae b 6 ad) g).heap[b]?=some (af #[a,c,v2,d,e,f,g] t (0,0)):=by
 have:=b3 (b3 (b3 (b3 (b3 (b3 (b3 h 0 a) 1 c) 2 v2) 3 d) 4 e) 5 f) 6 g
 simpa using this
def oJ(H:aa)(j:J)(q:a6×Rd):a6×Rd:=
 match j with
 | 5=>if H%2<1 then q else({q.1 with bQ:=gY (ea 4 q.2).1},(ea 4 q.2).2)
 | 4=>if H%4<2 then q else({q.1 with cr:=gY (ea 2 q.2).1},(ea 2 q.2).2)
 | 3=>if H%8<4 then q else({q.1 with cp:=gY (ea 2 q.2).1},(ea 2 q.2).2)
 | 2=>if H%16<8 then q else({q.1 with a_:=(nA q.2).1},(nA q.2).2)
 | 1=>if H%32<16 then q else({q.1 with sum:=gY (ea 4 q.2).1},(ea 4 q.2).2)
 | _=>if H%64<32 then q else({q.1 with lead:=(pw q.2).1},(pw q.2).2)
def nr(H:aa):J->a6×Rd->a6×Rd
 | 0,q=>q
 | j+1,q=>nr H j (oJ H j q)
def Tz(k:aa)(x:Rd):nr (gv k) 6 (⟨k,0,0,0,[],0,0⟩,x)=wG k x:=by
 unfold wG gv;by_cases a:k=1\/k=2
 .simp[nr,oJ,a]
 by_cases b:k=3
 .simp[nr,oJ,b]
 by_cases c:k=4
 .simp[nr,oJ,c]
 by_cases d:k=5
 .simp[nr,oJ,d]
 by_cases e:k=6
 .simp[nr,oJ,e]
 simp[nr,oJ,a,b,c,d,e]
def uk(m:a6)(a:b_ Addr)(c:J):a7 ay:=#[I m.kind,aR m.bQ,bC m.cr,bC m.cp,aq a m.a_.length c,aR m.sum,I m.lead]
def jC(bn:aj)(r m:J)(H:aa)(R:a6×Rd)(j:J)(W:aj):al:=
 ∃ q a c,nr H j q=R/\UnpSt bn r m q.2 (uk q.1 a c) W/\c' W a c q.1.a_/\∀ x,a=some x->m<x.block
def jC.skip{bn W:aj}{r m:J}{H:aa}{R:a6×Rd}{j:J}(h:jC bn r m H R (j+1) W)(aw:∀ q,oJ H j q=q):jC bn r m H R j W:=by
 have⟨q,a,c,e,h1⟩:=h;exact⟨q,a,c,by rw[<-e];exact(c5 (nr H j) (aw q)).symm,h1⟩
def jC.wg{bn W W':aj}{r m:J}{H:aa}{R:a6×Rd}{j:J}{q d:a6×Rd}{a:b_ Addr}{c:J}(e:nr H (j+1) q=R)(aw:UnpSt bn r m q.2 (uk q.1 a c) W)(ax:c' W a c q.1.a_)(av:∀ x,a=some x->m<x.block)(g:oJ H j q=d)(hk:Keeps (λb=>b=r) W W')(k:gH W' r d.2)(l:d.2.s.size<=q.2.s.size)(i:J)(v:ay)(hm:uk d.1 a c=(uk q.1 a c).setIfInBounds i v)(h:d.1.a_=q.1.a_):jC bn r m H R j (W'.setCell (ae m i ad) v):=by
 have n:=aw.lm;refine⟨oJ H j q,a,c,e,by rw[g,hm];exact((aw.get hk k l).set i v),?_,av⟩;rw[g,h];exact(ax.keeps hk (λ_ x f=>by have:=av x f;omega)).keeps ((Keeps.refl (λb=>b=m) W').setCell (p:=ae m i ad) rfl v) (λ_ x f=>by have:=av x f;omega)
theorem zl{W:aj}(h:Below w w W)(a b v2 c d e f:ay):Below w w (((((((W.setCell (ae w 0 ad) a).setCell (ae w 1 ad) b).setCell (ae w 2 ad) v2).setCell (ae w 3 ad) c).setCell (ae w 4 ad) d).setCell (ae w 5 ad) e).setCell (ae w 6 ad) f):=
 ((((((h.setCell (p:=ae w 0 ad) bx a).setCell (p:=ae w 1 ad) bx b).setCell (p:=ae w 2 ad) bx v2).setCell (p:=ae w 3 ad) bx c).setCell (p:=ae w 4 ad) bx d).setCell (p:=ae w 5 ad) bx e).setCell (p:=ae w 6 ad) bx f
theorem qY.zero{W:aj}(h:Below w w W)(e:aa):qY w a6.zero e (aY #[.agg vg,I e]) W:=⟨none,0,rfl,c'.none _,h,λ_ h=>n1⟩
def Zc(s:ch)(t:ah aT)(aw:s.size<=maxLen)(aaw:opened s.data.toList=(t,0))(fr:t.length<=100000):aA 166 #[.string s] w (qY w (rJ t).1 (rJ t).2):=by
 obtain⟨⟨bR,n⟩,Q'⟩:∃ q,yi t=q:=⟨_,rfl⟩;obtain⟨⟨N,D⟩,Tq⟩:∃ q,ud t=q:=⟨_,rfl⟩;obtain⟨k,ab⟩:∃ k,gY N=k:=⟨_,rfl⟩;have l':=Lb s aw (w.alloc (af #[I 0,aR 0,bC 0,bC 0,aq none 0 0,aR 0,I 0] 254));rw[aaw]at l';have aaI:=ag l';have St:ea 1 ⟨⟨t.toArray⟩,false⟩=(bR,n):=Q';have gf:ea 1 ⟨n.s,gY bR != 80⟩=(N,D):=by have:=Tq;unfold ud at this;rwa [Q']at this
 have aaK:=ag St;have aaL:=ag gf;have aar:=ag ab;have CW:n.s.size<=t.length:=by have:=take_size 1 ⟨⟨t.toArray⟩,false⟩;rw[St]at this;exact ca this (by show t.toArray.size<=t.length;simp)
 have aaC:D.s.size<=n.s.size:=by have:=take_size 1 ⟨n.s,gY bR != 80⟩;rw[gf]at this;exact this
 have zd:0<=k/\k<65536:=by
  have h1:=take_len 1 ⟨n.s,gY bR != 80⟩;rw[gf]at h1;have h2:=AX _ N.data.toList rfl;have Y:N.data.toList.length<=1:=by simpa using h1
  have lb:=mq h2 (rX U Y);rw[<-ab];unfold gY;omega
 have aat:=ag zd;have aaP:=ag fr;have aaN:=ag (ca CW fr);have aaO:=ag (ca aaC (ca CW fr));have l:=ag (show nr (gv k) 6 (⟨k,0,0,0,[],0,0⟩,D)=l4 t by rw[Tz];unfold l4;rw[Tq];exact(c5 (λq=>wG q D) ab).symm);clear l' aaw aw Q' Tq St gf ab CW aaC fr
 go_in
 go_wp2_with fail;refine aW aaI.o λao Z=>?_;have aav:Keeps aG (w.alloc (af #[I 0,aR 0,bC 0,bC 0,aq none 0 0,aR 0,I 0] 254)) ao:=Keeps.bJ Z a8;have m':Below w w ao:=((b7 _ w).alloc bx _).trans (Z.mono aM);have aaX:w.heap.size+1<=ao.heap.size:=by have:=Z.size;simpa using this
 have aay:=aav.heap (aX w (af #[I 0,aR 0,bC 0,bC 0,aq none 0 0,aR 0,I 0] 254)) id;clear Z aav;go_wp2_with fail;have aax:gH (ao.alloc (af #[.string ⟨t.toArray⟩,false] 369)) ao.heap.size ⟨⟨t.toArray⟩,false⟩:=aX _ _;have aZ:=yv aax 1 U (by show(⟨t.toArray⟩:ch).size<=maxLen;have:=aaP.o;simp[ByteArray.size,maxLen];omega);rw[aaK.o]at aZ;refine aW aZ ?_;rintro aD ⟨h2,v'⟩;have T:gH aD ao.heap.size n:=h2;have aaz:=v'.heap (cw aay _) U;have ps:=(m'.alloc m'.size _).trans (v'.below (B:=w.heap.size) b1 a8);have f1:=bP T;have aaQ:=aO T;clear aZ h2 v' aax aay m';have Y:=T.C3 (gY bR != 80);have w':Keeps (λb=>b=ao) aD (aD.setCell (ae ao 1 ad) (.bool (gY bR != 80))):=(Keeps.refl (λb=>b=ao) aD).setCell (p:=ae ao 1 ad) rfl _;have aaA:=w'.heap aaz U;have r':=ps.trans (w'.below ps.size a8);have aZ:=yv Y 1 U (by have:=aaN.out;show n.s.size<=maxLen;unfold maxLen;omega);rw[aaL.out]at aZ;have aas:=ag aZ;clear aZ T aaz ps w' Y;rw[show((ik (bR,n).1.data.toList:J):aa)=gY bR from rfl];go_wp2_with fail;refine aW aas.o ?_;rintro i ⟨lb,ys⟩;have g':gH i ao.heap.size D:=lb;have aaB:=ys.heap aaA U;have sd:=r'.trans (ys.below r'.size a8);have aaU:=bT g';clear aas lb ys aaA r' f1 aaQ;rw[show((ik (N,D).1.data.toList:J):aa)=k from aar.out];have zd:=aat.out;have j:jC w ao.heap.size i.heap.size (gv k) (l4 t) 6 (i.alloc (af #[I k,aR 0,bC 0,bC 0,aq none 0 0,aR 0,I 0] 254)):=⟨_,none,0,l.out,
 show UnpSt w ao.heap.size i.heap.size D #[I k,aR 0,bC 0,bC 0,aq none 0 0,aR 0,I 0] (i.alloc (af #[I k,aR 0,bC 0,bC 0,aq none 0 0,aR 0,I 0] 254))from
  ⟨g'.keeps ((bb i).alloc _) id,aX _ _,cw aaB _,sd.alloc sd.size _,U,aaU,aaO.out⟩,c'.none _,λ_ h=>n1⟩
 clear g' aaB sd;go_wp2_with fail;refine bE (rL k _) ?_;have⟨H,hH⟩:=cT (gv k);have vl:=Jl k;rw[<-hH]at j vl;rw[<-hH];generalize World.alloc i _=aaY at *;have r:=ag (Gj vl);clear vl hH l aar aat zd;go_upto_if 36 with fail
 go_cut [] (jC w ao.heap.size i.heap.size H (l4 t) 5)
 case first=>
  have⟨q,a,c,e,aw,ax,av⟩:=j;rw[r.o.1];by_cases aK:H%2<1
  .exact vy
  rw[di aK];have aZ:=ag (H2 aw.rd 4 U aw.max);have f:=ag (λW'=>jC.wg (W':=W') e aw ax av (aB aK));have g:=ag aw;clear e aw ax av;go_wp2_with fail;refine aW aZ.o ?_;rintro C ⟨d,hk⟩;have V:=g.out.get hk d (take_size 4 q.2);have P:=bP V.msg;have O:=aO V.msg;have f:=ag (f.out _ hk d (take_size 4 q.2) 1 (aR _) rfl trivial);exact xq
 have j:=hcut;clear hcut;go_upto_if 42 with fail
 go_cut [] (jC w ao.heap.size i.heap.size H (l4 t) 4)
 case first=>
  have⟨q,a,c,e,aw,ax,av⟩:=j;rw[r.out.2.1];by_cases aK:H%4<2
  .exact vy
  rw[di aK];have aZ:=ag (yv aw.rd 2 U aw.max);have f:=ag (λW'=>jC.wg (W':=W') e aw ax av (aB aK));have g:=ag aw;clear e aw ax av;go_wp2_with fail;refine aW aZ.o ?_;rintro C ⟨d,hk⟩;have V:=g.out.get hk d (take_size 2 q.2);have P:=bP V.msg;have O:=aO V.msg;have f:=ag (f.out _ hk d (take_size 2 q.2) 2 (bC _) rfl trivial);exact xq
 have j:=hcut;clear hcut;go_upto_if 48 with fail
 go_cut [] (jC w ao.heap.size i.heap.size H (l4 t) 3)
 case first=>
  have⟨q,a,c,e,aw,ax,av⟩:=j;rw[r.out.2.2.1];by_cases aK:H%8<4
  .exact vy
  rw[di aK];have aZ:=ag (yv aw.rd 2 U aw.max);have f:=ag (λW'=>jC.wg (W':=W') e aw ax av (aB aK));have g:=ag aw;clear e aw ax av;go_wp2_with fail;refine aW aZ.o ?_;rintro C ⟨d,hk⟩;have V:=g.out.get hk d (take_size 2 q.2);have P:=bP V.msg;have O:=aO V.msg;have f:=ag (f.out _ hk d (take_size 2 q.2) 3 (bC _) rfl trivial);exact xq
 have j:=hcut;clear hcut;go_upto_if 54 with fail
 go_cut [] (jC w ao.heap.size i.heap.size H (l4 t) 2)
 case first=>
  have⟨q,a,c,e,aw,ax,av⟩:=j;rw[r.out.2.2.2.1];by_cases aK:H%16<8
  .exact vy
  rw[di aK];have aZ:=ag (V2 aw.rd aw.max);have f:=bW e (bD (show oJ H 2 q=_ from aB aK) aw);clear e aw ax av;go_wp2_with fail;refine aZ.o.mono ?_;rintro _ C ⟨v,rfl,zp,d,hk⟩;obtain⟨e,Aw,aw⟩:=f.out;obtain⟨A,cap,rfl,Q⟩:=Jv zp;obtain⟨cG,aaW,aaH,_,aau⟩:=cS zp;cases aaH;have aaT:=bT aw.msg;have aaS:=aw.kn;have aaR:=aw.lm;have av:∀ x,A=some x->i.heap.size<x.block:=λx u=>mq aaT (aau x u).1;have V:=aw.get hk d (VZ q.2);have P:=bP V.msg;have O:=aO V.msg;have f:=ag (show jC w ao.heap.size i.heap.size H (l4 t) 2 (C.setCell (ae i 4 ad) (.slice A (nA q.2).1.length cap))from⟨_,A,cap,e,by rw[Aw];exact V.set 4 _,by rw[Aw];exact Q.keeps ((Keeps.refl (λb=>b=i) C).setCell (p:=ae i 4 ad) rfl _) (λ_ x u=>by have:=av x u;omega),av⟩);clear V aZ d hk e Aw aw Q zp aau av;go_wp2_with fail;go_meet;exact f.o
 have j:=hcut;clear hcut;go_upto_if 60 with fail
 go_cut [] (jC w ao.heap.size i.heap.size H (l4 t) 1)
 case first=>
  have⟨q,a,c,e,aw,ax,av⟩:=j;rw[r.out.2.2.2.2.1];by_cases aK:H%32<16
  .exact vy
  rw[di aK];have aZ:=ag (H2 aw.rd 4 U aw.max);have f:=ag (λW'=>jC.wg (W':=W') e aw ax av (aB aK));have g:=ag aw;clear e aw ax av;go_wp2_with fail;refine aW aZ.o ?_;rintro C ⟨d,hk⟩;have V:=g.out.get hk d (take_size 4 q.2);have P:=bP V.msg;have O:=aO V.msg;have f:=ag (f.out _ hk d (take_size 4 q.2) 5 (aR _) rfl trivial);exact xq
 have j:=hcut;clear hcut;go_upto_if 66 with fail
 go_cut [] (jC w ao.heap.size i.heap.size H (l4 t) 0)
 case first=>
  have⟨q,a,c,e,aw,ax,av⟩:=j;rw[r.out.2.2.2.2.2];by_cases aK:H%64<32
  .exact vy
  rw[di aK];have aZ:=ag (V1 aw.rd aw.max);have f:=ag (λW'=>jC.wg (W':=W') e aw ax av (aB aK));have g:=ag aw;clear e aw ax av;go_wp2_with fail;refine aW aZ.o ?_;rintro C ⟨d,hk⟩;have V:=g.out.get hk d (J1 q.2);have P:=bP V.msg;have O:=aO V.msg;have f:=ag (f.out _ hk d (J1 q.2) 6 (I _) rfl trivial);exact xq
 have j:=hcut;clear hcut;obtain⟨⟨⟨G,K,iK,E,z,L,lm⟩,y⟩,a,c,e,aw,Q,av⟩:=j;have l:=ag (show rJ t=if zL (⟨G,K,iK,E,z,L,lm⟩,y)then(a6.zero,4)else(⟨G,K,iK,E,z,L,lm⟩,0)by unfold rJ;rw[<-e];rfl);have aaJ:=ag (λW (ak:c' W a c z)=>DC (w:=W) (m:=⟨G,K,iK,E,z,L,lm⟩) ak);have TS:=aO aw.rd;have aaD:=aO aw.msg;have aaE:=bP aw.res;have aaF:=aO aw.res;have g:=ag aw;have X:=bW Q av;clear e aw Q av r;by_cases ak:y.bad=true
 .have M:=ag (l.o.trans (aE (.inl ak)));rw[ak]at TS;clear l ak;exact NJ
 have hd:y.bad=false:=by simpa using ak
 rw[hd]at TS;by_cases F:y.s.toList=[];rotate_left
 .have M:=ag (l.o.trans (aE (.inr (.inl F))));have aaV:y.s.toList.isEmpty=false:=by simpa using F
  clear l ak hd F;exact NJ
 have aaV:y.s.toList.isEmpty=true:=by simpa using F
 have T':=bW ak F;clear ak hd F;go_wp2_with fail;refine aW (aaJ.o _ X.o.1) λaaG s'=>?_;have a':Keeps aG _ aaG:=Keeps.bJ s' a8;have d:=a'.heap g.o.res id;have hm:=a'.heap g.o.msg id;have aaq:=ag (g.o.below.trans (s'.mono g.o.below.size));have aaM:=ag (X.o.1.keeps a' (λ_ _ _=>id));clear TS aaD aaE aaF s' a';have aaD:=aO hm;have aaE:=bP d;have aaF:=aO d;have V':=ag d;clear d hm;by_cases d:ds ⟨G,K,iK,E,z,L,lm⟩;rotate_left
 .have M:=ag (l.o.trans (aE (.inr (.inr d))));rw[di d];clear d;go_wp2_with fail;have R:=aO (xW V'.o (I 0) (aR 0) (bC 0) (bC 0) (aq none 0 0) (aR 0) (I 0));refine c1 (v:=aY #[.agg vg,I 4]) EL rfl ?_;rw[M.o];exact qY.zero (zl aaq.o _ _ _ _ _ _ _) 4
 have M:=ag (l.o.trans (aB (λh=>h.elim T'.o.1 λh=>h.elim (λh=>h T'.o.2) λh=>h d)));rw[ei d];clear d;go_wp2_with fail;have R:=aO (xW V'.o (I G) (aR K) (bC iK) (bC E) (aq a z.length c) (aR L) (I lm));refine c1 (v:=aY #[.agg (uk ⟨G,K,iK,E,z,L,lm⟩ a c),I 0]) (by simp[results,results166,go_sem,R,uk]) rfl ?_;rw[M.o];have aaS:=g.o.kn;have aaR:=g.o.lm;exact⟨a,c,rfl,aaM.o.keeps (S:=λb=>b=w.heap.size) (((((((Keeps.refl (λb=>b=w) aaG).setCell (p:=ae w 0 ad) rfl _).setCell (p:=ae w 1 ad) rfl _).setCell (p:=ae w 2 ad) rfl _).setCell (p:=ae w 3 ad) rfl _).setCell (p:=ae w 4 ad) rfl _).setCell (p:=ae w 5 ad) rfl _ |>.setCell (p:=ae w 6 ad) rfl _) (λ_ x u=>by have:=X.o.2 x u;omega),zl aaq.o _ _ _ _ _ _ _,λx u=>by have:=X.o.2 x u;omega⟩
end
def Ze(s:ch)(aw:s.size<=maxLen)(l:ah aT)(a:aa)(h:opened s.data.toList=(l,a))(f:a≠0):aA 166 #[.string s] w (qY w a6.zero a):=by
 have b:=Lb s aw (w.alloc (af #[I 0,aR 0,bC 0,bC 0,aq none 0 0,aR 0,I 0] 254));rw[h]at b;have i:=ag b;have k:(a != 0)=true:=by simp[f]
 clear b h f aw
 go_in
 go_wp2_with fail;refine i.o.mono ?_;rintro e ao ⟨rfl,c⟩;have g:Keeps aG (w.alloc (af #[I 0,aR 0,bC 0,bC 0,aq none 0 0,aR 0,I 0] 254)) ao:=Keeps.bJ c a8;have j:Below w w ao:=((b7 _ w).alloc bx _).trans (c.mono aM);have d:=g.heap (aX w (af #[I 0,aR 0,bC 0,bC 0,aq none 0 0,aR 0,I 0] 254)) id;clear c g;have m:=bP d;have n:=aO d;go_wp2_with fail;have R:=aO (xW d (I 0) (aR 0) (bC 0) (bC 0) (aq none 0 0) (aR 0) (I 0));refine c1 (v:=aY #[.agg vg,I a]) EL rfl ?_;exact qY.zero (zl j _ _ _ _ _ _ _) a
def UR(l:ah aT):(opened l).1.length<=l.length:=by
 unfold opened;split
 .exact de _
 split
 .simp
 exact de _
def ZK(s:ch)(aw:s.size<=100000):aA 166 #[.string s] w (qY w (fG s.data.toList).1 (fG s.data.toList).2):=by
 have hm:s.size<=maxLen:=by unfold maxLen;omega
 unfold fG;by_cases a:(opened s.data.toList).2=0
 .rw[aE a];have b:opened s.data.toList=((opened s.data.toList).1,0):=qM rfl a;have c:(opened s.data.toList).1.length<=100000:=ca (UR _) (by simpa using aw);generalize (opened s.data.toList).1=t at *;clear a;exact Zc s t hm b c
 rw[aB a];exact Ze s hm _ _ rfl a
def oK(n:J)(l r:ah aT)(av:l.length=n):ea n ⟨⟨(l++r).toArray⟩,false⟩=(⟨l.toArray⟩,⟨⟨r.toArray⟩,false⟩):=by
 subst av;have aw:(⟨(l++r).toArray⟩:ch).size=l.length+r.length:=by show(l++r).toArray.size=_;simp
 unfold ea;rw[aB (by simp only[aw];simp)];refine qM ?_ ?_
 .refine Cp _ _ ?_;rw[extract_data];simp
 show Rd.mk _ _=Rd.mk _ _
 congr 1
 refine Cp _ _ ?_;simp only[aw];rw[extract_data];simp
def xS(l:ah aT):gY ⟨l.toArray⟩=(ik l:aa):=by simp[gY]
def Ga(n:aa)(h:0<=n/\n<4294967296):gY ⟨(eS n).toArray⟩=n:=by
 rw[xS];simp only[eS,ik,oU,rS];rw[p3 _ U,p3 _ U,p3 _ U,p3 _ U];omega
def vM(n:aa)(h:0<=n/\n<65536):gY ⟨(iT n).toArray⟩=n:=by
 rw[xS];simp only[iT,ik,oU,rS];rw[p3 _ U,p3 _ U];omega
def VY(L:ah aT)(a:fits L=true):nA ⟨⟨(l_ L).toArray⟩,false⟩=(L,⟨⟨([]:ah aT).toArray⟩,false⟩):=by
 have h:=VX L [] a;rw[eB]at h;unfold nA;simp only[h];rw[show((0:aa) != 0)=false by decide,w5];have aK:=oK (l_ L).length (l_ L) [] rfl;rw[eB]at aK;rw[aK]
def V0(n:aa)(h:-1000<=n/\n<=1000):pw ⟨⟨(num (fN n)).toArray⟩,false⟩=(n,⟨⟨([]:ah aT).toArray⟩,false⟩):=by
 have h1:=CK (fN n) (OO n U) [];rw[eB]at h1;unfold pw;simp only[h1,Zf];rw[show((0:aa) != 0)=false by decide,w5];have aK:=oK (num (fN n)).length (num (fN n)) [] rfl;rw[eB]at aK;rw[aK]
def Ve(m:a6)(t:ds m)(wf:m.wf):l4 (oE m)=(m,⟨⟨([]:ah aT).toArray⟩,false⟩):=by
 obtain⟨k,n,s,a,i,u,l⟩:=m;obtain⟨w,p,q,x,y,z,j,A,B⟩:=t;obtain⟨_,wn,h,o,v,_⟩:=wf;simp only at *;have h1:yi (oE ⟨k,n,s,a,i,u,l⟩)=(⟨[(80:aT)].toArray⟩,⟨⟨(UInt8.ofNat k.toNat :: r8 ⟨k,n,s,a,i,u,l⟩).toArray⟩,false⟩):=oK 1 [80] _ rfl;have ak:(gY ⟨[(80:aT)].toArray⟩ != 80)=false:=by rw[xS];rfl
 have h2:ud (oE ⟨k,n,s,a,i,u,l⟩)=(⟨[UInt8.ofNat k.toNat].toArray⟩,⟨⟨(r8 ⟨k,n,s,a,i,u,l⟩).toArray⟩,false⟩):=by
  unfold ud;rw[h1];simp only;rw[ak];exact oK 1 [UInt8.ofNat k.toNat] _ rfl
 have r:gY ⟨[UInt8.ofNat k.toNat].toArray⟩=k:=by
  rw[xS];simp only[ik,oU,rS];rw[p3 _ U];omega
 unfold l4;rw[h2];simp only;rw[r];unfold wG r8;simp only;by_cases c:k=1\/k=2
 .rw[aE c,aE c];have aK:=oK 4 (eS n) [] rfl;rw[eB]at aK;rw[aK,Ga n wn];have e:=Jo j U;exact MF
 rw[aB c,aB c];by_cases b:k=3
 .rw[aE b,aE b];rw[dL,oK 2 (iT s) _ rfl];simp only;rw[oK 2 (iT a) _ rfl];simp only;rw[VY i p,vM s h,vM a o];simp only[jR,a6.mk.injEq,and_true,true_and];exact⟨U,U,U⟩
 have e:=Jo j b;rw[aB b,aB b];by_cases d:k=4
 .rw[aE d,aE d,oK 2 (iT s) _ rfl];simp only;have aK:=oK 4 (eS u) [] rfl;rw[eB]at aK;rw[aK,vM s h,Ga u v];exact MK
 rw[aB d,aB d];by_cases f:k=5
 .rw[aE f,aE f];have aK:=oK 2 (iT a) [] rfl;rw[eB]at aK;rw[aK,vM a o];exact MF
 rw[aB f,aB f];by_cases g:k=6
 .rw[aE g,aE g,oK 2 (iT s) _ rfl];simp only;rw[V0 l q,vM s h];exact MK
 rw[aB g,aB g];simp only[jR,a6.mk.injEq,and_true,true_and];exact⟨U,U,U,e.symm,U,U⟩
def Zb(m:a6)(a:ds m)(wf:m.wf):rJ (oE m)=(m,0):=by
 unfold rJ;rw[Ve m a wf,aB];rintro(h|h|h)
 .cases h
 .exact h (by simp[w6])
 exact h a
variable{m:a6}
def US(l:ah aT):opened (i' l)=(l,0):=by
 unfold opened i';rw[if_neg (by simp[sP])];have e:(l++eS (more 1 l)).length-4=l.length:=by simp[sP]
 rw[e,Af];simp
def Ds(m:a6)(a:ds m)(wf:m.wf):fG (dv m)=(m,0):=by
 unfold fG dv;rw[US,if_pos rfl];exact Zb m a wf
end Go.Proofs.YtalagblioepadaaGreatDoor
