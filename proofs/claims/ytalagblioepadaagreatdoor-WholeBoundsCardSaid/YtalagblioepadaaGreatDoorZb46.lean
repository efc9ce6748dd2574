/- The proof, part 46. -/
import Derived.Test.YtalagblioepadaaGreatDoorZb45
namespace Go.Proofs.YtalagblioepadaaGreatDoor
set_option linter.all false
open Proofs.Tryz List Go.RowKit Go.Maps
set_option maxRecDepth 100000
set_option maxHeartbeats 4000000
def DW{p:ak}(h:p:=by rw[B,<-Y];exact aW _ _):p:=h
def DT{p:ak}(h:p:=by rcases k with rfl|k;omega;cases k):p:=h
def DQ{p:ak}(h:p:=by show(-1000:aa)<=0/\(0:aa)<=1000;omega):p:=h
def Mc{p:ak}(h:p:=by show(0:aa)<=0/\(0:aa)<=1073741824;omega):p:=h
def L9{p:ak}(h:p:=by rcases a with a|a;exact gE a.symm;cases a):p:=h
def LW{p:ak}(h:p:=by rw[fm];have:=hk.E;have:=(r0 hk.cG);have⟨_,_,_,_,_,_,_,q,_⟩:=this;rw[q];omega):p:=h
def Nk{p:ak}(h:p:=by
 have y:=af (A4 A.out z.o Z.out.1.oV Z.out.1.pL Z.out.2);clear z;go_wp2_with fail;refine aT y.o ?_;rintro ps ⟨V',ZI,l⟩;obtain⟨M,N,m',_,_⟩:=cP (kf l).2;rw[m']at l;obtain⟨O,l'⟩:=cQ (e7 a').2.length;rw[<-l']at l;clear m' l' y;have lb:=(kf l).1;have C:ps.heap[w.heap.size]?=some (ae cd 35 (0,0)):=l.at' 12 rfl;have d0:=aP lb;have g0:=bJ C;have z0:=aP C;have T':=af (jx C (ao M O N) (ao none 0 0) (.bool false));have TS:=af ((AT l.p2 (jF ps w.heap.size (ao M O N) (ao none 0 0) (.bool false))).p2);clear l lb C;go_wp2_with fail;have W':=dv _ _ _ _ T'.o 3 rfl;refine dn (v:=aV #[aM #[ao M O N,(ao none 0 0),false],I 0]) W' ?_;rw[hd.out.1,hd.out.2];exact⟨_,rfl,V',TS.o⟩
 ):p:=h
def LI{p:ak}(h:p:=by
 obtain⟨n,t,M,_,_⟩:=cP (kf a).2;rw[M]at a;obtain⟨u,L⟩:=cQ x.2.length;rw[<-L]at a;clear M L;have K:=(kf a).1;have g:=a.at' 10 rfl;have W:=aP K;have g0:=bJ g;have X:=aP g;have S:=af (jx g (ao n u t) (ao none 0 0) (.bool false));have Q:=af (QA a (jF y w.heap.size (ao n u t) (ao none 0 0) (.bool false)));clear a K g;go_wp2_with fail;have V:=dv _ _ _ _ S.o 3 rfl;refine dn (v:=aM #[ao n u t,(ao none 0 0),false]) V ?_;rw[T.out];exact⟨_,rfl,f,Q.o⟩
 ):p:=h
def Nj{p:ak}(h:p:=by
 unfold pn h';have Y_:=v_ (λ_=>(0:aa)) (f:=0) (n:=j) U;unfold fP at G⊢;rw[<-Y_];exact G
 ):p:=h
def Nu{p:ak}(h:p:=by
 exact h1.set 9 (r':=ay.cS v p.2) rfl (a_ w') (λ_ _ e=>e.elim) (kf h1).2 (λ_ h=>.inl (.inr h))
 ):p:=h
section
open Go.Maps
variable{w w':ai}{b:fT}{s:bO}{R:ah ay}{d:gi}{o:J}{sd:aw}{m:aY}{F:J}{ba us:J->J->aa}
def ay.cL(A:b4 Addr)(n cap:J)(xs:ah aw):ay where
 S j:=0<n/\∃ x,A=some x/\x.block=j
 P w:=dQ w 1 A n cap xs
 lt h b:=by obtain⟨au,x,a,rfl⟩:=b;exact h.lt U au a
 frame h hk ax:=h.keeps hk λau x a=>ax _ ⟨au,x,a,rfl⟩
def jx{w:ai}{b:J}{t:TypeId}{u v z:aw}(h:w.heap[b]?=some (ae #[u,v,z] t (0,0)))(x y q:aw):(((w.setCell (ad b 0 ab) x).setCell (ad b 1 ab) y).setCell (ad b 2 ab) q).heap[b]?=some (ae #[x,y,q] t (0,0)):=by
 have:=bW (bW (bW h 0 x) 1 y) 2 q
 simpa using this
theorem jF(w:ai)(b:J)(x y z:aw):Keeps (λj=>j=b) w (((w.setCell (ad b 0 ab) x).setCell (ad b 1 ab) y).setCell (ad b 2 ab) z):=
 (((Keeps.refl (λj=>j=b) w).setCell (p:=ad b 0 ab) rfl x).setCell (p:=ad b 1 ab) rfl y).setCell (p:=ad b 2 ab) rfl z
def Sep.drop1{A B:ah ay}{eJ:J}{z:a6 aw×TypeId}(h:Sep w (A++ay.bc eJ z :: B))(hk:Keeps (λj=>j=eJ) w w'):Sep w' (A++B):=by
 have ar:=h.perm qb;exact ar.tail.keeps hk λr b j a e=>(jP.1 ar.apart).1 r b j e a
def AT{p:ct}{v:aw}{Q:ay}{eJ:J}{z:a6 aw×TypeId}(h:Sep w (bC b p.1 d++ay.out o v sd m p.2 :: Q :: ay.bc eJ z :: R))(hk:Keeps (λj=>j=eJ) w w'):Sep w' (bC b p.1 d++ay.cS v p.2 :: Q :: R):=by
 have h1:=Sep.drop1 (A:=bC b p.1 d++[ay.out o v sd m p.2,Q]) h hk;exact Nu
theorem AS(h:Sep w (bC b s d++R)):Sep w (bC b s d++ay.cS (ao none 0 0) [] :: R):=
 (h.cons (r:=ay.cS (ao none 0 0) []) (a_ w) (λ_ _ _ _=>id) (gB w 0 _ _) (λj a=>by cases a)).iD
theorem GJ(h:Sep w (bC b s d++R)){l:b9}{A:b4 Addr}{n cap:J}{xs:ah aw}(i:IsLink w' b.L l)(hk:Keeps b.L.S w w')(f:dQ w' 1 A n cap xs)(e:∀ y,A=some y->w.heap.size<=y.block):Sep w' (ay.cL A n cap xs :: (bC b {s with aE:=l} d++R)):=
 h.yJ 2 (r':=ay.link b.L l) (q:=ay.cL A n cap xs) rfl hk (λ_ _ h=>h) i (λ_ h=>.inl h) f (λj a=>by obtain⟨_,x,c,rfl⟩:=a;exact e x c) (λj a g=>by
  obtain⟨_,x,c,rfl⟩:=a;have h1:=(ay.link b.L s.aE).lt (l4 h) g
  have:=e x c
  omega)
def w_(b:fT)(s':bO)(cs:ah cg)(a:ah aZ)(f:aY)(R:ah ay)(e:Ending)(w':ai):ak:=
 ∃ c A cap,e=aV #[aM #[c,ao A a.length cap,.bool f],I 0]/\∃ d,Sep w' (bC b s' d++ay.cS c cs :: ay.cL A a.length cap (k4 a) :: R)
def Q3(h:Sep w (bC b s d++R))(aR:s.b'=true)(v:aQ)(aX:v.toNat<=63)(a:uZ s.aE 0):az 60 #[b.p,aF v.toNat] w (w_ b (cJ v s).1 (cJ v s).2 (e_ v s) (dL s) R):=by
 have g:cJ v s=({s with aE:=(c5 s.aE 0).2},[]):=by unfold cJ;rw[aD aR]
 have i:e_ v s=(c5 s.aE 0).1:=by unfold e_;rw[aD aR]
 have k:dL s=false:=by unfold dL;rw[aR];rfl
 rw[g,i,k];have c:=(h.cons (r:=ay.bc w.heap.size (cd,35)) ((a_ w).alloc (ae cd 35)) (λ_ _ _ _=>id) (aW w (ae cd 35)) (λj n=>gE (jK n))).iD;have e5:=pE c;rw[aR]at e5;have b0:=nH c
 go_in
 go_wp2_with fail;generalize w.alloc (ae cd 35)=bl at *;refine((HV (l4 c) 0 a.aN a.aR a.jZ a.hm a.au)).mono ?_;rintro e an ⟨⟨A,cap,rfl,m,l⟩,a,q⟩;have h1:=(GJ c a q m l).iD;have f:=h1.at' 10 rfl;have g0:=bJ f;have t:=aP f;go_wp2_with fail;have o:=dv _ _ _ _ ((jx f (ao none 0 0) (.slice A (c5 s.aE 0).1.length cap) (.bool false))) 3 rfl;refine dn (v:=aV #[aM #[ao none 0 0,.slice A (c5 s.aE 0).1.length cap,false],I 0]) o ?_;exact⟨_,A,cap,rfl,d,by have:=((AS (Sep.drop1 (A:=bC b {s with aE:=(c5 s.aE 0).2} d++[ay.cL A (c5 s.aE 0).1.length cap (k4 (c5 s.aE 0).1)]) h1 (jF an w.heap.size (ao none 0 0) (.slice A (c5 s.aE 0).1.length cap) (.bool false)))));simpa using this⟩
end
section
open Go.Maps
variable{ey:Old}{w w':ai}{b:fT}{s:bO}{R:ah ay}{d:gi}{o:J}{sd:aw}{m:aY}{F:J}{ba us:J->J->aa}
def Q0(g:ay.kinds ey∈R)(h:Sep w (bC b s d++R))(v:aQ)(hk:z1 s v F ba us):az 60 #[b.p,aF v.toNat] w (w_ b (cJ v s).1 (cJ v s).2 (e_ v s) (dL s) R):=by
 have zp:cJ v s=l2 (dc v s):=by unfold cJ;rw[hk.lu];rfl
 have Aw:e_ v s=(c5 (dc v s).1.aE (hV {(dc v s).1 with x:=dW (dc v s).1.x})).1:=by unfold e_;rw[hk.lu];rfl
 have Zd:dL s=fW (cW s).1:=by unfold dL;rw[hk.lu];rfl
 have⟨aae,v',ZP,_,fm,Za,_,_,_,ZR,Zb,aab,ZS,ZQ,_⟩:=r0 hk.cG;have ZF:bT (cW s).1=bT s:=by unfold bT fq;rw[ZR,Za]
 have cy:h9 (cW s).1 ba aae:=λj k Zq=>by rw[Za];rw[fm]at k;rw[ZF]at Zq;exact ZP j k Zq
 have ZA:=ZS.trans hk.lu;have Zo:=v'.W8 cy ZA (by rw[fm];exact hk.top) (by rw[ZQ];exact hk.cu) (by rw[Zb];exact hk.n4) (by rw[Zb];exact hk.cj);have V':=v'.J3 cy (by rw[fm];exact hk.top) LW v hk.dH (cW s).2;have Zl:=hk.cG.I1;obtain⟨aai,m1,_,_,Zv⟩:=vQ hk.cG hk.lu hk.E (b7 hk.top bq) v hk.dH;have y:=m1.cG;have Y9:=m1.gM;have Zx:=J4 v v' (λaq=>(V' aq).2.2.2.2.1);have Y8:=m1.now;obtain⟨l,fr⟩:=cQ (eL v (cW s));rw[<-fr]at y Y9 Zx Zv Y8;have gm:=y.n0 Y9;have Z6:=y.aS;have ZE:∀ n,(e0 n l).2.length<=l.2.length+320*n:=λn=>hp.AF n y.yQ;obtain⟨X,_⟩:=m1.settle;rw[<-fr]at X;have em:ji l=dc v s:=by rw[fr];rfl
 have Z5:=y.ju;have Z_:=y.mB;have ZC:cY l.1.x<=l.1.ld.aS+100:=by
  have:=hk.gI
  have:=hk.top
  omega
 have Z8:l.1.x.now<=90001:=by
  have:=hk.top
  split at Y8<;>omega
 have ZD:=y.yQ;have Zp:∀ f:J,l.1.ld.aS+2<=f->(f:aa)<=cY l.1.x+1->ve l.1.x f:=λf h1 h2=>y.Xg U f (by have:=hk.gI;omega) U;have Y2:(dc v s).2.length<=60000:=by
  rw[<-em]
  have:=ZE (cY l.1.x-l.1.ld.aS).toNat
  unfold ji;omega
 rw[em]at X;have g':=X.cG;have gf:=X.gM;have⟨a,Y7⟩:=cQ (dc v s);have ZB:a.1.x.now<=90001:=by
  have a':=X.now
  have:=hk.top
  rw[Y7];split at a'<;>omega
 have Y4:=hk.aE;rw[<-Y7]at g' gf Y2 em Y4 zp Aw;have f5:=(g'.free gf).1;have ZO:=(g'.n0 gf).1;rw[zp,Aw,Zd]
 -- the memory
 have ZI:=(a_ w).alloc (ae cd 35);have CW:=(h.cons (r:=ay.bc w.heap.size (cd,35)) ZI (λ_ _ _ _=>id) (aW w (ae cd 35)) (λj k=>gE (jK k))).iD;have ZJ:=(a_ (w.alloc (ae cd 35))).alloc (ae cd 35);have Y:(w.alloc (ae cd 35)).heap.size=w.heap.size+1:=aI;have⟨z,B⟩:=cQ (w.heap.size+1);have e5:=pE CW;rw[hk.lu]at e5;have h1:=(CW.cons (r:=ay.out z (ao none 0 0) (ao none 0 0) false []) ZJ (λ_ _ _ _=>id) ⟨DW,gB _ 0 _ _⟩ (λj k=>DT)).iD;have aah:decide (((63:aa))<(v.toNat:aa))=false:=cZ (by have:=hk.dH;omega);have sd:=af (kx (ay.bc w.heap.size (cd,35)) g);have Zm:=af (Q8 sd.o ⟨d,_,h1⟩ hk.cG (b7 hk.top bq) (hk.cG.hd.trans hk.lu));have ys:=b8 Zo (bD V' Zl);have Z0:=af fr;have N:=b8 ZD (bD y.oV (bD gm.1 (bD (show l.2.length<=10000 by omega) (bD (bD (show l.1.ld.aS<=900000 by omega) ZC) Zp))));have ZY:=af em;have m:=b8 g' (bD gf (bD ZO (bD ZB (bD f5 (bD Y2 Y4)))));have Z2:=af hk.dH;have ZZ:=af B;clear g h hk zp Aw Zd v' ZP fm Za ZR Zb aab ZS ZQ ZF cy ZA Zo V' Zl m1 y Y9 Zx Zv Y8 fr gm Z6 ZE X em Z5 Z_ ZC Z8 ZD Zp Y2 g' gf Y7 ZB Y4 f5 ZO ZI CW ZJ Y h1
 go_in
 go_wp2_with fail;rw[<-ZZ.o];refine aT Zm.o ?_;rintro an ⟨d1,v1,h1⟩;have fV:=GF h1;have u:=af (Pm b.dT (GH h1));have H1:=af h1;clear h1 Zm e5 B;go_wp2_with fail;refine u.o.mono ?_;rintro e aB ⟨⟨bs,rfl⟩,Zt,ZK⟩;have h2:=GI H1.out Zt ZK;have al:=af (Ra sd.out ⟨d1,v1,h2⟩ v Z2.out ys.out.1 (b7 ys.out.2.2 bq) ys.out.2.1);clear h2 Zt ZK u H1 fV;go_wp2_with fail;refine aT al.o λbn Q'=>?_;rw[<-Z0.out]at Q';have Zn:=af (Q_ sd.out Q' N.out.1 N.out.2.1 N.out.2.2.1 N.out.2.2.2.1 N.out.2.2.2.2.1 N.out.2.2.2.2.2);clear Q' al;go_wp2_with fail;refine aT Zn.o λaaf S=>?_;rw[ZY.out]at S;obtain⟨Z,D,S⟩:=S;obtain⟨bh,Y5⟩:=cQ (fW (cW s).1);rw[<-Y5]at S;have cE:=af Y5;clear Zn Y5;obtain⟨O,St⟩:=cQ (bC b a.1 Z++ay.out z D (ao none 0 0) bh a.2 :: ay.bc w.heap.size (cd,35) :: R);have i:∀ W,Sep W O->Sep W (bC b a.1 Z++ay.out z D (ao none 0 0) bh a.2 :: ay.bc w.heap.size (cd,35) :: R):=λW h=>St▸h;have lb:Sep aaf.drew O:=by rw[St];exact S.drew 1
 have Y':∀ x:bp (λW=>Sep W O),x.to.cell? (ad b.p 0 ab)=some (.pointer (some (ad b.c.c 0 ab))):=λx=>lk (i _ x.held);have aU:=af (λ(W:ai) (t:Sep W O)=>xq (gX (i _ t)) m.out.2.2.1);have Zj:=af (λ(W:ai) (t:Sep W O)=>OJ (gX (i _ t)) m.out.1 m.out.2.1 m.out.2.2.2.1);have C:=af i;clear S St i;go_wp2_with fail;refine cB 12 ?_;refine cC (λW=>Sep W O) (.range 11) 1 11 ?_;refine de (lb) (.range 10) 1 ?_;refine jg 10 λK g=>?_;go_simp;refine aT (aU.o _ lb) λaak ZL=>?_;have l':=lb.keep ZL;refine g _ _ (l') ?_;clear g K;refine cC (ox) [11] 0 1 ?_;refine kn 11 λK g=>?_;go_simp;refine(Zj.o _ l').mono ?_;rintro e aag ⟨⟨n7,rfl⟩,ZH,ZM⟩;refine g _ _ (lY _) ?_;clear g K;have Ze:=xO (C.out _ l') ZH ZM;clear lb ZL l' ZH ZM aU Zj Y' C;obtain⟨G,Tq⟩:=cQ (bC b {a.1 with x:=dW a.1.x} Z++ay.out z D (ao none 0 0) bh a.2 :: ay.bc w.heap.size (cd,35) :: R);have i:∀ W,Sep W G->Sep W (bC b {a.1 with x:=dW a.1.x} Z++ay.out z D (ao none 0 0) bh a.2 :: ay.bc w.heap.size (cd,35) :: R):=λW h=>Tq▸h;have T:Sep aag.drew G:=by rw[Tq];exact Ze.drew 1
 have Y':∀ x:bp (λW=>Sep W G),x.to.cell? (ad b.p 0 ab)=some (.pointer (some (ad b.c.c 0 ab))):=λx=>lk (i _ x.held);have Z':∀ x:bp (λW=>Sep W G),x.to.cell? (ad b.p 4 ab)=some (.pointer (some (ad b.dV 0 ab))):=λx=>ts (i _ x.held);have Zg:=af (λ(W:ai) (t:Sep W G)=>rB (gX (i _ t)));have Zh:=af (λ(W:ai) (t:Sep W G)=>by
  obtain⟨ps,Z9⟩:=AR (i _ t);exact PX Z9 ((dW a.1.x).now:aa))
 have C:=af i;clear Ze Tq i;go_wp2_with fail;refine cB 12 ?_;refine cC (λW=>Sep W G) (.range 11) 1 11 ?_;refine de (T) (.range 10) 1 ?_;refine jg 10 λK g=>?_;go_simp;refine br (Zg.o _ T) ?_;refine g _ _ (T) ?_;clear g K;refine cC (ox) [11] 0 1 ?_;refine kn 11 λK g=>?_;go_simp;refine(Zh.o _ T).mono ?_;rintro e ZT ⟨⟨e5,rfl⟩,Zr⟩;refine g _ _ (lY _) ?_;clear g K;obtain⟨aac,a'⟩:=QC (C.out _ T) Zr;clear T Zr Zg Zh Y' Z' C;obtain⟨Q,Zw⟩:∃ Q:gi,Q={Z with df:=aac}:=⟨_,rfl⟩;rw[<-Zw]at a';clear Zw;obtain⟨P,TS⟩:=cQ (bC b {a.1 with x:=dW a.1.x} Q++ay.out z D (ao none 0 0) bh a.2 :: ay.bc w.heap.size (cd,35) :: R);have i:∀ W,Sep W P->Sep W (bC b {a.1 with x:=dW a.1.x} Q++ay.out z D (ao none 0 0) bh a.2 :: ay.bc w.heap.size (cd,35) :: R):=λW h=>TS▸h;have m':Sep ZT.drew P:=by rw[TS];exact a'.drew 1
 have aaa:∀ x:bp (λW=>Sep W P),x.to.cell? (ad b.p 1 ab)=some (.pointer (some (ad b.L.p 0 ab))):=λx=>nH (i _ x.held);have T':=af (λ(W:ai) (t:Sep W P)=>G' (i _ t));have W':=af (λ(W:ai) (t:Sep W P)=>HV (l4 (i _ t)) (hV {a.1 with x:=dW a.1.x}) m.out.2.2.2.2.2.2.aN m.out.2.2.2.2.2.2.aR m.out.2.2.2.2.2.2.jZ m.out.2.2.2.2.2.2.hm m.out.2.2.2.2.2.2.au);have C:=af i;obtain⟨ld,Y3⟩:=cQ (hV {a.1 with x:=dW a.1.x});rw[<-Y3]at T' W';have Zc:=af Y3;clear a' TS i Y3;go_wp2_with fail;refine cB 10 ?_;refine cC (λW=>Sep W P) (.range 7) 3 7 ?_;refine de (m') (.range 6) 1 ?_;refine jg 6 λK g=>?_;go_simp;refine aT (T'.o _ m') ?_;rintro _ ⟨q,rfl⟩;have r':=m'.drew q;refine g _ _ (r') ?_;clear g K;clear m' T';generalize ZT.drew.drewN q=aal at *;refine cC (ox) [7,8,9] 0 3 ?_;refine dC 7 λK g=>?_;go_simp;refine(W'.out _ r').mono ?_;rintro e ZU ⟨⟨A,cap,rfl,Zs,Zf⟩,Zy,ZN⟩;refine g _ _ (lY _) ?_;clear g K;refine gZ 8 (lY _) ?_;have V:=(GJ (C.out _ r') Zy ZN Zs Zf).qI;have aad:=aP ((kf (p:=({a.1 with x:=dW a.1.x,aE:=(c5 a.1.aE ld).2},a.2)) V).1);have f1:=bJ ((kf (p:=({a.1 with x:=dW a.1.x,aE:=(c5 a.1.aE ld).2},a.2)) V).1);refine hX 9 (lY _) ?_;obtain⟨M,H⟩:∃ M:ct,M=({a.1 with x:=dW a.1.x,aE:=(c5 a.1.aE ld).2},a.2):=⟨_,rfl⟩;have V:Sep ZU (bC b M.1 Q++ay.out z D (ao none 0 0) bh M.2 :: ay.cL A (c5 a.1.aE ld).1.length cap (k4 (c5 a.1.aE ld).1) :: ay.bc w.heap.size (cd,35) :: R):=by rw[H];exact V
 have Zi:=QB V (.slice A (c5 a.1.aE ld).1.length cap);have Y6:=cb.same (s':=M.1) m.out.2.2.2.2.1 (by rw[H]) (by rw[H]) (by rw[H]);have Zk:=af (A4 (kx _ sd.out) ⟨Q,D,Zi⟩ Y6.oV Y6.pL (by rw[H];exact b7 m.out.2.2.2.2.2.1 bq));have Z1:=af H;clear V Zi Y6 aad f1 Zy ZN Zf Zs W' r' aaa C H;generalize ZU.setCell (ad z 1 ab) (.slice A (c5 a.1.aE ld).1.length cap)=aam at *;go_wp2_with fail;refine aT Zk.o ?_;rintro ZV ⟨Z3,aaj,u⟩;obtain⟨w',zd,ZG,_,_⟩:=cP (kf u).2;rw[ZG]at u;obtain⟨Y_,Zz⟩:=cQ (e7 M).2.length;rw[<-Zz]at u;clear ZG Zz;have Zu:=(kf u).1;have vl:ZV.heap[w.heap.size]?=some (ae cd 35 (0,0)):=u.at' 11 rfl;have d0:=aP Zu;have g0:=bJ vl;have z0:=aP vl;have ZX:=af (jx vl (ao w' Y_ zd) (.slice A (c5 a.1.aE ld).1.length cap) (.bool bh));have ZW:=af (AT u (jF ZV w.heap.size (ao w' Y_ zd) (.slice A (c5 a.1.aE ld).1.length cap) (.bool bh)));clear Zk u Zu vl;go_wp2_with fail;have Z7:=dv _ _ _ _ ZX.o 3 rfl;refine dn (v:=aV #[aM #[(ao w' Y_ zd),.slice A (c5 a.1.aE ld).1.length cap,.bool bh],I 0]) Z7 ?_;have Z4:l2 a=e7 M:=by rw[Z1.out,Zc.out];rfl
 rw[Z4,<-Zc.out,<-cE.out];exact⟨_,A,cap,rfl,Z3,ZW.o⟩
end
theorem cb.x0{F:J}{ba us:J->J->aa}:∀ (l:ah aQ) {s:bO},cb s F ba us->bT s+l.length<=F+64->(∀ i x,l[i]?=some x->ba (1-s.x.aJ) (bT s+i)=(x.toNat:aa))->(∀ x∈l,x.toNat<=63)->cb {s with x:=fc s.x l} F ba us/\bT {s with x:=fc s.x l}=bT s+l.length/\c4 {s with x:=fc s.x l}=c4 s/\(fc s.x l).now=s.x.now/\(fc s.x l).aJ=s.x.aJ/\(fc s.x l).eD=s.x.eD/\(fc s.x l).dA=s.x.dA/\(fc s.x l).aO=s.x.aO
 | [],s,h,_,_,_=>⟨h,rfl,rfl,rfl,rfl,rfl,rfl,rfl⟩
 | v :: r,s,h,f,hk,aj=>by
  simp only[dr]at f;obtain⟨c,b,g⟩:=h.Rj U v (aj v oh);have d:(λi=>if i=1-s.x.aJ then b1 (ba (1-s.x.aJ)) (bT s) v.toNat else ba i)=ba:=by
   funext i
   split
   .subst i
    funext j
    unfold b1;split
    .rename_i e;rw[e,<-(hk 0 v rfl)];rfl
    rfl
   rfl
  rw[d]at c;obtain⟨k,m,n,o,p,q,t,u⟩:=cb.x0 r c (by rw[b];omega) (λi x a=>by
   rw[b]
   have:=hk (i+1) x (by rw[jM];exact a)
   rw[show bT s+1+i=bT s+(i+1)by omega];exact this) (λx a=>aj x (kx _ a))
  have e:fc s.x (v :: r)=fc (gn s.x (1-s.x.aJ) v.toNat) r:=rfl;rw[e];exact⟨k,by rw[m,b,dr];omega,n.trans g,o,p,q,t,u⟩
def He(r:bG)(s:bO):(fj r s).1.x=s.x/\(fj r s).1.aE=s.aE/\(fj r s).1.ld.aS=s.ld.aS/\(fj r s).1.ld.most=s.ld.most:=by
 unfold fj;split
 .have⟨a,b,c,_,_,d⟩:=Bd r.frame r.sum (s,[]);exact⟨a,b,c,d⟩
 split<;>exact⟨rfl,rfl,rfl,rfl⟩
theorem cb.fj{s:bO}{F:J}{ba us:J->J->aa}(h:cb s F ba us)(r:bG):cb (fj r s).1 F ba us:=by
 unfold Go.Proofs.YtalagblioepadaaGreatDoor.fj;split
 .exact h.hold _ _ _
 split
 .exact h.same rfl rfl rfl
 exact h
def RL(Q:bG->ak)(a:∀ k f i,Q ⟨k,f,i,0,0,0⟩)(l:b9)(m:aZ):Q (iU l m).1:=by
 unfold iU;simp only[];split
 .exact a _ _ _
 exact a _ _ _
def Tx(Q:bG->ak)(a:∀ k f i,Q ⟨k,f,i,0,0,0⟩)(m:aZ)(b:∀ x,Q ⟨4,0,[],(ec x m.cl).1,m.sum,0⟩)(c:Q ⟨6,0,[],0,0,m.lead⟩)(l:b9):Q (hE l m).1:=by
 unfold hE;split
 .exact RL Q a _ _
 split
 .exact b _
 split
 .exact a _ _ _
 split
 .exact c
 exact a _ _ _
def Xr(Q:bG->ak)(a:∀ k f i,Q ⟨k,f,i,0,0,0⟩)(m:aZ)(b:∀ x,Q ⟨4,0,[],(ec x m.cl).1,m.sum,0⟩)(c:Q ⟨6,0,[],0,0,m.lead⟩)(l:b9):Q (cO l m).1:=by
 unfold cO;split
 .exact a _ _ _
 split
 .split
  .exact a _ _ _
  exact a _ _ _
 split
 .exact a _ _ _
 split
 .exact Tx Q a m b c l
 exact a _ _ _
def Hg(Q:bG->ak)(a:∀ k f i,Q ⟨k,f,i,0,0,0⟩)(l:b9)(t:ah aQ)(b:∀ x,Q ⟨4,0,[],(ec x (fs t).1.cl).1,(fs t).1.sum,0⟩)(c:(fs t).2=0->Q ⟨6,0,[],0,0,(fs t).1.lead⟩):Q (cI l t).1:=by
 unfold cI;split
 .exact a _ _ _
 split
 .exact a _ _ _
 rename_i h;split
 .exact Xr Q a _ b (c U) _
 exact a _ _ _
theorem Ro(l:b9)(t:ah aQ):0<=(cI l t).1.frame/\(cI l t).1.frame<=1073741824:=
 Hg (λr=>0<=r.frame/\r.frame<=1073741824) (λ_ _ _=>Mc) l t (λx=>Gz x _) (λ_=>Mc)
theorem Rp(l:b9)(t:ah aQ)(h:(∃ m,t=dk m/\m.wf/\dh m)\/(fs t).2≠0):-1000<=(cI l t).1.lead/\(cI l t).1.lead<=1000:=
 Hg (λr=>-1000<=r.lead/\r.lead<=1000) (λ_ _ _=>DQ) l t (λx=>DQ) (λb=>by
  rcases h with⟨m,rfl,c,a⟩|h
  .rw[Cw m a c];exact a.2.2.1
  .exact absurd b h)
theorem Ba:∀ (l:ah aQ) (x:ck),(fc x l).aJ=x.aJ/\((fc x l).f (1-x.aJ)).next=(x.f (1-x.aJ)).next+l.length/\((fc x l).f (1-x.aJ)).first=(x.f (1-x.aJ)).first
 | [],_=>⟨rfl,rfl,rfl⟩
 | v :: r,x=>by
  obtain⟨h1,h2,b⟩:=Ba r (gn x (1-x.aJ) v.toNat);have e:fc x (v :: r)=fc (gn x (1-x.aJ) v.toNat) r:=rfl;have c:(gn x (1-x.aJ) v.toNat).aJ=x.aJ:=rfl;have a:((gn x (1-x.aJ) v.toNat).f (1-x.aJ)).next=(x.f (1-x.aJ)).next+1/\((gn x (1-x.aJ) v.toNat).f (1-x.aJ)).first=(x.f (1-x.aJ)).first:=by
   show(eK x.f (1-x.aJ) _ (1-x.aJ)).next=_/\(eK x.f (1-x.aJ) _ (1-x.aJ)).first=_;rw[qU];exact⟨rfl,rfl⟩
  rw[c]at h1 h2 b;rw[e,dr];exact⟨h1,by rw[h2,a.1];omega,b.trans a.2⟩
def Rl(x:ck)(l:ah aQ)(v:aQ):fc x (l++[v])=gn (fc x l) (1-x.aJ) v.toNat:=by
 have h:=(Ba l x).1;unfold fc at *;rw[nj];show gn _ (1-(l.foldl _ x).aJ) _=_;rw[h]
def Rk{s:bO}(h:hp s.x (s,[]))(r:bG):(fj r s).2.length<=256:=by
 unfold fj;split
 .have:=(h.hold r.frame r.sum).2
  simpa using this
 split<;>simp
section
open Go.Maps
variable{w w':ai}{b:fT}{s:bO}{R:ah ay}{d:gi}{o:J}{sd:aw}{m:aY}{F:J}{ba us:J->J->aa}
def ay.pv(a:b4 Addr)(c:J)(l:ah aQ):ay where
 S j:=l≠[]/\∃ x,a=some x/\x.block=j
 P w:=c1 w a c l
 lt h d:=by obtain⟨au,x,b,rfl⟩:=d;exact h.lt au x b
 frame h hk ax:=h.keeps hk λau x b=>ax _ ⟨au,x,b,rfl⟩
structure w7(l:b9)(t:cc):ak where
 ax:t.size<=100000
 au:0<=l.next/\l.next<=1073741824
 bj:0<=l.c2/\l.c2<=1073741824
 a1:0<=l.eR/\l.eR<=1000000
 aj:0<=l.bad/\l.bad<=1000000
 aN:0<=l.e1/\l.e1<=1000000
def u'(b:fT)(s':bO)(cs:ah cg)(bZ:aa)(R:ah ay)(e:Ending)(w':ai):ak:=
 ∃ a,e=aV #[aM #[a,(ao none 0 0),false],I bZ]/\∃ d,Sep w' (bC b s' d++ay.cS a cs :: R)
def QW(h:Sep w (bC b s d++R))(aR:s.b'=true)(t:cc):az 65 #[b.p,.string t] w (u' b (dx t.data.toList s).1 (dx t.data.toList s).2 (iT t.data.toList s) R):=by
 have a:dx t.data.toList s=(s,[]):=by unfold dx;rw[aD aR]
 have c:iT t.data.toList s=12:=by unfold iT;rw[aD aR]
 rw[a,c];have h1:=h.keep ((a_ w).alloc (ae cd 35));have e5:=pE h1;rw[aR]at e5
 go_in
 go_wp2_with fail;have e:=dv _ _ _ _ (aW w (ae cd 35)) 3 rfl;refine dn (v:=aV #[aM cd,I 12]) e ?_;exact⟨_,rfl,d,(AS h1)⟩
def QV(h:Sep w (bC b s d++R))(aR:s.b'=false)(t:cc)(hk:w7 s.aE t)(bZ:aa)(i:(cI s.aE t.data.toList).2.1=bZ)(hne:bZ≠0):az 65 #[b.p,.string t] w (u' b (dx t.data.toList s).1 (dx t.data.toList s).2 (iT t.data.toList s) R):=by
 have m:dx t.data.toList s=({s with aE:=(cI s.aE t.data.toList).2.2},[]):=by unfold dx;rw[aR,aA aI,i,aD hne]
 have n:iT t.data.toList s=bZ:=by unfold iT;rw[aR,aA aI,i]
 rw[m,n];have f:=(h.cons (r:=ay.bc w.heap.size (cd,35)) ((a_ w).alloc (ae cd 35)) (λ_ _ _ _=>id) (aW w (ae cd 35)) (λj q=>gE (jK q))).iD;have e5:=pE f;rw[aR]at e5;have b0:=nH f;have l:=af (HS (l4 f) t hk.ax hk.au hk.bj hk.a1 hk.aj hk.aN);rw[i]at l
 go_in
 go_wp2_with fail;generalize w.alloc (ae cd 35)=bl at *;refine l.o.mono ?_;rintro e k ⟨⟨a,c,rfl,aj,z⟩,u,y⟩;have h1:=(xP f u y).alloc (ae (aU (cI s.aE t.data.toList).1 a c) 199);have g:(k.alloc (ae (aU (cI s.aE t.data.toList).1 a c) 199)).heap[w.heap.size]?=some (ae cd 35 (0,0)):=h1.at' 9 rfl;unfold aU at *;go_upto_region 7 with fail
 generalize World.alloc k _=an at *;have g0:=bJ g;have B:=aP g;go_wp2_with fail;have x:=dv _ _ _ _ ((jx g (ao none 0 0) (ao none 0 0) (.bool false))) 3 rfl;refine dn (v:=aV #[aM cd,I bZ]) x ?_;exact⟨_,rfl,d,((AS (Sep.drop1 (A:=bC b {s with aE:=(cI s.aE t.data.toList).2.2} d) h1 (jF an w.heap.size (ao none 0 0) (ao none 0 0) (.bool false)))))⟩
end
section
open Go.Maps
variable{ey:Old}{w w':ai}{b:fT}{s:bO}{R:ah ay}{d:gi}{o:J}{sd:aw}{m:aY}{F:J}{ba us:J->J->aa}
theorem QD(h:Sep w (bC b s d++R)){l:b9}{A:b4 Addr}{c:J}{xs:ah aQ}{bm:J}(m:bm=w.heap.size)(k:IsLink w' b.L l)(hk:Keeps b.L.S w w')(g:c1 w' A c xs)(f:∀ y,A=some y->bm<=y.block):Sep w' (ay.pv A c xs :: (bC b {s with aE:=l} d++R)):=
 h.yJ 2 (r':=ay.link b.L l) (q:=ay.pv A c xs) rfl hk (λ_ _ h=>h) k (λ_ h=>.inl h) g (λj a=>by obtain⟨_,x,e,rfl⟩:=a;rw[<-m];exact f x e) (λj a i=>by
  obtain⟨_,x,e,rfl⟩:=a;have h1:=(ay.link b.L s.aE).lt (l4 h) i
  have:=f x e
  omega)
structure EG(s:bO)(t:cc)(F:J)(ba us:J->J->aa):ak where
 cG:cb s F ba us
 lu:s.b'=false
 aE:w7 s.aE t
 bZ:(cI s.aE t.data.toList).2.1=0
 YU:∀ x∈(cI s.aE t.data.toList).1.a8,x.toNat<=63
 ba:∀ i x,(cI s.aE t.data.toList).1.a8[i]?=some x->ba (1-s.x.aJ) (bT s+i)=(x.toNat:aa)
 ec:(cI s.aE t.data.toList).1.a8≠[]->(cI s.aE t.data.toList).1.ec=(bT s:aa)
 w:bT s+(cI s.aE t.data.toList).1.a8.length<=F+64
 top:s.x.now<=90000
def al(s:bO)(r:bG)(l:b9)(j:J):bO:={s with x:=fc s.x (r.a8.take j),aE:=l}
def QX(A:ay.kinds ey∈R)(h:Sep w (bC b s d++R))(t:cc)(hk:EG s t F ba us):az 65 #[b.p,.string t] w (u' b (dx t.data.toList s).1 (dx t.data.toList s).2 (iT t.data.toList s) R):=by
 have Y5:dx t.data.toList s=e7 (fj (cI s.aE t.data.toList).1 {s with x:=fc s.x (cI s.aE t.data.toList).1.a8,aE:=(cI s.aE t.data.toList).2.2}):=by unfold dx;rw[hk.lu,aA aI,hk.bZ,aA aI]
 have Y6:iT t.data.toList s=0:=by unfold iT;rw[hk.lu,aA aI,hk.bZ]
 have Za:=Ro s.aE t.data.toList;have Zk:=(a_ w).alloc (ae cd 35);have fr:=(h.cons (r:=ay.bc w.heap.size (cd,35)) Zk (λ_ _ _ _=>id) (aW w (ae cd 35)) (λj k=>gE (jK k))).iD;have e5:=pE fr;rw[hk.lu]at e5;have b0:=nH fr;have hH:=af (HS (l4 fr) t hk.aE.ax hk.aE.au hk.aE.bj hk.aE.a1 hk.aE.aj hk.aE.aN);rw[hk.bZ]at hH;obtain⟨cG,ZB,_,Zz,D,Q',Q,hw,ZC⟩:=hk;obtain⟨ZF,_⟩:=cb.x0 _ cG hw Q' D;have Zw:=cG.ju;have Zy:=cG.mB;have Zf:∀ j,cb (al s (cI s.aE t.data.toList).1 (cI s.aE t.data.toList).2.2 j) F ba us:=λj=>(cb.x0 ((cI s.aE t.data.toList).1.a8.take j) cG (by rw[gw];omega) (λi x V=>Q' i x (by rw[ux]at V;split at V;exact V;cases V)) (λx V=>D x (zr V))).1.same rfl rfl rfl;have Zb:=cG.hR.first (show 1-s.x.aJ<2 by have:=cG.aJ;omega);have Zc:(iT t.data.toList s,dx t.data.toList s)=(0,e7 (fj (cI s.aE t.data.toList).1 (al s (cI s.aE t.data.toList).1 (cI s.aE t.data.toList).2.2 (cI s.aE t.data.toList).1.a8.length))):=by
  rw[Y5,Y6];unfold al;rw[nk]
 have P:=b8 Zf (bD D (bD Q (bD (show bT s+(cI s.aE t.data.toList).1.a8.length<=1000000 by omega) (bD (show(s.x.f (1-s.x.aJ)).first<=bT s/\bT s+(cI s.aE t.data.toList).1.a8.length<=(s.x.f (1-s.x.aJ)).first+64 by rw[Zb];omega) Za))));have Aw:=af Zc;have Y2:=af fr;have Zr:=af A;clear h A fr Zk Y5 Y6 Za cG ZB Zz D Q' Q hw ZC ZF Zw Zy Zf Zb Zc;generalize dx t.data.toList s=ar at *;generalize iT t.data.toList s=he at *;generalize cI s.aE t.data.toList=r at *;have⟨r,bZ,H⟩:=r;simp only at *
 go_in
 go_wp2_with fail;generalize Zi:w.alloc (ae cd 35)=bl at *;have ZE:bl.heap.size=w.heap.size+1:=by rw[<-Zi];simp
 refine hH.o.mono ?_;rintro e an ⟨⟨a,c,rfl,aj,Ze⟩,Zd,Zl⟩;have h1:=(QD Y2.out rfl Zd Zl aj Ze).iD;have Zn:=(a_ an).alloc (ae (aU r a c) 199);have h2:=(h1.cons (r:=ay.bc an.heap.size (aU r a c,199)) Zn (λ_ _ _ _=>id) (aW an (ae (aU r a c) 199)) (λj k=>gE (jK k))).iD;have Zo:=(a_ (an.alloc (ae (aU r a c) 199))).alloc (ae cd 35);have Y:(an.alloc (ae (aU r a c) 199)).heap.size=an.heap.size+1:=aI;obtain⟨L,B⟩:=cQ (an.heap.size+1);have Y7:=(h2.cons (r:=ay.out L (ao none 0 0) (ao none 0 0) false []) Zo (λ_ _ _ _=>id) ⟨DW,gB _ 0 _ _⟩ (λj k=>DT)).iD;have zd:=af Y7;have Zs:=af B;clear B h1 h2 Y7 Zn Zo Y ZE Zi aj Ze Zd Zl Y2 hH;unfold aU at *;go_upto_region 9 with fail
 rw[<-Zs.o];generalize World.alloc (World.alloc an _) _=aB at *;have d2:=aP (zd.o.at' 10 rfl);generalize an.heap.size=q at *;go_wp2_with fail;go_loopg [9,10,38] r.a8.length (λg _ _ i wr=>∃ j:J,g=r.a8.length-j/\j<=r.a8.length/\i=I j/\Sep wr (bC b (al s r H j) d++ay.out L (ao none 0 0) (ao none 0 0) false [] :: ay.bc q (aU r a c,199) :: ay.pv a c r.a8 :: ay.bc w.heap.size (cd,35) :: R))
 case atStart=>exact⟨0,rfl,c' _,rfl,zd.o⟩
 obtain⟨j,a1,k,rfl,u⟩:=hrel;clear zd d2;by_cases T:j<r.a8.length
 .have hne:r.a8≠[]:=λe=>by rw[e]at T;simp at T
  have Y':c1 wr a c r.a8:=u.at' 11 rfl;obtain⟨bS,cM,rfl,aq⟩:=Y'.at' hne;have Zq:=aq j T;unfold eg at Zq;obtain⟨Tq,vl⟩:=cQ r.a8[j];rw[<-vl]at Zq;obtain⟨g',X,Zp⟩:=Ba (r.a8.take j) s.x;rw[gw,oq (Nat.le_of_lt T)]at X;have Zh:(s.x.f (1-s.x.aJ)).next=bT s:=rfl;rw[Zh]at X;have Q:=P.out.2.2.1 hne;have ZJ:=P.out.2.2.2.1;have ZD:=P.out.2.2.2.2.1;have D:=P.out.2.1 _ (og T);rw[<-vl]at D;have ZL:IntKind.i64.wrap (r.ec+(j:aa))=r.ec+(j:aa):=et _ (by rw[Q];omega);have Zg:fc s.x (r.a8.take (j+1))=gn (fc s.x (r.a8.take j)) (1-s.x.aJ) (Tq.toNat:aa):=by rw[lS T,Rl,vl]
  have⟨r',CW⟩:=cQ (bC b (al s r H j) d++ay.out L (ao none 0 0) (ao none 0 0) false [] :: ay.bc q (aU r (some (ad bS cM ab)) c,199) :: ay.pv (some (ad bS cM ab)) c r.a8 :: ay.bc w.heap.size (cd,35) :: R);have gf:∀ W,Sep W r'->Sep W (bC b (al s r H j) d++ay.out L (ao none 0 0) (ao none 0 0) false [] :: ay.bc q (aU r (some (ad bS cM ab)) c,199) :: ay.pv (some (ad bS cM ab)) c r.a8 :: ay.bc w.heap.size (cd,35) :: R):=λW h=>CW▸h;have Y3:Hid (∀ W,Sep W r'->az 103 #[b.c.c,I (r.ec+(j:aa)),aF (Tq.toNat:aa)] W λe w'=>e=.returned (I 0)/\IsCore w' b.c (fc s.x (r.a8.take (j+1)))/\Keeps b.c.S W w'):=af (λW Zx=>by
   have Y8:=OL (x:=fc s.x (r.a8.take j)) (gX (gf _ Zx)) (Tq.toNat:aa) U (r.ec+(j:aa)) (by rw[g',X,Q];omega) (by rw[g',X];omega) (by rw[g',X,Zp];omega);rw[g',<-Zg]at Y8;exact Y8)
  have Y9:Sep wr.drew r':=by rw[CW];exact u.drew 1
  obtain⟨G,y⟩:=hj (F:=λW=>Sep W r');have ZG:∀ x:bp G,x.to.cell? (ad b.p 0 ab)=some (.pointer (some (ad b.c.c 0 ab))):=λx=>lk (gf _ ((y _).1 x.held));have ZH:=λx:bp G=>aP ((gf _ ((y _).1 x.held)).at' 10 rfl);have sd:=(y _).2 Y9;have Y4:=af gf;have z:=af (λW (h:G W)=>(y W).1 h);clear u Y' aq CW gf Y9 y g' X Zp Zh Q ZD D Zg hne vl;go_wp2_with fail;refine cB 11 ?_;refine cC (G) (.range 10) 1 10 ?_;refine de (sd) (.range 10) 0 ?_;refine lq ?_;refine cC (ox) [10] 0 1 ?_;refine kn 10 λK A=>?_;go_simp;refine aT (Y3.o _ (z.o _ sd)) ?_;rintro St ⟨Zj,Zm⟩;refine A _ _ (lY _) ?_;clear A K;have Zv:Sep St (bC b (al s r H (j+1)) d++ay.out L (ao none 0 0) (ao none 0 0) false [] :: ay.bc q (aU r (some (ad bS cM ab)) c,199) :: ay.pv (some (ad bS cM ab)) c r.a8 :: ay.bc w.heap.size (cd,35) :: R):=xO (Y4.out _ (z.out _ sd)) Zj Zm;have ZK:r.a8.length<=1000000:=U;clear sd Zj Zm Y3 ZG ZH z Y4;go_wp2_with fail;go_roundg (r.a8.length-(j+1))
  case rel=>exact⟨j+1,rfl,U,by go_num,Zv⟩
  omega
 obtain rfl:j=r.a8.length:=U;have E:=P.out.1 r.a8.length;obtain⟨a',m⟩:=cQ (fj r (al s r H r.a8.length));rw[<-m]at Aw;have hd:=b8 (cV Prod.snd Aw.out) (cV Prod.fst Aw.out);simp only at hd;have A:=af (kx (ay.bc q (aU r a c,199)) (kx (ay.pv a c r.a8) (kx (ay.bc w.heap.size (cd,35)) Zr.out)));have Z:=b8 (show cb a'.1 F ba us by rw[m];exact E.fj r) (show a'.2.length<=90000 by rw[m];exact b7 (Rk (E.yQ (p:=(_,[]))) r) bq);have d0:=aP (u.at' 10 rfl);unfold fj at m;by_cases v':r.kind=4
 .rw[aD v']at m;have Zt:(r.kind == 4)=true:=by rw[v'];rfl
  have ZA:=P.out.2.2.2.2.2;have zp:=af (G_ (q:=(al s r H r.a8.length,[])) A.o ⟨d,_,u⟩ E.oV E.pL aI r.frame r.sum U);rw[<-m]at zp;clear u m E ZA;go_wp2_with fail;refine aT zp.o λSt Y_=>?_;have z:=af Y_;clear Y_ zp;have y:=af (A4 A.o z.o Z.o.1.oV Z.o.1.pL Z.o.2);clear z;go_wp2_with fail;refine aT y.o ?_;rintro ps ⟨V',ZI,l⟩;obtain⟨M,N,m',_,_⟩:=cP (kf l).2;rw[m']at l;obtain⟨O,l'⟩:=cQ (e7 a').2.length;rw[<-l']at l;clear m' l' y;have lb:=(kf l).1;have C:ps.heap[w.heap.size]?=some (ae cd 35 (0,0)):=l.at' 12 rfl;have d0:=aP lb;have g0:=bJ C;have z0:=aP C;have T':=af (jx C (ao M O N) (ao none 0 0) (.bool false));have TS:=af ((AT l.p2 (jF ps w.heap.size (ao M O N) (ao none 0 0) (.bool false))).p2);clear l lb C;go_wp2_with fail;have W':=dv _ _ _ _ T'.o 3 rfl;refine dn (v:=aV #[aM #[ao M O N,(ao none 0 0),false],I 0]) W' ?_;rw[hd.out.1,hd.out.2];exact⟨_,rfl,V',TS.o⟩
 have Zt:(r.kind == 4)=false:=by simpa using v'
 rw[aA v']at m;by_cases ys:r.kind=6
 .have Zu:(r.kind == 6)=true:=by rw[ys];rfl
  rw[aD ys]at m;have fv:=GG u;have g8:=xM u 8;have z:=af (show fh (wr.setCell (ad b.p 8 ab) (I r.lead)) b a' L (ao none 0 0) false (ay.bc q (aU r a c,199) :: ay.pv a c r.a8 :: ay.bc w.heap.size (cd,35) :: R)by rw[m];exact⟨_,_,xL (s':={al s r H r.a8.length with cu:=r.lead}) (n:=d.mf) u 8 (I r.lead) rfl rfl rfl rfl rfl rfl⟩);clear u m E;go_wp2_with fail;generalize wr.setCell (ad b.p 8 ab) (I r.lead)=St at *;exact Nk
 have Zu:(r.kind == 6)=false:=by simpa using ys
 rw[aA ys]at m;have z:=af (show fh wr b a' L (ao none 0 0) false (ay.bc q (aU r a c,199) :: ay.pv a c r.a8 :: ay.bc w.heap.size (cd,35) :: R)by rw[m];exact⟨_,_,u⟩);clear u m E;go_wp2_with fail;exact Nk
end
section
open Go.Maps
variable{ey:Old}{w w':ai}{b:fT}{s:bO}{R:ah ay}{d:gi}{o:J}{sd:aw}{m:aY}{F:J}{ba us:J->J->aa}
def EL(b:fT)(s':bO)(cs:ah cg)(R:ah ay)(e:Ending)(w':ai):ak:=
 ∃ a,e=.returned (aM #[a,(ao none 0 0),false])/\∃ d,Sep w' (bC b s' d++ay.cS a cs :: R)
def QA{p:ct}{v:aw}{eJ:J}{z:a6 aw×TypeId}(h:Sep w (bC b p.1 d++ay.out o v sd m p.2 :: ay.bc eJ z :: R))(hk:Keeps (λj=>j=eJ) w w'):Sep w' (bC b p.1 d++ay.cS v p.2 :: R):=by
 have h1:=Sep.drop1 (A:=bC b p.1 d++[ay.out o v sd m p.2]) h hk;exact Nu
def QY(D:ay.kinds ey∈R)(h:Sep w (bC b s d++R))(ar:cb s F ba us):az 38 #[b.p] w (EL b (fY s).1 (fY s).2 R):=by
 have z:=(h.cons (r:=ay.bc w.heap.size (cd,35)) ((a_ w).alloc (ae cd 35)) (λ_ _ _ _=>id) (aW w (ae cd 35)) (λj k=>gE (jK k))).iD;have Y:(w.alloc (ae cd 35)).heap.size=w.heap.size+1:=aI;have⟨H,B⟩:=cQ (w.heap.size+1);have h1:=(z.cons (r:=ay.out H (ao none 0 0) (ao none 0 0) false []) ((a_ (w.alloc (ae cd 35))).alloc (ae cd 35)) (λ_ _ _ _=>id) ⟨DW,gB _ 0 _ _⟩ (λj k=>DT)).iD;have e:=af h1;have N:=af (kx (ay.bc w.heap.size (cd,35)) D);have v:=af ar;have O:=af B;clear h z h1 Y D ar B;have⟨x,c⟩:=cQ (fY s);have T:=af c.symm;unfold fY at c
 go_in
 go_upto_region 2 with fail
 rw[<-O.o];generalize World.alloc (World.alloc w _) _=y at *;have e5:=pE e.o;cases aR:s.b' with
 | true=>
  rw[aR]at e5;rw[aD aR]at c;obtain⟨f,m,a⟩:∃ f m,Sep y (bC b x.1 f++ay.out H m (ao none 0 0) false x.2 :: ay.bc w.heap.size (cd,35) :: R):=⟨d,_,by rw[c];exact e.out⟩;exact LI
 | false=>
  rw[aR]at e5;rw[aA (show ¬ s.b'=true by rw[aR];simp)]at c;have b0:=nH e.out;have C:=af (Sw (l4 e.out));clear aR;go_wp2_with fail;refine aT C.o ?_;rintro bn ⟨E,G⟩;have A:=xP e.out E G;have l:=cb.same (s':={s with aE:=mA s.aE}) v.out rfl rfl rfl;have i:=af (A5 N.out ⟨d,_,A⟩ (q:=({s with aE:=mA s.aE},[])) l.oV l.pL aI 12);rw[<-c]at i;clear A E G e C v l c;go_wp2_with fail;refine aT i.o ?_;rintro P ⟨f,m,a⟩;clear i;generalize P=y at *;exact LI
def vC(h:Sep w (bC b s d++R)):az 21 #[b.p] w λe w'=>e=.returned b.c.c/\w=w':=by
 have c:=lk h
 go_in
 go_wp2_with fail;go_ret;exact⟨rfl,rfl⟩
def QZ(h:Sep w (bC b s d++R)):az 18 #[b.p] w λe w'=>e=.returned b.L.p/\w=w':=by
 have c:=nH h
 go_in
 go_wp2_with fail;go_ret;exact⟨rfl,rfl⟩
def G8(h:Sep w (bC b s d++R)):az 16 #[b.p] w λe w'=>e=.returned b.lb/\w=w':=by
 have c:=tq h
 go_in
 go_wp2_with fail;go_ret;exact⟨rfl,rfl⟩
def Q4(h:Sep w (bC b s d++R)):az 29 #[b.p] w λe w'=>(∃ A n cap,e=.returned (ao A n cap)/\n<=64)/\Keeps aG w w':=by
 have c:=tr h;have⟨bQ,hm⟩:=xN h
 go_in
 go_wp2_with fail;refine(Tl hm).mono ?_;rintro e an ⟨⟨A,a,k,rfl,hk⟩,f⟩;go_wp2_with fail;go_ret;exact⟨⟨A,k,a,rfl,hk⟩,f⟩
def G7(h:Sep w (bC b s d++R)):az 27 #[b.p] w λe w'=>e=aV #[.bool s.b',I s.reason]/\∃ q,w'=w.drewN q:=by
 have e5:=pE h;have qq:=GD h
 go_in
 go_wp2_with fail;go_quiet (fail);go_wp2;go_ret2;exact⟨rfl,_,rfl⟩
end
variable{w w':ai}
def pN(d n:aa):aY:=decide (0<=d/\d<=8/\1<=n/\n<=16)
def FH(aO d n aJ:aa)(b:aJ=0\/aJ=1)(w:ai):az 189 #[aM #[aK aO,I d,I n,I aJ]] w λe w'=>e=.returned (.bool (pN d n))/\Below w w w':=by
 rcases b with rfl|rfl
 .have a:=(bY w.heap.size w).alloc bA (ae #[aK aO,I d,I n,I 0] 24);unfold pN
  go_in
  go_wp2_with fail
  all_goals (go_ret;exact⟨kY bU,a⟩)
 have a:=(bY w.heap.size w).alloc bA (ae #[aK aO,I d,I n,I 1] 24);unfold pN
 go_in
 go_wp2_with fail
 all_goals (go_ret;exact⟨kY bU,a⟩)
def R8(most:aa)(hm:¬ (1<=most/\most<=256))(w:ai):az 130 #[I most] w λe w'=>e=aV #[.pointer none,I 1]/\w=w':=by
 by_cases h1:most<1
 .go_in
  go_wp2;go_ret2;exact⟨rfl,rfl⟩
 have h2:256<most:=U
 go_in
 go_wp2;go_ret2;exact⟨rfl,rfl⟩
def Sy(bL ev first:aa)(ar:¬ (1<=ev/\ev<=10000)\/¬ (0<=first/\first<=1073741824))(w:ai):az 129 #[aK bL,I ev,I first] w λe w'=>e=aV #[.pointer none,I 1]/\w=w':=by
 by_cases h1:ev<1
 .clear ar
  go_in
  go_wp2;go_ret2;exact⟨rfl,rfl⟩
 by_cases h2:10000<ev
 .clear ar
  go_in
  go_wp2;go_ret2;exact⟨rfl,rfl⟩
 have b:¬ (0<=first/\first<=1073741824):=U;have a:=Bi first w
 rw[cZ b]at a
 go_in
 go_wp2_with fail;refine br a ?_;go_wp2;go_ret2;exact⟨rfl,rfl⟩
def OO(aO d n aJ:aa)(b:aJ=0\/aJ=1)(hm:pN d n=false)(w:ai):az 128 #[aM #[aK aO,I d,I n,I aJ]] w λe w'=>e=aV #[.pointer none,I 1]/\Below w w w':=by
 have a:=(bY w.heap.size w).alloc bA (ae #[aK aO,I d,I n,I aJ] 24);have cE:=af (FH aO d n aJ b);rw[hm]at cE
 go_in
 go_wp2_with fail;refine aT (cE.o _) λan aj=>?_;go_wp2;go_ret2;exact⟨rfl,(a.trans (aj.mono (by have:=a.size;omega)))⟩
def h'(j:J):Fd:=⟨0,j,0,fP 0 j,[]⟩
def kJ(aO:aa)(d n aJ j i:J):ck:=⟨aO,d,n,aJ,λk=>if k<i then h' (j+1)else h' j,0,[],0⟩
def N4(aO:aa)(d n aJ j:J):∀ k,k<2->((kJ aO d n aJ j 2).f k)=((kJ aO d n aJ (j+1) 0).f k):=by
 intro k hk;simp[kJ,hk]
def Fe(aO:aa)(d n aJ j i:J):{kJ aO d n aJ j i with f:=eK (kJ aO d n aJ j i).f i (h' (j+1))}=kJ aO d n aJ j (i+1):=by
 simp only[kJ,ck.mk.injEq,and_true,true_and]
 funext k
 unfold eK;by_cases e:k=i
 .rw[aD e,aD U]
 rw[aA e];by_cases a:k<i
 .simp only[aD a];rw[aD U]
 simp only[aA a];rw[aA U]
theorem IsCore.HP{b:fG}{x y:ck}(h:IsCore w b x)(h1:y.aO=x.aO)(h2:y.eD=x.eD)(a:y.dA=x.dA)(c:y.aJ=x.aJ)(d:∀ k,k<2->y.f k=x.f k)(g:y.eT=x.eT)(i:y.L=x.L)(e:y.now=x.now):IsCore w b y:=
 ⟨by rw[h1,h2,a,c,e];exact h.head,λk hk=>by rw[d k hk];exact h.fd k hk,by rw[g,i];exact h.st,h.ok,by rw[c];exact h.aJ,by rw[e];exact h.gM,λk hk=>by rw[d k hk];exact h.dG k hk,by rw[a];exact h.wn⟩
theorem V4{w:ai}{r B:J}(h:SWinAt w r B 81 0 (replicate 81 (cf,false))):jX w r B 81 0 []:=
 ⟨_,h,aI,U,.nil,(λp ar=>by cases ar),(λf x h=>nt),λf h1 h2 a _=>⟨cf,by rw[Dm,aD (eW _ U)]⟩⟩
def OZ{c a b r B:J}(h1:a+4<b)(h2:b+4<c)(d:B<r)(e:r<a):fG.ok ⟨c,λk=>if k=0 then a else b,r,B⟩:=by
 constructor<;>simp<;>omega
structure sS(w:ai)(b:fG)(x:ck)(aO:aa)(d n aJ:J)(W:ai):ak where
 co:IsCore W b x
 nC:W.heap[w.heap.size]?=some (ae #[aK aO,I d,I n,I aJ] 24 (0,0))
 jw:Below w w W
theorem sS.n5{b:fG}{x y:ck}{aO:aa}{d n aJ:J}{T:J->ak}{W W':ai}(h:sS w b x aO d n aJ W)(aj:∀ j,b.S j->w.heap.size<j)(aq:IsCore W' b y)(hk:Keeps T W W')(a:∀ j,T j->b.S j):sS w b y aO d n aJ W':=
 ⟨aq,hk.heap h.nC (λe=>by have:=aj _ (a _ e);omega),h.jw.trans (hk.below (h.jw.size) (λk c e=>by have:=aj _ (a _ e);omega))⟩
def FF(aO:aa)(d n aJ:J)(hd:d<=8)(au:1<=n/\n<=16)(W':aJ<2)(w:ai):az 128 #[aM #[aK aO,I d,I n,I aJ]] w λe w'=>
  ∃ b:fG,e=aV #[b.c,I 0]/\IsCore w' b ⟨aO,d,n,aJ,λ_=>h' d,0,[(0,k2 aO 0)],0⟩/\(∀ j,b.S j->w.heap.size<=j)/\Below w w w':=by
 have Zd:(w.alloc (ae #[aK aO,I d,I n,I aJ] 24)).heap.size=w.heap.size+1:=aI;have hm:=FH aO d n aJ U;rw[show pN d n=true from ed U]at hm
 go_in
 go_wp2_with fail;refine aT (hm _) λan fr=>?_;have Ze:=fr.size;have Y6:=((bY w.heap.size w).alloc bA (ae #[aK aO,I d,I n,I aJ] 24)).trans (fr.mono U);have St:=(Keeps.bE (S:=aG) fr a7).heap (aW w (ae #[aK aO,I d,I n,I aJ] 24)) id;generalize w.alloc (ae #[aK aO,I d,I n,I aJ] 24)=bl at *;have P:=af (show w.heap.size+1<=an.heap.size by omega);go_wp2_with fail;refine aT (V0 81 U U an) ?_;rintro aB ⟨TS,ys,Y3⟩;have Y7:=Y6.trans (ys.mono (by have:=P.out;omega));have O:=af ((Keeps.bE (S:=aG) ys a7).heap St id);have Q:=af Y7;have l':=af (V4 TS);generalize an.heap.size=B at *;have V:aB.drew.heap[w.heap.size]?=some (ae #[aK aO,I d,I n,I aJ] 24 (0,0)):=O.o;have Y8:=λx:bp (λW=>W.heap[w.heap.size]?=some (ae #[aK aO,I d,I n,I aJ] 24 (0,0)))=>aP x.held;go_upto_region 6 with fail
 refine cB 8 ?_;refine cC (λW=>W.heap[w.heap.size]?=some (ae #[aK aO,I d,I n,I aJ] 24 (0,0))) (.range 6) 2 6 ?_;refine de (V) [0,4] 4 ?_;have bw:Keeps aG aB aB.drew:=(Keeps.refl _ aB).drew;have Q':aB.drew.heap.size=B+2:=Y3;generalize aB.drew=bn at *;refine dC 1 λK Z=>?_;go_simp;refine aT (Gj bn) ?_;rintro f ⟨L,gf⟩;have E:Keeps aG bn f:=Keeps.bE gf a7;have X:=E.heap V id;refine Z _ _ (X) ?_;refine dC 2 λK Z=>?_;go_simp;refine aT (Gj f) ?_;rintro m ⟨T,g'⟩;have u:Keeps aG f m:=Keeps.bE g' a7;have Y:=u.heap X id;refine Z _ _ (Y) ?_;refine de (Y) [3,5] 0 ?_;refine lq ?_;refine cC (λ_=>True) [6,7] 0 2 ?_;refine gZ 6 trivial ?_;refine hX 7 trivial ?_;have v:=(a_ m).alloc (ae #[aK aO,I d,I n,I aJ,.pointer (some (ad (B+2+4) 0 ab)),.pointer (some (ad (f+4) 0 ab)),.pointer (some (ad (B+1) 0 ab)),I 0] 129);have r':=aW m (ae #[aK aO,I d,I n,I aJ,.pointer (some (ad (B+2+4) 0 ab)),.pointer (some (ad (f+4) 0 ab)),.pointer (some (ad (B+1) 0 ab)),I 0] 129);have Y5:=gf.size;have Y4:=g'.size;have T':=L.lt;have V':=T.lt;rw[Q']at L;have sd:pn (m.alloc (ae #[aK aO,I d,I n,I aJ,.pointer (some (ad (B+2+4) 0 ab)),.pointer (some (ad (f+4) 0 ab)),.pointer (some (ad (B+1) 0 ab)),I 0] 129)) (B+2) (h' 0):=IsFeed.keep (IsFeed.keep L u) v;have s':pn (m.alloc (ae #[aK aO,I d,I n,I aJ,.pointer (some (ad (B+2+4) 0 ab)),.pointer (some (ad (f+4) 0 ab)),.pointer (some (ad (B+1) 0 ab)),I 0] 129)) f.heap.size (h' 0):=IsFeed.keep T v;have vl:=l'.out.keeps (bw.trans (E.trans (u.trans v))) id id;have CW:=(bw.trans (E.trans (u.trans v))).heap O.out id;have M:=Q.out.trans ((bw.trans (E.trans (u.trans v))).below Q.out.size (λ_ _ e=>e));obtain⟨b,aj⟩:∃ b:fG,b=⟨m,λk=>if k=0 then B+2 else f.heap.size,B+1,B⟩:=⟨_,rfl⟩;have R:sS w b (kJ aO d n aJ 0 0) aO d n aJ (m.alloc (ae #[aK aO,I d,I n,I aJ,.pointer (some (ad (B+2+4) 0 ab)),.pointer (some (ad (f+4) 0 ab)),.pointer (some (ad (B+1) 0 ab)),I 0] 129)):=by
  subst aj;refine⟨⟨r',λk hk=>?_,vl,OZ U U U U,W',c' _,λk _=>?_,?_⟩,CW,M⟩
  .have:k=0\/k=1:=U
   rcases this with rfl|rfl
   .exact sd
   exact s'
  .simp[kJ,h']
  have:=au
  simp only[kJ];omega
 have zp:∀ j,b.S j->w.heap.size<j:=by
  subst aj;intro j A
  have:=P.out
  unfold fG.S at A;simp only[aD,aA (show ¬ (1=0)by omega)]at A;omega
 have Aw:m.heap.size=b.c:=by rw[aj]
 have h2:B+1=b.r:=by rw[aj]
 rw[Aw,h2];rw[h2]at R;have N:=af R;have t:=af zp;clear R zp Aw h2 aj M CW vl sd s' T' V' Y5 Y4 r' v Y u g' T X E gf L V Q' bw Y8 l' Q O P;generalize World.alloc m _=Za at *;have d1:=aP N.o.nC;go_wp2_with fail;clear d1;go_loopg [7,9,29,35,36] d (λg _ _ i _ _ wr=>∃ j:J,g=d-j/\j<=d/\i=I j/\sS w b (kJ aO d n aJ j 0) aO d n aJ wr)
 case atStart=>exact⟨0,rfl,c' _,rfl,N.o⟩
 obtain⟨j,a1,A,rfl,aU⟩:=hrel;have h:=af aU;have Y':=hd;clear N aU;by_cases Zb:j<d
 .have z4:wr.cell? (ad b.c 4 ab)=some (.pointer (some (ad (b.D 0+4) 0 ab))):=h.o.co.la (k:=0) U;have z5:wr.cell? (ad b.c 5 ab)=some (.pointer (some (ad (b.D 1+4) 0 ab))):=h.o.co.la (k:=1) U;have Zf:=xB;have Zg:=xC;have M:=bR h.o.co.head;go_wp2_with fail;clear z4 z5 M;go_loopg [9,36] 2 (λg _ i Y9=>∃ q:J,g=2-q/\q<=2/\i=I q/\sS w b (kJ aO d n aJ j q) aO d n aJ Y9)
  case atStart=>exact⟨0,rfl,U,rfl,h.o⟩
  obtain⟨q,a1,Zc,rfl,l⟩:=hrel;clear h;have Y2:q=0\/q=1\/q=2:=U;rcases Y2 with rfl|rfl|rfl
  .have s:=l.co.fd 0 U;change IsFeed _ (b.D 0) 0 j 0 (fP 0 j) []at s;have z:=af (xA s 0 U (j:aa) rfl U U);have p:=af l;clear l s;go_wp2_with fail;refine aT z.o ?_;rintro F ⟨G,a⟩;have C:pn F (b.D 0) (h' (j+1)):=by
    exact Nj
   have hfin:=p.out.co.feed (k:=0) U C a (by show j+1<=1000000;omega);rw[Fe]at hfin;have a':=p.out.n5 t.out hfin a (λ_ e=>qz U e);clear G a C hfin p z;go_wp2_with fail;go_roundg 1
   case rel=>exact⟨1,rfl,U,by go_num,a'⟩
   omega
  .have s:=l.co.fd 1 U;change IsFeed _ (b.D 1) 0 j 0 (fP 0 j) []at s;have z:=af (xA s 0 U (j:aa) rfl U U);have p:=af l;clear l s;go_wp2_with fail;refine aT z.o ?_;rintro F ⟨G,a⟩;have C:pn F (b.D 1) (h' (j+1)):=by
    exact Nj
   have hfin:=p.out.co.feed (k:=1) U C a (by show j+1<=1000000;omega);rw[Fe]at hfin;have a':=p.out.n5 t.out hfin a (λ_ e=>qz U e);clear G a C hfin p z;go_wp2_with fail;go_roundg 0
   case rel=>exact⟨2,rfl,U,by go_num,a'⟩
   omega
  have Tq:=l.n5 t.out (l.co.HP (y:=kJ aO d n aJ (j+1) 0) rfl rfl rfl rfl (λk hk=>(N4 aO d n aJ j k hk).symm) rfl rfl rfl) (a_ _) (λ_ e=>e.elim);clear l;go_wp2_with fail;go_roundg (d-(j+1))
  case rel=>exact⟨j+1,rfl,U,by go_num,Tq⟩
  omega
 obtain rfl:j=d:=U;have fo:=aP h.out.nC;go_wp2_with fail;refine aT (QR aO wr) λF zd=>?_;have a:Keeps aG wr F:=Keeps.bE zd a7;have m':=h.out.n5 t.out (h.out.co.keep a) a (λ_ e=>e.elim);have H:=af m';clear m' a zd h fo;go_wp2_with fail;refine aT ((Jl H.o.co.st 0 (0:aa) rfl (by unfold e8;simp[kJ]) (k2 aO 0))) ?_;rintro Zh ⟨v',lb⟩;have hfin:=H.out.co.um v' (lb.mono λ_ _ e=>.inr e);have ps:=H.out.n5 t.out hfin lb (λj e=>.inr (.inr (.inr (.inr e))));clear v' lb hfin H;go_wp2_with fail;go_ret2;exact⟨b,rfl,ps.co.HP rfl rfl rfl rfl (λk _=>by simp[kJ]) rfl rfl rfl,λj A=>Nat.le_of_lt (t.out j A),ps.jw⟩
def ON(aO d n:aa)(aJ:J)(c:aJ<2)(w:ai):az 128 #[aM #[aK aO,I d,I n,I aJ]] w λe w'=>∃ p bZ,e=aV #[.pointer p,I bZ]/\(bZ=0->pN d n=true)/\Below w w w':=by
 cases hm:pN d n with
 | false=>exact(OO aO d n aJ lU hm w).mono λe w' h=>⟨none,1,h.1,λe=>lU,h.2⟩
 | true=>
  have a:0<=d/\d<=8/\1<=n/\n<=16:=ri hm;obtain⟨d,rfl⟩:=lQ a.1;obtain⟨n,rfl⟩:=lQ (show 0<=n by omega);exact(FF aO d n aJ U U c w).mono λe w' ⟨b,h1,_,_,h2⟩=>⟨_,0,h1,λ_=>rfl,h2⟩
def Sx(bL ev first:aa)(w:ai):az 129 #[aK bL,I ev,I first] w λe w'=>∃ p bZ,e=aV #[.pointer p,I bZ]/\(bZ=0->1<=ev/\ev<=10000)/\Below w w w':=by
 by_cases ar:(1<=ev/\ev<=10000)/\(0<=first/\first<=1073741824)
 .exact(HT bL ev first ar.1 ar.2 w).mono λe w' h=>⟨_,0,h.1,λ_=>ar.1,h.2.2⟩
 exact(Sy bL ev first U w).mono λe w' h=>⟨none,1,h.1,λe=>U,h.2▸bY _ w⟩
def R7(most:aa)(w:ai):az 130 #[I most] w λe w'=>∃ p bZ,e=aV #[.pointer p,I bZ]/\(bZ=0->1<=most/\most<=256)/\Below w w w':=by
 by_cases ar:1<=most/\most<=256
 .exact(HN most ar).mono λe w' h=>⟨_,0,h.1,λ_=>ar,h.2.2.1.below bA (λ_ _ e=>e)⟩
 exact(R8 most ar w).mono λe w' h=>⟨none,1,h.1,λe=>U,h.2▸bY _ w⟩
def Th(most:aa)(w:ai):az 131 #[I most] w λe w'=>∃ p bZ,e=aV #[.pointer p,I bZ]/\(bZ=0->1<=most/\most<=16)/\Below w w w':=by
 by_cases ar:1<=most/\most<=16
 .exact(Ie most ar w).mono λe w' h=>⟨_,0,h.1,λ_=>ar,by rw[h.2];exact(bY _ w).alloc bA _⟩
 exact(Ti most ar w).mono λe w' h=>⟨none,1,h.1,λe=>U,by rw[h.2];exact bY _ w⟩
def vA(d n pat bK b5:aa):ak:=pN d n=true/\(1<=pat/\pat<=10000)/\(1<=bK/\bK<=256)/\(1<=b5/\b5<=16)
abbrev s0:=World->b4 Addr->aa->ai->ak
def EI(m o n p:s0)(w:ai)(e:Ending)(w':ai):ak:=
 ∃ (a:ai) (k:b4 Addr) (g:aa) (b:ai) (pl:b4 Addr) (i:aa) (c:ai) (bg:b4 Addr) (h:aa) (d:ai) (l:b4 Addr) (em:aa) (f:ai),
  (w.heap.size+2<=a.heap.size/\Below w w a)/\(m a k g b/\Below a a b)/\(o b pl i c/\Below b b c)/\(n c bg h d/\Below c c d)/\(p d l em f/\Below d d f)/\
  e=aV #[aM #[.pointer k,.pointer pl,.pointer bg,.pointer l,f.heap.size,.pointer (some (ad (f+1) 0 ab))],(decide (g=0/\i=0/\h=0/\em=0))]/\
  Keeps (λj=>j=w+1) ((f.alloc (ae #[ao none 0 0] 291)).alloc (ae eG 278)) w'
def Oe{w:ai}{b:J}{t:TypeId}{bu b0 bs ez dR fV:aw}(h:w.heap[b]?=some (ae #[bu,b0,bs,ez,dR,fV] t (0,0)))(a c v2 d e f:aw):((((((w.setCell (ad b 0 ab) a).setCell (ad b 1 ab) c).setCell (ad b 2 ab) v2).setCell (ad b 3 ab) d).setCell (ad b 4 ab) e).setCell (ad b 5 ab) f).heap[b]?=some (ae #[a,c,v2,d,e,f] t (0,0)):=by
 rw[bW (bW (bW (bW (bW (bW h 0 a) 1 c) 2 v2) 3 d) 4 e) 5 f];rfl
def Ix(aO d n bL pat bK b5:aa)(aJ:J)(A C B D:s0)(aU:∀ W,az 128 #[aM #[aK aO,I d,I n,I aJ]] W λe w'=>∃ p bZ,e=aV #[.pointer p,I bZ]/\A W p bZ w'/\Below W W w')(L:∀ W,az 129 #[aK bL,I pat,I d] W λe w'=>∃ p bZ,e=aV #[.pointer p,I bZ]/\C W p bZ w'/\Below W W w')(K:∀ W,az 130 #[I bK] W λe w'=>∃ p bZ,e=aV #[.pointer p,I bZ]/\B W p bZ w'/\Below W W w')(M:∀ W,az 131 #[I b5] W λe w'=>∃ p bZ,e=aV #[.pointer p,I bZ]/\D W p bZ w'/\Below W W w')(w:ai):az 84 #[aM #[aK aO,I d,I n,I aJ,aK bL,I pat,I bK,I b5]] w (EI A C B D w):=by
 have al:=cm (aW w (ae #[aK aO,I d,I n,I aJ,aK bL,I pat,I bK,I b5] 26)) (ae #[.pointer none,.pointer none,.pointer none,.pointer none,.pointer none,.pointer none] 109);have O:(w.alloc (ae #[aK aO,I d,I n,I aJ,aK bL,I pat,I bK,I b5] 26)).heap.size=w.heap.size+1:=aI;have P:w.heap.size+2<=((w.alloc (ae #[aK aO,I d,I n,I aJ,aK bL,I pat,I bK,I b5] 26)).alloc (ae #[.pointer none,.pointer none,.pointer none,.pointer none,.pointer none,.pointer none] 109)).heap.size:=aI;have g:=aW (w.alloc (ae #[aK aO,I d,I n,I aJ,aK bL,I pat,I bK,I b5] 26)) (ae #[.pointer none,.pointer none,.pointer none,.pointer none,.pointer none,.pointer none] 109);rw[O]at g;have R:=((bY w.heap.size w).alloc bA (ae #[aK aO,I d,I n,I aJ,aK bL,I pat,I bK,I b5] 26)).alloc aI (ae #[.pointer none,.pointer none,.pointer none,.pointer none,.pointer none,.pointer none] 109);have X:=af R;have g':=af P;have f:=af al;have c:=af g;have x:=af aU;have z:=af L;have y:=af K;have cE:=af M;clear O P R aU L K M al g
 go_in
 go_wp2_with fail;generalize World.alloc (World.alloc w _) _=q at *;refine(x.o q).mono ?_;rintro e h ⟨l,E,rfl,r⟩;have a:Keeps aG q h:=Keeps.bE r.2 a7;have f:=af (a.heap f.out id);have c:=af (a.heap c.out id);have Z:=af r;clear x r a;have fo:=aP f.o;go_wp2_with fail;refine(z.out h).mono ?_;rintro e i ⟨pl,G,rfl,s⟩;have a:Keeps aG h i:=Keeps.bE s.2 a7;have f:=af (a.heap f.out id);have c:=af (a.heap c.out id);have a':=af s;clear z s a fo;have fo:=aP f.o;go_wp2_with fail;refine(y.out i).mono ?_;rintro e k ⟨bg,F,rfl,t⟩;have a:Keeps aG i k:=Keeps.bE t.2 a7;have f:=af (a.heap f.out id);have c:=af (a.heap c.out id);have fr:=af t;clear y t a fo;have fo:=aP f.o;go_wp2_with fail;refine(cE.out k).mono ?_;rintro e b ⟨m,em,rfl,u⟩;have a:Keeps aG k b:=Keeps.bE u.2 a7;have c:=af (a.heap c.out id);have gf:=af u;clear cE u a fo f;go_wp2_with fail
 all_goals
  refine(PY b).mono ?_;rintro e _ ⟨rfl,rfl⟩;go_wp2_with fail;refine(Pl _).mono ?_;rintro e _ ⟨rfl,rfl⟩;have a:=((a_ b).alloc (ae #[ao none 0 0] 291)).alloc (ae eG 278);have g:=a.heap c.out id;have Q:(b.alloc (ae #[ao none 0 0] 291)).heap.size=b.heap.size+1:=aI;have H:=Oe g (.pointer l) (.pointer pl) (.pointer bg) (.pointer m) b.heap.size (b.heap.size+1:J);have g0:=bJ g;have lb:=aP g;have S:=((((((Keeps.refl (λj=>j=w+1) ((b.alloc (ae #[ao none 0 0] 291)).alloc (ae eG 278))).setCell (p:=ad (w+1) 0 ab) rfl (.pointer l)).setCell (p:=ad (w+1) 1 ab) rfl (.pointer pl)).setCell (p:=ad (w+1) 2 ab) rfl (.pointer bg)).setCell (p:=ad (w+1) 3 ab) rfl (.pointer m)).setCell (p:=ad (w+1) 4 ab) rfl b.heap.size).setCell (p:=ad (w+1) 5 ab) rfl (b.heap.size+1:J);have T:=af H;have Y:=af S;clear H S a g c;rw[Q];clear Q;generalize N:(b.alloc (ae #[ao none 0 0] 291)).alloc (ae eG 278)=hd at *;have V:=af N;clear N;go_wp2_with fail;have h2:=dv _ _ _ _ T.o 6 rfl;refine cU (v:=aV #[aM #[.pointer l,.pointer pl,.pointer bg,.pointer m,b.heap.size,.pointer (some (ad (b+1) 0 ab))],(decide (E=0/\G=0/\F=0/\em=0))]) (by simp[results,results84,asAddr,loadVar,loadCells,isAgg109,sizeOf109, *]<;>rfl) rfl ?_;exact⟨q,l,E,h,pl,G,i,bg,F,k,m,em,b,⟨g'.out,X.out⟩,Z.out,a'.out,fr.out,gf.out,rfl,by rw[V.o];exact Y.o⟩
def Sep.pick{L:ah ay}(h:Sep w L)(a:ah J)(b:a.Nodup)(aj:∀ i∈a,i<L.length):Sep w (a.map λi=>L.getD i ay.none):=by
 have key:∀ i∈a,L[i]?=some (L.getD i ay.none):=λi av=>by
  have:=aj i av
  rw[gb this];simp[getD,gb this]
 refine⟨λr d=>?_,uA.2 (Pairwise.imp_of_mem (λ{i j} av c hne=>h.ru (key i av) (key j c) hne) b)⟩;obtain⟨i,av,rfl⟩:=fu.1 d;exact h.at' i (key i av)
structure fI(n:J)(w:ai)(L:ah ay):ak where
 sep:Sep w L
 bm:∀ r∈L,∀ j,r.S j->n<=j
theorem fI.nil(n:J)(w:ai):fI n w []:=⟨Sep.nil w,λ_ h=>nt⟩
theorem fI.cons{n:J}{L:ah ay}(h:fI n w L){r:ay}(hk:Keeps aG w w')(c:r.P w')(al:∀ b,r.S b->w.heap.size<=b)(au:n<=w.heap.size):fI n w' (r :: L):=
 ⟨h.sep.cons hk (λ_ _ _ _ e=>e) c al,λs ax j a=>by
  rcases e3.1 ax with rfl|ax
  .exact b7 au (al j a)
  .exact h.bm s ax j a⟩
theorem fI.keeps{n:J}{L:ah ay}{T:J->ak}(h:fI n w L)(hk:Keeps T w w')(a:∀ j,n<=j->¬ T j):fI n w' L:=
 ⟨h.sep.keeps hk λr c j b=>a j (h.bm r c j b),h.bm⟩
theorem fI.pick{n:J}{L:ah ay}(h:fI n w L)(a:ah J)(c:a.Nodup)(aj:∀ i∈a,i<L.length):fI n w (a.map λi=>L.getD i ay.none):=
 ⟨h.sep.pick a c aj,λr e j d=>by
  obtain⟨i,av,rfl⟩:=fu.1 e;have b:=aj i av;refine h.bm (L[i]) (og b) j ?_;simpa[getD,gb b]using d⟩
def vO(x:ck)(l:b9)(bK:aa):bO:=⟨x,l,cH.new bK,[],[],0,false,0⟩
def oU(b5:aa):gi:=⟨[],b5,ao none 0 0,ao none 0 0,0⟩
def EM(x:ck):s0:=λW p bZ W'=>bZ=0/\∃ b:fG,p=some (ad b.c 0 ab)/\IsCore W' b x/\∀ j,b.S j->W.heap.size<=j
def EO(l:b9):s0:=λW p bZ W'=>bZ=0/\p=some (ad (W+4) 0 ab)/\IsLink W' ⟨W+4,W.heap.size+1,W.heap.size,W.heap.size+3,W.heap.size+2⟩ l
def EN(most:aa):s0:=λW p bZ W'=>bZ=0/\p=some (ad (W+2) 0 ab)/\IsLd W' ⟨W+2,W.heap.size,W.heap.size+1,[]⟩ (cH.new most)
def EP(b5:aa):s0:=λW p bZ W'=>bZ=0/\p=some (ad W 0 ab)/\W'=W.alloc (ae #[I b5,I 0,ao none 0 0] 177)
def SM{x:ck}{l:b9}{bK b5:aa}{e:Ending}(h:EI (EM x) (EO l) (EN bK) (EP b5) w e w'):∃ b:fT,e=aV #[aM #[b.c.c,b.L.p,b.lb,b.e9,b.dV,b.dT],true]/\
   fI w.heap.size w' [ay.dT b.dT,ay.dV b.dV (ao none 0 0),ay.e9 b.e9 b5 (ao none 0 0),ay.ld ⟨b.lb,b.db,b.hb,[]⟩ (cH.new bK),ay.link b.L l,ay.core b.c x]/\
   Below w w w':=by
 obtain⟨y,P,M,d,pl,O,g,bg,N,n,Q,em,f,⟨F,v⟩,⟨⟨rfl,s,rfl,aq,C⟩,i⟩,⟨⟨rfl,rfl,D⟩,k⟩,⟨⟨rfl,rfl,a1⟩,m⟩,⟨⟨rfl,rfl,hm⟩,o⟩,rfl,hk⟩:=h;refine⟨⟨0,s,⟨d+4,d.heap.size+1,d.heap.size,d.heap.size+3,d.heap.size+2⟩,g.heap.size+2,g.heap.size,g.heap.size+1,n.heap.size,f.heap.size,f.heap.size+1,0,0⟩,aI,?_,?_⟩
 .have G:=i.size;have H:=k.size;have K:=m.size;have z4:=o.size;have h1:fI (w.heap.size+2) d [ay.core s x]:=(fI.nil _ y).cons (Keeps.bE (S:=aG) i a7) aq C F;have A:=(h1.cons (r:=ay.link ⟨d+4,d.heap.size+1,d.heap.size,d.heap.size+3,d.heap.size+2⟩ l) (Keeps.bE (S:=aG) k a7) D (λj a=>by rcases a with e|e|e|e|e<;>simp only at e<;>omega) U).cons (r:=ay.ld ⟨g+2,g.heap.size,g.heap.size+1,[]⟩ (cH.new bK)) (Keeps.bE (S:=aG) m a7) a1 (λj a=>by
   rcases a with a|a|a|a
   .simp only at a;omega
   .simp only at a;omega
   .simp only at a;omega
   .have⟨p,ar,_⟩:=a;cases ar) U
  have B:=(A.cons (r:=ay.e9 n.heap.size b5 (ao none 0 0)) (w':=f) ((hm▸(a_ _).alloc _:Keeps aG n f)) ⟨[],by rw[hm];exact⟨aW _ _,gB _ 0 _ _,aI⟩⟩ (λj a=>L9) U).cons (r:=ay.dV f.heap.size (ao none 0 0)) ((a_ f).alloc (ae #[ao none 0 0] 291)) ⟨[],⟨aW _ _,gB _ 0 _ _,aI⟩⟩ (λj a=>L9) U;have z:(f.alloc (ae #[ao none 0 0] 291)).heap.size=f.heap.size+1:=aI;have t:=B.cons (r:=ay.dT (f.alloc (ae #[ao none 0 0] 291)).heap.size) ((a_ _).alloc (ae eG 278)) ⟨0,0,0,0,fS,aW _ _⟩ (λj a=>gE a.symm) (by show _<=(f.alloc (ae #[ao none 0 0] 291)).heap.size;omega);rw[z]at t;have u:=t.keeps hk a7;exact⟨u.sep,λr E j a=>by have:=u.bm r E j a;omega⟩
 have R:=v.size;have G:=i.size;have H:=k.size;have K:=m.size;have z4:=o.size;have q:=(((((v.trans (i.mono U)).trans (k.mono U)).trans (m.mono U)).trans (o.mono U)).alloc U (ae #[ao none 0 0] 291)).alloc bU (ae eG 278);exact q.trans (hk.below q.size a7)
def T1(aO d n bL pat bK b5:aa)(aJ:J)(t:aJ<2)(u:¬ vA d n pat bK b5)(w:ai):az 58 #[aM #[aK aO,I d,I n,I aJ,aK bL,I pat,I bK,I b5]] w λe w'=>e=aV #[.pointer none,I 1]/\Below w w w':=by
 have q:=Ix aO d n bL pat bK b5 aJ (λ_ _ bZ _=>bZ=0->pN d n=true) (λ_ _ bZ _=>bZ=0->1<=pat/\pat<=10000) (λ_ _ bZ _=>bZ=0->1<=bK/\bK<=256) (λ_ _ bZ _=>bZ=0->1<=b5/\b5<=16)
  (ON aO d n aJ t) (Sx bL pat d) (R7 bK) (Th b5)
 have g:=af ((bY w.heap.size w).alloc bA (ae #[aK aO,I d,I n,I aJ,aK bL,I pat,I bK,I b5] 26))
 go_in
 go_wp2_with fail;generalize World.alloc w _=bl at *;refine(q _).mono ?_;rintro e an ⟨y,v,m,A,pl,p,B,bg,o,C,x,em,i,⟨D,r⟩,a,b,c,f,rfl,hk⟩;have hd:decide (m=0/\p=0/\o=0/\em=0)=false:=cZ λh=>u ⟨a.1 h.1,b.1 h.2.1,c.1 h.2.2.1,f.1 h.2.2.2⟩;have s:Below w w (an.alloc (ae #[.pointer v,.pointer pl,.pointer bg,.pointer x,i.heap.size,.pointer (some (ad (i+1) 0 ab))] 109)):=by
  have z:=g.out.size;have E:=a.2.size;have F:=b.2.size;have G:=c.2.size;have z4:=f.2.size;have l:=((((g.out.trans (r.mono z)).trans (a.2.mono U)).trans (b.2.mono U)).trans (c.2.mono U)).trans (f.2.mono U);have j:=(l.alloc U (ae #[ao none 0 0] 291)).alloc bU (ae eG 278);have k:=j.trans (hk.below j.size a7);exact k.alloc k.size _
 rw[hd];go_wp2_with fail;go_ret2;exact⟨rfl,s⟩
def A2(b:fT)(p o t:J):fT:={b with p:=p,du:=o,wt:=t}
def G9(aO:aa)(d n aJ:J)(bL pat bK b5:aa)(E:aJ<2)(hd:d<=8)(au:1<=n/\n<=16)(ar:1<=pat/\pat<=10000)(C:1<=bK/\bK<=256)(aX:1<=b5/\b5<=16)(w:ai):az 58 #[aM #[aK aO,I d,I n,I aJ,aK bL,I pat,I bK,I b5]] w λe w'=>
  ∃ b:fT,e=aV #[b.p,I 0]/\fI w.heap.size w' (bC b (vO ⟨aO,d,n,aJ,λ_=>h' d,0,[(0,k2 aO 0)],0⟩ (b9.new bL pat d) bK) (oU b5))/\Below w w w':=by
 obtain⟨x,u⟩:∃ x:ck,x=⟨aO,d,n,aJ,λ_=>h' d,0,[(0,k2 aO 0)],0⟩:=⟨_,rfl⟩;rw[<-u]
 have z:=Ix aO d n bL pat bK b5 aJ (EM x) (EO (b9.new bL pat d)) (EN bK) (EP b5)
  (λW=>(FF aO d n aJ hd au E W).mono λe w' ⟨b,h1,h2,a,g⟩=>⟨_,0,h1,⟨rfl,b,rfl,u▸h2,a⟩,g⟩)
  (λW=>(HT bL pat d ar U W).mono λe w' ⟨h1,h2,a⟩=>⟨_,0,h1,⟨rfl,rfl,h2⟩,a⟩)
  (λW=>(HN bK C).mono λe w' ⟨h1,h2,a,_⟩=>⟨_,0,h1,⟨rfl,rfl,h2⟩,a.below bA (λ_ _ e=>e)⟩)
  (λW=>(Ie b5 aX W).mono λe w' ⟨h1,h2⟩=>⟨_,0,h1,⟨rfl,rfl,h2⟩,by rw[h2];exact(bY _ W).alloc bA _⟩)
 have k:=af ((bY w.heap.size w).alloc bA (ae #[aK aO,I d,I n,I aJ,aK bL,I pat,I bK,I b5] 26));have G:=@run_makeMap prog;generalize b9.new bL pat d=l at *
 go_in
 go_wp2_with fail;generalize World.alloc w _=bl at *;refine(z _).mono ?_;intro e an D;obtain⟨b,rfl,al,t⟩:=SM D;have H:=k.o.size;have K:=t.size;go_wp2_with fail;go_ret2;have h1:=al.keeps ((a_ an).alloc (ae #[b.c.c,b.L.p,b.lb,b.e9,b.dV,b.dT] 109)) (λ_ _ e=>e);generalize s:an.alloc (ae #[b.c.c,b.L.p,b.lb,b.e9,b.dV,b.dT] 109)=A at *;have v:A.heap.size=an.heap.size+1:=by rw[<-s];simp
 have B:Below w w A:=by rw[<-s];exact((k.o.trans (t.mono k.o.size))).alloc U _
 have m:(A.alloc (.map #[] 0)).heap.size=an.heap.size+1+1:=by rw[<-v];simp
 have y:((A.alloc (.map #[] 0)).alloc (.map #[] 0)).heap.size=an.heap.size+1+1+1:=by rw[<-m];simp
 have a:=(h1.cons (r:=ay.ik A.heap.size []) ((a_ A).alloc (.map #[] 0)) ⟨RMap.made A prog 3 rR,λ_ h=>nomatch h⟩ (λj f=>gE f.symm) U).cons (r:=ay.ik (A.alloc (.map #[] 0)).heap.size []) ((a_ _).alloc (.map #[] 0)) ⟨RMap.made _ prog 3 rR,λ_ h=>nomatch h⟩ (λj f=>gE f.symm) U;have g:=a.cons (r:=ay.bc ((A.alloc (.map #[] 0)).alloc (.map #[] 0)).heap.size (oL (A2 b (an.heap.size+1+1+1) (an.heap.size+1) (an.heap.size+1+1)) (vO x l bK) 0,114)) ((a_ _).alloc _) (aW _ _) (λj f=>gE f.symm) U;rw[m,y,v]at g;have q:=g.pick [0,8,7,6,5,4,3,2,1] bq (λi av=>by show i<9;exact(show ∀ i∈[0,8,7,6,5,4,3,2,1],i<9 by decide) i av);exact⟨A2 b (an.heap.size+1+1+1) (an.heap.size+1) (an.heap.size+1+1),rfl,⟨q.sep,λr F j f=>by have:=q.bm r F j f;omega⟩,(((B.alloc U (.map #[] 0)).alloc U (.map #[] 0)).alloc U (ae (oL (A2 b (an.heap.size+1+1+1) (an.heap.size+1) (an.heap.size+1+1)) (vO x l bK) 0) 114))⟩
end Go.Proofs.YtalagblioepadaaGreatDoor
