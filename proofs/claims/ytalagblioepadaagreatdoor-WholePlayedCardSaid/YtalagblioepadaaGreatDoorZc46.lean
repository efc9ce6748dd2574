/- The proof, part 46. -/
import Derived.Test.YtalagblioepadaaGreatDoorZc45
namespace Go.Proofs.YtalagblioepadaaGreatDoor
set_option linter.all false
open Proofs.Tryz List Go.RowKit Go.Maps
set_option maxRecDepth 100000
set_option maxHeartbeats 4000000
def Ek{p:ak}(h:p:=by rw[B,<-Y];exact aX _ _):p:=h
def Eh{p:ak}(h:p:=by rcases k with rfl|k;omega;cases k):p:=h
def Ee{p:ak}(h:p:=by show(-1000:aa)<=0/\(0:aa)<=1000;omega):p:=h
def ML{p:ak}(h:p:=by show(0:aa)<=0/\(0:aa)<=1073741824;omega):p:=h
def MF{p:ak}(h:p:=by rcases a with a|a;exact gD a.symm;cases a):p:=h
def Mt{p:ak}(h:p:=by rw[fu];have:=hk.E;have:=(q5 hk.cK);have⟨_,_,_,_,_,_,_,q,_⟩:=this;rw[q];omega):p:=h
def NU{p:ak}(h:p:=by
 have y:=af (Bq A.out z.o Z.out.1.o9 Z.out.1.pZ Z.out.2);clear z;go_wp2_with fail;refine aU y.o ?_;rintro m' ⟨T',aal,l⟩;obtain⟨M,N,mv,_,_⟩:=cS (ko l).2;rw[mv]at l;obtain⟨O,l'⟩:=cO (eX a').2.length;rw[<-l']at l;clear mv l' y;have lb:=(ko l).1;have C:m'.heap[w.heap.size]?=some (ae cd 35 (0,0)):=l.at' 12 rfl;have d0:=aS lb;have g0:=bI C;have z0:=aS C;have TS:=af (jH C (aq M O N) (aq none 0 0) (.bool false));have Tq:=af ((Be l.qe (jP m' w.heap.size (aq M O N) (aq none 0 0) (.bool false))).qe);clear l lb C;go_wp2_with fail;have V':=dx _ _ _ _ TS.o 3 rfl;refine dq (v:=aV #[aQ #[aq M O N,(aq none 0 0),false],I 0]) V' ?_;rw[hd.out.1,hd.out.2];exact⟨_,rfl,T',Tq.o⟩
 ):p:=h
def Mc{p:ak}(h:p:=by
 obtain⟨n,t,M,_,_⟩:=cS (ko a).2;rw[M]at a;obtain⟨u,L⟩:=cO x.2.length;rw[<-L]at a;clear M L;have K:=(ko a).1;have g:=a.at' 10 rfl;have W:=aS K;have g0:=bI g;have X:=aS g;have S:=af (jH g (aq n u t) (aq none 0 0) (.bool false));have Q:=af (Ra a (jP y w.heap.size (aq n u t) (aq none 0 0) (.bool false)));clear a K g;go_wp2_with fail;have V:=dx _ _ _ _ S.o 3 rfl;refine dq (v:=aQ #[aq n u t,(aq none 0 0),false]) V ?_;rw[T.out];exact⟨_,rfl,f,Q.o⟩
 ):p:=h
def NT{p:ak}(h:p:=by
 unfold pD im;have ZN:=wz (λ_=>(0:aa)) (f:=0) (n:=j) U;unfold fW at G⊢;rw[<-ZN];exact G
 ):p:=h
def N3{p:ak}(h:p:=by
 exact h1.set 9 (r':=ay.cR v p.2) rfl (ba w') (λ_ _ e=>e.elim) (ko h1).2 (λ_ h=>.inl (.inr h))
 ):p:=h
section
open Go.Maps
variable{w w':ai}{b:ga}{s:bJ}{R:ah ay}{d:gq}{o:J}{sd:ax}{m:aY}{F:J}{a_ us:J->J->aa}
def ay.cC(A:b5 Addr)(n cap:J)(xs:ah ax):ay where
 S j:=0<n/\∃ x,A=some x/\x.block=j
 P w:=dR w 1 A n cap xs
 lt h b:=by obtain⟨ar,x,a,rfl⟩:=b;exact h.lt U ar a
 frame h hk av:=h.keeps hk λar x a=>av _ ⟨ar,x,a,rfl⟩
def jH{w:ai}{b:J}{t:TypeId}{u v z:ax}(h:w.heap[b]?=some (ae #[u,v,z] t (0,0)))(x y q:ax):(((w.setCell (ad b 0 ab) x).setCell (ad b 1 ab) y).setCell (ad b 2 ab) q).heap[b]?=some (ae #[x,y,q] t (0,0)):=by
 have:=bV (bV (bV h 0 x) 1 y) 2 q
 simpa using this
theorem jP(w:ai)(b:J)(x y z:ax):Keeps (λj=>j=b) w (((w.setCell (ad b 0 ab) x).setCell (ad b 1 ab) y).setCell (ad b 2 ab) z):=
 (((Keeps.refl (λj=>j=b) w).setCell (p:=ad b 0 ab) rfl x).setCell (p:=ad b 1 ab) rfl y).setCell (p:=ad b 2 ab) rfl z
def Sep.drop1{A B:ah ay}{eO:J}{z:a6 ax×TypeId}(h:Sep w (A++ay.bc eO z :: B))(hk:Keeps (λj=>j=eO) w w'):Sep w' (A++B):=by
 have au:=h.perm qq;exact au.tail.keeps hk λr b j a e=>(jg.1 au.apart).1 r b j e a
def Be{p:cl}{v:ax}{Q:ay}{eO:J}{z:a6 ax×TypeId}(h:Sep w (bC b p.1 d++ay.out o v sd m p.2 :: Q :: ay.bc eO z :: R))(hk:Keeps (λj=>j=eO) w w'):Sep w' (bC b p.1 d++ay.cR v p.2 :: Q :: R):=by
 have h1:=Sep.drop1 (A:=bC b p.1 d++[ay.out o v sd m p.2,Q]) h hk;exact N3
theorem Bd(h:Sep w (bC b s d++R)):Sep w (bC b s d++ay.cR (aq none 0 0) [] :: R):=
 (h.cons (r:=ay.cR (aq none 0 0) []) (ba w) (λ_ _ _ _=>id) (gI w 0 _ _) (λj a=>by cases a)).iI
theorem Hc(h:Sep w (bC b s d++R)){l:b9}{A:b5 Addr}{n cap:J}{xs:ah ax}(i:IsLink w' b.L l)(hk:Keeps b.L.S w w')(f:dR w' 1 A n cap xs)(e:∀ y,A=some y->w.heap.size<=y.block):Sep w' (ay.cC A n cap xs :: (bC b {s with aE:=l} d++R)):=
 h.y5 2 (r':=ay.link b.L l) (q:=ay.cC A n cap xs) rfl hk (λ_ _ h=>h) i (λ_ h=>.inl h) f (λj a=>by obtain⟨_,x,c,rfl⟩:=a;exact e x c) (λj a g=>by
  obtain⟨_,x,c,rfl⟩:=a;have h1:=(ay.link b.L s.aE).lt (mR h) g
  have:=e x c
  omega)
def xv(b:ga)(s':bJ)(cs:ah ca)(a:ah a1)(f:aY)(R:ah ay)(e:Ending)(w':ai):ak:=
 ∃ c A cap,e=aV #[aQ #[c,aq A a.length cap,.bool f],I 0]/\∃ d,Sep w' (bC b s' d++ay.cR c cs :: ay.cC A a.length cap (lk a) :: R)
def RG(h:Sep w (bC b s d++R))(aJ:s.b1=true)(v:aR)(aW:v.toNat<=63)(a:vn s.aE 0):aA 60 #[b.p,aF v.toNat] w (xv b (cA v s).1 (cA v s).2 (ff v s) (dN s) R):=by
 have g:cA v s=({s with aE:=(c1 s.aE 0).2},[]):=by unfold cA;rw[aD aJ]
 have i:ff v s=(c1 s.aE 0).1:=by unfold ff;rw[aD aJ]
 have k:dN s=false:=by unfold dN;rw[aJ];rfl
 rw[g,i,k];have c:=(h.cons (r:=ay.bc w.heap.size (cd,35)) ((ba w).alloc (ae cd 35)) (λ_ _ _ _=>id) (aX w (ae cd 35)) (λj n=>gD (jT n))).iI;have fa:=pR c;rw[aJ]at fa;have bY:=o0 c
 go_in
 go_wp2_with fail;generalize w.alloc (ae cd 35)=bk at *;refine((Ip (mR c) 0 a.aO a.aJ a.j7 a.hm a.ar)).mono ?_;rintro e ao ⟨⟨A,cap,rfl,m,l⟩,a,q⟩;have h1:=(Hc c a q m l).iI;have f:=h1.at' 10 rfl;have g0:=bI f;have t:=aS f;go_wp2_with fail;have o:=dx _ _ _ _ ((jH f (aq none 0 0) (.slice A (c1 s.aE 0).1.length cap) (.bool false))) 3 rfl;refine dq (v:=aV #[aQ #[aq none 0 0,.slice A (c1 s.aE 0).1.length cap,false],I 0]) o ?_;exact⟨_,A,cap,rfl,d,by have:=((Bd (Sep.drop1 (A:=bC b {s with aE:=(c1 s.aE 0).2} d++[ay.cC A (c1 s.aE 0).1.length cap (lk (c1 s.aE 0).1)]) h1 (jP ao w.heap.size (aq none 0 0) (.slice A (c1 s.aE 0).1.length cap) (.bool false)))));simpa using this⟩
end
section
open Go.Maps
variable{eC:Old}{w w':ai}{b:ga}{s:bJ}{R:ah ay}{d:gq}{o:J}{sd:ax}{m:aY}{F:J}{a_ us:J->J->aa}
def RD(g:ay.kinds eC∈R)(h:Sep w (bC b s d++R))(v:aR)(hk:Ao s v F a_ us):aA 60 #[b.p,aF v.toNat] w (xv b (cA v s).1 (cA v s).2 (ff v s) (dN s) R):=by
 have zp:cA v s=kZ (da v s):=by unfold cA;rw[hk.lK];rfl
 have Aw:ff v s=(c1 (da v s).1.aE (h8 {(da v s).1 with x:=dV (da v s).1.x})).1:=by unfold ff;rw[hk.lK];rfl
 have ZT:dN s=gd (cM s).1:=by unfold dN;rw[hk.lK];rfl
 have⟨aaU,v',aat,_,fu,ZQ,_,_,_,aav,ZR,aaR,aaw,aau,_⟩:=q5 hk.cK;have aaj:bN (cM s).1=bN s:=by unfold bN fv;rw[aav,ZQ]
 have cp:ha (cM s).1 a_ aaU:=λj k Z6=>by rw[ZQ];rw[fu]at k;rw[aaj]at Z6;exact aat j k Z6
 have aae:=aaw.trans hk.lK;have Z4:=v'.XK cp aae (by rw[fu];exact hk.top) (by rw[aau];exact hk.ct) (by rw[ZR];exact hk.ot) (by rw[ZR];exact hk.ch);have V':=v'.Kw cp (by rw[fu];exact hk.top) Mt v hk.dH (cM s).2;have Z1:=hk.cK.Jp;obtain⟨aaY,m1,_,_,Z'⟩:=t_ hk.cK hk.lK hk.E (b7 hk.top bq) v hk.dH;have y:=m1.cK;have ZN:=m1.gH;have aab:=Kx v v' (λal=>(V' al).2.2.2.2.1);have ZM:=m1.now;obtain⟨l,fr⟩:=cO (ei v (cM s));rw[<-fr]at y ZN aab Z' ZM;have gw:=y.oj ZN;have aaK:=y.aN;have aai:∀ n,(eA n l).2.length<=l.2.length+320*n:=λn=>hv.AZ n y.y';obtain⟨X,_⟩:=m1.settle;rw[<-fr]at X;have em:jr l=da v s:=by rw[fr];rfl
 have aaJ:=y.jk;have aaO:=y.lB;have aag:cY l.1.x<=l.1.ld.aN+100:=by
  have:=hk.gF
  have:=hk.top
  omega
 have aaM:l.1.x.now<=90001:=by
  have:=hk.top
  split at ZM<;>omega
 have aah:=y.y';have Z5:∀ f:J,l.1.ld.aN+2<=f->(f:aa)<=cY l.1.x+1->vu l.1.x f:=λf h1 h2=>y.XT U f (by have:=hk.gF;omega) U;have ZG:(da v s).2.length<=60000:=by
  rw[<-em]
  have:=aai (cY l.1.x-l.1.ld.aN).toNat
  unfold jr;omega
 rw[em]at X;have g':=X.cK;have gf:=X.gH;have⟨a,ZL⟩:=cO (da v s);have aaf:a.1.x.now<=90001:=by
  have a':=X.now
  have:=hk.top
  rw[ZL];split at a'<;>omega
 have ZI:=hk.aE;rw[<-ZL]at g' gf ZG em ZI zp Aw;have f5:=(g'.free gf).1;have aas:=(g'.oj gf).1;rw[zp,Aw,ZT]
 -- the memory
 have aam:=(ba w).alloc (ae cd 35);have CW:=(h.cons (r:=ay.bc w.heap.size (cd,35)) aam (λ_ _ _ _=>id) (aX w (ae cd 35)) (λj k=>gD (jT k))).iI;have aan:=(ba (w.alloc (ae cd 35))).alloc (ae cd 35);have Y:(w.alloc (ae cd 35)).heap.size=w.heap.size+1:=aK;have⟨z,B⟩:=cO (w.heap.size+1);have fa:=pR CW;rw[hk.lK]at fa;have h1:=(CW.cons (r:=ay.out z (aq none 0 0) (aq none 0 0) false []) aan (λ_ _ _ _=>id) ⟨Ek,gI _ 0 _ _⟩ (λj k=>Eh)).iI;have aaX:decide (((63:aa))<(v.toNat:aa))=false:=dd (by have:=hk.dH;omega);have sd:=af (kg (ay.bc w.heap.size (cd,35)) g);have Z2:=af (RK sd.o ⟨d,_,h1⟩ hk.cK (b7 hk.top bq) (hk.cK.hd.trans hk.lK));have ys:=b6 Z4 (bB V' Z1);have aaE:=af fr;have N:=b6 aah (bB y.o9 (bB gw.1 (bB (show l.2.length<=10000 by omega) (bB (bB (show l.1.ld.aN<=900000 by omega) aag) Z5))));have aaC:=af em;have m:=b6 g' (bB gf (bB aas (bB aaf (bB f5 (bB ZG ZI)))));have aaG:=af hk.dH;have aaD:=af B;clear g h hk zp Aw ZT v' aat fu ZQ aav ZR aaR aaw aau aaj cp aae Z4 V' Z1 m1 y ZN aab Z' ZM fr gw aaK aai X em aaJ aaO aag aaM aah Z5 ZG g' gf ZL aaf ZI f5 aas aam CW aan Y h1
 go_in
 go_wp2_with fail;rw[<-aaD.o];refine aU Z2.o ?_;rintro ao ⟨d1,v1,h1⟩;have fN:=G_ h1;have u:=af (PZ b.dS (Ha h1));have H1:=af h1;clear h1 Z2 fa B;go_wp2_with fail;refine u.o.mono ?_;rintro e aC ⟨⟨bo,rfl⟩,Z9,aao⟩;have h2:=Hb H1.out Z9 aao;have an:=af (RN sd.out ⟨d1,v1,h2⟩ v aaG.out ys.out.1 (b7 ys.out.2.2 bq) ys.out.2.1);clear h2 Z9 aao u H1 fN;go_wp2_with fail;refine aU an.o λbm Q'=>?_;rw[<-aaE.out]at Q';have Z3:=af (RM sd.out Q' N.out.1 N.out.2.1 N.out.2.2.1 N.out.2.2.2.1 N.out.2.2.2.2.1 N.out.2.2.2.2.2);clear Q' an;go_wp2_with fail;refine aU Z3.o λaaV S=>?_;rw[aaC.out]at S;obtain⟨Z,D,S⟩:=S;obtain⟨mv,ZJ⟩:=cO (gd (cM s).1);rw[<-ZJ]at S;have cF:=af ZJ;clear Z3 ZJ;obtain⟨O,St⟩:=cO (bC b a.1 Z++ay.out z D (aq none 0 0) mv a.2 :: ay.bc w.heap.size (cd,35) :: R);have i:∀ W,Sep W O->Sep W (bC b a.1 Z++ay.out z D (aq none 0 0) mv a.2 :: ay.bc w.heap.size (cd,35) :: R):=λW h=>St▸h;have lb:Sep aaV.drew O:=by rw[St];exact S.drew 1
 have ZP:∀ x:bp (λW=>Sep W O),x.to.cell? (ad b.p 0 ab)=some (.pointer (some (ad b.c.c 0 ab))):=λx=>lE (i _ x.held);have aT:=af (λ(W:ai) (t:Sep W O)=>xO (hz (i _ t)) m.out.2.2.1);have ZZ:=af (λ(W:ai) (t:Sep W O)=>Pm (hz (i _ t)) m.out.1 m.out.2.1 m.out.2.2.2.1);have C:=af i;clear S St i;go_wp2_with fail;refine cH 12 ?_;refine cI (λW=>Sep W O) (.range 11) 1 11 ?_;refine dC (lb) (.range 10) 1 ?_;refine jq 10 λK g=>?_;go_simp;refine aU (aT.o _ lb) λaa0 aap=>?_;have l':=lb.keep aap;refine g _ _ (l') ?_;clear g K;refine cI (oL) [11] 0 1 ?_;refine kx 11 λK g=>?_;go_simp;refine(ZZ.o _ l').mono ?_;rintro e aaW ⟨⟨n7,rfl⟩,aal,aaq⟩;refine g _ _ (ma _) ?_;clear g K;have ZU:=x_ (C.out _ l') aal aaq;clear lb aap l' aal aaq aT ZZ ZP C;obtain⟨G,Tq⟩:=cO (bC b {a.1 with x:=dV a.1.x} Z++ay.out z D (aq none 0 0) mv a.2 :: ay.bc w.heap.size (cd,35) :: R);have i:∀ W,Sep W G->Sep W (bC b {a.1 with x:=dV a.1.x} Z++ay.out z D (aq none 0 0) mv a.2 :: ay.bc w.heap.size (cd,35) :: R):=λW h=>Tq▸h;have T:Sep aaW.drew G:=by rw[Tq];exact ZU.drew 1
 have ZP:∀ x:bp (λW=>Sep W G),x.to.cell? (ad b.p 0 ab)=some (.pointer (some (ad b.c.c 0 ab))):=λx=>lE (i _ x.held);have aaP:∀ x:bp (λW=>Sep W G),x.to.cell? (ad b.p 4 ab)=some (.pointer (some (ad b.dU 0 ab))):=λx=>tG (i _ x.held);have ZW:=af (λ(W:ai) (t:Sep W G)=>vA (hz (i _ t)));have ZX:=af (λ(W:ai) (t:Sep W G)=>by
  obtain⟨ps,aaN⟩:=Bb (i _ t);exact Qx aaN ((dV a.1.x).now:aa))
 have C:=af i;clear ZU Tq i;go_wp2_with fail;refine cH 12 ?_;refine cI (λW=>Sep W G) (.range 11) 1 11 ?_;refine dC (T) (.range 10) 1 ?_;refine jq 10 λK g=>?_;go_simp;refine bA (ZW.o _ T) ?_;refine g _ _ (T) ?_;clear g K;refine cI (oL) [11] 0 1 ?_;refine kx 11 λK g=>?_;go_simp;refine(ZX.o _ T).mono ?_;rintro e aax ⟨⟨fa,rfl⟩,Z7⟩;refine g _ _ (ma _) ?_;clear g K;obtain⟨aaS,a'⟩:=Rc (C.out _ T) Z7;clear T Z7 ZW ZX ZP aaP C;obtain⟨Q,aaa⟩:∃ Q:gq,Q={Z with dg:=aaS}:=⟨_,rfl⟩;rw[<-aaa]at a';clear aaa;obtain⟨P,TS⟩:=cO (bC b {a.1 with x:=dV a.1.x} Q++ay.out z D (aq none 0 0) mv a.2 :: ay.bc w.heap.size (cd,35) :: R);have i:∀ W,Sep W P->Sep W (bC b {a.1 with x:=dV a.1.x} Q++ay.out z D (aq none 0 0) mv a.2 :: ay.bc w.heap.size (cd,35) :: R):=λW h=>TS▸h;have m':Sep aax.drew P:=by rw[TS];exact a'.drew 1
 have aaQ:∀ x:bp (λW=>Sep W P),x.to.cell? (ad b.p 1 ab)=some (.pointer (some (ad b.L.p 0 ab))):=λx=>o0 (i _ x.held);have T':=af (λ(W:ai) (t:Sep W P)=>HB (i _ t));have W':=af (λ(W:ai) (t:Sep W P)=>Ip (mR (i _ t)) (h8 {a.1 with x:=dV a.1.x}) m.out.2.2.2.2.2.2.aO m.out.2.2.2.2.2.2.aJ m.out.2.2.2.2.2.2.j7 m.out.2.2.2.2.2.2.hm m.out.2.2.2.2.2.2.ar);have C:=af i;obtain⟨ld,ZH⟩:=cO (h8 {a.1 with x:=dV a.1.x});rw[<-ZH]at T' W';have ZS:=af ZH;clear a' TS i ZH;go_wp2_with fail;refine cH 10 ?_;refine cI (λW=>Sep W P) (.range 7) 3 7 ?_;refine dC (m') (.range 6) 1 ?_;refine jq 6 λK g=>?_;go_simp;refine aU (T'.o _ m') ?_;rintro _ ⟨q,rfl⟩;have r':=m'.drew q;refine g _ _ (r') ?_;clear g K;clear m' T';generalize aax.drew.drewN q=aa1 at *;refine cI (oL) [7,8,9] 0 3 ?_;refine ew 7 λK g=>?_;go_simp;refine(W'.out _ r').mono ?_;rintro e aay ⟨⟨A,cap,rfl,Z8,ZV⟩,aac,aar⟩;refine g _ _ (ma _) ?_;clear g K;refine hg 8 (ma _) ?_;have V:=(Hc (C.out _ r') aac aar Z8 ZV).q1;have aaT:=aS ((ko (p:=({a.1 with x:=dV a.1.x,aE:=(c1 a.1.aE ld).2},a.2)) V).1);have f1:=bI ((ko (p:=({a.1 with x:=dV a.1.x,aE:=(c1 a.1.aE ld).2},a.2)) V).1);refine h_ 9 (ma _) ?_;obtain⟨M,H⟩:∃ M:cl,M=({a.1 with x:=dV a.1.x,aE:=(c1 a.1.aE ld).2},a.2):=⟨_,rfl⟩;have V:Sep aay (bC b M.1 Q++ay.out z D (aq none 0 0) mv M.2 :: ay.cC A (c1 a.1.aE ld).1.length cap (lk (c1 a.1.aE ld).1) :: ay.bc w.heap.size (cd,35) :: R):=by rw[H];exact V
 have ZY:=Rb V (.slice A (c1 a.1.aE ld).1.length cap);have ZK:=b8.same (s':=M.1) m.out.2.2.2.2.1 (by rw[H]) (by rw[H]) (by rw[H]);have Z0:=af (Bq (kg _ sd.out) ⟨Q,D,ZY⟩ ZK.o9 ZK.pZ (by rw[H];exact b7 m.out.2.2.2.2.2.1 bq));have aaF:=af H;clear V ZY ZK aaT f1 aac aar ZV Z8 W' r' aaQ C H;generalize aay.setCell (ad z 1 ab) (.slice A (c1 a.1.aE ld).1.length cap)=aa2 at *;go_wp2_with fail;refine aU Z0.o ?_;rintro aaz ⟨aaH,aaZ,u⟩;obtain⟨w',zd,aak,_,_⟩:=cS (ko u).2;rw[aak]at u;obtain⟨ZO,aad⟩:=cO (eX M).2.length;rw[<-aad]at u;clear aak aad;have Z_:=(ko u).1;have vl:aaz.heap[w.heap.size]?=some (ae cd 35 (0,0)):=u.at' 11 rfl;have d0:=aS Z_;have g0:=bI vl;have z0:=aS vl;have aaB:=af (jH vl (aq w' ZO zd) (.slice A (c1 a.1.aE ld).1.length cap) (.bool mv));have aaA:=af (Be u (jP aaz w.heap.size (aq w' ZO zd) (.slice A (c1 a.1.aE ld).1.length cap) (.bool mv)));clear Z0 u Z_ vl;go_wp2_with fail;have aaL:=dx _ _ _ _ aaB.o 3 rfl;refine dq (v:=aV #[aQ #[(aq w' ZO zd),.slice A (c1 a.1.aE ld).1.length cap,.bool mv],I 0]) aaL ?_;have aaI:kZ a=eX M:=by rw[aaF.out,ZS.out];rfl
 rw[aaI,<-ZS.out,<-cF.out];exact⟨_,A,cap,rfl,aaH,aaA.o⟩
end
theorem b8.yl{F:J}{a_ us:J->J->aa}:∀ (l:ah aR) {s:bJ},b8 s F a_ us->bN s+l.length<=F+64->(∀ i x,l[i]?=some x->a_ (1-s.x.aL) (bN s+i)=(x.toNat:aa))->(∀ x∈l,x.toNat<=63)->b8 {s with x:=fk s.x l} F a_ us/\bN {s with x:=fk s.x l}=bN s+l.length/\c_ {s with x:=fk s.x l}=c_ s/\(fk s.x l).now=s.x.now/\(fk s.x l).aL=s.x.aL/\(fk s.x l).eF=s.x.eF/\(fk s.x l).dv=s.x.dv/\(fk s.x l).aG=s.x.aG
 | [],s,h,_,_,_=>⟨h,rfl,rfl,rfl,rfl,rfl,rfl,rfl⟩
 | v :: r,s,h,f,hk,aj=>by
  simp only[ds]at f;obtain⟨c,b,g⟩:=h.RV U v (aj v mI);have d:(λi=>if i=1-s.x.aL then b2 (a_ (1-s.x.aL)) (bN s) v.toNat else a_ i)=a_:=by
   funext i
   split
   .subst i
    funext j
    unfold b2;split
    .rename_i e;rw[e,<-(hk 0 v rfl)];rfl
    rfl
   rfl
  rw[d]at c;obtain⟨k,m,n,o,p,q,t,u⟩:=b8.yl r c (by rw[b];omega) (λi x a=>by
   rw[b]
   have:=hk (i+1) x (by rw[jV];exact a)
   rw[show bN s+1+i=bN s+(i+1)by omega];exact this) (λx a=>aj x (kg _ a))
  have e:fk s.x (v :: r)=fk (gx s.x (1-s.x.aL) v.toNat) r:=rfl;rw[e];exact⟨k,by rw[m,b,ds];omega,n.trans g,o,p,q,t,u⟩
def HG(r:bG)(s:bJ):(fj r s).1.x=s.x/\(fj r s).1.aE=s.aE/\(fj r s).1.ld.aN=s.ld.aN/\(fj r s).1.ld.most=s.ld.most:=by
 unfold fj;split
 .have⟨a,b,c,_,_,d⟩:=BA r.frame r.sum (s,[]);exact⟨a,b,c,d⟩
 split<;>exact⟨rfl,rfl,rfl,rfl⟩
theorem b8.fj{s:bJ}{F:J}{a_ us:J->J->aa}(h:b8 s F a_ us)(r:bG):b8 (fj r s).1 F a_ us:=by
 unfold Go.Proofs.YtalagblioepadaaGreatDoor.fj;split
 .exact h.hold _ _ _
 split
 .exact h.same rfl rfl rfl
 exact h
def Sm(Q:bG->ak)(a:∀ k f i,Q ⟨k,f,i,0,0,0⟩)(l:b9)(m:a1):Q (ja l m).1:=by
 unfold ja;simp only[];split
 .exact a _ _ _
 exact a _ _ _
def T_(Q:bG->ak)(a:∀ k f i,Q ⟨k,f,i,0,0,0⟩)(m:a1)(b:∀ x,Q ⟨4,0,[],(ec x m.cj).1,m.sum,0⟩)(c:Q ⟨6,0,[],0,0,m.lead⟩)(l:b9):Q (hR l m).1:=by
 unfold hR;split
 .exact Sm Q a _ _
 split
 .exact b _
 split
 .exact a _ _ _
 split
 .exact c
 exact a _ _ _
def X4(Q:bG->ak)(a:∀ k f i,Q ⟨k,f,i,0,0,0⟩)(m:a1)(b:∀ x,Q ⟨4,0,[],(ec x m.cj).1,m.sum,0⟩)(c:Q ⟨6,0,[],0,0,m.lead⟩)(l:b9):Q (cP l m).1:=by
 unfold cP;split
 .exact a _ _ _
 split
 .split
  .exact a _ _ _
  exact a _ _ _
 split
 .exact a _ _ _
 split
 .exact T_ Q a m b c l
 exact a _ _ _
def HI(Q:bG->ak)(a:∀ k f i,Q ⟨k,f,i,0,0,0⟩)(l:b9)(t:ah aR)(b:∀ x,Q ⟨4,0,[],(ec x (fw t).1.cj).1,(fw t).1.sum,0⟩)(c:(fw t).2=0->Q ⟨6,0,[],0,0,(fw t).1.lead⟩):Q (cJ l t).1:=by
 unfold cJ;split
 .exact a _ _ _
 split
 .exact a _ _ _
 rename_i h;split
 .exact X4 Q a _ b (c U) _
 exact a _ _ _
theorem R1(l:b9)(t:ah aR):0<=(cJ l t).1.frame/\(cJ l t).1.frame<=1073741824:=
 HI (λr=>0<=r.frame/\r.frame<=1073741824) (λ_ _ _=>ML) l t (λx=>G5 x _) (λ_=>ML)
theorem R2(l:b9)(t:ah aR)(h:(∃ m,t=dn m/\m.wf/\di m)\/(fw t).2≠0):-1000<=(cJ l t).1.lead/\(cJ l t).1.lead<=1000:=
 HI (λr=>-1000<=r.lead/\r.lead<=1000) (λ_ _ _=>Ee) l t (λx=>Ee) (λb=>by
  rcases h with⟨m,rfl,c,a⟩|h
  .rw[CX m a c];exact a.2.2.1
  .exact absurd b h)
theorem Bx:∀ (l:ah aR) (x:ck),(fk x l).aL=x.aL/\((fk x l).f (1-x.aL)).next=(x.f (1-x.aL)).next+l.length/\((fk x l).f (1-x.aL)).first=(x.f (1-x.aL)).first
 | [],_=>⟨rfl,rfl,rfl⟩
 | v :: r,x=>by
  obtain⟨h1,h2,b⟩:=Bx r (gx x (1-x.aL) v.toNat);have e:fk x (v :: r)=fk (gx x (1-x.aL) v.toNat) r:=rfl;have c:(gx x (1-x.aL) v.toNat).aL=x.aL:=rfl;have a:((gx x (1-x.aL) v.toNat).f (1-x.aL)).next=(x.f (1-x.aL)).next+1/\((gx x (1-x.aL) v.toNat).f (1-x.aL)).first=(x.f (1-x.aL)).first:=by
   show(eP x.f (1-x.aL) _ (1-x.aL)).next=_/\(eP x.f (1-x.aL) _ (1-x.aL)).first=_;rw[ra];exact⟨rfl,rfl⟩
  rw[c]at h1 h2 b;rw[e,ds];exact⟨h1,by rw[h2,a.1];omega,b.trans a.2⟩
def RX(x:ck)(l:ah aR)(v:aR):fk x (l++[v])=gx (fk x l) (1-x.aL) v.toNat:=by
 have h:=(Bx l x).1;unfold fk at *;rw[nB];show gx _ (1-(l.foldl _ x).aL) _=_;rw[h]
def RW{s:bJ}(h:hv s.x (s,[]))(r:bG):(fj r s).2.length<=256:=by
 unfold fj;split
 .have:=(h.hold r.frame r.sum).2
  simpa using this
 split<;>simp
section
open Go.Maps
variable{w w':ai}{b:ga}{s:bJ}{R:ah ay}{d:gq}{o:J}{sd:ax}{m:aY}{F:J}{a_ us:J->J->aa}
def ay.pJ(a:b5 Addr)(c:J)(l:ah aR):ay where
 S j:=l≠[]/\∃ x,a=some x/\x.block=j
 P w:=c3 w a c l
 lt h d:=by obtain⟨ar,x,b,rfl⟩:=d;exact h.lt ar x b
 frame h hk av:=h.keeps hk λar x b=>av _ ⟨ar,x,b,rfl⟩
structure xq(l:b9)(t:cc):ak where
 av:t.size<=100000
 ar:0<=l.next/\l.next<=1073741824
 bd:0<=l.c4/\l.c4<=1073741824
 aZ:0<=l.eY/\l.eY<=1000000
 aj:0<=l.bad/\l.bad<=1000000
 aO:0<=l.e8/\l.e8<=1000000
def vp(b:ga)(s':bJ)(cs:ah ca)(b0:aa)(R:ah ay)(e:Ending)(w':ai):ak:=
 ∃ a,e=aV #[aQ #[a,(aq none 0 0),false],I b0]/\∃ d,Sep w' (bC b s' d++ay.cR a cs :: R)
def Rz(h:Sep w (bC b s d++R))(aJ:s.b1=true)(t:cc):aA 65 #[b.p,.string t] w (vp b (df t.data.toList s).1 (df t.data.toList s).2 (i' t.data.toList s) R):=by
 have a:df t.data.toList s=(s,[]):=by unfold df;rw[aD aJ]
 have c:i' t.data.toList s=12:=by unfold i';rw[aD aJ]
 rw[a,c];have h1:=h.keep ((ba w).alloc (ae cd 35));have fa:=pR h1;rw[aJ]at fa
 go_in
 go_wp2_with fail;have e:=dx _ _ _ _ (aX w (ae cd 35)) 3 rfl;refine dq (v:=aV #[aQ cd,I 12]) e ?_;exact⟨_,rfl,d,(Bd h1)⟩
def Ry(h:Sep w (bC b s d++R))(aJ:s.b1=false)(t:cc)(hk:xq s.aE t)(b0:aa)(i:(cJ s.aE t.data.toList).2.1=b0)(hne:b0≠0):aA 65 #[b.p,.string t] w (vp b (df t.data.toList s).1 (df t.data.toList s).2 (i' t.data.toList s) R):=by
 have m:df t.data.toList s=({s with aE:=(cJ s.aE t.data.toList).2.2},[]):=by unfold df;rw[aJ,az aK,i,aD hne]
 have n:i' t.data.toList s=b0:=by unfold i';rw[aJ,az aK,i]
 rw[m,n];have f:=(h.cons (r:=ay.bc w.heap.size (cd,35)) ((ba w).alloc (ae cd 35)) (λ_ _ _ _=>id) (aX w (ae cd 35)) (λj q=>gD (jT q))).iI;have fa:=pR f;rw[aJ]at fa;have bY:=o0 f;have l:=af (Il (mR f) t hk.av hk.ar hk.bd hk.aZ hk.aj hk.aO);rw[i]at l
 go_in
 go_wp2_with fail;generalize w.alloc (ae cd 35)=bk at *;refine l.o.mono ?_;rintro e k ⟨⟨a,c,rfl,aj,z⟩,u,y⟩;have h1:=(x' f u y).alloc (ae (aT (cJ s.aE t.data.toList).1 a c) 199);have g:(k.alloc (ae (aT (cJ s.aE t.data.toList).1 a c) 199)).heap[w.heap.size]?=some (ae cd 35 (0,0)):=h1.at' 9 rfl;unfold aT at *;go_upto_region 7 with fail
 generalize World.alloc k _=ao at *;have g0:=bI g;have B:=aS g;go_wp2_with fail;have x:=dx _ _ _ _ ((jH g (aq none 0 0) (aq none 0 0) (.bool false))) 3 rfl;refine dq (v:=aV #[aQ cd,I b0]) x ?_;exact⟨_,rfl,d,((Bd (Sep.drop1 (A:=bC b {s with aE:=(cJ s.aE t.data.toList).2.2} d) h1 (jP ao w.heap.size (aq none 0 0) (aq none 0 0) (.bool false)))))⟩
end
section
open Go.Maps
variable{eC:Old}{w w':ai}{b:ga}{s:bJ}{R:ah ay}{d:gq}{o:J}{sd:ax}{m:aY}{F:J}{a_ us:J->J->aa}
theorem Re(h:Sep w (bC b s d++R)){l:b9}{A:b5 Addr}{c:J}{xs:ah aR}{bl:J}(m:bl=w.heap.size)(k:IsLink w' b.L l)(hk:Keeps b.L.S w w')(g:c3 w' A c xs)(f:∀ y,A=some y->bl<=y.block):Sep w' (ay.pJ A c xs :: (bC b {s with aE:=l} d++R)):=
 h.y5 2 (r':=ay.link b.L l) (q:=ay.pJ A c xs) rfl hk (λ_ _ h=>h) k (λ_ h=>.inl h) g (λj a=>by obtain⟨_,x,e,rfl⟩:=a;rw[<-m];exact f x e) (λj a i=>by
  obtain⟨_,x,e,rfl⟩:=a;have h1:=(ay.link b.L s.aE).lt (mR h) i
  have:=f x e
  omega)
structure E8(s:bJ)(t:cc)(F:J)(a_ us:J->J->aa):ak where
 cK:b8 s F a_ us
 lK:s.b1=false
 aE:xq s.aE t
 b0:(cJ s.aE t.data.toList).2.1=0
 Zw:∀ x∈(cJ s.aE t.data.toList).1.a8,x.toNat<=63
 a_:∀ i x,(cJ s.aE t.data.toList).1.a8[i]?=some x->a_ (1-s.x.aL) (bN s+i)=(x.toNat:aa)
 ec:(cJ s.aE t.data.toList).1.a8≠[]->(cJ s.aE t.data.toList).1.ec=(bN s:aa)
 w:bN s+(cJ s.aE t.data.toList).1.a8.length<=F+64
 top:s.x.now<=90000
def an(s:bJ)(r:bG)(l:b9)(j:J):bJ:={s with x:=fk s.x (r.a8.take j),aE:=l}
def RA(A:ay.kinds eC∈R)(h:Sep w (bC b s d++R))(t:cc)(hk:E8 s t F a_ us):aA 65 #[b.p,.string t] w (vp b (df t.data.toList s).1 (df t.data.toList s).2 (i' t.data.toList s) R):=by
 have ZI:df t.data.toList s=eX (fj (cJ s.aE t.data.toList).1 {s with x:=fk s.x (cJ s.aE t.data.toList).1.a8,aE:=(cJ s.aE t.data.toList).2.2}):=by unfold df;rw[hk.lK,az aK,hk.b0,az aK]
 have ZJ:i' t.data.toList s=0:=by unfold i';rw[hk.lK,az aK,hk.b0]
 have ZP:=R1 s.aE t.data.toList;have ZZ:=(ba w).alloc (ae cd 35);have fr:=(h.cons (r:=ay.bc w.heap.size (cd,35)) ZZ (λ_ _ _ _=>id) (aX w (ae cd 35)) (λj k=>gD (jT k))).iI;have fa:=pR fr;rw[hk.lK]at fa;have bY:=o0 fr;have hH:=af (Il (mR fr) t hk.aE.av hk.aE.ar hk.aE.bd hk.aE.aZ hk.aE.aj hk.aE.aO);rw[hk.b0]at hH;obtain⟨cK,aae,_,aac,D,CW,Q,hw,aaf⟩:=hk;obtain⟨aai,_⟩:=b8.yl _ cK hw CW D;have Z':=cK.jk;have aab:=cK.lB;have ZU:∀ j,b8 (an s (cJ s.aE t.data.toList).1 (cJ s.aE t.data.toList).2.2 j) F a_ us:=λj=>(b8.yl ((cJ s.aE t.data.toList).1.a8.take j) cK (by rw[gn];omega) (λi x V=>CW i x (by rw[uM]at V;split at V;exact V;cases V)) (λx V=>D x (zL V))).1.same rfl rfl rfl;have ZQ:=cK.hy.first (show 1-s.x.aL<2 by have:=cK.aL;omega);have ZR:(i' t.data.toList s,df t.data.toList s)=(0,eX (fj (cJ s.aE t.data.toList).1 (an s (cJ s.aE t.data.toList).1 (cJ s.aE t.data.toList).2.2 (cJ s.aE t.data.toList).1.a8.length))):=by
  rw[ZI,ZJ];unfold an;rw[nE]
 have P:=b6 ZU (bB D (bB Q (bB (show bN s+(cJ s.aE t.data.toList).1.a8.length<=1000000 by omega) (bB (show(s.x.f (1-s.x.aL)).first<=bN s/\bN s+(cJ s.aE t.data.toList).1.a8.length<=(s.x.f (1-s.x.aL)).first+64 by rw[ZQ];omega) ZP))));have zp:=af ZR;have W':=af fr;have Z6:=af A;clear h A fr ZZ ZI ZJ ZP cK aae aac D CW Q hw aaf aai Z' aab ZU ZQ ZR;generalize df t.data.toList s=au at *;generalize i' t.data.toList s=he at *;generalize cJ s.aE t.data.toList=r at *;have⟨r,b0,H⟩:=r;simp only at *
 go_in
 go_wp2_with fail;generalize ZX:w.alloc (ae cd 35)=bk at *;have aah:bk.heap.size=w.heap.size+1:=by rw[<-ZX];simp
 refine hH.o.mono ?_;rintro e ao ⟨⟨a,c,rfl,aj,ZT⟩,ZS,Z0⟩;have h1:=(Re W'.out rfl ZS Z0 aj ZT).iI;have Z2:=(ba ao).alloc (ae (aT r a c) 199);have h2:=(h1.cons (r:=ay.bc ao.heap.size (aT r a c,199)) Z2 (λ_ _ _ _=>id) (aX ao (ae (aT r a c) 199)) (λj k=>gD (jT k))).iI;have Z3:=(ba (ao.alloc (ae (aT r a c) 199))).alloc (ae cd 35);have Y:(ao.alloc (ae (aT r a c) 199)).heap.size=ao.heap.size+1:=aK;obtain⟨L,B⟩:=cO (ao.heap.size+1);have ZK:=(h2.cons (r:=ay.out L (aq none 0 0) (aq none 0 0) false []) Z3 (λ_ _ _ _=>id) ⟨Ek,gI _ 0 _ _⟩ (λj k=>Eh)).iI;have ys:=af ZK;have Z7:=af B;clear B h1 h2 ZK Z2 Z3 Y aah ZX aj ZT ZS Z0 W' hH;unfold aT at *;go_upto_region 9 with fail
 rw[<-Z7.o];generalize World.alloc (World.alloc ao _) _=aC at *;have d2:=aS (ys.o.at' 10 rfl);generalize ao.heap.size=q at *;go_wp2_with fail;go_loopg [9,10,38] r.a8.length (λg _ _ i wr=>∃ j:J,g=r.a8.length-j/\j<=r.a8.length/\i=I j/\Sep wr (bC b (an s r H j) d++ay.out L (aq none 0 0) (aq none 0 0) false [] :: ay.bc q (aT r a c,199) :: ay.pJ a c r.a8 :: ay.bc w.heap.size (cd,35) :: R))
 case atStart=>exact⟨0,rfl,c' _,rfl,ys.o⟩
 obtain⟨j,aZ,k,rfl,u⟩:=hrel;clear ys d2;by_cases T:j<r.a8.length
 .have hne:r.a8≠[]:=λe=>by rw[e]at T;simp at T
  have ZO:c3 wr a c r.a8:=u.at' 11 rfl;obtain⟨bR,cN,rfl,al⟩:=ZO.at' hne;have Z5:=al j T;unfold ef at Z5;obtain⟨St,sd⟩:=cO r.a8[j];rw[<-sd]at Z5;obtain⟨g',X,Z4⟩:=Bx (r.a8.take j) s.x;rw[gn,oG (Nat.le_of_lt T)]at X;have ZW:(s.x.f (1-s.x.aL)).next=bN s:=rfl;rw[ZW]at X;have Q:=P.out.2.2.1 hne;have aam:=P.out.2.2.2.1;have aag:=P.out.2.2.2.2.1;have D:=P.out.2.1 _ (nC T);rw[<-sd]at D;have aao:IntKind.i64.wrap (r.ec+(j:aa))=r.ec+(j:aa):=ev _ (by rw[Q];omega);have ZV:fk s.x (r.a8.take (j+1))=gx (fk s.x (r.a8.take j)) (1-s.x.aL) (St.toNat:aa):=by rw[l6 T,RX,sd]
  have⟨ps,Aw⟩:=cO (bC b (an s r H j) d++ay.out L (aq none 0 0) (aq none 0 0) false [] :: ay.bc q (aT r (some (ad bR cN ab)) c,199) :: ay.pJ (some (ad bR cN ab)) c r.a8 :: ay.bc w.heap.size (cd,35) :: R);have gf:∀ W,Sep W ps->Sep W (bC b (an s r H j) d++ay.out L (aq none 0 0) (aq none 0 0) false [] :: ay.bc q (aT r (some (ad bR cN ab)) c,199) :: ay.pJ (some (ad bR cN ab)) c r.a8 :: ay.bc w.heap.size (cd,35) :: R):=λW h=>Aw▸h;have ZG:Hid (∀ W,Sep W ps->aA 103 #[b.c.c,I (r.ec+(j:aa)),aF (St.toNat:aa)] W λe w'=>e=.returned (I 0)/\IsCore w' b.c (fk s.x (r.a8.take (j+1)))/\Keeps b.c.S W w'):=af (λW aaa=>by
   have ZL:=Po (x:=fk s.x (r.a8.take j)) (hz (gf _ aaa)) (St.toNat:aa) U (r.ec+(j:aa)) (by rw[g',X,Q];omega) (by rw[g',X];omega) (by rw[g',X,Z4];omega);rw[g',<-ZV]at ZL;exact ZL)
  have ZM:Sep wr.drew ps:=by rw[Aw];exact u.drew 1
  obtain⟨G,y⟩:=hJ (F:=λW=>Sep W ps);have aaj:∀ x:bp G,x.to.cell? (ad b.p 0 ab)=some (.pointer (some (ad b.c.c 0 ab))):=λx=>lE (gf _ ((y _).1 x.held));have aak:=λx:bp G=>aS ((gf _ ((y _).1 x.held)).at' 10 rfl);have r':=(y _).2 ZM;have ZH:=af gf;have z:=af (λW (h:G W)=>(y W).1 h);clear u ZO al Aw gf ZM y g' X Z4 ZW Q aag D ZV hne sd;go_wp2_with fail;refine cH 11 ?_;refine cI (G) (.range 10) 1 10 ?_;refine dC (r') (.range 10) 0 ?_;refine lI ?_;refine cI (oL) [10] 0 1 ?_;refine kx 10 λK A=>?_;go_simp;refine aU (ZG.o _ (z.o _ r')) ?_;rintro Q' ⟨ZY,Z1⟩;refine A _ _ (ma _) ?_;clear A K;have Z_:Sep Q' (bC b (an s r H (j+1)) d++ay.out L (aq none 0 0) (aq none 0 0) false [] :: ay.bc q (aT r (some (ad bR cN ab)) c,199) :: ay.pJ (some (ad bR cN ab)) c r.a8 :: ay.bc w.heap.size (cd,35) :: R):=x_ (ZH.out _ (z.out _ r')) ZY Z1;have aan:r.a8.length<=1000000:=U;clear r' ZY Z1 ZG aaj aak z ZH;go_wp2_with fail;go_roundg (r.a8.length-(j+1))
  case rel=>exact⟨j+1,rfl,U,by go_num,Z_⟩
  omega
 obtain rfl:j=r.a8.length:=U;have E:=P.out.1 r.a8.length;obtain⟨a',m⟩:=cO (fj r (an s r H r.a8.length));rw[<-m]at zp;have hd:=b6 (cV Prod.snd zp.out) (cV Prod.fst zp.out);simp only at hd;have A:=af (kg (ay.bc q (aT r a c,199)) (kg (ay.pJ a c r.a8) (kg (ay.bc w.heap.size (cd,35)) Z6.out)));have Z:=b6 (show b8 a'.1 F a_ us by rw[m];exact E.fj r) (show a'.2.length<=90000 by rw[m];exact b7 (RW (E.y' (p:=(_,[]))) r) bq);have d0:=aS (u.at' 10 rfl);unfold fj at m;by_cases vl:r.kind=4
 .rw[aD vl]at m;have Z8:(r.kind == 4)=true:=by rw[vl];rfl
  have aad:=P.out.2.2.2.2.2;have zd:=af (HA (q:=(an s r H r.a8.length,[])) A.o ⟨d,_,u⟩ E.o9 E.pZ aK r.frame r.sum U);rw[<-m]at zd;clear u m E aad;go_wp2_with fail;refine aU zd.o λQ' ZN=>?_;have z:=af ZN;clear ZN zd;have y:=af (Bq A.o z.o Z.o.1.o9 Z.o.1.pZ Z.o.2);clear z;go_wp2_with fail;refine aU y.o ?_;rintro m' ⟨T',aal,l⟩;obtain⟨M,N,mv,_,_⟩:=cS (ko l).2;rw[mv]at l;obtain⟨O,l'⟩:=cO (eX a').2.length;rw[<-l']at l;clear mv l' y;have lb:=(ko l).1;have C:m'.heap[w.heap.size]?=some (ae cd 35 (0,0)):=l.at' 12 rfl;have d0:=aS lb;have g0:=bI C;have z0:=aS C;have TS:=af (jH C (aq M O N) (aq none 0 0) (.bool false));have Tq:=af ((Be l.qe (jP m' w.heap.size (aq M O N) (aq none 0 0) (.bool false))).qe);clear l lb C;go_wp2_with fail;have V':=dx _ _ _ _ TS.o 3 rfl;refine dq (v:=aV #[aQ #[aq M O N,(aq none 0 0),false],I 0]) V' ?_;rw[hd.out.1,hd.out.2];exact⟨_,rfl,T',Tq.o⟩
 have Z8:(r.kind == 4)=false:=by simpa using vl
 rw[az vl]at m;by_cases v':r.kind=6
 .have Z9:(r.kind == 6)=true:=by rw[v'];rfl
  rw[aD v']at m;have fy:=G' u;have g8:=x9 u 8;have z:=af (show fo (wr.setCell (ad b.p 8 ab) (I r.lead)) b a' L (aq none 0 0) false (ay.bc q (aT r a c,199) :: ay.pJ a c r.a8 :: ay.bc w.heap.size (cd,35) :: R)by rw[m];exact⟨_,_,x8 (s':={an s r H r.a8.length with ct:=r.lead}) (n:=d.mw) u 8 (I r.lead) rfl rfl rfl rfl rfl rfl⟩);clear u m E;go_wp2_with fail;generalize wr.setCell (ad b.p 8 ab) (I r.lead)=Q' at *;exact NU
 have Z9:(r.kind == 6)=false:=by simpa using v'
 rw[az v']at m;have z:=af (show fo wr b a' L (aq none 0 0) false (ay.bc q (aT r a c,199) :: ay.pJ a c r.a8 :: ay.bc w.heap.size (cd,35) :: R)by rw[m];exact⟨_,_,u⟩);clear u m E;go_wp2_with fail;exact NU
end
section
open Go.Maps
variable{eC:Old}{w w':ai}{b:ga}{s:bJ}{R:ah ay}{d:gq}{o:J}{sd:ax}{m:aY}{F:J}{a_ us:J->J->aa}
def Fb(b:ga)(s':bJ)(cs:ah ca)(R:ah ay)(e:Ending)(w':ai):ak:=
 ∃ a,e=.returned (aQ #[a,(aq none 0 0),false])/\∃ d,Sep w' (bC b s' d++ay.cR a cs :: R)
def Ra{p:cl}{v:ax}{eO:J}{z:a6 ax×TypeId}(h:Sep w (bC b p.1 d++ay.out o v sd m p.2 :: ay.bc eO z :: R))(hk:Keeps (λj=>j=eO) w w'):Sep w' (bC b p.1 d++ay.cR v p.2 :: R):=by
 have h1:=Sep.drop1 (A:=bC b p.1 d++[ay.out o v sd m p.2]) h hk;exact N3
def RB(D:ay.kinds eC∈R)(h:Sep w (bC b s d++R))(au:b8 s F a_ us):aA 38 #[b.p] w (Fb b (fV s).1 (fV s).2 R):=by
 have z:=(h.cons (r:=ay.bc w.heap.size (cd,35)) ((ba w).alloc (ae cd 35)) (λ_ _ _ _=>id) (aX w (ae cd 35)) (λj k=>gD (jT k))).iI;have Y:(w.alloc (ae cd 35)).heap.size=w.heap.size+1:=aK;have⟨H,B⟩:=cO (w.heap.size+1);have h1:=(z.cons (r:=ay.out H (aq none 0 0) (aq none 0 0) false []) ((ba (w.alloc (ae cd 35))).alloc (ae cd 35)) (λ_ _ _ _=>id) ⟨Ek,gI _ 0 _ _⟩ (λj k=>Eh)).iI;have e:=af h1;have N:=af (kg (ay.bc w.heap.size (cd,35)) D);have v:=af au;have O:=af B;clear h z h1 Y D au B;have⟨x,c⟩:=cO (fV s);have T:=af c.symm;unfold fV at c
 go_in
 go_upto_region 2 with fail
 rw[<-O.o];generalize World.alloc (World.alloc w _) _=y at *;have fa:=pR e.o;cases aJ:s.b1 with
 | true=>
  rw[aJ]at fa;rw[aD aJ]at c;obtain⟨f,m,a⟩:∃ f m,Sep y (bC b x.1 f++ay.out H m (aq none 0 0) false x.2 :: ay.bc w.heap.size (cd,35) :: R):=⟨d,_,by rw[c];exact e.out⟩;exact Mc
 | false=>
  rw[aJ]at fa;rw[az (show ¬ s.b1=true by rw[aJ];simp)]at c;have bY:=o0 e.out;have C:=af (S_ (mR e.out));clear aJ;go_wp2_with fail;refine aU C.o ?_;rintro bm ⟨E,G⟩;have A:=x' e.out E G;have l:=b8.same (s':={s with aE:=mc s.aE}) v.out rfl rfl rfl;have i:=af (Br N.out ⟨d,_,A⟩ (q:=({s with aE:=mc s.aE},[])) l.o9 l.pZ aK 12);rw[<-c]at i;clear A E G e C v l c;go_wp2_with fail;refine aU i.o ?_;rintro P ⟨f,m,a⟩;clear i;generalize P=y at *;exact Mc
def yf(h:Sep w (bC b s d++R)):aA 21 #[b.p] w λe w'=>e=.returned b.c.c/\w=w':=by
 have c:=lE h
 go_in
 go_wp2_with fail;go_ret;exact⟨rfl,rfl⟩
def RC(h:Sep w (bC b s d++R)):aA 16 #[b.p] w λe w'=>e=.returned b.lb/\w=w':=by
 have c:=tF h
 go_in
 go_wp2_with fail;go_ret;exact⟨rfl,rfl⟩
def Rw(h:Sep w (bC b s d++R)):aA 27 #[b.p] w λe w'=>e=aV #[.bool s.b1,I s.reason]/\∃ q,w'=w.drewN q:=by
 have fa:=pR h;have qH:=G9 h
 go_in
 go_wp2_with fail;go_quiet (fail);go_wp2;go_ret2;exact⟨rfl,_,rfl⟩
end
variable{w w':ai}
def p1(d n:aa):aY:=decide (0<=d/\d<=8/\1<=n/\n<=16)
def Gb(aG d n aL:aa)(b:aL=0\/aL=1)(w:ai):aA 189 #[aQ #[aP aG,I d,I n,I aL]] w λe w'=>e=.returned (.bool (p1 d n))/\Below w w w':=by
 rcases b with rfl|rfl
 .have a:=(b3 w.heap.size w).alloc bs (ae #[aP aG,I d,I n,I 0] 24);unfold p1
  go_in
  go_wp2_with fail
  all_goals (go_ret;exact⟨k_ bT,a⟩)
 have a:=(b3 w.heap.size w).alloc bs (ae #[aP aG,I d,I n,I 1] 24);unfold p1
 go_in
 go_wp2_with fail
 all_goals (go_ret;exact⟨k_ bT,a⟩)
def SK(most:aa)(hm:¬ (1<=most/\most<=256))(w:ai):aA 130 #[I most] w λe w'=>e=aV #[.pointer none,I 1]/\w=w':=by
 by_cases h1:most<1
 .go_in
  go_wp2;go_ret2;exact⟨rfl,rfl⟩
 have h2:256<most:=U
 go_in
 go_wp2;go_ret2;exact⟨rfl,rfl⟩
def Ta(bK ey first:aa)(au:¬ (1<=ey/\ey<=10000)\/¬ (0<=first/\first<=1073741824))(w:ai):aA 129 #[aP bK,I ey,I first] w λe w'=>e=aV #[.pointer none,I 1]/\w=w':=by
 by_cases h1:ey<1
 .clear au
  go_in
  go_wp2;go_ret2;exact⟨rfl,rfl⟩
 by_cases h2:10000<ey
 .clear au
  go_in
  go_wp2;go_ret2;exact⟨rfl,rfl⟩
 have b:¬ (0<=first/\first<=1073741824):=U;have a:=BG first w
 rw[dd b]at a
 go_in
 go_wp2_with fail;refine bA a ?_;go_wp2;go_ret2;exact⟨rfl,rfl⟩
def Pq(aG d n aL:aa)(b:aL=0\/aL=1)(hm:p1 d n=false)(w:ai):aA 128 #[aQ #[aP aG,I d,I n,I aL]] w λe w'=>e=aV #[.pointer none,I 1]/\Below w w w':=by
 have a:=(b3 w.heap.size w).alloc bs (ae #[aP aG,I d,I n,I aL] 24);have cF:=af (Gb aG d n aL b);rw[hm]at cF
 go_in
 go_wp2_with fail;refine aU (cF.o _) λao aj=>?_;go_wp2;go_ret2;exact⟨rfl,(a.trans (aj.mono (by have:=a.size;omega)))⟩
def im(j:J):Fd:=⟨0,j,0,fW 0 j,[]⟩
def kT(aG:aa)(d n aL j i:J):ck:=⟨aG,d,n,aL,λk=>if k<i then im (j+1)else im j,0,[],0⟩
def OE(aG:aa)(d n aL j:J):∀ k,k<2->((kT aG d n aL j 2).f k)=((kT aG d n aL (j+1) 0).f k):=by
 intro k hk;simp[kT,hk]
def FH(aG:aa)(d n aL j i:J):{kT aG d n aL j i with f:=eP (kT aG d n aL j i).f i (im (j+1))}=kT aG d n aL j (i+1):=by
 simp only[kT,ck.mk.injEq,and_true,true_and]
 funext k
 unfold eP;by_cases e:k=i
 .rw[aD e,aD U]
 rw[az e];by_cases a:k<i
 .simp only[aD a];rw[aD U]
 simp only[az a];rw[az U]
theorem IsCore.Ii{b:f'}{x y:ck}(h:IsCore w b x)(h1:y.aG=x.aG)(h2:y.eF=x.eF)(a:y.dv=x.dv)(c:y.aL=x.aL)(d:∀ k,k<2->y.f k=x.f k)(g:y.eQ=x.eQ)(i:y.L=x.L)(e:y.now=x.now):IsCore w b y:=
 ⟨by rw[h1,h2,a,c,e];exact h.head,λk hk=>by rw[d k hk];exact h.fd k hk,by rw[g,i];exact h.st,h.ok,by rw[c];exact h.aL,by rw[e];exact h.gH,λk hk=>by rw[d k hk];exact h.dG k hk,by rw[a];exact h.wn⟩
theorem WE{w:ai}{r B:J}(h:SWinAt w r B 81 0 (replicate 81 (cf,false))):j4 w r B 81 0 []:=
 ⟨_,h,aK,U,.nil,(λp au=>by cases au),(λf x h=>nK),λf h1 h2 a _=>⟨cf,by rw[DN,aD (e2 _ U)]⟩⟩
def PB{c a b r B:J}(h1:a+4<b)(h2:b+4<c)(d:B<r)(e:r<a):f'.ok ⟨c,λk=>if k=0 then a else b,r,B⟩:=by
 constructor<;>simp<;>omega
structure s6(w:ai)(b:f')(x:ck)(aG:aa)(d n aL:J)(W:ai):ak where
 co:IsCore W b x
 nT:W.heap[w.heap.size]?=some (ae #[aP aG,I d,I n,I aL] 24 (0,0))
 jG:Below w w W
theorem s6.ou{b:f'}{x y:ck}{aG:aa}{d n aL:J}{T:J->ak}{W W':ai}(h:s6 w b x aG d n aL W)(aj:∀ j,b.S j->w.heap.size<j)(al:IsCore W' b y)(hk:Keeps T W W')(a:∀ j,T j->b.S j):s6 w b y aG d n aL W':=
 ⟨al,hk.heap h.nT (λe=>by have:=aj _ (a _ e);omega),h.jG.trans (hk.below (h.jG.size) (λk c e=>by have:=aj _ (a _ e);omega))⟩
def F'(aG:aa)(d n aL:J)(hd:d<=8)(ar:1<=n/\n<=16)(V':aL<2)(w:ai):aA 128 #[aQ #[aP aG,I d,I n,I aL]] w λe w'=>
  ∃ b:f',e=aV #[b.c,I 0]/\IsCore w' b ⟨aG,d,n,aL,λ_=>im d,0,[(0,lg aG 0)],0⟩/\(∀ j,b.S j->w.heap.size<=j)/\Below w w w':=by
 have ZS:(w.alloc (ae #[aP aG,I d,I n,I aL] 24)).heap.size=w.heap.size+1:=aK;have hm:=Gb aG d n aL U;rw[show p1 d n=true from ee U]at hm
 go_in
 go_wp2_with fail;refine aU (hm _) λao fr=>?_;have ZT:=fr.size;have ZJ:=((b3 w.heap.size w).alloc bs (ae #[aP aG,I d,I n,I aL] 24)).trans (fr.mono U);have Q':=(Keeps.bD (S:=aI) fr a7).heap (aX w (ae #[aP aG,I d,I n,I aL] 24)) id;generalize w.alloc (ae #[aP aG,I d,I n,I aL] 24)=bk at *;have P:=af (show w.heap.size+1<=ao.heap.size by omega);go_wp2_with fail;refine aU (WA 81 U U ao) ?_;rintro aC ⟨Tq,v',ZG⟩;have ZK:=ZJ.trans (v'.mono (by have:=P.out;omega));have O:=af ((Keeps.bD (S:=aI) v' a7).heap Q' id);have Q:=af ZK;have l':=af (WE Tq);generalize ao.heap.size=B at *;have V:aC.drew.heap[w.heap.size]?=some (ae #[aP aG,I d,I n,I aL] 24 (0,0)):=O.o;have ZL:=λx:bp (λW=>W.heap[w.heap.size]?=some (ae #[aP aG,I d,I n,I aL] 24 (0,0)))=>aS x.held;go_upto_region 6 with fail
 refine cH 8 ?_;refine cI (λW=>W.heap[w.heap.size]?=some (ae #[aP aG,I d,I n,I aL] 24 (0,0))) (.range 6) 2 6 ?_;refine dC (V) [0,4] 4 ?_;have bu:Keeps aI aC aC.drew:=(Keeps.refl _ aC).drew;have CW:aC.drew.heap.size=B+2:=ZG;generalize aC.drew=bm at *;refine ew 1 λK Z=>?_;go_simp;refine aU (GQ bm) ?_;rintro f ⟨L,gf⟩;have E:Keeps aI bm f:=Keeps.bD gf a7;have X:=E.heap V id;refine Z _ _ (X) ?_;refine ew 2 λK Z=>?_;go_simp;refine aU (GQ f) ?_;rintro m ⟨T,g'⟩;have u:Keeps aI f m:=Keeps.bD g' a7;have Y:=u.heap X id;refine Z _ _ (Y) ?_;refine dC (Y) [3,5] 0 ?_;refine lI ?_;refine cI (λ_=>True) [6,7] 0 2 ?_;refine hg 6 trivial ?_;refine h_ 7 trivial ?_;have v:=(ba m).alloc (ae #[aP aG,I d,I n,I aL,.pointer (some (ad (B+2+4) 0 ab)),.pointer (some (ad (f+4) 0 ab)),.pointer (some (ad (B+1) 0 ab)),I 0] 129);have ps:=aX m (ae #[aP aG,I d,I n,I aL,.pointer (some (ad (B+2+4) 0 ab)),.pointer (some (ad (f+4) 0 ab)),.pointer (some (ad (B+1) 0 ab)),I 0] 129);have ZI:=gf.size;have ZH:=g'.size;have TS:=L.lt;have T':=T.lt;rw[CW]at L;have r':pD (m.alloc (ae #[aP aG,I d,I n,I aL,.pointer (some (ad (B+2+4) 0 ab)),.pointer (some (ad (f+4) 0 ab)),.pointer (some (ad (B+1) 0 ab)),I 0] 129)) (B+2) (im 0):=IsFeed.keep (IsFeed.keep L u) v;have sd:pD (m.alloc (ae #[aP aG,I d,I n,I aL,.pointer (some (ad (B+2+4) 0 ab)),.pointer (some (ad (f+4) 0 ab)),.pointer (some (ad (B+1) 0 ab)),I 0] 129)) f.heap.size (im 0):=IsFeed.keep T v;have s':=l'.out.keeps (bu.trans (E.trans (u.trans v))) id id;have Aw:=(bu.trans (E.trans (u.trans v))).heap O.out id;have M:=Q.out.trans ((bu.trans (E.trans (u.trans v))).below Q.out.size (λ_ _ e=>e));obtain⟨b,aj⟩:∃ b:f',b=⟨m,λk=>if k=0 then B+2 else f.heap.size,B+1,B⟩:=⟨_,rfl⟩;have R:s6 w b (kT aG d n aL 0 0) aG d n aL (m.alloc (ae #[aP aG,I d,I n,I aL,.pointer (some (ad (B+2+4) 0 ab)),.pointer (some (ad (f+4) 0 ab)),.pointer (some (ad (B+1) 0 ab)),I 0] 129)):=by
  subst aj;refine⟨⟨ps,λk hk=>?_,s',PB U U U U,V',c' _,λk _=>?_,?_⟩,Aw,M⟩
  .have:k=0\/k=1:=U
   rcases this with rfl|rfl
   .exact r'
   exact sd
  .simp[kT,im]
  have:=ar
  simp only[kT];omega
 have zd:∀ j,b.S j->w.heap.size<j:=by
  subst aj;intro j A
  have:=P.out
  unfold f'.S at A;simp only[aD,az (show ¬ (1=0)by omega)]at A;omega
 have zp:m.heap.size=b.c:=by rw[aj]
 have h2:B+1=b.r:=by rw[aj]
 rw[zp,h2];rw[h2]at R;have N:=af R;have t:=af zd;clear R zd zp h2 aj M Aw s' r' sd TS T' ZI ZH ps v Y u g' T X E gf L V CW bu ZL l' Q O P;generalize World.alloc m _=ZP at *;have d1:=aS N.o.nT;go_wp2_with fail;clear d1;go_loopg [7,9,29,35,36] d (λg _ _ i _ _ wr=>∃ j:J,g=d-j/\j<=d/\i=I j/\s6 w b (kT aG d n aL j 0) aG d n aL wr)
 case atStart=>exact⟨0,rfl,c' _,rfl,N.o⟩
 obtain⟨j,aZ,A,rfl,aT⟩:=hrel;have h:=af aT;have ZO:=hd;clear N aT;by_cases ZQ:j<d
 .have z4:wr.cell? (ad b.c 4 ab)=some (.pointer (some (ad (b.D 0+4) 0 ab))):=h.o.co.lx (k:=0) U;have z5:wr.cell? (ad b.c 5 ab)=some (.pointer (some (ad (b.D 1+4) 0 ab))):=h.o.co.lx (k:=1) U;have ZU:=xY;have ZV:=xZ;have M:=bP h.o.co.head;go_wp2_with fail;clear z4 z5 M;go_loopg [9,36] 2 (λg _ i ZM=>∃ q:J,g=2-q/\q<=2/\i=I q/\s6 w b (kT aG d n aL j q) aG d n aL ZM)
  case atStart=>exact⟨0,rfl,U,rfl,h.o⟩
  obtain⟨q,aZ,ZR,rfl,l⟩:=hrel;clear h;have W':q=0\/q=1\/q=2:=U;rcases W' with rfl|rfl|rfl
  .have s:=l.co.fd 0 U;change IsFeed _ (b.D 0) 0 j 0 (fW 0 j) []at s;have z:=af (xX s 0 U (j:aa) rfl U U);have p:=af l;clear l s;go_wp2_with fail;refine aU z.o ?_;rintro F ⟨G,a⟩;have C:pD F (b.D 0) (im (j+1)):=by
    exact NT
   have hfin:=p.out.co.feed (k:=0) U C a (by show j+1<=1000000;omega);rw[FH]at hfin;have a':=p.out.ou t.out hfin a (λ_ e=>qT U e);clear G a C hfin p z;go_wp2_with fail;go_roundg 1
   case rel=>exact⟨1,rfl,U,by go_num,a'⟩
   omega
  .have s:=l.co.fd 1 U;change IsFeed _ (b.D 1) 0 j 0 (fW 0 j) []at s;have z:=af (xX s 0 U (j:aa) rfl U U);have p:=af l;clear l s;go_wp2_with fail;refine aU z.o ?_;rintro F ⟨G,a⟩;have C:pD F (b.D 1) (im (j+1)):=by
    exact NT
   have hfin:=p.out.co.feed (k:=1) U C a (by show j+1<=1000000;omega);rw[FH]at hfin;have a':=p.out.ou t.out hfin a (λ_ e=>qT U e);clear G a C hfin p z;go_wp2_with fail;go_roundg 0
   case rel=>exact⟨2,rfl,U,by go_num,a'⟩
   omega
  have St:=l.ou t.out (l.co.Ii (y:=kT aG d n aL (j+1) 0) rfl rfl rfl rfl (λk hk=>(OE aG d n aL j k hk).symm) rfl rfl rfl) (ba _) (λ_ e=>e.elim);clear l;go_wp2_with fail;go_roundg (d-(j+1))
  case rel=>exact⟨j+1,rfl,U,by go_num,St⟩
  omega
 obtain rfl:j=d:=U;have fF:=aS h.out.nT;go_wp2_with fail;refine aU (Rt aG wr) λF ys=>?_;have a:Keeps aI wr F:=Keeps.bD ys a7;have mv:=h.out.ou t.out (h.out.co.keep a) a (λ_ e=>e.elim);have H:=af mv;clear mv a ys h fF;go_wp2_with fail;refine aU ((JN H.o.co.st 0 (0:aa) rfl (by unfold fc;simp[kT]) (lg aG 0))) ?_;rintro ZW ⟨vl,lb⟩;have hfin:=H.out.co.uF vl (lb.mono λ_ _ e=>.inr e);have m':=H.out.ou t.out hfin lb (λj e=>.inr (.inr (.inr (.inr e))));clear vl lb hfin H;go_wp2_with fail;go_ret2;exact⟨b,rfl,m'.co.Ii rfl rfl rfl rfl (λk _=>by simp[kT]) rfl rfl rfl,λj A=>Nat.le_of_lt (t.out j A),m'.jG⟩
def Pp(aG d n:aa)(aL:J)(c:aL<2)(w:ai):aA 128 #[aQ #[aP aG,I d,I n,I aL]] w λe w'=>∃ p b0,e=aV #[.pointer p,I b0]/\(b0=0->p1 d n=true)/\Below w w w':=by
 cases hm:p1 d n with
 | false=>exact(Pq aG d n aL kh hm w).mono λe w' h=>⟨none,1,h.1,λe=>kh,h.2⟩
 | true=>
  have a:0<=d/\d<=8/\1<=n/\n<=16:=rG hm;obtain⟨d,rfl⟩:=l2 a.1;obtain⟨n,rfl⟩:=l2 (show 0<=n by omega);exact(F' aG d n aL U U c w).mono λe w' ⟨b,h1,_,_,h2⟩=>⟨_,0,h1,λ_=>rfl,h2⟩
def S'(bK ey first:aa)(w:ai):aA 129 #[aP bK,I ey,I first] w λe w'=>∃ p b0,e=aV #[.pointer p,I b0]/\(b0=0->1<=ey/\ey<=10000)/\Below w w w':=by
 by_cases au:(1<=ey/\ey<=10000)/\(0<=first/\first<=1073741824)
 .exact(Im bK ey first au.1 au.2 w).mono λe w' h=>⟨_,0,h.1,λ_=>au.1,h.2.2⟩
 exact(Ta bK ey first U w).mono λe w' h=>⟨none,1,h.1,λe=>U,h.2▸b3 _ w⟩
def SJ(most:aa)(w:ai):aA 130 #[I most] w λe w'=>∃ p b0,e=aV #[.pointer p,I b0]/\(b0=0->1<=most/\most<=256)/\Below w w w':=by
 by_cases au:1<=most/\most<=256
 .exact(Ig most au).mono λe w' h=>⟨_,0,h.1,λ_=>au,h.2.2.1.below bs (λ_ _ e=>e)⟩
 exact(SK most au w).mono λe w' h=>⟨none,1,h.1,λe=>U,h.2▸b3 _ w⟩
def TV(most:aa)(w:ai):aA 131 #[I most] w λe w'=>∃ p b0,e=aV #[.pointer p,I b0]/\(b0=0->1<=most/\most<=16)/\Below w w w':=by
 by_cases au:1<=most/\most<=16
 .exact(IG most au w).mono λe w' h=>⟨_,0,h.1,λ_=>au,by rw[h.2];exact(b3 _ w).alloc bs _⟩
 exact(TW most au w).mono λe w' h=>⟨none,1,h.1,λe=>U,by rw[h.2];exact b3 _ w⟩
def vQ(d n pat bZ b':aa):ak:=p1 d n=true/\(1<=pat/\pat<=10000)/\(1<=bZ/\bZ<=256)/\(1<=b'/\b'<=16)
abbrev tf:=World->b5 Addr->aa->ai->ak
def E_(m o n p:tf)(w:ai)(e:Ending)(w':ai):ak:=
 ∃ (a:ai) (k:b5 Addr) (g:aa) (b:ai) (pl:b5 Addr) (i:aa) (c:ai) (bh:b5 Addr) (h:aa) (d:ai) (l:b5 Addr) (em:aa) (f:ai),
  (w.heap.size+2<=a.heap.size/\Below w w a)/\(m a k g b/\Below a a b)/\(o b pl i c/\Below b b c)/\(n c bh h d/\Below c c d)/\(p d l em f/\Below d d f)/\
  e=aV #[aQ #[.pointer k,.pointer pl,.pointer bh,.pointer l,f.heap.size,.pointer (some (ad (f+1) 0 ab))],(decide (g=0/\i=0/\h=0/\em=0))]/\
  Keeps (λj=>j=w+1) ((f.alloc (ae #[aq none 0 0] 291)).alloc (ae eJ 278)) w'
def OQ{w:ai}{b:J}{t:TypeId}{bt bY bo eo dM fN:ax}(h:w.heap[b]?=some (ae #[bt,bY,bo,eo,dM,fN] t (0,0)))(a c v2 d e f:ax):((((((w.setCell (ad b 0 ab) a).setCell (ad b 1 ab) c).setCell (ad b 2 ab) v2).setCell (ad b 3 ab) d).setCell (ad b 4 ab) e).setCell (ad b 5 ab) f).heap[b]?=some (ae #[a,c,v2,d,e,f] t (0,0)):=by
 rw[bV (bV (bV (bV (bV (bV h 0 a) 1 c) 2 v2) 3 d) 4 e) 5 f];rfl
def IZ(aG d n bK pat bZ b':aa)(aL:J)(A C B D:tf)(aT:∀ W,aA 128 #[aQ #[aP aG,I d,I n,I aL]] W λe w'=>∃ p b0,e=aV #[.pointer p,I b0]/\A W p b0 w'/\Below W W w')(L:∀ W,aA 129 #[aP bK,I pat,I d] W λe w'=>∃ p b0,e=aV #[.pointer p,I b0]/\C W p b0 w'/\Below W W w')(K:∀ W,aA 130 #[I bZ] W λe w'=>∃ p b0,e=aV #[.pointer p,I b0]/\B W p b0 w'/\Below W W w')(M:∀ W,aA 131 #[I b'] W λe w'=>∃ p b0,e=aV #[.pointer p,I b0]/\D W p b0 w'/\Below W W w')(w:ai):aA 84 #[aQ #[aP aG,I d,I n,I aL,aP bK,I pat,I bZ,I b']] w (E_ A C B D w):=by
 have an:=cm (aX w (ae #[aP aG,I d,I n,I aL,aP bK,I pat,I bZ,I b'] 26)) (ae #[.pointer none,.pointer none,.pointer none,.pointer none,.pointer none,.pointer none] 109);have O:(w.alloc (ae #[aP aG,I d,I n,I aL,aP bK,I pat,I bZ,I b'] 26)).heap.size=w.heap.size+1:=aK;have P:w.heap.size+2<=((w.alloc (ae #[aP aG,I d,I n,I aL,aP bK,I pat,I bZ,I b'] 26)).alloc (ae #[.pointer none,.pointer none,.pointer none,.pointer none,.pointer none,.pointer none] 109)).heap.size:=aK;have g:=aX (w.alloc (ae #[aP aG,I d,I n,I aL,aP bK,I pat,I bZ,I b'] 26)) (ae #[.pointer none,.pointer none,.pointer none,.pointer none,.pointer none,.pointer none] 109);rw[O]at g;have R:=((b3 w.heap.size w).alloc bs (ae #[aP aG,I d,I n,I aL,aP bK,I pat,I bZ,I b'] 26)).alloc aK (ae #[.pointer none,.pointer none,.pointer none,.pointer none,.pointer none,.pointer none] 109);have X:=af R;have g':=af P;have f:=af an;have c:=af g;have x:=af aT;have z:=af L;have y:=af K;have cF:=af M;clear O P R aT L K M an g
 go_in
 go_wp2_with fail;generalize World.alloc (World.alloc w _) _=q at *;refine(x.o q).mono ?_;rintro e h ⟨l,E,rfl,r⟩;have a:Keeps aI q h:=Keeps.bD r.2 a7;have f:=af (a.heap f.out id);have c:=af (a.heap c.out id);have Z:=af r;clear x r a;have fF:=aS f.o;go_wp2_with fail;refine(z.out h).mono ?_;rintro e i ⟨pl,G,rfl,s⟩;have a:Keeps aI h i:=Keeps.bD s.2 a7;have f:=af (a.heap f.out id);have c:=af (a.heap c.out id);have a':=af s;clear z s a fF;have fF:=aS f.o;go_wp2_with fail;refine(y.out i).mono ?_;rintro e k ⟨bh,F,rfl,t⟩;have a:Keeps aI i k:=Keeps.bD t.2 a7;have f:=af (a.heap f.out id);have c:=af (a.heap c.out id);have fr:=af t;clear y t a fF;have fF:=aS f.o;go_wp2_with fail;refine(cF.out k).mono ?_;rintro e b ⟨m,em,rfl,u⟩;have a:Keeps aI k b:=Keeps.bD u.2 a7;have c:=af (a.heap c.out id);have gf:=af u;clear cF u a fF f;go_wp2_with fail
 all_goals
  refine(Qy b).mono ?_;rintro e _ ⟨rfl,rfl⟩;go_wp2_with fail;refine(PY _).mono ?_;rintro e _ ⟨rfl,rfl⟩;have a:=((ba b).alloc (ae #[aq none 0 0] 291)).alloc (ae eJ 278);have g:=a.heap c.out id;have Q:(b.alloc (ae #[aq none 0 0] 291)).heap.size=b.heap.size+1:=aK;have H:=OQ g (.pointer l) (.pointer pl) (.pointer bh) (.pointer m) b.heap.size (b.heap.size+1:J);have g0:=bI g;have lb:=aS g;have S:=((((((Keeps.refl (λj=>j=w+1) ((b.alloc (ae #[aq none 0 0] 291)).alloc (ae eJ 278))).setCell (p:=ad (w+1) 0 ab) rfl (.pointer l)).setCell (p:=ad (w+1) 1 ab) rfl (.pointer pl)).setCell (p:=ad (w+1) 2 ab) rfl (.pointer bh)).setCell (p:=ad (w+1) 3 ab) rfl (.pointer m)).setCell (p:=ad (w+1) 4 ab) rfl b.heap.size).setCell (p:=ad (w+1) 5 ab) rfl (b.heap.size+1:J);have T:=af H;have Y:=af S;clear H S a g c;rw[Q];clear Q;generalize N:(b.alloc (ae #[aq none 0 0] 291)).alloc (ae eJ 278)=hd at *;have V:=af N;clear N;go_wp2_with fail;have h2:=dx _ _ _ _ T.o 6 rfl;refine cU (v:=aV #[aQ #[.pointer l,.pointer pl,.pointer bh,.pointer m,b.heap.size,.pointer (some (ad (b+1) 0 ab))],(decide (E=0/\G=0/\F=0/\em=0))]) (by simp[results,results84,asAddr,loadVar,loadCells,isAgg109,sizeOf109, *]<;>rfl) rfl ?_;exact⟨q,l,E,h,pl,G,i,bh,F,k,m,em,b,⟨g'.out,X.out⟩,Z.out,a'.out,fr.out,gf.out,rfl,by rw[V.o];exact Y.o⟩
def Sep.pick{L:ah ay}(h:Sep w L)(a:ah J)(b:a.Nodup)(aj:∀ i∈a,i<L.length):Sep w (a.map λi=>L.getD i ay.none):=by
 have key:∀ i∈a,L[i]?=some (L.getD i ay.none):=λi aw=>by
  have:=aj i aw
  rw[gl this];simp[getD,gl this]
 refine⟨λr d=>?_,sS.2 (Pairwise.imp_of_mem (λ{i j} aw c hne=>h.rO (key i aw) (key j c) hne) b)⟩;obtain⟨i,aw,rfl⟩:=e3.1 d;exact h.at' i (key i aw)
structure fM(n:J)(w:ai)(L:ah ay):ak where
 sep:Sep w L
 bl:∀ r∈L,∀ j,r.S j->n<=j
theorem fM.nil(n:J)(w:ai):fM n w []:=⟨Sep.nil w,λ_ h=>nK⟩
theorem fM.cons{n:J}{L:ah ay}(h:fM n w L){r:ay}(hk:Keeps aI w w')(c:r.P w')(an:∀ b,r.S b->w.heap.size<=b)(ar:n<=w.heap.size):fM n w' (r :: L):=
 ⟨h.sep.cons hk (λ_ _ _ _ e=>e) c an,λs av j a=>by
  rcases e6.1 av with rfl|av
  .exact b7 ar (an j a)
  .exact h.bl s av j a⟩
theorem fM.keeps{n:J}{L:ah ay}{T:J->ak}(h:fM n w L)(hk:Keeps T w w')(a:∀ j,n<=j->¬ T j):fM n w' L:=
 ⟨h.sep.keeps hk λr c j b=>a j (h.bl r c j b),h.bl⟩
theorem fM.pick{n:J}{L:ah ay}(h:fM n w L)(a:ah J)(c:a.Nodup)(aj:∀ i∈a,i<L.length):fM n w (a.map λi=>L.getD i ay.none):=
 ⟨h.sep.pick a c aj,λr e j d=>by
  obtain⟨i,aw,rfl⟩:=e3.1 e;have b:=aj i aw;refine h.bl (L[i]) (nC b) j ?_;simpa[getD,gl b]using d⟩
def we(x:ck)(l:b9)(bZ:aa):bJ:=⟨x,l,cD.new bZ,[],[],0,false,0⟩
def o8(b':aa):gq:=⟨[],b',aq none 0 0,aq none 0 0,0⟩
def Fc(x:ck):tf:=λW p b0 W'=>b0=0/\∃ b:f',p=some (ad b.c 0 ab)/\IsCore W' b x/\∀ j,b.S j->W.heap.size<=j
def Ff(l:b9):tf:=λW p b0 W'=>b0=0/\p=some (ad (W+4) 0 ab)/\IsLink W' ⟨W+4,W.heap.size+1,W.heap.size,W.heap.size+3,W.heap.size+2⟩ l
def Fe(most:aa):tf:=λW p b0 W'=>b0=0/\p=some (ad (W+2) 0 ab)/\IsLd W' ⟨W+2,W.heap.size,W.heap.size+1,[]⟩ (cD.new most)
def Fg(b':aa):tf:=λW p b0 W'=>b0=0/\p=some (ad W 0 ab)/\W'=W.alloc (ae #[I b',I 0,aq none 0 0] 177)
def To{x:ck}{l:b9}{bZ b':aa}{e:Ending}(h:E_ (Fc x) (Ff l) (Fe bZ) (Fg b') w e w'):∃ b:ga,e=aV #[aQ #[b.c.c,b.L.p,b.lb,b.fe,b.dU,b.dS],true]/\
   fM w.heap.size w' [ay.dS b.dS,ay.dU b.dU (aq none 0 0),ay.fe b.fe b' (aq none 0 0),ay.ld ⟨b.lb,b.db,b.hn,[]⟩ (cD.new bZ),ay.link b.L l,ay.core b.c x]/\
   Below w w w':=by
 obtain⟨y,P,M,d,pl,O,g,bh,N,n,Q,em,f,⟨F,v⟩,⟨⟨rfl,s,rfl,al,C⟩,i⟩,⟨⟨rfl,rfl,D⟩,k⟩,⟨⟨rfl,rfl,aZ⟩,m⟩,⟨⟨rfl,rfl,hm⟩,o⟩,rfl,hk⟩:=h;refine⟨⟨0,s,⟨d+4,d.heap.size+1,d.heap.size,d.heap.size+3,d.heap.size+2⟩,g.heap.size+2,g.heap.size,g.heap.size+1,n.heap.size,f.heap.size,f.heap.size+1,0,0⟩,aK,?_,?_⟩
 .have G:=i.size;have H:=k.size;have K:=m.size;have z4:=o.size;have h1:fM (w.heap.size+2) d [ay.core s x]:=(fM.nil _ y).cons (Keeps.bD (S:=aI) i a7) al C F;have A:=(h1.cons (r:=ay.link ⟨d+4,d.heap.size+1,d.heap.size,d.heap.size+3,d.heap.size+2⟩ l) (Keeps.bD (S:=aI) k a7) D (λj a=>by rcases a with e|e|e|e|e<;>simp only at e<;>omega) U).cons (r:=ay.ld ⟨g+2,g.heap.size,g.heap.size+1,[]⟩ (cD.new bZ)) (Keeps.bD (S:=aI) m a7) aZ (λj a=>by
   rcases a with a|a|a|a
   .simp only at a;omega
   .simp only at a;omega
   .simp only at a;omega
   .have⟨p,au,_⟩:=a;cases au) U
  have B:=(A.cons (r:=ay.fe n.heap.size b' (aq none 0 0)) (w':=f) ((hm▸(ba _).alloc _:Keeps aI n f)) ⟨[],by rw[hm];exact⟨aX _ _,gI _ 0 _ _,aK⟩⟩ (λj a=>MF) U).cons (r:=ay.dU f.heap.size (aq none 0 0)) ((ba f).alloc (ae #[aq none 0 0] 291)) ⟨[],⟨aX _ _,gI _ 0 _ _,aK⟩⟩ (λj a=>MF) U;have z:(f.alloc (ae #[aq none 0 0] 291)).heap.size=f.heap.size+1:=aK;have t:=B.cons (r:=ay.dS (f.alloc (ae #[aq none 0 0] 291)).heap.size) ((ba _).alloc (ae eJ 278)) ⟨0,0,0,0,f_,aX _ _⟩ (λj a=>gD a.symm) (by show _<=(f.alloc (ae #[aq none 0 0] 291)).heap.size;omega);rw[z]at t;have u:=t.keeps hk a7;exact⟨u.sep,λr E j a=>by have:=u.bl r E j a;omega⟩
 have R:=v.size;have G:=i.size;have H:=k.size;have K:=m.size;have z4:=o.size;have q:=(((((v.trans (i.mono U)).trans (k.mono U)).trans (m.mono U)).trans (o.mono U)).alloc U (ae #[aq none 0 0] 291)).alloc bT (ae eJ 278);exact q.trans (hk.below q.size a7)
def UC(aG d n bK pat bZ b':aa)(aL:J)(t:aL<2)(u:¬ vQ d n pat bZ b')(w:ai):aA 58 #[aQ #[aP aG,I d,I n,I aL,aP bK,I pat,I bZ,I b']] w λe w'=>e=aV #[.pointer none,I 1]/\Below w w w':=by
 have q:=IZ aG d n bK pat bZ b' aL (λ_ _ b0 _=>b0=0->p1 d n=true) (λ_ _ b0 _=>b0=0->1<=pat/\pat<=10000) (λ_ _ b0 _=>b0=0->1<=bZ/\bZ<=256) (λ_ _ b0 _=>b0=0->1<=b'/\b'<=16)
  (Pp aG d n aL t) (S' bK pat d) (SJ bZ) (TV b')
 have g:=af ((b3 w.heap.size w).alloc bs (ae #[aP aG,I d,I n,I aL,aP bK,I pat,I bZ,I b'] 26))
 go_in
 go_wp2_with fail;generalize World.alloc w _=bk at *;refine(q _).mono ?_;rintro e ao ⟨y,v,m,A,pl,p,B,bh,o,C,x,em,i,⟨D,r⟩,a,b,c,f,rfl,hk⟩;have hd:decide (m=0/\p=0/\o=0/\em=0)=false:=dd λh=>u ⟨a.1 h.1,b.1 h.2.1,c.1 h.2.2.1,f.1 h.2.2.2⟩;have s:Below w w (ao.alloc (ae #[.pointer v,.pointer pl,.pointer bh,.pointer x,i.heap.size,.pointer (some (ad (i+1) 0 ab))] 109)):=by
  have z:=g.out.size;have E:=a.2.size;have F:=b.2.size;have G:=c.2.size;have z4:=f.2.size;have l:=((((g.out.trans (r.mono z)).trans (a.2.mono U)).trans (b.2.mono U)).trans (c.2.mono U)).trans (f.2.mono U);have j:=(l.alloc U (ae #[aq none 0 0] 291)).alloc bT (ae eJ 278);have k:=j.trans (hk.below j.size a7);exact k.alloc k.size _
 rw[hd];go_wp2_with fail;go_ret2;exact⟨rfl,s⟩
def Bo(b:ga)(p o t:J):ga:={b with p:=p,du:=o,wt:=t}
def Hz(aG:aa)(d n aL:J)(bK pat bZ b':aa)(E:aL<2)(hd:d<=8)(ar:1<=n/\n<=16)(au:1<=pat/\pat<=10000)(C:1<=bZ/\bZ<=256)(aW:1<=b'/\b'<=16)(w:ai):aA 58 #[aQ #[aP aG,I d,I n,I aL,aP bK,I pat,I bZ,I b']] w λe w'=>
  ∃ b:ga,e=aV #[b.p,I 0]/\fM w.heap.size w' (bC b (we ⟨aG,d,n,aL,λ_=>im d,0,[(0,lg aG 0)],0⟩ (b9.new bK pat d) bZ) (o8 b'))/\Below w w w':=by
 obtain⟨x,u⟩:∃ x:ck,x=⟨aG,d,n,aL,λ_=>im d,0,[(0,lg aG 0)],0⟩:=⟨_,rfl⟩;rw[<-u]
 have z:=IZ aG d n bK pat bZ b' aL (Fc x) (Ff (b9.new bK pat d)) (Fe bZ) (Fg b')
  (λW=>(F' aG d n aL hd ar E W).mono λe w' ⟨b,h1,h2,a,g⟩=>⟨_,0,h1,⟨rfl,b,rfl,u▸h2,a⟩,g⟩)
  (λW=>(Im bK pat d au U W).mono λe w' ⟨h1,h2,a⟩=>⟨_,0,h1,⟨rfl,rfl,h2⟩,a⟩)
  (λW=>(Ig bZ C).mono λe w' ⟨h1,h2,a,_⟩=>⟨_,0,h1,⟨rfl,rfl,h2⟩,a.below bs (λ_ _ e=>e)⟩)
  (λW=>(IG b' aW W).mono λe w' ⟨h1,h2⟩=>⟨_,0,h1,⟨rfl,rfl,h2⟩,by rw[h2];exact(b3 _ W).alloc bs _⟩)
 have k:=af ((b3 w.heap.size w).alloc bs (ae #[aP aG,I d,I n,I aL,aP bK,I pat,I bZ,I b'] 26));have G:=@run_makeMap prog;generalize b9.new bK pat d=l at *
 go_in
 go_wp2_with fail;generalize World.alloc w _=bk at *;refine(z _).mono ?_;intro e ao D;obtain⟨b,rfl,an,t⟩:=To D;have H:=k.o.size;have K:=t.size;go_wp2_with fail;go_ret2;have h1:=an.keeps ((ba ao).alloc (ae #[b.c.c,b.L.p,b.lb,b.fe,b.dU,b.dS] 109)) (λ_ _ e=>e);generalize s:ao.alloc (ae #[b.c.c,b.L.p,b.lb,b.fe,b.dU,b.dS] 109)=A at *;have v:A.heap.size=ao.heap.size+1:=by rw[<-s];simp
 have B:Below w w A:=by rw[<-s];exact((k.o.trans (t.mono k.o.size))).alloc U _
 have m:(A.alloc (.map #[] 0)).heap.size=ao.heap.size+1+1:=by rw[<-v];simp
 have y:((A.alloc (.map #[] 0)).alloc (.map #[] 0)).heap.size=ao.heap.size+1+1+1:=by rw[<-m];simp
 have a:=(h1.cons (r:=ay.iw A.heap.size []) ((ba A).alloc (.map #[] 0)) ⟨RMap.made A prog 3 r4,λ_ h=>nomatch h⟩ (λj f=>gD f.symm) U).cons (r:=ay.iw (A.alloc (.map #[] 0)).heap.size []) ((ba _).alloc (.map #[] 0)) ⟨RMap.made _ prog 3 r4,λ_ h=>nomatch h⟩ (λj f=>gD f.symm) U;have g:=a.cons (r:=ay.bc ((A.alloc (.map #[] 0)).alloc (.map #[] 0)).heap.size (oZ (Bo b (ao.heap.size+1+1+1) (ao.heap.size+1) (ao.heap.size+1+1)) (we x l bZ) 0,114)) ((ba _).alloc _) (aX _ _) (λj f=>gD f.symm) U;rw[m,y,v]at g;have q:=g.pick [0,8,7,6,5,4,3,2,1] bq (λi aw=>by show i<9;exact(show ∀ i∈[0,8,7,6,5,4,3,2,1],i<9 by decide) i aw);exact⟨Bo b (ao.heap.size+1+1+1) (ao.heap.size+1) (ao.heap.size+1+1),rfl,⟨q.sep,λr F j f=>by have:=q.bl r F j f;omega⟩,(((B.alloc U (.map #[] 0)).alloc U (.map #[] 0)).alloc U (ae (oZ (Bo b (ao.heap.size+1+1+1) (ao.heap.size+1) (ao.heap.size+1+1)) (we x l bZ) 0) 114))⟩
end Go.Proofs.YtalagblioepadaaGreatDoor
