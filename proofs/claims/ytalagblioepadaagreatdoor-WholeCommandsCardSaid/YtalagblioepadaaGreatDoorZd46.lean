/- The proof, part 46. -/
import Derived.Test.YtalagblioepadaaGreatDoorZd45
namespace Go.Proofs.YtalagblioepadaaGreatDoor
set_option linter.all false
open Proofs.Tryz List Go.RowKit Go.Maps
set_option maxRecDepth 100000
set_option maxHeartbeats 4000000
def EU{p:al}(h:p:=by rw[B,<-Y];exact aX _ _):p:=h
def EP{p:al}(h:p:=by rcases k with rfl|k;omega;cases k):p:=h
def EM{p:al}(h:p:=by show(-1000:aa)<=0/\(0:aa)<=1000;omega):p:=h
def Ns{p:al}(h:p:=by show(0:aa)<=0/\(0:aa)<=1073741824;omega):p:=h
def Nl{p:al}(h:p:=by rcases a with a|a;exact gD a.symm;cases a):p:=h
def M_{p:al}(h:p:=by rw[fE];have:=hk.E;have:=(rp hk.cC);have⟨_,_,_,_,_,_,_,q,_⟩:=this;rw[q];omega):p:=h
def OE{p:al}(h:p:=by
 have y:=ag (BV A.out z.o Z.out.1.pt Z.out.1.po Z.out.2);clear z;go_wp2_with fail;refine aW y.o ?_;rintro m' ⟨TS,aa6,l⟩;obtain⟨M,N,l',_,_⟩:=cS (kG l).2;rw[l']at l;obtain⟨O,lb⟩:=cT (fj ab).2.length;rw[<-lb]at l;clear l' lb y;have hd:=(kG l).1;have C:m'.heap[w.heap.size]?=some (af cj 35 (0,0)):=l.at' 12 rfl;have d0:=aO hd;have g0:=bP C;have z0:=aO C;have Tq:=ag (jV C (aq M O N) (aq none 0 0) (.bool false));have St:=ag ((BJ l.qx (j5 m' w.heap.size (aq M O N) (aq none 0 0) (.bool false))).qx);clear l hd C;go_wp2_with fail;have T':=dF _ _ _ _ Tq.o 3 rfl;refine dx (v:=aY #[aL #[aq M O N,(aq none 0 0),false],I 0]) T' ?_;rw[g'.out.1,g'.out.2];exact⟨_,rfl,TS,St.o⟩
 ):p:=h
def MP{p:al}(h:p:=by
 obtain⟨n,t,M,_,_⟩:=cS (kG a).2;rw[M]at a;obtain⟨u,L⟩:=cT x.2.length;rw[<-L]at a;clear M L;have K:=(kG a).1;have g:=a.at' 10 rfl;have W:=aO K;have g0:=bP g;have X:=aO g;have S:=ag (jV g (aq n u t) (aq none 0 0) (.bool false));have Q:=ag (RV a (j5 y w.heap.size (aq n u t) (aq none 0 0) (.bool false)));clear a K g;go_wp2_with fail;have V:=dF _ _ _ _ S.o 3 rfl;refine dx (v:=aL #[aq n u t,(aq none 0 0),false]) V ?_;rw[T.out];exact⟨_,rfl,f,Q.o⟩
 ):p:=h
def OG{p:al}(h:p:=by
 unfold pU iF;have aaw:=wP (λ_=>(0:aa)) (f:=0) (n:=j) U;unfold ga at F⊢;rw[<-aaw];exact F
 ):p:=h
def Mq{p:al}(h:p:=by
 exact h1.set 9 (r':=az.cF v p.2) rfl (bb w') (λ_ _ e=>e.elim) (kG h1).2 (λ_ h=>.inl (.inr h))
 ):p:=h
section
open Go.Maps
variable{w w':aj}{b:gk}{s:bM}{R:ah az}{d:gG}{o:J}{sd:ay}{m:a1}{F:J}{ba us:J->J->aa}
def az.cQ(A:b_ Addr)(n cap:J)(xs:ah ay):az where
 S j:=0<n/\∃ x,A=some x/\x.block=j
 P w:=eb w 1 A n cap xs
 lt h b:=by obtain⟨av,x,a,rfl⟩:=b;exact h.lt U av a
 frame h hk aw:=h.keeps hk λav x a=>aw _ ⟨av,x,a,rfl⟩
def jV{w:aj}{b:J}{t:TypeId}{u v z:ay}(h:w.heap[b]?=some (af #[u,v,z] t (0,0)))(x y q:ay):(((w.setCell (ae b 0 ad) x).setCell (ae b 1 ad) y).setCell (ae b 2 ad) q).heap[b]?=some (af #[x,y,q] t (0,0)):=by
 have:=b3 (b3 (b3 h 0 x) 1 y) 2 q
 simpa using this
theorem j5(w:aj)(b:J)(x y z:ay):Keeps (λj=>j=b) w (((w.setCell (ae b 0 ad) x).setCell (ae b 1 ad) y).setCell (ae b 2 ad) z):=
 (((Keeps.refl (λj=>j=b) w).setCell (p:=ae b 0 ad) rfl x).setCell (p:=ae b 1 ad) rfl y).setCell (p:=ae b 2 ad) rfl z
def Sep.drop1{A B:ah az}{eV:J}{z:a7 ay×TypeId}(h:Sep w (A++az.bd eV z :: B))(hk:Keeps (λj=>j=eV) w w'):Sep w' (A++B):=by
 have au:=h.perm qJ;exact au.tail.keeps hk λr b j a e=>(kb.1 au.apart).1 r b j e a
def BJ{p:cq}{v:ay}{Q:az}{eV:J}{z:a7 ay×TypeId}(h:Sep w (bH b p.1 d++az.out o v sd m p.2 :: Q :: az.bd eV z :: R))(hk:Keeps (λj=>j=eV) w w'):Sep w' (bH b p.1 d++az.cF v p.2 :: Q :: R):=by
 have h1:=Sep.drop1 (A:=bH b p.1 d++[az.out o v sd m p.2,Q]) h hk;exact Mq
theorem BI(h:Sep w (bH b s d++R)):Sep w (bH b s d++az.cF (aq none 0 0) [] :: R):=
 (h.cons (r:=az.cF (aq none 0 0) []) (bb w) (λ_ _ _ _=>id) (gx w 0 _ _) (λj a=>by cases a)).iY
theorem HR(h:Sep w (bH b s d++R)){l:cd}{A:b_ Addr}{n cap:J}{xs:ah ay}(i:IsLink w' b.L l)(hk:Keeps b.L.S w w')(f:eb w' 1 A n cap xs)(e:∀ y,A=some y->w.heap.size<=y.block):Sep w' (az.cQ A n cap xs :: (bH b {s with aF:=l} d++R)):=
 h.zn 2 (r':=az.link b.L l) (q:=az.cQ A n cap xs) rfl hk (λ_ _ h=>h) i (λ_ h=>.inl h) f (λj a=>by obtain⟨_,x,c,rfl⟩:=a;exact e x c) (λj a g=>by
  obtain⟨_,x,c,rfl⟩:=a;have h1:=(az.link b.L s.aF).lt (nj h) g
  have:=e x c
  omega)
def xK(b:gk)(s':bM)(cs:ah bI)(a:ah a6)(f:a1)(R:ah az)(e:Ending)(w':aj):al:=
 ∃ c A cap,e=aY #[aL #[c,aq A a.length cap,.bool f],I 0]/\∃ d,Sep w' (bH b s' d++az.cF c cs :: az.cQ A a.length cap (lB a) :: R)
def Sn(h:Sep w (bH b s d++R))(aS:s.cc=true)(v:aT)(aU:v.toNat<=63)(a:vD s.aF 0):aA 60 #[b.p,aH v.toNat] w (xK b (cH v s).1 (cH v s).2 (fo v s) (d_ s) R):=by
 have g:cH v s=({s with aF:=(c9 s.aF 0).2},[]):=by unfold cH;rw[aE aS]
 have i:fo v s=(c9 s.aF 0).1:=by unfold fo;rw[aE aS]
 have k:d_ s=false:=by unfold d_;rw[aS];rfl
 rw[g,i,k];have c:=(h.cons (r:=az.bd w.heap.size (cj,35)) ((bb w).alloc (af cj 35)) (λ_ _ _ _=>id) (aX w (af cj 35)) (λj n=>gD (jM n))).iY;have fq:=p' c;rw[aS]at fq;have b6:=pf c
 go_in
 go_wp2_with fail;generalize w.alloc (af cj 35)=bn at *;refine((I3 (nj c) 0 a.aK a.aS a.kl a.hm a.av)).mono ?_;rintro e ao ⟨⟨A,cap,rfl,m,l⟩,a,q⟩;have h1:=(HR c a q m l).iY;have f:=h1.at' 10 rfl;have g0:=bP f;have t:=aO f;go_wp2_with fail;have o:=dF _ _ _ _ ((jV f (aq none 0 0) (.slice A (c9 s.aF 0).1.length cap) (.bool false))) 3 rfl;refine dx (v:=aY #[aL #[aq none 0 0,.slice A (c9 s.aF 0).1.length cap,false],I 0]) o ?_;exact⟨_,A,cap,rfl,d,by have:=((BI (Sep.drop1 (A:=bH b {s with aF:=(c9 s.aF 0).2} d++[az.cQ A (c9 s.aF 0).1.length cap (lB (c9 s.aF 0).1)]) h1 (j5 ao w.heap.size (aq none 0 0) (.slice A (c9 s.aF 0).1.length cap) (.bool false)))));simpa using this⟩
end
section
open Go.Maps
variable{eK:Old}{w w':aj}{b:gk}{s:bM}{R:ah az}{d:gG}{o:J}{sd:ay}{m:a1}{F:J}{ba us:J->J->aa}
def Sk(g:az.kinds eK∈R)(h:Sep w (bH b s d++R))(v:aT)(hk:AS s v F ba us):aA 60 #[b.p,aH v.toNat] w (xK b (cH v s).1 (cH v s).2 (fo v s) (d_ s) R):=by
 have zd:cH v s=lT (dj v s):=by unfold cH;rw[hk.l1];rfl
 have zp:fo v s=(c9 (dj v s).1.aF (iw {(dj v s).1 with x:=dZ (dj v s).1.x})).1:=by unfold fo;rw[hk.l1];rfl
 have aaC:d_ s=gm (cL s).1:=by unfold d_;rw[hk.l1];rfl
 have⟨abE,vl,abc,_,fE,aaz,_,_,_,abe,aaA,abB,abf,abd,_⟩:=rp hk.cC;have aa4:bS (cL s).1=bS s:=by unfold bS fv;rw[abe,aaz]
 have cv:hn (cL s).1 ba abE:=λj k aaP=>by rw[aaz];rw[fE]at k;rw[aa4]at aaP;exact abc j k aaP
 have aaZ:=abf.trans hk.l1;have aaN:=vl.Yt cv aaZ (by rw[fE];exact hk.top) (by rw[abd];exact hk.cz) (by rw[aaA];exact hk.oM) (by rw[aaA];exact hk.cp);have T':=vl.K_ cv (by rw[fE];exact hk.top) M_ v hk.dR (cL s).2;have aaK:=hk.cC.J5;obtain⟨abI,m1,_,_,aaU⟩:=uo hk.cC hk.l1 hk.E (ca hk.top bt) v hk.dR;have y:=m1.cC;have aaw:=m1.gS;have aaW:=K' v vl (λan=>(T' an).2.2.2.2.1);have aav:=m1.now;obtain⟨l,a'⟩:=cT (eF v (cL s));rw[<-a']at y aaw aaW aaU aav;have gK:=y.oI aaw;have abu:=y.aP;have aa3:∀ n,(fc n l).2.length<=l.2.length+320*n:=λn=>hM.Bs n y.zv;obtain⟨X,_⟩:=m1.settle;rw[<-a']at X;have em:j9 l=dj v s:=by rw[a'];rfl
 have abt:=y.jf;have aby:=y.my;have aa1:c3 l.1.x<=l.1.ld.aP+100:=by
  have:=hk.g_
  have:=hk.top
  omega
 have abw:l.1.x.now<=90001:=by
  have:=hk.top
  split at aav<;>omega
 have aa2:=y.zv;have aaO:∀ f:J,l.1.ld.aP+2<=f->(f:aa)<=c3 l.1.x+1->vL l.1.x f:=λf h1 h2=>y.YC U f (by have:=hk.g_;omega) U;have W':(dj v s).2.length<=60000:=by
  rw[<-em]
  have:=aa3 (c3 l.1.x-l.1.ld.aP).toNat
  unfold j9;omega
 rw[em]at X;have gf:=X.cC;have fr:=X.gS;have⟨a,aau⟩:=cT (dj v s);have aa0:a.1.x.now<=90001:=by
  have ab:=X.now
  have:=hk.top
  rw[aau];split at ab<;>omega
 have aar:=hk.aF;rw[<-aau]at gf fr W' em aar zd zp;have f5:=(gf.free fr).1;have abb:=(gf.oI fr).1;rw[zd,zp,aaC]
 -- the memory
 have aa7:=(bb w).alloc (af cj 35);have Aw:=(h.cons (r:=az.bd w.heap.size (cj,35)) aa7 (λ_ _ _ _=>id) (aX w (af cj 35)) (λj k=>gD (jM k))).iY;have aa8:=(bb (w.alloc (af cj 35))).alloc (af cj 35);have Y:(w.alloc (af cj 35)).heap.size=w.heap.size+1:=aM;have⟨z,B⟩:=cT (w.heap.size+1);have fq:=p' Aw;rw[hk.l1]at fq;have h1:=(Aw.cons (r:=az.out z (aq none 0 0) (aq none 0 0) false []) aa8 (λ_ _ _ _=>id) ⟨EU,gx _ 0 _ _⟩ (λj k=>EP)).iY;have abH:decide (((63:aa))<(v.toNat:aa))=false:=di (by have:=hk.dR;omega);have r':=ag (kx (az.bd w.heap.size (cj,35)) g);have aaL:=ag (Ss r'.o ⟨d,_,h1⟩ hk.cC (ca hk.top bt) (hk.cC.hd.trans hk.l1));have w':=bW aaN (bD T' aaK);have abn:=ag a';have N:=bW aa2 (bD y.pt (bD gK.1 (bD (show l.2.length<=10000 by omega) (bD (bD (show l.1.ld.aP<=900000 by omega) aa1) aaO))));have abl:=ag em;have m:=bW gf (bD fr (bD abb (bD aa0 (bD f5 (bD W' aar)))));have abp:=ag hk.dR;have abm:=ag B;clear g h hk zd zp aaC vl abc fE aaz abe aaA abB abf abd aa4 cv aaZ aaN T' aaK m1 y aaw aaW aaU aav a' gK abu aa3 X em abt aby aa1 abw aa2 aaO W' gf fr aau aa0 aar f5 abb aa7 Aw aa8 Y h1
 go_in
 go_wp2_with fail;rw[<-abm.o];refine aW aaL.o ?_;rintro ao ⟨d1,v1,h1⟩;have fV:=HN h1;have u:=ag (QG b.ec (HP h1));have H1:=ag h1;clear h1 aaL fq B;go_wp2_with fail;refine u.o.mono ?_;rintro e aD ⟨⟨bw,rfl⟩,aaS,aa9⟩;have h2:=HQ H1.out aaS aa9;have ar:=ag (Sw r'.out ⟨d1,v1,h2⟩ v abp.out w'.out.1 (ca w'.out.2.2 bt) w'.out.2.1);clear h2 aaS aa9 u H1 fV;go_wp2_with fail;refine aW ar.o λbq CW=>?_;rw[<-abn.out]at CW;have aaM:=ag (Sv r'.out CW N.out.1 N.out.2.1 N.out.2.2.1 N.out.2.2.2.1 N.out.2.2.2.2.1 N.out.2.2.2.2.2);clear CW ar;go_wp2_with fail;refine aW aaM.o λabF S=>?_;rw[abl.out]at S;obtain⟨Z,D,S⟩:=S;obtain⟨bk,aas⟩:=cT (gm (cL s).1);rw[<-aas]at S;have cI:=ag aas;clear aaM aas;obtain⟨O,Q'⟩:=cT (bH b a.1 Z++az.out z D (aq none 0 0) bk a.2 :: az.bd w.heap.size (cj,35) :: R);have i:∀ W,Sep W O->Sep W (bH b a.1 Z++az.out z D (aq none 0 0) bk a.2 :: az.bd w.heap.size (cj,35) :: R):=λW h=>Q'▸h;have g':Sep abF.drew O:=by rw[Q'];exact S.drew 1
 have aay:∀ x:bs (λW=>Sep W O),x.to.cell? (ae b.p 0 ad)=some (.pointer (some (ae b.c.c 0 ad))):=λx=>lW (i _ x.held);have aV:=ag (λ(W:aj) (t:Sep W O)=>x5 (hq (i _ t)) m.out.2.2.1);have aaI:=ag (λ(W:aj) (t:Sep W O)=>P8 (hq (i _ t)) m.out.1 m.out.2.1 m.out.2.2.2.1);have C:=ag i;clear S Q' i;go_wp2_with fail;refine cJ 12 ?_;refine cK (λW=>Sep W O) (.range 11) 1 11 ?_;refine dK (g') (.range 10) 1 ?_;refine jG 10 λK g=>?_;go_simp;refine aW (aV.o _ g') λabK aa_=>?_;have lb:=g'.keep aa_;refine g _ _ (lb) ?_;clear g K;refine cK (n3) [11] 0 1 ?_;refine kM 11 λK g=>?_;go_simp;refine(aaI.o _ lb).mono ?_;rintro e abG ⟨⟨n7,rfl⟩,aa6,aa'⟩;refine g _ _ (lM _) ?_;clear g K;have aaD:=yq (C.out _ lb) aa6 aa';clear g' aa_ lb aa6 aa' aV aaI aay C;obtain⟨G,St⟩:=cT (bH b {a.1 with x:=dZ a.1.x} Z++az.out z D (aq none 0 0) bk a.2 :: az.bd w.heap.size (cj,35) :: R);have i:∀ W,Sep W G->Sep W (bH b {a.1 with x:=dZ a.1.x} Z++az.out z D (aq none 0 0) bk a.2 :: az.bd w.heap.size (cj,35) :: R):=λW h=>St▸h;have T:Sep abG.drew G:=by rw[St];exact aaD.drew 1
 have aay:∀ x:bs (λW=>Sep W G),x.to.cell? (ae b.p 0 ad)=some (.pointer (some (ae b.c.c 0 ad))):=λx=>lW (i _ x.held);have abz:∀ x:bs (λW=>Sep W G),x.to.cell? (ae b.p 4 ad)=some (.pointer (some (ae b.ed 0 ad))):=λx=>tW (i _ x.held);have aaF:=ag (λ(W:aj) (t:Sep W G)=>tK (hq (i _ t)));have aaG:=ag (λ(W:aj) (t:Sep W G)=>by
  obtain⟨ps,abx⟩:=BG (i _ t);exact Rh abx ((dZ a.1.x).now:aa))
 have C:=ag i;clear aaD St i;go_wp2_with fail;refine cJ 12 ?_;refine cK (λW=>Sep W G) (.range 11) 1 11 ?_;refine dK (T) (.range 10) 1 ?_;refine jG 10 λK g=>?_;go_simp;refine bE (aaF.o _ T) ?_;refine g _ _ (T) ?_;clear g K;refine cK (n3) [11] 0 1 ?_;refine kM 11 λK g=>?_;go_simp;refine(aaG.o _ T).mono ?_;rintro e abg ⟨⟨fq,rfl⟩,aaQ⟩;refine g _ _ (lM _) ?_;clear g K;obtain⟨abC,ab⟩:=RX (C.out _ T) aaQ;clear T aaQ aaF aaG aay abz C;obtain⟨Q,aaV⟩:∃ Q:gG,Q={Z with dq:=abC}:=⟨_,rfl⟩;rw[<-aaV]at ab;clear aaV;obtain⟨P,Tq⟩:=cT (bH b {a.1 with x:=dZ a.1.x} Q++az.out z D (aq none 0 0) bk a.2 :: az.bd w.heap.size (cj,35) :: R);have i:∀ W,Sep W P->Sep W (bH b {a.1 with x:=dZ a.1.x} Q++az.out z D (aq none 0 0) bk a.2 :: az.bd w.heap.size (cj,35) :: R):=λW h=>Tq▸h;have l':Sep abg.drew P:=by rw[Tq];exact ab.drew 1
 have abA:∀ x:bs (λW=>Sep W P),x.to.cell? (ae b.p 1 ad)=some (.pointer (some (ae b.L.p 0 ad))):=λx=>pf (i _ x.held);have TS:=ag (λ(W:aj) (t:Sep W P)=>Ie (i _ t));have V':=ag (λ(W:aj) (t:Sep W P)=>I3 (nj (i _ t)) (iw {a.1 with x:=dZ a.1.x}) m.out.2.2.2.2.2.2.aK m.out.2.2.2.2.2.2.aS m.out.2.2.2.2.2.2.kl m.out.2.2.2.2.2.2.hm m.out.2.2.2.2.2.2.av);have C:=ag i;obtain⟨ld,aaq⟩:=cT (iw {a.1 with x:=dZ a.1.x});rw[<-aaq]at TS V';have aaB:=ag aaq;clear ab Tq i aaq;go_wp2_with fail;refine cJ 10 ?_;refine cK (λW=>Sep W P) (.range 7) 3 7 ?_;refine dK (l') (.range 6) 1 ?_;refine jG 6 λK g=>?_;go_simp;refine aW (TS.o _ l') ?_;rintro _ ⟨q,rfl⟩;have m':=l'.drew q;refine g _ _ (m') ?_;clear g K;clear l' TS;generalize abg.drew.drewN q=abL at *;refine cK (n3) [7,8,9] 0 3 ?_;refine eH 7 λK g=>?_;go_simp;refine(V'.out _ m').mono ?_;rintro e abh ⟨⟨A,cap,rfl,aaR,aaE⟩,aaX,aba⟩;refine g _ _ (lM _) ?_;clear g K;refine hs 8 (lM _) ?_;have V:=(HR (C.out _ m') aaX aba aaR aaE).rj;have abD:=aO ((kG (p:=({a.1 with x:=dZ a.1.x,aF:=(c9 a.1.aF ld).2},a.2)) V).1);have f1:=bP ((kG (p:=({a.1 with x:=dZ a.1.x,aF:=(c9 a.1.aF ld).2},a.2)) V).1);refine h9 9 (lM _) ?_;obtain⟨M,H⟩:∃ M:cq,M=({a.1 with x:=dZ a.1.x,aF:=(c9 a.1.aF ld).2},a.2):=⟨_,rfl⟩;have V:Sep abh (bH b M.1 Q++az.out z D (aq none 0 0) bk M.2 :: az.cQ A (c9 a.1.aF ld).1.length cap (lB (c9 a.1.aF ld).1) :: az.bd w.heap.size (cj,35) :: R):=by rw[H];exact V
 have aaH:=RW V (.slice A (c9 a.1.aF ld).1.length cap);have aat:=b8.same (s':=M.1) m.out.2.2.2.2.1 (by rw[H]) (by rw[H]) (by rw[H]);have aaJ:=ag (BV (kx _ r'.out) ⟨Q,D,aaH⟩ aat.pt aat.po (by rw[H];exact ca m.out.2.2.2.2.2.1 bt));have abo:=ag H;clear V aaH aat abD f1 aaX aba aaE aaR V' m' abA C H;generalize abh.setCell (ae z 1 ad) (.slice A (c9 a.1.aF ld).1.length cap)=abM at *;go_wp2_with fail;refine aW aaJ.o ?_;rintro abi ⟨abq,abJ,u⟩;obtain⟨v',ys,aa5,_,_⟩:=cS (kG u).2;rw[aa5]at u;obtain⟨aax,aaY⟩:=cT (fj M).2.length;rw[<-aaY]at u;clear aa5 aaY;have aaT:=(kG u).1;have sd:abi.heap[w.heap.size]?=some (af cj 35 (0,0)):=u.at' 11 rfl;have d0:=aO aaT;have g0:=bP sd;have z0:=aO sd;have abk:=ag (jV sd (aq v' aax ys) (.slice A (c9 a.1.aF ld).1.length cap) (.bool bk));have abj:=ag (BJ u (j5 abi w.heap.size (aq v' aax ys) (.slice A (c9 a.1.aF ld).1.length cap) (.bool bk)));clear aaJ u aaT sd;go_wp2_with fail;have abv:=dF _ _ _ _ abk.o 3 rfl;refine dx (v:=aY #[aL #[(aq v' aax ys),.slice A (c9 a.1.aF ld).1.length cap,.bool bk],I 0]) abv ?_;have abr:lT a=fj M:=by rw[abo.out,aaB.out];rfl
 rw[abr,<-aaB.out,<-cI.out];exact⟨_,A,cap,rfl,abq,abj.o⟩
end
theorem b8.yD{F:J}{ba us:J->J->aa}:∀ (l:ah aT) {s:bM},b8 s F ba us->bS s+l.length<=F+64->(∀ i x,l[i]?=some x->ba (1-s.x.aN) (bS s+i)=(x.toNat:aa))->(∀ x∈l,x.toNat<=63)->b8 {s with x:=e' s.x l} F ba us/\bS {s with x:=e' s.x l}=bS s+l.length/\dc {s with x:=e' s.x l}=dc s/\(e' s.x l).now=s.x.now/\(e' s.x l).aN=s.x.aN/\(e' s.x l).eO=s.x.eO/\(e' s.x l).dE=s.x.dE/\(e' s.x l).aJ=s.x.aJ
 | [],s,h,_,_,_=>⟨h,rfl,rfl,rfl,rfl,rfl,rfl,rfl⟩
 | v :: r,s,h,f,hk,ak=>by
  simp only[dy]at f;obtain⟨c,b,g⟩:=h.SE U v (ak v nS);have d:(λi=>if i=1-s.x.aN then bZ (ba (1-s.x.aN)) (bS s) v.toNat else ba i)=ba:=by
   funext i
   split
   .subst i
    funext j
    unfold bZ;split
    .rename_i e;rw[e,<-(hk 0 v rfl)];rfl
    rfl
   rfl
  rw[d]at c;obtain⟨k,m,n,o,p,q,t,u⟩:=b8.yD r c (by rw[b];omega) (λi x a=>by
   rw[b]
   have:=hk (i+1) x (by rw[j'];exact a)
   rw[show bS s+1+i=bS s+(i+1)by omega];exact this) (λx a=>ak x (kx _ a))
  have e:e' s.x (v :: r)=e' (gL s.x (1-s.x.aN) v.toNat) r:=rfl;rw[e];exact⟨k,by rw[m,b,dy];omega,n.trans g,o,p,q,t,u⟩
def Ik(r:bL)(s:bM):(fB r s).1.x=s.x/\(fB r s).1.aF=s.aF/\(fB r s).1.ld.aP=s.ld.aP/\(fB r s).1.ld.most=s.ld.most:=by
 unfold fB;split
 .have⟨a,b,c,_,_,d⟩:=B6 r.frame r.sum (s,[]);exact⟨a,b,c,d⟩
 split<;>exact⟨rfl,rfl,rfl,rfl⟩
theorem b8.fB{s:bM}{F:J}{ba us:J->J->aa}(h:b8 s F ba us)(r:bL):b8 (fB r s).1 F ba us:=by
 unfold Go.Proofs.YtalagblioepadaaGreatDoor.fB;split
 .exact h.hold _ _ _
 split
 .exact h.same rfl rfl rfl
 exact h
def S7(Q:bL->al)(a:∀ k f i,Q ⟨k,f,i,0,0,0⟩)(l:cd)(m:a6):Q (jm l m).1:=by
 unfold jm;simp only[];split
 .exact a _ _ _
 exact a _ _ _
def UN(Q:bL->al)(a:∀ k f i,Q ⟨k,f,i,0,0,0⟩)(m:a6)(b:∀ x,Q ⟨4,0,[],(en x m.cr).1,m.sum,0⟩)(c:Q ⟨6,0,[],0,0,m.lead⟩)(l:cd):Q (h_ l m).1:=by
 unfold h_;split
 .exact S7 Q a _ _
 split
 .exact b _
 split
 .exact a _ _ _
 split
 .exact c
 exact a _ _ _
def YO(Q:bL->al)(a:∀ k f i,Q ⟨k,f,i,0,0,0⟩)(m:a6)(b:∀ x,Q ⟨4,0,[],(en x m.cr).1,m.sum,0⟩)(c:Q ⟨6,0,[],0,0,m.lead⟩)(l:cd):Q (cW l m).1:=by
 unfold cW;split
 .exact a _ _ _
 split
 .split
  .exact a _ _ _
  exact a _ _ _
 split
 .exact a _ _ _
 split
 .exact UN Q a m b c l
 exact a _ _ _
def Im(Q:bL->al)(a:∀ k f i,Q ⟨k,f,i,0,0,0⟩)(l:cd)(t:ah aT)(b:∀ x,Q ⟨4,0,[],(en x (fG t).1.cr).1,(fG t).1.sum,0⟩)(c:(fG t).2=0->Q ⟨6,0,[],0,0,(fG t).1.lead⟩):Q (cD l t).1:=by
 unfold cD;split
 .exact a _ _ _
 split
 .exact a _ _ _
 rename_i h;split
 .exact YO Q a _ b (c U) _
 exact a _ _ _
theorem SI(l:cd)(t:ah aT):0<=(cD l t).1.frame/\(cD l t).1.frame<=1073741824:=
 Im (λr=>0<=r.frame/\r.frame<=1073741824) (λ_ _ _=>Ns) l t (λx=>HI x _) (λ_=>Ns)
theorem SJ(l:cd)(t:ah aT)(h:(∃ m,t=dv m/\m.wf/\ds m)\/(fG t).2≠0):-1000<=(cD l t).1.lead/\(cD l t).1.lead<=1000:=
 Im (λr=>-1000<=r.lead/\r.lead<=1000) (λ_ _ _=>EM) l t (λx=>EM) (λb=>by
  rcases h with⟨m,rfl,c,a⟩|h
  .rw[Ds m a c];exact a.2.2.1
  .exact absurd b h)
theorem B3:∀ (l:ah aT) (x:ct),(e' x l).aN=x.aN/\((e' x l).f (1-x.aN)).next=(x.f (1-x.aN)).next+l.length/\((e' x l).f (1-x.aN)).first=(x.f (1-x.aN)).first
 | [],_=>⟨rfl,rfl,rfl⟩
 | v :: r,x=>by
  obtain⟨h1,h2,b⟩:=B3 r (gL x (1-x.aN) v.toNat);have e:e' x (v :: r)=e' (gL x (1-x.aN) v.toNat) r:=rfl;have c:(gL x (1-x.aN) v.toNat).aN=x.aN:=rfl;have a:((gL x (1-x.aN) v.toNat).f (1-x.aN)).next=(x.f (1-x.aN)).next+1/\((gL x (1-x.aN) v.toNat).f (1-x.aN)).first=(x.f (1-x.aN)).first:=by
   show(eW x.f (1-x.aN) _ (1-x.aN)).next=_/\(eW x.f (1-x.aN) _ (1-x.aN)).first=_;rw[rB];exact⟨rfl,rfl⟩
  rw[c]at h1 h2 b;rw[e,dy];exact⟨h1,by rw[h2,a.1];omega,b.trans a.2⟩
def SG(x:ct)(l:ah aT)(v:aT):e' x (l++[v])=gL (e' x l) (1-x.aN) v.toNat:=by
 have h:=(B3 l x).1;unfold e' at *;rw[mX];show gL _ (1-(l.foldl _ x).aN) _=_;rw[h]
def SF{s:bM}(h:hM s.x (s,[]))(r:bL):(fB r s).2.length<=256:=by
 unfold fB;split
 .have:=(h.hold r.frame r.sum).2
  simpa using this
 split<;>simp
section
open Go.Maps
variable{w w':aj}{b:gk}{s:bM}{R:ah az}{d:gG}{o:J}{sd:ay}{m:a1}{F:J}{ba us:J->J->aa}
def az.p2(a:b_ Addr)(c:J)(l:ah aT):az where
 S j:=l≠[]/\∃ x,a=some x/\x.block=j
 P w:=c' w a c l
 lt h d:=by obtain⟨av,x,b,rfl⟩:=d;exact h.lt av x b
 frame h hk aw:=h.keeps hk λav x b=>aw _ ⟨av,x,b,rfl⟩
structure xI(l:cd)(t:ch):al where
 aw:t.size<=100000
 av:0<=l.next/\l.next<=1073741824
 bh:0<=l.da/\l.da<=1073741824
 aZ:0<=l.e2/\l.e2<=1000000
 ak:0<=l.bad/\l.bad<=1000000
 aK:0<=l.fe/\l.fe<=1000000
def vF(b:gk)(s':bM)(cs:ah bI)(b0:aa)(R:ah az)(e:Ending)(w':aj):al:=
 ∃ a,e=aY #[aL #[a,(aq none 0 0),false],I b0]/\∃ d,Sep w' (bH b s' d++az.cF a cs :: R)
def Sh(h:Sep w (bH b s d++R))(aS:s.cc=true)(t:ch):aA 65 #[b.p,.string t] w (vF b (dG t.data.toList s).1 (dG t.data.toList s).2 (jl t.data.toList s) R):=by
 have a:dG t.data.toList s=(s,[]):=by unfold dG;rw[aE aS]
 have c:jl t.data.toList s=12:=by unfold jl;rw[aE aS]
 rw[a,c];have h1:=h.keep ((bb w).alloc (af cj 35));have fq:=p' h1;rw[aS]at fq
 go_in
 go_wp2_with fail;have e:=dF _ _ _ _ (aX w (af cj 35)) 3 rfl;refine dx (v:=aY #[aL cj,I 12]) e ?_;exact⟨_,rfl,d,(BI h1)⟩
def Sg(h:Sep w (bH b s d++R))(aS:s.cc=false)(t:ch)(hk:xI s.aF t)(b0:aa)(i:(cD s.aF t.data.toList).2.1=b0)(hne:b0≠0):aA 65 #[b.p,.string t] w (vF b (dG t.data.toList s).1 (dG t.data.toList s).2 (jl t.data.toList s) R):=by
 have m:dG t.data.toList s=({s with aF:=(cD s.aF t.data.toList).2.2},[]):=by unfold dG;rw[aS,aB aM,i,aE hne]
 have n:jl t.data.toList s=b0:=by unfold jl;rw[aS,aB aM,i]
 rw[m,n];have f:=(h.cons (r:=az.bd w.heap.size (cj,35)) ((bb w).alloc (af cj 35)) (λ_ _ _ _=>id) (aX w (af cj 35)) (λj q=>gD (jM q))).iY;have fq:=p' f;rw[aS]at fq;have b6:=pf f;have l:=ag (I0 (nj f) t hk.aw hk.av hk.bh hk.aZ hk.ak hk.aK);rw[i]at l
 go_in
 go_wp2_with fail;generalize w.alloc (af cj 35)=bn at *;refine l.o.mono ?_;rintro e k ⟨⟨a,c,rfl,ak,z⟩,u,y⟩;have h1:=(yr f u y).alloc (af (aV (cD s.aF t.data.toList).1 a c) 199);have g:(k.alloc (af (aV (cD s.aF t.data.toList).1 a c) 199)).heap[w.heap.size]?=some (af cj 35 (0,0)):=h1.at' 9 rfl;unfold aV at *;go_upto_region 7 with fail
 generalize World.alloc k _=ao at *;have g0:=bP g;have B:=aO g;go_wp2_with fail;have x:=dF _ _ _ _ ((jV g (aq none 0 0) (aq none 0 0) (.bool false))) 3 rfl;refine dx (v:=aY #[aL cj,I b0]) x ?_;exact⟨_,rfl,d,((BI (Sep.drop1 (A:=bH b {s with aF:=(cD s.aF t.data.toList).2.2} d) h1 (j5 ao w.heap.size (aq none 0 0) (aq none 0 0) (.bool false)))))⟩
end
section
open Go.Maps
variable{eK:Old}{w w':aj}{b:gk}{s:bM}{R:ah az}{d:gG}{o:J}{sd:ay}{m:a1}{F:J}{ba us:J->J->aa}
theorem RY(h:Sep w (bH b s d++R)){l:cd}{A:b_ Addr}{c:J}{xs:ah aT}{bo:J}(m:bo=w.heap.size)(k:IsLink w' b.L l)(hk:Keeps b.L.S w w')(g:c' w' A c xs)(f:∀ y,A=some y->bo<=y.block):Sep w' (az.p2 A c xs :: (bH b {s with aF:=l} d++R)):=
 h.zn 2 (r':=az.link b.L l) (q:=az.p2 A c xs) rfl hk (λ_ _ h=>h) k (λ_ h=>.inl h) g (λj a=>by obtain⟨_,x,e,rfl⟩:=a;rw[<-m];exact f x e) (λj a i=>by
  obtain⟨_,x,e,rfl⟩:=a;have h1:=(az.link b.L s.aF).lt (nj h) i
  have:=f x e
  omega)
structure FG(s:bM)(t:ch)(F:J)(ba us:J->J->aa):al where
 cC:b8 s F ba us
 l1:s.cc=false
 aF:xI s.aF t
 b0:(cD s.aF t.data.toList).2.1=0
 aag:∀ x∈(cD s.aF t.data.toList).1.a_,x.toNat<=63
 ba:∀ i x,(cD s.aF t.data.toList).1.a_[i]?=some x->ba (1-s.x.aN) (bS s+i)=(x.toNat:aa)
 en:(cD s.aF t.data.toList).1.a_≠[]->(cD s.aF t.data.toList).1.en=(bS s:aa)
 w:bS s+(cD s.aF t.data.toList).1.a_.length<=F+64
 top:s.x.now<=90000
def ar(s:bM)(r:bL)(l:cd)(j:J):bM:={s with x:=e' s.x (r.a_.take j),aF:=l}
def Si(A:az.kinds eK∈R)(h:Sep w (bH b s d++R))(t:ch)(hk:FG s t F ba us):aA 65 #[b.p,.string t] w (vF b (dG t.data.toList s).1 (dG t.data.toList s).2 (jl t.data.toList s) R):=by
 have aar:dG t.data.toList s=fj (fB (cD s.aF t.data.toList).1 {s with x:=e' s.x (cD s.aF t.data.toList).1.a_,aF:=(cD s.aF t.data.toList).2.2}):=by unfold dG;rw[hk.l1,aB aM,hk.b0,aB aM]
 have aas:jl t.data.toList s=0:=by unfold jl;rw[hk.l1,aB aM,hk.b0]
 have aay:=SI s.aF t.data.toList;have aaI:=(bb w).alloc (af cj 35);have a':=(h.cons (r:=az.bd w.heap.size (cj,35)) aaI (λ_ _ _ _=>id) (aX w (af cj 35)) (λj k=>gD (jM k))).iY;have fq:=p' a';rw[hk.l1]at fq;have b6:=pf a';have hH:=ag (I0 (nj a') t hk.aF.aw hk.aF.av hk.aF.bh hk.aF.aZ hk.aF.ak hk.aF.aK);rw[hk.b0]at hH;obtain⟨cC,aaZ,_,aaX,D,Aw,Q,hw,aa0⟩:=hk;obtain⟨aa3,_⟩:=b8.yD _ cC hw Aw D;have aaU:=cC.jf;have aaW:=cC.my;have aaD:∀ j,b8 (ar s (cD s.aF t.data.toList).1 (cD s.aF t.data.toList).2.2 j) F ba us:=λj=>(b8.yD ((cD s.aF t.data.toList).1.a_.take j) cC (by rw[gB];omega) (λi x V=>Aw i x (by rw[u']at V;split at V;exact V;cases V)) (λx V=>D x (Ad V))).1.same rfl rfl rfl;have aaz:=cC.hN.first (show 1-s.x.aN<2 by have:=cC.aN;omega);have aaA:(jl t.data.toList s,dG t.data.toList s)=(0,fj (fB (cD s.aF t.data.toList).1 (ar s (cD s.aF t.data.toList).1 (cD s.aF t.data.toList).2.2 (cD s.aF t.data.toList).1.a_.length))):=by
  rw[aar,aas];unfold ar;rw[nU]
 have P:=bW aaD (bD D (bD Q (bD (show bS s+(cD s.aF t.data.toList).1.a_.length<=1000000 by omega) (bD (show(s.x.f (1-s.x.aN)).first<=bS s/\bS s+(cD s.aF t.data.toList).1.a_.length<=(s.x.f (1-s.x.aN)).first+64 by rw[aaz];omega) aay))));have zd:=ag aaA;have V':=ag a';have aaP:=ag A;clear h A a' aaI aar aas aay cC aaZ aaX D Aw Q hw aa0 aa3 aaU aaW aaD aaz aaA;generalize dG t.data.toList s=au at *;generalize jl t.data.toList s=he at *;generalize cD s.aF t.data.toList=r at *;have⟨r,b0,H⟩:=r;simp only at *
 go_in
 go_wp2_with fail;generalize aaG:w.alloc (af cj 35)=bn at *;have aa2:bn.heap.size=w.heap.size+1:=by rw[<-aaG];simp
 refine hH.o.mono ?_;rintro e ao ⟨⟨a,c,rfl,ak,aaC⟩,aaB,aaJ⟩;have h1:=(RY V'.out rfl aaB aaJ ak aaC).iY;have aaL:=(bb ao).alloc (af (aV r a c) 199);have h2:=(h1.cons (r:=az.bd ao.heap.size (aV r a c,199)) aaL (λ_ _ _ _=>id) (aX ao (af (aV r a c) 199)) (λj k=>gD (jM k))).iY;have aaM:=(bb (ao.alloc (af (aV r a c) 199))).alloc (af cj 35);have Y:(ao.alloc (af (aV r a c) 199)).heap.size=ao.heap.size+1:=aM;obtain⟨L,B⟩:=cT (ao.heap.size+1);have aat:=(h2.cons (r:=az.out L (aq none 0 0) (aq none 0 0) false []) aaM (λ_ _ _ _=>id) ⟨EU,gx _ 0 _ _⟩ (λj k=>EP)).iY;have v':=ag aat;have aaQ:=ag B;clear B h1 h2 aat aaL aaM Y aa2 aaG ak aaC aaB aaJ V' hH;unfold aV at *;go_upto_region 9 with fail
 rw[<-aaQ.o];generalize World.alloc (World.alloc ao _) _=aD at *;have d2:=aO (v'.o.at' 10 rfl);generalize ao.heap.size=q at *;go_wp2_with fail;go_loopg [9,10,38] r.a_.length (λg _ _ i wr=>∃ j:J,g=r.a_.length-j/\j<=r.a_.length/\i=I j/\Sep wr (bH b (ar s r H j) d++az.out L (aq none 0 0) (aq none 0 0) false [] :: az.bd q (aV r a c,199) :: az.p2 a c r.a_ :: az.bd w.heap.size (cj,35) :: R))
 case atStart=>exact⟨0,rfl,de _,rfl,v'.o⟩
 obtain⟨j,aZ,k,rfl,u⟩:=hrel;clear v' d2;by_cases T:j<r.a_.length
 .have hne:r.a_≠[]:=λe=>by rw[e]at T;simp at T
  have aax:c' wr a c r.a_:=u.at' 11 rfl;obtain⟨bX,cR,rfl,an⟩:=aax.at' hne;have aaO:=an j T;unfold er at aaO;obtain⟨Q',sd⟩:=cT r.a_[j];rw[<-sd]at aaO;obtain⟨gf,X,aaN⟩:=B3 (r.a_.take j) s.x;rw[gB,oY (Nat.le_of_lt T)]at X;have aaF:(s.x.f (1-s.x.aN)).next=bS s:=rfl;rw[aaF]at X;have Q:=P.out.2.2.1 hne;have aa7:=P.out.2.2.2.1;have aa1:=P.out.2.2.2.2.1;have D:=P.out.2.1 _ (mY T);rw[<-sd]at D;have aa9:IntKind.i64.wrap (r.en+(j:aa))=r.en+(j:aa):=eG _ (by rw[Q];omega);have aaE:e' s.x (r.a_.take (j+1))=gL (e' s.x (r.a_.take j)) (1-s.x.aN) (Q'.toNat:aa):=by rw[kY T,SG,sd]
  have⟨ps,zp⟩:=cT (bH b (ar s r H j) d++az.out L (aq none 0 0) (aq none 0 0) false [] :: az.bd q (aV r (some (ae bX cR ad)) c,199) :: az.p2 (some (ae bX cR ad)) c r.a_ :: az.bd w.heap.size (cj,35) :: R);have fr:∀ W,Sep W ps->Sep W (bH b (ar s r H j) d++az.out L (aq none 0 0) (aq none 0 0) false [] :: az.bd q (aV r (some (ae bX cR ad)) c,199) :: az.p2 (some (ae bX cR ad)) c r.a_ :: az.bd w.heap.size (cj,35) :: R):=λW h=>zp▸h;have W':Hid (∀ W,Sep W ps->aA 103 #[b.c.c,I (r.en+(j:aa)),aH (Q'.toNat:aa)] W λe w'=>e=.returned (I 0)/\IsCore w' b.c (e' s.x (r.a_.take (j+1)))/\Keeps b.c.S W w'):=ag (λW aaV=>by
   have aau:=P_ (x:=e' s.x (r.a_.take j)) (hq (fr _ aaV)) (Q'.toNat:aa) U (r.en+(j:aa)) (by rw[gf,X,Q];omega) (by rw[gf,X];omega) (by rw[gf,X,aaN];omega);rw[gf,<-aaE]at aau;exact aau)
  have aav:Sep wr.drew ps:=by rw[zp];exact u.drew 1
  obtain⟨G,y⟩:=h0 (F:=λW=>Sep W ps);have aa4:∀ x:bs G,x.to.cell? (ae b.p 0 ad)=some (.pointer (some (ae b.c.c 0 ad))):=λx=>lW (fr _ ((y _).1 x.held));have aa5:=λx:bs G=>aO ((fr _ ((y _).1 x.held)).at' 10 rfl);have r':=(y _).2 aav;have aaq:=ag fr;have z:=ag (λW (h:G W)=>(y W).1 h);clear u aax an zp fr aav y gf X aaN aaF Q aa1 D aaE hne sd;go_wp2_with fail;refine cJ 11 ?_;refine cK (G) (.range 10) 1 10 ?_;refine dK (r') (.range 10) 0 ?_;refine lZ ?_;refine cK (n3) [10] 0 1 ?_;refine kM 10 λK A=>?_;go_simp;refine aW (W'.o _ (z.o _ r')) ?_;rintro CW ⟨aaH,aaK⟩;refine A _ _ (lM _) ?_;clear A K;have aaT:Sep CW (bH b (ar s r H (j+1)) d++az.out L (aq none 0 0) (aq none 0 0) false [] :: az.bd q (aV r (some (ae bX cR ad)) c,199) :: az.p2 (some (ae bX cR ad)) c r.a_ :: az.bd w.heap.size (cj,35) :: R):=yq (aaq.out _ (z.out _ r')) aaH aaK;have aa8:r.a_.length<=1000000:=U;clear r' aaH aaK W' aa4 aa5 z aaq;go_wp2_with fail;go_roundg (r.a_.length-(j+1))
  case rel=>exact⟨j+1,rfl,U,by go_num,aaT⟩
  omega
 obtain rfl:j=r.a_.length:=U;have E:=P.out.1 r.a_.length;obtain⟨ab,m⟩:=cT (fB r (ar s r H r.a_.length));rw[<-m]at zd;have g':=bW (c5 Prod.snd zd.out) (c5 Prod.fst zd.out);simp only at g';have A:=ag (kx (az.bd q (aV r a c,199)) (kx (az.p2 a c r.a_) (kx (az.bd w.heap.size (cj,35)) aaP.out)));have Z:=bW (show b8 ab.1 F ba us by rw[m];exact E.fB r) (show ab.2.length<=90000 by rw[m];exact ca (SF (E.zv (p:=(_,[]))) r) bt);have d0:=aO (u.at' 10 rfl);unfold fB at m;by_cases cP:r.kind=4
 .rw[aE cP]at m;have aaR:(r.kind == 4)=true:=by rw[cP];rfl
  have aaY:=P.out.2.2.2.2.2;have ys:=ag (Ic (q:=(ar s r H r.a_.length,[])) A.o ⟨d,_,u⟩ E.pt E.po aM r.frame r.sum U);rw[<-m]at ys;clear u m E aaY;go_wp2_with fail;refine aW ys.o λCW aaw=>?_;have z:=ag aaw;clear aaw ys;have y:=ag (BV A.o z.o Z.o.1.pt Z.o.1.po Z.o.2);clear z;go_wp2_with fail;refine aW y.o ?_;rintro m' ⟨TS,aa6,l⟩;obtain⟨M,N,l',_,_⟩:=cS (kG l).2;rw[l']at l;obtain⟨O,lb⟩:=cT (fj ab).2.length;rw[<-lb]at l;clear l' lb y;have hd:=(kG l).1;have C:m'.heap[w.heap.size]?=some (af cj 35 (0,0)):=l.at' 12 rfl;have d0:=aO hd;have g0:=bP C;have z0:=aO C;have Tq:=ag (jV C (aq M O N) (aq none 0 0) (.bool false));have St:=ag ((BJ l.qx (j5 m' w.heap.size (aq M O N) (aq none 0 0) (.bool false))).qx);clear l hd C;go_wp2_with fail;have T':=dF _ _ _ _ Tq.o 3 rfl;refine dx (v:=aY #[aL #[aq M O N,(aq none 0 0),false],I 0]) T' ?_;rw[g'.out.1,g'.out.2];exact⟨_,rfl,TS,St.o⟩
 have aaR:(r.kind == 4)=false:=by simpa using cP
 rw[aB cP]at m;by_cases vl:r.kind=6
 .have aaS:(r.kind == 6)=true:=by rw[vl];rfl
  rw[aE vl]at m;have fI:=HO u;have g8:=yp u 8;have z:=ag (show fy (wr.setCell (ae b.p 8 ad) (I r.lead)) b ab L (aq none 0 0) false (az.bd q (aV r a c,199) :: az.p2 a c r.a_ :: az.bd w.heap.size (cj,35) :: R)by rw[m];exact⟨_,_,yo (s':={ar s r H r.a_.length with cz:=r.lead}) (n:=d.mL) u 8 (I r.lead) rfl rfl rfl rfl rfl rfl⟩);clear u m E;go_wp2_with fail;generalize wr.setCell (ae b.p 8 ad) (I r.lead)=CW at *;exact OE
 have aaS:(r.kind == 6)=false:=by simpa using vl
 rw[aB vl]at m;have z:=ag (show fy wr b ab L (aq none 0 0) false (az.bd q (aV r a c,199) :: az.p2 a c r.a_ :: az.bd w.heap.size (cj,35) :: R)by rw[m];exact⟨_,_,u⟩);clear u m E;go_wp2_with fail;exact OE
end
section
open Go.Maps
variable{eK:Old}{w w':aj}{b:gk}{s:bM}{R:ah az}{d:gG}{o:J}{sd:ay}{m:a1}{F:J}{ba us:J->J->aa}
def FM(b:gk)(s':bM)(cs:ah bI)(R:ah az)(e:Ending)(w':aj):al:=
 ∃ a,e=.returned (aL #[a,(aq none 0 0),false])/\∃ d,Sep w' (bH b s' d++az.cF a cs :: R)
def RV{p:cq}{v:ay}{eV:J}{z:a7 ay×TypeId}(h:Sep w (bH b p.1 d++az.out o v sd m p.2 :: az.bd eV z :: R))(hk:Keeps (λj=>j=eV) w w'):Sep w' (bH b p.1 d++az.cF v p.2 :: R):=by
 have h1:=Sep.drop1 (A:=bH b p.1 d++[az.out o v sd m p.2]) h hk;exact Mq
def Sj(D:az.kinds eK∈R)(h:Sep w (bH b s d++R))(au:b8 s F ba us):aA 38 #[b.p] w (FM b (f' s).1 (f' s).2 R):=by
 have z:=(h.cons (r:=az.bd w.heap.size (cj,35)) ((bb w).alloc (af cj 35)) (λ_ _ _ _=>id) (aX w (af cj 35)) (λj k=>gD (jM k))).iY;have Y:(w.alloc (af cj 35)).heap.size=w.heap.size+1:=aM;have⟨H,B⟩:=cT (w.heap.size+1);have h1:=(z.cons (r:=az.out H (aq none 0 0) (aq none 0 0) false []) ((bb (w.alloc (af cj 35))).alloc (af cj 35)) (λ_ _ _ _=>id) ⟨EU,gx _ 0 _ _⟩ (λj k=>EP)).iY;have e:=ag h1;have N:=ag (kx (az.bd w.heap.size (cj,35)) D);have v:=ag au;have O:=ag B;clear h z h1 Y D au B;have⟨x,c⟩:=cT (f' s);have T:=ag c.symm;unfold f' at c
 go_in
 go_upto_region 2 with fail
 rw[<-O.o];generalize World.alloc (World.alloc w _) _=y at *;have fq:=p' e.o;cases aS:s.cc with
 | true=>
  rw[aS]at fq;rw[aE aS]at c;obtain⟨f,m,a⟩:∃ f m,Sep y (bH b x.1 f++az.out H m (aq none 0 0) false x.2 :: az.bd w.heap.size (cj,35) :: R):=⟨d,_,by rw[c];exact e.out⟩;exact MP
 | false=>
  rw[aS]at fq;rw[aB (show ¬ s.cc=true by rw[aS];simp)]at c;have b6:=pf e.out;have C:=ag (TQ (nj e.out));clear aS;go_wp2_with fail;refine aW C.o ?_;rintro bq ⟨E,G⟩;have A:=yr e.out E G;have l:=b8.same (s':={s with aF:=nd s.aF}) v.out rfl rfl rfl;have i:=ag (BW N.out ⟨d,_,A⟩ (q:=({s with aF:=nd s.aF},[])) l.pt l.po aM 12);rw[<-c]at i;clear A E G e C v l c;go_wp2_with fail;refine aW i.o ?_;rintro P ⟨f,m,a⟩;clear i;generalize P=y at *;exact MP
def wh(h:Sep w (bH b s d++R)):aA 21 #[b.p] w λe w'=>e=.returned b.c.c/\w=w':=by
 have c:=lW h
 go_in
 go_wp2_with fail;go_ret;exact⟨rfl,rfl⟩
def Ia(h:Sep w (bH b s d++R)):aA 16 #[b.p] w λe w'=>e=.returned b.lb/\w=w':=by
 have c:=tV h
 go_in
 go_wp2_with fail;go_ret;exact⟨rfl,rfl⟩
def Se(h:Sep w (bH b s d++R)):aA 27 #[b.p] w λe w'=>e=aY #[.bool s.cc,I s.reason]/\∃ q,w'=w.drewN q:=by
 have fq:=p' h;have q0:=HM h
 go_in
 go_wp2_with fail;go_quiet (fail);go_wp2;go_ret2;exact⟨rfl,_,rfl⟩
end
variable{w w':aj}
def qh(d n:aa):a1:=decide (0<=d/\d<=8/\1<=n/\n<=16)
def GP(aJ d n aN:aa)(b:aN=0\/aN=1)(w:aj):aA 189 #[aL #[aR aJ,I d,I n,I aN]] w λe w'=>e=.returned (.bool (qh d n))/\Below w w w':=by
 rcases b with rfl|rfl
 .have a:=(b7 w.heap.size w).alloc bx (af #[aR aJ,I d,I n,I 0] 24);unfold qh
  go_in
  go_wp2_with fail
  all_goals (go_ret;exact⟨lu b1,a⟩)
 have a:=(b7 w.heap.size w).alloc bx (af #[aR aJ,I d,I n,I 1] 24);unfold qh
 go_in
 go_wp2_with fail
 all_goals (go_ret;exact⟨lu b1,a⟩)
def Ts(most:aa)(hm:¬ (1<=most/\most<=256))(w:aj):aA 130 #[I most] w λe w'=>e=aY #[.pointer none,I 1]/\w=w':=by
 by_cases h1:most<1
 .go_in
  go_wp2;go_ret2;exact⟨rfl,rfl⟩
 have h2:256<most:=U
 go_in
 go_wp2;go_ret2;exact⟨rfl,rfl⟩
def TT(bQ eI first:aa)(au:¬ (1<=eI/\eI<=10000)\/¬ (0<=first/\first<=1073741824))(w:aj):aA 129 #[aR bQ,I eI,I first] w λe w'=>e=aY #[.pointer none,I 1]/\w=w':=by
 by_cases h1:eI<1
 .clear au
  go_in
  go_wp2;go_ret2;exact⟨rfl,rfl⟩
 by_cases h2:10000<eI
 .clear au
  go_in
  go_wp2;go_ret2;exact⟨rfl,rfl⟩
 have b:¬ (0<=first/\first<=1073741824):=U;have a:=Cb first w
 rw[di b]at a
 go_in
 go_wp2_with fail;refine bE a ?_;go_wp2;go_ret2;exact⟨rfl,rfl⟩
def Qa(aJ d n aN:aa)(b:aN=0\/aN=1)(hm:qh d n=false)(w:aj):aA 128 #[aL #[aR aJ,I d,I n,I aN]] w λe w'=>e=aY #[.pointer none,I 1]/\Below w w w':=by
 have a:=(b7 w.heap.size w).alloc bx (af #[aR aJ,I d,I n,I aN] 24);have cI:=ag (GP aJ d n aN b);rw[hm]at cI
 go_in
 go_wp2_with fail;refine aW (cI.o _) λao ak=>?_;go_wp2;go_ret2;exact⟨rfl,(a.trans (ak.mono (by have:=a.size;omega)))⟩
def iF(j:J):Fd:=⟨0,j,0,ga 0 j,[]⟩
def k_(aJ:aa)(d n aN j i:J):ct:=⟨aJ,d,n,aN,λk=>if k<i then iF (j+1)else iF j,0,[],0⟩
def Pr(aJ:aa)(d n aN j:J):∀ k,k<2->((k_ aJ d n aN j 2).f k)=((k_ aJ d n aN (j+1) 0).f k):=by
 intro k hk;simp[k_,hk]
def Gh(aJ:aa)(d n aN j i:J):{k_ aJ d n aN j i with f:=eW (k_ aJ d n aN j i).f i (iF (j+1))}=k_ aJ d n aN j (i+1):=by
 simp only[k_,ct.mk.injEq,and_true,true_and]
 funext k
 unfold eW;by_cases e:k=i
 .rw[aE e,aE U]
 rw[aB e];by_cases a:k<i
 .simp only[aE a];rw[aE U]
 simp only[aB a];rw[aB U]
theorem IsCore.IX{b:gj}{x y:ct}(h:IsCore w b x)(h1:y.aJ=x.aJ)(h2:y.eO=x.eO)(a:y.dE=x.dE)(c:y.aN=x.aN)(d:∀ k,k<2->y.f k=x.f k)(g:y.e4=x.e4)(i:y.L=x.L)(e:y.now=x.now):IsCore w b y:=
 ⟨by rw[h1,h2,a,c,e];exact h.head,λk hk=>by rw[d k hk];exact h.fd k hk,by rw[g,i];exact h.st,h.ok,by rw[c];exact h.aN,by rw[e];exact h.gS,λk hk=>by rw[d k hk];exact h.dO k hk,by rw[a];exact h.wn⟩
theorem Xn{w:aj}{r B:J}(h:SWinAt w r B 81 0 (replicate 81 (ck,false))):kj w r B 81 0 []:=
 ⟨_,h,aM,U,.nil,(λp au=>by cases au),(λf x h=>n1),λf h1 h2 a _=>⟨ck,by rw[Eh,aE (e8 _ U)]⟩⟩
def Ql{c a b r B:J}(h1:a+4<b)(h2:b+4<c)(d:B<r)(e:r<a):gj.ok ⟨c,λk=>if k=0 then a else b,r,B⟩:=by
 constructor<;>simp<;>omega
structure tm(w:aj)(b:gj)(x:ct)(aJ:aa)(d n aN:J)(W:aj):al where
 co:IsCore W b x
 od:W.heap[w.heap.size]?=some (af #[aR aJ,I d,I n,I aN] 24 (0,0))
 cZ:Below w w W
theorem tm.oN{b:gj}{x y:ct}{aJ:aa}{d n aN:J}{T:J->al}{W W':aj}(h:tm w b x aJ d n aN W)(ak:∀ j,b.S j->w.heap.size<j)(an:IsCore W' b y)(hk:Keeps T W W')(a:∀ j,T j->b.S j):tm w b y aJ d n aN W':=
 ⟨an,hk.heap h.od (λe=>by have:=ak _ (a _ e);omega),h.cZ.trans (hk.below (h.cZ.size) (λk c e=>by have:=ak _ (a _ e);omega))⟩
def GN(aJ:aa)(d n aN:J)(hd:d<=8)(av:1<=n/\n<=16)(T':aN<2)(w:aj):aA 128 #[aL #[aR aJ,I d,I n,I aN]] w λe w'=>
  ∃ b:gj,e=aY #[b.c,I 0]/\IsCore w' b ⟨aJ,d,n,aN,λ_=>iF d,0,[(0,lz aJ 0)],0⟩/\(∀ j,b.S j->w.heap.size<=j)/\Below w w w':=by
 have aaB:(w.alloc (af #[aR aJ,I d,I n,I aN] 24)).heap.size=w.heap.size+1:=aM;have hm:=GP aJ d n aN U;rw[show qh d n=true from ei U]at hm
 go_in
 go_wp2_with fail;refine aW (hm _) λao ab=>?_;have aaC:=ab.size;have aas:=((b7 w.heap.size w).alloc bx (af #[aR aJ,I d,I n,I aN] 24)).trans (ab.mono U);have CW:=(Keeps.bJ (S:=aG) ab a8).heap (aX w (af #[aR aJ,I d,I n,I aN] 24)) id;generalize w.alloc (af #[aR aJ,I d,I n,I aN] 24)=bn at *;have O:=ag (show w.heap.size+1<=ao.heap.size by omega);go_wp2_with fail;refine aW (Xj 81 U U ao) ?_;rintro aD ⟨St,vl,W'⟩;have aat:=aas.trans (vl.mono (by have:=O.out;omega));have N:=ag ((Keeps.bJ (S:=aG) vl a8).heap CW id);have P:=ag aat;have h2:=ag (Xn St);generalize ao.heap.size=B at *;have T:aD.drew.heap[w.heap.size]?=some (af #[aR aJ,I d,I n,I aN] 24 (0,0)):=N.o;have aau:=λx:bs (λW=>W.heap[w.heap.size]?=some (af #[aR aJ,I d,I n,I aN] 24 (0,0)))=>aO x.held;go_upto_region 6 with fail
 refine cJ 8 ?_;refine cK (λW=>W.heap[w.heap.size]?=some (af #[aR aJ,I d,I n,I aN] 24 (0,0))) (.range 6) 2 6 ?_;refine dK (T) [0,4] 4 ?_;have bA:Keeps aG aD aD.drew:=(Keeps.refl _ aD).drew;have Aw:aD.drew.heap.size=B+2:=W';generalize aD.drew=bq at *;refine eH 1 λK Y=>?_;go_simp;refine aW (Ht bq) ?_;rintro f ⟨H,a'⟩;have cP:Keeps aG bq f:=Keeps.bJ a' a8;have V:=cP.heap T id;refine Y _ _ (V) ?_;refine eH 2 λK Y=>?_;go_simp;refine aW (Ht f) ?_;rintro m ⟨R,fr⟩;have u:Keeps aG f m:=Keeps.bJ fr a8;have X:=u.heap V id;refine Y _ _ (X) ?_;refine dK (X) [3,5] 0 ?_;refine lZ ?_;refine cK (λ_=>True) [6,7] 0 2 ?_;refine hs 6 trivial ?_;refine h9 7 trivial ?_;have v:=(bb m).alloc (af #[aR aJ,I d,I n,I aN,.pointer (some (ae (B+2+4) 0 ad)),.pointer (some (ae (f+4) 0 ad)),.pointer (some (ae (B+1) 0 ad)),I 0] 129);have m':=aX m (af #[aR aJ,I d,I n,I aN,.pointer (some (ae (B+2+4) 0 ad)),.pointer (some (ae (f+4) 0 ad)),.pointer (some (ae (B+1) 0 ad)),I 0] 129);have aar:=a'.size;have aaq:=fr.size;have Tq:=H.lt;have TS:=R.lt;rw[Aw]at H;have ps:pU (m.alloc (af #[aR aJ,I d,I n,I aN,.pointer (some (ae (B+2+4) 0 ad)),.pointer (some (ae (f+4) 0 ad)),.pointer (some (ae (B+1) 0 ad)),I 0] 129)) (B+2) (iF 0):=IsFeed.keep (IsFeed.keep H u) v;have r':pU (m.alloc (af #[aR aJ,I d,I n,I aN,.pointer (some (ae (B+2+4) 0 ad)),.pointer (some (ae (f+4) 0 ad)),.pointer (some (ae (B+1) 0 ad)),I 0] 129)) f.heap.size (iF 0):=IsFeed.keep R v;have sd:=h2.out.keeps (bA.trans (cP.trans (u.trans v))) id id;have zp:=(bA.trans (cP.trans (u.trans v))).heap N.out id;have L:=P.out.trans ((bA.trans (cP.trans (u.trans v))).below P.out.size (λ_ _ e=>e));obtain⟨b,ak⟩:∃ b:gj,b=⟨m,λk=>if k=0 then B+2 else f.heap.size,B+1,B⟩:=⟨_,rfl⟩;have Q:tm w b (k_ aJ d n aN 0 0) aJ d n aN (m.alloc (af #[aR aJ,I d,I n,I aN,.pointer (some (ae (B+2+4) 0 ad)),.pointer (some (ae (f+4) 0 ad)),.pointer (some (ae (B+1) 0 ad)),I 0] 129)):=by
  subst ak;refine⟨⟨m',λk hk=>?_,sd,Ql U U U U,T',de _,λk _=>?_,?_⟩,zp,L⟩
  .have:k=0\/k=1:=U
   rcases this with rfl|rfl
   .exact ps
   exact r'
  .simp[k_,iF]
  have:=av
  simp only[k_];omega
 have ys:∀ j,b.S j->w.heap.size<j:=by
  subst ak;intro j A
  have:=O.out
  unfold gj.S at A;simp only[aE,aB (show ¬ (1=0)by omega)]at A;omega
 have zd:m.heap.size=b.c:=by rw[ak]
 have gf:B+1=b.r:=by rw[ak]
 rw[zd,gf];rw[gf]at Q;have M:=ag Q;have t:=ag ys;clear Q ys zd gf ak L zp sd ps r' Tq TS aar aaq m' v X u fr R V cP a' H T Aw bA aau h2 P N O;generalize World.alloc m _=aay at *;have d1:=aO M.o.od;go_wp2_with fail;clear d1;go_loopg [7,9,29,35,36] d (λg _ _ i _ _ wr=>∃ j:J,g=d-j/\j<=d/\i=I j/\tm w b (k_ aJ d n aN j 0) aJ d n aN wr)
 case atStart=>exact⟨0,rfl,de _,rfl,M.o⟩
 obtain⟨j,aZ,A,rfl,aV⟩:=hrel;have h:=ag aV;have aax:=hd;clear M aV;by_cases aaz:j<d
 .have z4:wr.cell? (ae b.c 4 ad)=some (.pointer (some (ae (b.D 0+4) 0 ad))):=h.o.co.lP (k:=0) U;have z5:wr.cell? (ae b.c 5 ad)=some (.pointer (some (ae (b.D 1+4) 0 ad))):=h.o.co.lP (k:=1) U;have aaD:=ye;have aaE:=yf;have L:=bT h.o.co.head;go_wp2_with fail;clear z4 z5 L;go_loopg [9,36] 2 (λg _ i aav=>∃ q:J,g=2-q/\q<=2/\i=I q/\tm w b (k_ aJ d n aN j q) aJ d n aN aav)
  case atStart=>exact⟨0,rfl,U,rfl,h.o⟩
  obtain⟨q,aZ,aaA,rfl,l⟩:=hrel;clear h;have V':q=0\/q=1\/q=2:=U;rcases V' with rfl|rfl|rfl
  .have s:=l.co.fd 0 U;change IsFeed _ (b.D 0) 0 j 0 (ga 0 j) []at s;have z:=ag (yd s 0 U (j:aa) rfl U U);have p:=ag l;clear l s;go_wp2_with fail;refine aW z.o ?_;rintro E ⟨F,a⟩;have C:pU E (b.D 0) (iF (j+1)):=by
    exact OG
   have hfin:=p.out.co.feed (k:=0) U C a (by show j+1<=1000000;omega);rw[Gh]at hfin;have Z:=p.out.oN t.out hfin a (λ_ e=>q' U e);clear F a C hfin p z;go_wp2_with fail;go_roundg 1
   case rel=>exact⟨1,rfl,U,by go_num,Z⟩
   omega
  .have s:=l.co.fd 1 U;change IsFeed _ (b.D 1) 0 j 0 (ga 0 j) []at s;have z:=ag (yd s 0 U (j:aa) rfl U U);have p:=ag l;clear l s;go_wp2_with fail;refine aW z.o ?_;rintro E ⟨F,a⟩;have C:pU E (b.D 1) (iF (j+1)):=by
    exact OG
   have hfin:=p.out.co.feed (k:=1) U C a (by show j+1<=1000000;omega);rw[Gh]at hfin;have Z:=p.out.oN t.out hfin a (λ_ e=>q' U e);clear F a C hfin p z;go_wp2_with fail;go_roundg 0
   case rel=>exact⟨2,rfl,U,by go_num,Z⟩
   omega
  have Q':=l.oN t.out (l.co.IX (y:=k_ aJ d n aN (j+1) 0) rfl rfl rfl rfl (λk hk=>(Pr aJ d n aN j k hk).symm) rfl rfl rfl) (bb _) (λ_ e=>e.elim);clear l;go_wp2_with fail;go_roundg (d-(j+1))
  case rel=>exact⟨j+1,rfl,U,by go_num,Q'⟩
  omega
 obtain rfl:j=d:=U;have fF:=aO h.out.od;go_wp2_with fail;refine aW (Sb aJ wr) λE v'=>?_;have a:Keeps aG wr E:=Keeps.bJ v' a8;have lb:=h.out.oN t.out (h.out.co.keep a) a (λ_ e=>e.elim);have G:=ag lb;clear lb a v' h fF;go_wp2_with fail;refine aW ((Kp G.o.co.st 0 (0:aa) rfl (by unfold fk;simp[k_]) (lz aJ 0))) ?_;rintro aaF ⟨s',g'⟩;have hfin:=G.out.co.uU s' (g'.mono λ_ _ e=>.inr e);have l':=G.out.oN t.out hfin g' (λj e=>.inr (.inr (.inr (.inr e))));clear s' g' hfin G;go_wp2_with fail;go_ret2;exact⟨b,rfl,l'.co.IX rfl rfl rfl rfl (λk _=>by simp[k_]) rfl rfl rfl,λj A=>Nat.le_of_lt (t.out j A),l'.cZ⟩
def P'(aJ d n:aa)(aN:J)(c:aN<2)(w:aj):aA 128 #[aL #[aR aJ,I d,I n,I aN]] w λe w'=>∃ p b0,e=aY #[.pointer p,I b0]/\(b0=0->qh d n=true)/\Below w w w':=by
 cases hm:qh d n with
 | false=>exact(Qa aJ d n aN iO hm w).mono λe w' h=>⟨none,1,h.1,λe=>iO,h.2⟩
 | true=>
  have a:0<=d/\d<=8/\1<=n/\n<=16:=rZ hm;obtain⟨d,rfl⟩:=mj a.1;obtain⟨n,rfl⟩:=mj (show 0<=n by omega);exact(GN aJ d n aN U U c w).mono λe w' ⟨b,h1,_,_,h2⟩=>⟨_,0,h1,λ_=>rfl,h2⟩
def TR(bQ eI first:aa)(w:aj):aA 129 #[aR bQ,I eI,I first] w λe w'=>∃ p b0,e=aY #[.pointer p,I b0]/\(b0=0->1<=eI/\eI<=10000)/\Below w w w':=by
 by_cases au:(1<=eI/\eI<=10000)/\(0<=first/\first<=1073741824)
 .exact(I1 bQ eI first au.1 au.2 w).mono λe w' h=>⟨_,0,h.1,λ_=>au.1,h.2.2⟩
 exact(TT bQ eI first U w).mono λe w' h=>⟨none,1,h.1,λe=>U,h.2▸b7 _ w⟩
def Tr(most:aa)(w:aj):aA 130 #[I most] w λe w'=>∃ p b0,e=aY #[.pointer p,I b0]/\(b0=0->1<=most/\most<=256)/\Below w w w':=by
 by_cases au:1<=most/\most<=256
 .exact(IV most au).mono λe w' h=>⟨_,0,h.1,λ_=>au,h.2.2.1.below bx (λ_ _ e=>e)⟩
 exact(Ts most au w).mono λe w' h=>⟨none,1,h.1,λe=>U,h.2▸b7 _ w⟩
def Uy(most:aa)(w:aj):aA 131 #[I most] w λe w'=>∃ p b0,e=aY #[.pointer p,I b0]/\(b0=0->1<=most/\most<=16)/\Below w w w':=by
 by_cases au:1<=most/\most<=16
 .exact(Jk most au w).mono λe w' h=>⟨_,0,h.1,λ_=>au,by rw[h.2];exact(b7 _ w).alloc bx _⟩
 exact(Uz most au w).mono λe w' h=>⟨none,1,h.1,λe=>U,by rw[h.2];exact b7 _ w⟩
def we(d n pat bU cb:aa):al:=qh d n=true/\(1<=pat/\pat<=10000)/\(1<=bU/\bU<=256)/\(1<=cb/\cb<=16)
abbrev tu:=World->b_ Addr->aa->aj->al
def FI(m o n p:tu)(w:aj)(e:Ending)(w':aj):al:=
 ∃ (a:aj) (k:b_ Addr) (g:aa) (b:aj) (pl:b_ Addr) (i:aa) (c:aj) (bl:b_ Addr) (h:aa) (d:aj) (l:b_ Addr) (em:aa) (f:aj),
  (w.heap.size+2<=a.heap.size/\Below w w a)/\(m a k g b/\Below a a b)/\(o b pl i c/\Below b b c)/\(n c bl h d/\Below c c d)/\(p d l em f/\Below d d f)/\
  e=aY #[aL #[.pointer k,.pointer pl,.pointer bl,.pointer l,f.heap.size,.pointer (some (ae (f+1) 0 ad))],(decide (g=0/\i=0/\h=0/\em=0))]/\
  Keeps (λj=>j=w+1) ((f.alloc (af #[aq none 0 0] 291)).alloc (af eT 278)) w'
def PD{w:aj}{b:J}{t:TypeId}{bz b6 bw eC dY fV:ay}(h:w.heap[b]?=some (af #[bz,b6,bw,eC,dY,fV] t (0,0)))(a c v2 d e f:ay):((((((w.setCell (ae b 0 ad) a).setCell (ae b 1 ad) c).setCell (ae b 2 ad) v2).setCell (ae b 3 ad) d).setCell (ae b 4 ad) e).setCell (ae b 5 ad) f).heap[b]?=some (af #[a,c,v2,d,e,f] t (0,0)):=by
 rw[b3 (b3 (b3 (b3 (b3 (b3 h 0 a) 1 c) 2 v2) 3 d) 4 e) 5 f];rfl
def JC(aJ d n bQ pat bU cb:aa)(aN:J)(A C B D:tu)(aV:∀ W,aA 128 #[aL #[aR aJ,I d,I n,I aN]] W λe w'=>∃ p b0,e=aY #[.pointer p,I b0]/\A W p b0 w'/\Below W W w')(L:∀ W,aA 129 #[aR bQ,I pat,I d] W λe w'=>∃ p b0,e=aY #[.pointer p,I b0]/\C W p b0 w'/\Below W W w')(K:∀ W,aA 130 #[I bU] W λe w'=>∃ p b0,e=aY #[.pointer p,I b0]/\B W p b0 w'/\Below W W w')(M:∀ W,aA 131 #[I cb] W λe w'=>∃ p b0,e=aY #[.pointer p,I b0]/\D W p b0 w'/\Below W W w')(w:aj):aA 84 #[aL #[aR aJ,I d,I n,I aN,aR bQ,I pat,I bU,I cb]] w (FI A C B D w):=by
 have ar:=cw (aX w (af #[aR aJ,I d,I n,I aN,aR bQ,I pat,I bU,I cb] 26)) (af #[.pointer none,.pointer none,.pointer none,.pointer none,.pointer none,.pointer none] 109);have O:(w.alloc (af #[aR aJ,I d,I n,I aN,aR bQ,I pat,I bU,I cb] 26)).heap.size=w.heap.size+1:=aM;have P:w.heap.size+2<=((w.alloc (af #[aR aJ,I d,I n,I aN,aR bQ,I pat,I bU,I cb] 26)).alloc (af #[.pointer none,.pointer none,.pointer none,.pointer none,.pointer none,.pointer none] 109)).heap.size:=aM;have g:=aX (w.alloc (af #[aR aJ,I d,I n,I aN,aR bQ,I pat,I bU,I cb] 26)) (af #[.pointer none,.pointer none,.pointer none,.pointer none,.pointer none,.pointer none] 109);rw[O]at g;have R:=((b7 w.heap.size w).alloc bx (af #[aR aJ,I d,I n,I aN,aR bQ,I pat,I bU,I cb] 26)).alloc aM (af #[.pointer none,.pointer none,.pointer none,.pointer none,.pointer none,.pointer none] 109);have X:=ag R;have gf:=ag P;have f:=ag ar;have c:=ag g;have x:=ag aV;have z:=ag L;have y:=ag K;have cI:=ag M;clear O P R aV L K M ar g
 go_in
 go_wp2_with fail;generalize World.alloc (World.alloc w _) _=q at *;refine(x.o q).mono ?_;rintro e h ⟨l,E,rfl,r⟩;have a:Keeps aG q h:=Keeps.bJ r.2 a8;have f:=ag (a.heap f.out id);have c:=ag (a.heap c.out id);have Z:=ag r;clear x r a;have fF:=aO f.o;go_wp2_with fail;refine(z.out h).mono ?_;rintro e i ⟨pl,G,rfl,s⟩;have a:Keeps aG h i:=Keeps.bJ s.2 a8;have f:=ag (a.heap f.out id);have c:=ag (a.heap c.out id);have ab:=ag s;clear z s a fF;have fF:=aO f.o;go_wp2_with fail;refine(y.out i).mono ?_;rintro e k ⟨bl,F,rfl,t⟩;have a:Keeps aG i k:=Keeps.bJ t.2 a8;have f:=ag (a.heap f.out id);have c:=ag (a.heap c.out id);have a':=ag t;clear y t a fF;have fF:=aO f.o;go_wp2_with fail;refine(cI.out k).mono ?_;rintro e b ⟨m,em,rfl,u⟩;have a:Keeps aG k b:=Keeps.bJ u.2 a8;have c:=ag (a.heap c.out id);have fr:=ag u;clear cI u a fF f;go_wp2_with fail
 all_goals
  refine(Ri b).mono ?_;rintro e _ ⟨rfl,rfl⟩;go_wp2_with fail;refine(QF _).mono ?_;rintro e _ ⟨rfl,rfl⟩;have a:=((bb b).alloc (af #[aq none 0 0] 291)).alloc (af eT 278);have g:=a.heap c.out id;have Q:(b.alloc (af #[aq none 0 0] 291)).heap.size=b.heap.size+1:=aM;have H:=PD g (.pointer l) (.pointer pl) (.pointer bl) (.pointer m) b.heap.size (b.heap.size+1:J);have g0:=bP g;have h2:=aO g;have S:=((((((Keeps.refl (λj=>j=w+1) ((b.alloc (af #[aq none 0 0] 291)).alloc (af eT 278))).setCell (p:=ae (w+1) 0 ad) rfl (.pointer l)).setCell (p:=ae (w+1) 1 ad) rfl (.pointer pl)).setCell (p:=ae (w+1) 2 ad) rfl (.pointer bl)).setCell (p:=ae (w+1) 3 ad) rfl (.pointer m)).setCell (p:=ae (w+1) 4 ad) rfl b.heap.size).setCell (p:=ae (w+1) 5 ad) rfl (b.heap.size+1:J);have T:=ag H;have Y:=ag S;clear H S a g c;rw[Q];clear Q;generalize N:(b.alloc (af #[aq none 0 0] 291)).alloc (af eT 278)=g' at *;have V:=ag N;clear N;go_wp2_with fail;have hd:=dF _ _ _ _ T.o 6 rfl;refine c1 (v:=aY #[aL #[.pointer l,.pointer pl,.pointer bl,.pointer m,b.heap.size,.pointer (some (ae (b+1) 0 ad))],(decide (E=0/\G=0/\F=0/\em=0))]) (by simp[results,results84,asAddr,loadVar,loadCells,isAgg109,sizeOf109, *]<;>rfl) rfl ?_;exact⟨q,l,E,h,pl,G,i,bl,F,k,m,em,b,⟨gf.out,X.out⟩,Z.out,ab.out,a'.out,fr.out,rfl,by rw[V.o];exact Y.o⟩
def Sep.pick{L:ah az}(h:Sep w L)(a:ah J)(b:a.Nodup)(ak:∀ i∈a,i<L.length):Sep w (a.map λi=>L.getD i az.none):=by
 have key:∀ i∈a,L[i]?=some (L.getD i az.none):=λi ax=>by
  have:=ak i ax
  rw[gA this];simp[getD,gA this]
 refine⟨λr d=>?_,vc.2 (Pairwise.imp_of_mem (λ{i j} ax c hne=>h.p1 (key i ax) (key j c) hne) b)⟩;obtain⟨i,ax,rfl⟩:=e9.1 d;exact h.at' i (key i ax)
structure fU(n:J)(w:aj)(L:ah az):al where
 sep:Sep w L
 bo:∀ r∈L,∀ j,r.S j->n<=j
theorem fU.nil(n:J)(w:aj):fU n w []:=⟨Sep.nil w,λ_ h=>n1⟩
theorem fU.cons{n:J}{L:ah az}(h:fU n w L){r:az}(hk:Keeps aG w w')(c:r.P w')(ar:∀ b,r.S b->w.heap.size<=b)(av:n<=w.heap.size):fU n w' (r :: L):=
 ⟨h.sep.cons hk (λ_ _ _ _ e=>e) c ar,λs aw j a=>by
  rcases ff.1 aw with rfl|aw
  .exact ca av (ar j a)
  .exact h.bo s aw j a⟩
theorem fU.keeps{n:J}{L:ah az}{T:J->al}(h:fU n w L)(hk:Keeps T w w')(a:∀ j,n<=j->¬ T j):fU n w' L:=
 ⟨h.sep.keeps hk λr c j b=>a j (h.bo r c j b),h.bo⟩
theorem fU.pick{n:J}{L:ah az}(h:fU n w L)(a:ah J)(c:a.Nodup)(ak:∀ i∈a,i<L.length):fU n w (a.map λi=>L.getD i az.none):=
 ⟨h.sep.pick a c ak,λr e j d=>by
  obtain⟨i,ax,rfl⟩:=e9.1 e;have b:=ak i ax;refine h.bo (L[i]) (mY b) j ?_;simpa[getD,gA b]using d⟩
def wB(x:ct)(l:cd)(bU:aa):bM:=⟨x,l,cO.new bU,[],[],0,false,0⟩
def pr(cb:aa):gG:=⟨[],cb,aq none 0 0,aq none 0 0,0⟩
def FN(x:ct):tu:=λW p b0 W'=>b0=0/\∃ b:gj,p=some (ae b.c 0 ad)/\IsCore W' b x/\∀ j,b.S j->W.heap.size<=j
def FP(l:cd):tu:=λW p b0 W'=>b0=0/\p=some (ae (W+4) 0 ad)/\IsLink W' ⟨W+4,W.heap.size+1,W.heap.size,W.heap.size+3,W.heap.size+2⟩ l
def FO(most:aa):tu:=λW p b0 W'=>b0=0/\p=some (ae (W+2) 0 ad)/\IsLd W' ⟨W+2,W.heap.size,W.heap.size+1,[]⟩ (cO.new most)
def FQ(cb:aa):tu:=λW p b0 W'=>b0=0/\p=some (ae W 0 ad)/\W'=W.alloc (af #[I cb,I 0,aq none 0 0] 177)
def T6{x:ct}{l:cd}{bU cb:aa}{e:Ending}(h:FI (FN x) (FP l) (FO bU) (FQ cb) w e w'):∃ b:gk,e=aY #[aL #[b.c.c,b.L.p,b.lb,b.fl,b.ed,b.ec],true]/\
   fU w.heap.size w' [az.ec b.ec,az.ed b.ed (aq none 0 0),az.fl b.fl cb (aq none 0 0),az.ld ⟨b.lb,b.cV,b.hA,[]⟩ (cO.new bU),az.link b.L l,az.core b.c x]/\
   Below w w w':=by
 obtain⟨y,P,M,d,pl,O,g,bl,N,n,Q,em,f,⟨F,v⟩,⟨⟨rfl,s,rfl,an,C⟩,i⟩,⟨⟨rfl,rfl,D⟩,k⟩,⟨⟨rfl,rfl,aZ⟩,m⟩,⟨⟨rfl,rfl,hm⟩,o⟩,rfl,hk⟩:=h;refine⟨⟨0,s,⟨d+4,d.heap.size+1,d.heap.size,d.heap.size+3,d.heap.size+2⟩,g.heap.size+2,g.heap.size,g.heap.size+1,n.heap.size,f.heap.size,f.heap.size+1,0,0⟩,aM,?_,?_⟩
 .have G:=i.size;have H:=k.size;have K:=m.size;have z4:=o.size;have h1:fU (w.heap.size+2) d [az.core s x]:=(fU.nil _ y).cons (Keeps.bJ (S:=aG) i a8) an C F;have A:=(h1.cons (r:=az.link ⟨d+4,d.heap.size+1,d.heap.size,d.heap.size+3,d.heap.size+2⟩ l) (Keeps.bJ (S:=aG) k a8) D (λj a=>by rcases a with e|e|e|e|e<;>simp only at e<;>omega) U).cons (r:=az.ld ⟨g+2,g.heap.size,g.heap.size+1,[]⟩ (cO.new bU)) (Keeps.bJ (S:=aG) m a8) aZ (λj a=>by
   rcases a with a|a|a|a
   .simp only at a;omega
   .simp only at a;omega
   .simp only at a;omega
   .have⟨p,au,_⟩:=a;cases au) U
  have B:=(A.cons (r:=az.fl n.heap.size cb (aq none 0 0)) (w':=f) ((hm▸(bb _).alloc _:Keeps aG n f)) ⟨[],by rw[hm];exact⟨aX _ _,gx _ 0 _ _,aM⟩⟩ (λj a=>Nl) U).cons (r:=az.ed f.heap.size (aq none 0 0)) ((bb f).alloc (af #[aq none 0 0] 291)) ⟨[],⟨aX _ _,gx _ 0 _ _,aM⟩⟩ (λj a=>Nl) U;have z:(f.alloc (af #[aq none 0 0] 291)).heap.size=f.heap.size+1:=aM;have t:=B.cons (r:=az.ec (f.alloc (af #[aq none 0 0] 291)).heap.size) ((bb _).alloc (af eT 278)) ⟨0,0,0,0,gi,aX _ _⟩ (λj a=>gD a.symm) (by show _<=(f.alloc (af #[aq none 0 0] 291)).heap.size;omega);rw[z]at t;have u:=t.keeps hk a8;exact⟨u.sep,λr E j a=>by have:=u.bo r E j a;omega⟩
 have R:=v.size;have G:=i.size;have H:=k.size;have K:=m.size;have z4:=o.size;have q:=(((((v.trans (i.mono U)).trans (k.mono U)).trans (m.mono U)).trans (o.mono U)).alloc U (af #[aq none 0 0] 291)).alloc b1 (af eT 278);exact q.trans (hk.below q.size a8)
def Vf(aJ d n bQ pat bU cb:aa)(aN:J)(t:aN<2)(u:¬ we d n pat bU cb)(w:aj):aA 58 #[aL #[aR aJ,I d,I n,I aN,aR bQ,I pat,I bU,I cb]] w λe w'=>e=aY #[.pointer none,I 1]/\Below w w w':=by
 have q:=JC aJ d n bQ pat bU cb aN (λ_ _ b0 _=>b0=0->qh d n=true) (λ_ _ b0 _=>b0=0->1<=pat/\pat<=10000) (λ_ _ b0 _=>b0=0->1<=bU/\bU<=256) (λ_ _ b0 _=>b0=0->1<=cb/\cb<=16)
  (P' aJ d n aN t) (TR bQ pat d) (Tr bU) (Uy cb)
 have g:=ag ((b7 w.heap.size w).alloc bx (af #[aR aJ,I d,I n,I aN,aR bQ,I pat,I bU,I cb] 26))
 go_in
 go_wp2_with fail;generalize World.alloc w _=bn at *;refine(q _).mono ?_;rintro e ao ⟨y,v,m,A,pl,p,B,bl,o,C,x,em,i,⟨D,r⟩,a,b,c,f,rfl,hk⟩;have hd:decide (m=0/\p=0/\o=0/\em=0)=false:=di λh=>u ⟨a.1 h.1,b.1 h.2.1,c.1 h.2.2.1,f.1 h.2.2.2⟩;have s:Below w w (ao.alloc (af #[.pointer v,.pointer pl,.pointer bl,.pointer x,i.heap.size,.pointer (some (ae (i+1) 0 ad))] 109)):=by
  have z:=g.out.size;have E:=a.2.size;have F:=b.2.size;have G:=c.2.size;have z4:=f.2.size;have l:=((((g.out.trans (r.mono z)).trans (a.2.mono U)).trans (b.2.mono U)).trans (c.2.mono U)).trans (f.2.mono U);have j:=(l.alloc U (af #[aq none 0 0] 291)).alloc b1 (af eT 278);have k:=j.trans (hk.below j.size a8);exact k.alloc k.size _
 rw[hd];go_wp2_with fail;go_ret2;exact⟨rfl,s⟩
def BT(b:gk)(p o t:J):gk:={b with p:=p,dB:=o,wt:=t}
def Ib(aJ:aa)(d n aN:J)(bQ pat bU cb:aa)(E:aN<2)(hd:d<=8)(av:1<=n/\n<=16)(au:1<=pat/\pat<=10000)(C:1<=bU/\bU<=256)(aU:1<=cb/\cb<=16)(w:aj):aA 58 #[aL #[aR aJ,I d,I n,I aN,aR bQ,I pat,I bU,I cb]] w λe w'=>
  ∃ b:gk,e=aY #[b.p,I 0]/\fU w.heap.size w' (bH b (wB ⟨aJ,d,n,aN,λ_=>iF d,0,[(0,lz aJ 0)],0⟩ (cd.new bQ pat d) bU) (pr cb))/\Below w w w':=by
 obtain⟨x,u⟩:∃ x:ct,x=⟨aJ,d,n,aN,λ_=>iF d,0,[(0,lz aJ 0)],0⟩:=⟨_,rfl⟩;rw[<-u]
 have z:=JC aJ d n bQ pat bU cb aN (FN x) (FP (cd.new bQ pat d)) (FO bU) (FQ cb)
  (λW=>(GN aJ d n aN hd av E W).mono λe w' ⟨b,h1,h2,a,g⟩=>⟨_,0,h1,⟨rfl,b,rfl,u▸h2,a⟩,g⟩)
  (λW=>(I1 bQ pat d au U W).mono λe w' ⟨h1,h2,a⟩=>⟨_,0,h1,⟨rfl,rfl,h2⟩,a⟩)
  (λW=>(IV bU C).mono λe w' ⟨h1,h2,a,_⟩=>⟨_,0,h1,⟨rfl,rfl,h2⟩,a.below bx (λ_ _ e=>e)⟩)
  (λW=>(Jk cb aU W).mono λe w' ⟨h1,h2⟩=>⟨_,0,h1,⟨rfl,rfl,h2⟩,by rw[h2];exact(b7 _ W).alloc bx _⟩)
 have k:=ag ((b7 w.heap.size w).alloc bx (af #[aR aJ,I d,I n,I aN,aR bQ,I pat,I bU,I cb] 26));have G:=@run_makeMap prog;generalize cd.new bQ pat d=l at *
 go_in
 go_wp2_with fail;generalize World.alloc w _=bn at *;refine(z _).mono ?_;intro e ao D;obtain⟨b,rfl,ar,t⟩:=T6 D;have H:=k.o.size;have K:=t.size;go_wp2_with fail;go_ret2;have h1:=ar.keeps ((bb ao).alloc (af #[b.c.c,b.L.p,b.lb,b.fl,b.ed,b.ec] 109)) (λ_ _ e=>e);generalize s:ao.alloc (af #[b.c.c,b.L.p,b.lb,b.fl,b.ed,b.ec] 109)=A at *;have v:A.heap.size=ao.heap.size+1:=by rw[<-s];simp
 have B:Below w w A:=by rw[<-s];exact((k.o.trans (t.mono k.o.size))).alloc U _
 have m:(A.alloc (.map #[] 0)).heap.size=ao.heap.size+1+1:=by rw[<-v];simp
 have y:((A.alloc (.map #[] 0)).alloc (.map #[] 0)).heap.size=ao.heap.size+1+1+1:=by rw[<-m];simp
 have a:=(h1.cons (r:=az.iK A.heap.size []) ((bb A).alloc (.map #[] 0)) ⟨RMap.made A prog 3 sq,λ_ h=>nomatch h⟩ (λj f=>gD f.symm) U).cons (r:=az.iK (A.alloc (.map #[] 0)).heap.size []) ((bb _).alloc (.map #[] 0)) ⟨RMap.made _ prog 3 sq,λ_ h=>nomatch h⟩ (λj f=>gD f.symm) U;have g:=a.cons (r:=az.bd ((A.alloc (.map #[] 0)).alloc (.map #[] 0)).heap.size (pe (BT b (ao.heap.size+1+1+1) (ao.heap.size+1) (ao.heap.size+1+1)) (wB x l bU) 0,114)) ((bb _).alloc _) (aX _ _) (λj f=>gD f.symm) U;rw[m,y,v]at g;have q:=g.pick [0,8,7,6,5,4,3,2,1] bt (λi ax=>by show i<9;exact(show ∀ i∈[0,8,7,6,5,4,3,2,1],i<9 by decide) i ax);exact⟨BT b (ao.heap.size+1+1+1) (ao.heap.size+1) (ao.heap.size+1+1),rfl,⟨q.sep,λr F j f=>by have:=q.bo r F j f;omega⟩,(((B.alloc U (.map #[] 0)).alloc U (.map #[] 0)).alloc U (af (pe (BT b (ao.heap.size+1+1+1) (ao.heap.size+1) (ao.heap.size+1+1)) (wB x l bU) 0) 114))⟩
end Go.Proofs.YtalagblioepadaaGreatDoor
