/- The proof, part 35. -/
import Derived.Test.YtalagblioepadaaGreatDoorZc34
namespace Go.Proofs.YtalagblioepadaaGreatDoor
set_option linter.all false
open Proofs.Tryz List Go.RowKit
set_option maxRecDepth 100000
set_option maxHeartbeats 1000000
def z6{p:ak}(h:p:=by unfold ej at au;omega):p:=h
def oJ{p:ak}(h:p:=by unfold ej at d;omega):p:=h
def Er{p:ak}(h:p:=by show 0<=_/\_<=1000;omega):p:=h
def Ef{p:ak}(h:p:=by rw[cX _ _ _ _ U,cX _ _ _ _ U]):p:=h
section
variable{w w':ai}{bl g bh:J}{v:J->aa}{fr:aa}{xs:ah aB}
def kt(d:aa)(j:J):aa:=if j<4 then 0 else if j<24 then(if (j-4)%10<4 then -2147483648 else if (j-4)%10=4 then -d else if (j-4)%10=5 then -100 else 0)else if (j-24)%6<4 then -2147483648 else 0
def jO(c d:aa)(j:J):aa:=if j=1 then 4294967295 else if j<4 then 4294967295 else if j<24 then(if (j-4)%10<4 then 2147483647 else if (j-4)%10=4 then 65535+d else if (j-4)%10=9 then c else 1000)else if (j-24)%6<4 then 2147483647 else 1000
def dY(c:aa)(k:J)(e:aa)(v:J->aa):ak:=∀ j,j<60->kt (if j=k then e else 0) j<=v j/\v j<=jO c (if j=k then e else 0) j
def dY.ho{c e:aa}{k:J}(h:dY c k e v)(i:J)(x:aa)(f:kt (if i=k then e else 0) i<=x/\x<=jO c (if i=k then e else 0) i):dY c k e (bF v i x):=λj d=>by
 unfold bF;by_cases b:j=i
 .have a:(if j=i then x else v j)=x:=aD b;rw[a];subst b;exact f
 have a:(if j=i then x else v j)=v j:=az b;rw[a];exact h j d
def dY.move{c:aa}{k:J}(h:dY c k 0 v)(i:J):dY c i 0 v:=λj a=>by simpa using h j a
def ej(o:J):ak:=o=4\/o=14
def tP{o:J}(a:ej o)(q:J)(b:q<10):dt (o+q)=if q<4 then .i32 else .i64:=by
 rcases a with rfl|rfl
 .unfold dt;rw[az U,az U,aD U,show(4+q-4)%10=q by omega]
 unfold dt;rw[az U,az U,aD U,show(14+q-4)%10=q by omega]
def ks{o:J}(a:ej o)(c d:aa)(q:J)(b:q<10):kt d (o+q)=(if q<4 then -2147483648 else if q=4 then -d else if q=5 then -100 else 0)/\jO c d (o+q)=(if q<4 then 2147483647 else if q=4 then 65535+d else if q=9 then c else 1000):=by
 have h1:o+q<24/\4<=o+q:=by unfold ej at a;omega
 have h2:(o+q-4)%10=q:=by unfold ej at a;omega
 constructor
 .unfold kt;rw[az U,aD U,h2]
 unfold jO;rw[az U,az U,aD U,h2]
def BH(q:J):aa:=if q=5 then -100 else 0
def By(c:aa)(q:J):aa:=if q=9 then c else 1000
def lG(i:J)(aw:i<2):ej (4+i*10):=by unfold ej;omega
def dY.fix{c e:aa}{k:J}(h:dY c k e v){o:J}(d:ej o)(q:J)(a:q<4):bj (v (o+q)):=by
 have h1:=h (o+q) oJ;rw[(ks d c _ q U).1,(ks d c _ q U).2,aD a,aD a]at h1;exact h1
def dY.num{c e:aa}{k:J}(h:dY c k e v){o:J}(d:ej o)(q:J)(a:5<=q/\q<10):BH q<=v (o+q)/\v (o+q)<=By c q:=by
 have h1:=h (o+q) oJ;rw[(ks d c _ q U).1,(ks d c _ q U).2]at h1;simp only[az (show ¬ q<4 by omega),az (show ¬ q=4 by omega)]at h1;exact h1
def dY.gF{c e:aa}{o:J}(h:dY c (o+4) e v)(d:ej o):-e<=v (o+4)/\v (o+4)<=65535+e:=by
 have h1:=h (o+4) oJ;rw[aD rfl,(ks d c _ 4 U).1,(ks d c _ 4 U).2]at h1;exact h1
def dY.eP{c e:aa}{o:J}(h:dY c (o+4) e v)(d:ej o)(a x:aa)(g:-a<=x/\x<=65535+a):dY c (o+4) a (bF v (o+4) x):=λj f=>by
 unfold bF;by_cases b:j=o+4
 .subst b;rw[aD rfl,aD rfl,(ks d c _ 4 U).1,(ks d c _ 4 U).2];exact g
 have h1:=h j f;rw[az b]at h1⊢;rw[az b];exact h1
structure SgI(w:ai)(bl g bh:J)(fr c:aa)(k:J)(e:aa)(v:J->aa)(xs:ah aB)(bU:ai):ak where
 st:St bU bl g bh v fr xs
 cv:Keeps (λj=>bl<=j) w bU
 lim:dY c k e v
namespace SgI
variable{bU gk:ai}{c e:aa}{k:J}
theorem keep(h:SgI w bl g bh fr c k e v xs bU)(hk:Keeps aI bU gk):SgI w bl g bh fr c k e v xs gk:=⟨h.st.keep hk,h.cv.trans (hk.mono λ_ _ e=>e.elim),h.lim⟩
def bW{ys:ah aB}(h:SgI w bl g bh fr c k e v xs bU)(a:St gk bl g bh v fr ys)(hk:Keeps (λj=>bl<=j) bU gk):SgI w bl g bh fr c k e v ys gk:=⟨a,h.cv.trans hk,h.lim⟩
theorem ho(h:SgI w bl g bh fr c k e v xs bU)(i:J)(aw:i<60)(q:IntKind)(a:dt i=q)(x:aa)(b:kt (if i=k then e else 0) i<=x/\x<=jO c (if i=k then e else 0) i):SgI w bl g bh fr c k e (bF v i x) xs (bU.setCell (ad g i ab) (.int q x)):=
 ⟨h.st.set i aw q a x,h.cv.setCell (p:=ad g i ab) h.st.o5 _,h.lim.ho i x b⟩
def rm(h:SgI w bl g bh fr c k e v xs bU){o:J}(d:ej o)(q:J)(b:5<=q/\q<10)(x:aa)(a:BH q<=x/\x<=By c q):SgI w bl g bh fr c k e (bF v (o+q) x) xs (bU.setCell (ad g (o+q) ab) (I x)):=by
 refine h.ho _ oJ _ (by rw[tP d q U,az U]) x ?_;rw[(ks d c _ q U).1,(ks d c _ q U).2];simp only[az (show ¬ q<4 by omega),az (show ¬ q=4 by omega)];exact a
def kE(h:SgI w bl g bh fr c k e v xs bU){o:J}(d:ej o)(q:J)(a:q<4)(x:aa)(b:bj x):SgI w bl g bh fr c k e (bF v (o+q) x) xs (bU.setCell (ad g (o+q) ab) (ag x)):=by
 refine h.ho _ oJ _ (by rw[tP d q U,aD a]) x ?_;rw[(ks d c _ q U).1,(ks d c _ q U).2,aD a,aD a];exact b
theorem tB{o:J}(h:SgI w bl g bh fr c (o+4) e v xs bU)(d:ej o)(a x:aa)(b:-a<=x/\x<=65535+a):SgI w bl g bh fr c (o+4) a (bF v (o+4) x) xs (bU.setCell (ad g (o+4) ab) (I x)):=
 ⟨h.st.set _ oJ _ (by rw[tP d 4 U,az U]) x,h.cv.setCell (p:=ad g (o+4) ab) h.st.o5 _,h.lim.eP d a x b⟩
theorem wide{o:J}(h:SgI w bl g bh fr c (o+4) e v xs bU)(b:ej o)(a:aa)(d:e<=a):SgI w bl g bh fr c (o+4) a v xs bU:=
 ⟨h.st,h.cv,by
  have h1:=h.lim.gF b;have h2:=h.lim.eP b a (v (o+4)) U
  rwa [Yy]at h2⟩
theorem fO(h:SgI w bl g bh fr c k e v xs bU){o:J}(d:ej o)(q:J)(a:4<=q/\q<10):bU.cell? (ad g (o+q) ab)=some (I (v (o+q))):=
 h.st.cell _ oJ _ (by rw[tP d q U,az U])
theorem eD(h:SgI w bl g bh fr c k e v xs bU){o:J}(d:ej o)(q:J)(a:q<4):bU.cell? (ad g (o+q) ab)=some (ag (v (o+q))):=
 h.st.cell _ oJ _ (by rw[tP d q U,aD a])
end SgI
def qO(o:J)(v:J->aa):J->aa:=bF (bF v (o+6) (max (v (o+6)-1) 0)) (o+7) (max (v (o+7)-1) 0)
def lC(o:J)(n:aa)(b:aY)(v:J->aa):J->aa:=if b then bF v (o+4) (v (o+4)+n)else v
def oe(o:J)(v:J->aa):J->aa:=bF v (o+4) (v (o+4)%65536)
def qh(o:J)(x y:aa)(v:J->aa):J->aa:=bF (bF v (o+2) x) (o+3) y
def rR(o:J)(b:aY)(v:J->aa):J->aa:=if b then qh o (eh (v (o+2)) 32768) (eh (v (o+3)) 32768) v else v
def h7(o:J)(l:aa)(v:J->aa):J->aa:=qh o (dj (v (o+2)) (hN (v (o+4)) l)) (dj (v (o+3)) (hO (v (o+4)) l)) v
def kD(i o:J)(fr:aa)(b:aY)(s:(J->aa)×ah aB):(J->aa)×ah aB:=
 if b then(h7 o 8192 s.1,if ((h7 o 8192 s.1 0).tmod 8 == 0)=true then h0 fr s.2 (j6 (i+1) 8 8 4096 1 8 (h7 o 8192 s.1 o))else s.2)else s
def nV(i o:J)(fr:aa)(b:aY)(s:(J->aa)×ah aB):(J->aa)×ah aB:=
 if b=true/\s.1 (o+7)=0 then(bF (h7 o 65536 s.1) (o+7) 20,h0 fr s.2 (j6 (i+1) 9 9 8192 4 0 (bF (h7 o 65536 s.1) (o+7) 20 o)))else s
def y9(o:J)(v:J->aa):J->aa:=qh o (rf (v (o+2)) (v (o+3)) 61440 131072).1 (rf (v (o+2)) (v (o+3)) 61440 131072).2 v
def jt(o:J)(bS:aa)(v:J->aa):J->aa:=rR o (ed bS 8) (oe o (lC o 1024 (ed bS 2) (lC o (-1024) (ed bS 1) (qO o v))))
def hS(i:J)(bS fr:aa)(s:(J->aa)×ah aB):(J->aa)×ah aB:=
 let o:=4+i*10
 let t:=nV i o fr (ed bS 32) (kD i o fr (ed bS 4) (jt o bS s.1,s.2))
 (y9 o t.1,t.2)
def lJ(a b:aa):bj (eh a b):=hl _
def y_(a b k m:aa):bj (rf a b k m).1/\bj (rf a b k m).2:=by
 have c:bj 0:=by unfold bj;omega
 unfold rf sy sz;split
 .constructor
  .dsimp only;split
   .exact c
   exact Gu _ _
  dsimp only;split
  .exact c
  exact Gu _ _
 exact⟨lJ _ _,lJ _ _⟩
def oS(a b:aa):bj (dj a b):=hl _
def W4{c:aa}(h:St w bl g bh v fr xs)(O:dY c 0 0 v)(i:J)(aw:i<2)(bS:aa):aA 347 #[g,I i,aF bS] w λe w'=>e=aV #[]/\SgI w bl g bh fr c 0 0 (hS i bS fr (v,xs)).1 (hS i bS fr (v,xs)).2 w':=by
 have a:=lG i aw;have an:SgI w bl g bh fr c (4+i*10+4) 0 v xs w:=⟨h,Keeps.refl _ _,O.move _⟩;have ZH:=an.fO a 6 U;have N:=an.fO a 7 U;have f6:=h.free (4+i*10+6);have S:=h.free (4+i*10+7);have qY:0<=v (4+i*10+6)/\v (4+i*10+6)<=1000:=O.num a 6 U;have TS:0<=v (4+i*10+7)/\v (4+i*10+7)<=1000:=O.num a 7 U;have b:=af ((an.rm a 6 U (max (v (4+i*10+6)-1) 0) Er).rm a 7 U (max (v (4+i*10+7)-1) 0) Er);clear h O an;unfold hS
 go_in
 go_wp2_with fail
 go_region
 generalize s':4+i*10=o at *;have an:SgI w bl g bh fr c (o+4) 0 (qO o v) xs _:=b.o.keep (Keeps.refl _ _).drew;generalize World.drew _=ao at *;clear b ZH N f6 S qY TS;generalize vl:qO o v=Z at *;go_wp2_with fail;refine(tI bS 1 _).mono ?_;rintro e _ ⟨rfl,rfl⟩;go_upto_if 32 with fail
 go_cut [] (λbU=>SgI w bl g bh fr c (o+4) (0+1024) (lC o (-1024) (ed bS 1) Z) xs bU)
 case first=>
  have gf:=an.fO a 4 U;have R:=an.st.free (o+4);have Tq:=an.lim.gF a;have B:=af an;clear an;cases aj:ed bS 1
  .go_wp2_with fail;go_meet;simpa[lC,aj]using B.o.wide a (0+1024) U
  go_wp2_with fail;go_meet;simpa[lC,aj,LH]using B.o.tB a (0+1024) (Z (o+4)+(-1024)) U
 have an:=hcut;clear hcut;generalize v':lC o (-1024) (ed bS 1) Z=v2 at *;go_wp2_with fail;refine(tI bS 2 _).mono ?_;rintro e _ ⟨rfl,rfl⟩;go_upto_if 41 with fail
 go_cut [] (λbU=>SgI w bl g bh fr c (o+4) ((0+1024)+1024) (lC o 1024 (ed bS 2) v2) xs bU)
 case first=>
  have gf:=an.fO a 4 U;have R:=an.st.free (o+4);have Tq:=an.lim.gF a;have B:=af an;clear an;cases aj:ed bS 2
  .go_wp2_with fail;go_meet;simpa[lC,aj]using B.o.wide a ((0+1024)+1024) U
  go_wp2_with fail;go_meet;simpa[lC,aj,LH]using B.o.tB a ((0+1024)+1024) (v2 (o+4)+1024) U
 have an:=hcut;clear hcut;generalize zd:lC o 1024 (ed bS 2) v2=Q at *;have gf:=an.fO a 4 U;have R:=an.st.free (o+4);have mv:=As (Q (o+4));have b:=af (an.tB a 0 (Q (o+4)%65536) U);go_upto_region 7 with fail
 have an:SgI w bl g bh fr c (o+4) 0 (oe o Q) xs _:=b.o;generalize World.setCell _ _ _=ZJ at *;clear b gf R mv;generalize zp:oe o Q=A at *;go_wp2_with fail;refine(tI bS 8 _).mono ?_;rintro e _ ⟨rfl,rfl⟩;go_upto_if 57 with fail
 go_cut [] (λbU=>SgI w bl g bh fr c (o+4) 0 (rR o (ed bS 8) A) xs bU)
 case first=>
  have p:=an.eD a 2 U;have q:World.cell? _ (ad g (o+2+1) ab)=_:=an.eD a 3 U;have f2:=an.st.free (o+2);have f3:=an.st.free (o+2+1);have l:=an.lim.fix a 2 U;have m:=an.lim.fix a 3 U;have r':=af (CB (A (o+2)) (A (o+3)) 32768 l m f_);have b:=af an;clear an;cases aj:ed bS 8
  .go_wp2_with fail;go_meet;simpa[rR,aj]using b.o
  go_wp2_with fail;refine(r'.o _).mono ?_;rintro e T' ⟨rfl,T⟩;have an:=b.out.keep (Keeps.bD T a7);clear p q f2 f3 b;have p:=an.eD a 2 U;have q:World.cell? _ (ad g (o+2+1) ab)=_:=an.eD a 3 U;have f2:=an.st.free (o+2);have f3:=an.st.free (o+2+1);have l:=an.lim.fix a 2 U;have m:=an.lim.fix a 3 U;have b:=af ((an.kE a 2 U _ (lJ (A (o+2)) 32768)).kE a 3 U _ (lJ (A (o+3)) 32768));clear an;go_wp2_with fail;go_meet;simpa[rR,aj,qh]using b.o
 have an:=hcut;clear hcut;generalize Aw:rR o (ed bS 8) A=j at *;go_wp2_with fail;refine(tI bS 4 _).mono ?_;rintro e _ ⟨rfl,rfl⟩;go_upto_if 67 with fail
 go_cut [] (λbU=>SgI w bl g bh fr c (o+4) 0 (kD i o fr (ed bS 4) (j,xs)).1 (kD i o fr (ed bS 4) (j,xs)).2 bU)
 case first=>
  have b:=af an;cases aj:ed bS 4
  .clear an;go_wp2_with fail;go_meet;simpa[kD,aj]using b.o
  go_wp2_with fail;obtain⟨G,k⟩:∃ G:ai->ak,∀ W,G W↔SgI w bl g bh fr c (o+4) 0 j xs W:=⟨_,λ_=>Iff.rfl⟩;have V:∀ x:bp G,x.to.cell? (ad g (o+2) ab)=some (ag (j (o+2))):=λx=>((k _).1 x.held).eD a 2 U;have X:∀ x:bp G,x.to.cell? (ad g (o+2+1) ab)=some (ag (j (o+3))):=λx=>((k _).1 x.held).eD a 3 U;have Y:∀ x:bp G,x.to.cell? (ad g (o+4) ab)=some (I (j (o+4))):=λx=>((k _).1 x.held).fO a 4 U;have u:=(k _).2 (an.keep (Keeps.refl _ _).drew);have r:=af (λ(W W':ai) (s:G W) (aj:Below W W W')=>(k W').2 (((k W).1 s).keep (Keeps.bD aj a7)));have E:=af (λ(W:ai) (s:G W)=>(k W).1 s);have D:=af (uu (j (o+2)) (j (o+3)) (hN (j (o+4)) 8192) (hO (j (o+4)) 8192) (an.lim.fix a 2 U) (an.lim.fix a 3 U) (lJ _ _) (lJ _ _));clear k an;refine cH 14 ?_;refine cI (G) (.range 11) 3 11 ?_;refine dC (u) (.range 9) 2 ?_;generalize World.drew _=wd at *;refine ew 9 λK f=>?_;go_simp;refine(ye _ 8192 f_ _).mono ?_;rintro e V' ⟨rfl,H⟩;have y:=r.out _ _ u H;refine f _ _ (y) ?_;clear f K;refine jq 10 λK f=>?_;go_simp;refine(D.out _).mono ?_;rintro e ZG ⟨rfl,L⟩;have z:=r.out _ _ y L;refine f _ _ (z) ?_;clear f K;have an:=E.out _ z;clear V X Y u y z H L r E D;have p:=an.eD a 2 U;have q:World.cell? _ (ad g (o+2+1) ab)=_:=an.eD a 3 U;have f2:=an.st.free (o+2);have f3:=an.st.free (o+2+1);have l:=an.lim.fix a 2 U;have m:=an.lim.fix a 3 U;have b:=af ((an.kE a 2 U _ (oS (j (o+2)) (hN (j (o+4)) 8192))).kE a 3 U _ (oS (j (o+3)) (hO (j (o+4)) 8192)));refine cI (λW=>0<=W.heap.size) [11,12,13] 0 3 ?_;refine ew 11 λK f=>?_;go_simp;refine f _ _ (c' _) ?_;clear f K;refine ew 12 λK f=>?_;go_simp;refine f _ _ (c' _) ?_;clear f K;refine kx 13 λK f=>?_;go_simp;refine f _ _ (c' _) ?_;clear f K;clear p q f2 f3 l m an;have an:SgI w bl g bh fr c (o+4) 0 (h7 o 8192 j) xs _:=b.o;generalize World.setCell _ _ _=a' at *;clear b;have ZK:a'.cell? (ad g 0 ab)=some (I (h7 o 8192 j 0)):=an.st.cell 0 U .i64 rfl;have l':a'.cell? (ad g o ab)=some (ag (h7 o 8192 j o)):=an.eD a 0 U;have P:=an.lim.fix a 0 U;generalize h2:h7 o 8192 j=d at *;by_cases g':((d 0).tmod 8 == 0)=true
  .have F:=af (qc an.st (i+1) 8 8 4096 1 8 (d o) P);go_wp2_with fail;refine F.o.mono ?_;rintro e lb ⟨rfl,C,M⟩;have b:=af (an.bW C M);clear C M F;go_wp2_with fail;go_meet;unfold kD;simp only[aj,h2,g',if_true];exact b.o
  go_wp2_with fail;go_meet;unfold kD;simp only[aj,h2,g',if_true];exact an
 have an:=hcut;clear hcut;generalize aO:kD i o fr (ed bS 4) (j,xs)=t at *;obtain⟨d,ys⟩:=t;go_wp2_with fail;refine(tI bS 32 _).mono ?_;rintro e _ ⟨rfl,rfl⟩;have N:=an.fO a 7 U;have m':(ed bS 32=true/\d (o+7)=0)\/(ed bS 32=true/\¬ d (o+7)=0)\/ed bS 32=false:=by
  cases ed bS 32
  .exact .inr (.inr rfl)
  by_cases h:d (o+7)=0
  .exact .inl ⟨rfl,h⟩
  exact .inr (.inl ⟨rfl,h⟩)
 rcases m' with⟨aj,ar⟩|⟨aj,ar⟩|aj
 focus
  go_upto_region 14 with fail
  clear N;obtain⟨G,k⟩:∃ G:ai->ak,∀ W,G W↔SgI w bl g bh fr c (o+4) 0 d ys W:=⟨_,λ_=>Iff.rfl⟩;have V:∀ x:bp G,x.to.cell? (ad g (o+2) ab)=some (ag (d (o+2))):=λx=>((k _).1 x.held).eD a 2 U;have X:∀ x:bp G,x.to.cell? (ad g (o+2+1) ab)=some (ag (d (o+3))):=λx=>((k _).1 x.held).eD a 3 U;have Y:∀ x:bp G,x.to.cell? (ad g (o+4) ab)=some (I (d (o+4))):=λx=>((k _).1 x.held).fO a 4 U;have u:=(k _).2 (an.keep (Keeps.refl _ _).drew);have r:=af (λ(W W':ai) (s:G W) (aj:Below W W W')=>(k W').2 (((k W).1 s).keep (Keeps.bD aj a7)));have E:=af (λ(W:ai) (s:G W)=>(k W).1 s);have D:=af (uu (d (o+2)) (d (o+3)) (hN (d (o+4)) 65536) (hO (d (o+4)) 65536) (an.lim.fix a 2 U) (an.lim.fix a 3 U) (lJ _ _) (lJ _ _));clear k an;refine cH 14 ?_;refine cI (G) (.range 11) 3 11 ?_;refine dC (u) (.range 9) 2 ?_;generalize World.drew _=wd at *;refine ew 9 λK f=>?_;go_simp;refine(ye _ 65536 f_ _).mono ?_;rintro e V' ⟨rfl,H⟩;have y:=r.out _ _ u H;refine f _ _ (y) ?_;clear f K;refine jq 10 λK f=>?_;go_simp;refine(D.out _).mono ?_;rintro e ZG ⟨rfl,L⟩;have z:=r.out _ _ y L;refine f _ _ (z) ?_;clear f K;have an:=E.out _ z;clear V X Y u y z H L r E D;have p:=an.eD a 2 U;have q:World.cell? _ (ad g (o+2+1) ab)=_:=an.eD a 3 U;have f2:=an.st.free (o+2);have f3:=an.st.free (o+2+1);have l:=an.lim.fix a 2 U;have m:=an.lim.fix a 3 U;have b:=af ((an.kE a 2 U _ (oS (d (o+2)) (hN (d (o+4)) 65536))).kE a 3 U _ (oS (d (o+3)) (hO (d (o+4)) 65536)));refine cI (λW=>0<=W.heap.size) [11,12,13] 0 3 ?_;refine ew 11 λK f=>?_;go_simp;refine f _ _ (c' _) ?_;clear f K;refine ew 12 λK f=>?_;go_simp;refine f _ _ (c' _) ?_;clear f K;refine kx 13 λK f=>?_;go_simp;refine f _ _ (c' _) ?_;clear f K;clear p q f2 f3 l m an;have an:SgI w bl g bh fr c (o+4) 0 (h7 o 65536 d) ys _:=b.o;generalize World.setCell _ _ _=a' at *;clear b;have N:=an.fO a 7 U;have S:=an.st.free (o+7);have b:=af (an.rm a 7 U 20 (by unfold BH By;omega));clear an;go_upto_region 16 with fail
  have an:SgI w bl g bh fr c (o+4) 0 (bF (h7 o 65536 d) (o+7) 20) ys _:=b.o;generalize World.setCell _ _ _=lb at *;clear b N S;have l':lb.cell? (ad g o ab)=some (ag (bF (h7 o 65536 d) (o+7) 20 o)):=an.eD a 0 U;have P:=an.lim.fix a 0 U;have hd:nV i o fr (ed bS 32) (d,ys)=(bF (h7 o 65536 d) (o+7) 20,h0 fr ys (j6 (i+1) 9 9 8192 4 0 (bF (h7 o 65536 d) (o+7) 20 o))):=aD ⟨aj,ar⟩;generalize bF (h7 o 65536 d) (o+7) 20=n at *;have F:=af (qc an.st (i+1) 9 9 8192 4 0 (n o) P);have ZI:(i:aa)+1<=2:=U;go_wp2_with fail;refine F.o.mono ?_;rintro e wc ⟨rfl,C,M⟩;have an:=an.bW C M;clear C M F l' P;generalize h0 _ _ _=cg at *;go_upto_region 17 with fail
 rotate_left
 focus
  go_upto_region 17 with fail
  have hd:nV i o fr (ed bS 32) (d,ys)=(d,ys):=az (λh=>ar h.2);generalize CW:d=n at *;generalize Q':ys=cg at *
 rotate_left
 focus
  go_upto_region 17 with fail
  have hd:nV i o fr (ed bS 32) (d,ys)=(d,ys):=az (λh=>by rw[aj]at h;cases h.1);generalize CW:d=n at *;generalize Q':ys=cg at *
 all_goals
  have p:=an.eD a 2 U;have q:World.cell? _ (ad g (o+2+1) ab)=_:=an.eD a 3 U;have f2:=an.st.free (o+2);have f3:=an.st.free (o+2+1);have l:=an.lim.fix a 2 U;have m:=an.lim.fix a 3 U;have sd:=af (W8 (n (o+2)) (n (o+3)) 61440 131072 l m f_ f_);have b:=af an;clear an;go_wp2_with fail;refine(sd.o _).mono ?_;rintro e T' ⟨rfl,T⟩;have an:=b.out.keep (Keeps.bD T a7);clear p q f2 f3 b;have p:=an.eD a 2 U;have q:World.cell? _ (ad g (o+2+1) ab)=_:=an.eD a 3 U;have f2:=an.st.free (o+2);have f3:=an.st.free (o+2+1);have l:=an.lim.fix a 2 U;have m:=an.lim.fix a 3 U;have b:=af ((an.kE a 2 U _ (y_ (n (o+2)) (n (o+3)) 61440 131072).1).kE a 3 U _ (y_ (n (o+2)) (n (o+3)) 61440 131072).2);clear an;go_wp2;go_end0;refine⟨rfl,?_⟩;have ps:jt o bS v=j:=by unfold jt;rw[vl,v',zd,zp,Aw]
  simp only[s',ps,aO,hd];exact⟨b.o.st,b.o.cv,b.o.lim.move 0⟩
end
variable{w w':ai}{bl g bh:J}{v:J->aa}{fr:aa}{xs:ah aB}
def mn(o:J)(v:J->aa):aa×aa×aa:=hT (v o) (v (o+2)) (-3932160) 3932160 1 2
def mo(o:J)(v:J->aa):aa×aa×aa:=hT (v (o+1)) (v (o+3)) (-3932160) 3932160 4 8
def r6(o:J)(v:J->aa):J->aa:=bF (bF (bF (bF v o (mn o v).1) (o+1) (mo o v).1) (o+2) (mn o v).2.1) (o+3) (mo o v).2.1
def mY(i:J)(fr:aa)(s:(J->aa)×ah aB):(J->aa)×ah aB:=
 (r6 (4+i*10) s.1,if (bits .or .i64 (mn (4+i*10) s.1).2.2 (mo (4+i*10) s.1).2.2 != 0)=true then h0 fr s.2 (j6 (i+1) 3 3 8192 3 0 (r6 (4+i*10) s.1 (4+i*10)))else s.2)
def zf(p v bl aw jG hx:aa)(aW:bj v)(h1:bj bl)(h2:bj aw):bj (hT p v bl aw jG hx).1/\bj (hT p v bl aw jG hx).2.1:=by
 have c:∀ a b,bj (eh a b):=λa b=>hl _;unfold hT;dsimp only;split
 .exact⟨h1,c _ _⟩
 split
 .exact⟨h2,c _ _⟩
 exact⟨hl _,aW⟩
section
variable{P:Program}{ops:a6 Oper}{md:Region.Mode}{Q:Exit->Act->ai->ak}{F:ai->ak}{late:J->aY}{aM full:a6 aY}{gv m:J}{a:Act}
def Sa(k j l:J)(c d e:a6 aY)(r:(Region.ready md ops aM == [k,j,l])=true)(g:late k=false)(n:late j=false)(o:late l=false)(p:(ops[k]?).isSome=true)(au:(ops[j]?).isSome=true)(q:(ops[l]?).isSome=true)(av:aM.setIfInBounds k true=c)(s:aM.setIfInBounds j true=d)(t:aM.setIfInBounds l true=e)(u:Region.wanted (dm ops k) (yielded ops a.tmps)=true)(v:Region.wanted (dm ops j) (yielded ops a.tmps)=true)(x:Region.wanted (dm ops l) (yielded ops a.tmps)=true)(h:∀ K:Act->ai->ak,(∀ a' w',F w'->eB P md ops F Q late full gv m c a' w'->K a' w')->(dm ops k).wp P a w K Q)(h2:∀ K:Act->ai->ak,(∀ a' w',F w'->eB P md ops F Q late full gv m d a' w'->K a' w')->(dm ops j).wp P a w K Q)(f:∀ K:Act->ai->ak,(∀ a' w',F w'->eB P md ops F Q late full gv m e a' w'->K a' w')->(dm ops l).wp P a w K Q):eB P md ops F Q late full gv (m+1) aM a w:=by
 have b:Region.ready md ops aM=[k,j,l]:=by simpa using r
 refine⟨xk,λi aw=>?_⟩;rw[b]at aw;rcases e6.1 aw with rfl|aw
 .exact vS c g p av u h
 rcases e6.1 aw with rfl|aw
 .exact vS d n au s v h2
 obtain rfl:i=l:=by simpa using aw
 exact vS e o q t x f
end
def W2{c:aa}{bU:ai}(h:SgI w bl g bh fr c 0 0 v xs bU)(i:J)(aw:i<2):aA 348 #[g,I i] bU λe w'=>e=aV #[]/\SgI w bl g bh fr c 0 0 (mY i fr (v,xs)).1 (mY i fr (v,xs)).2 w':=by
 have f:=lG i aw;have B:=af Bl;unfold mY;have⟨G,n⟩:=hJ (F:=λW=>SgI w bl g bh fr c 0 0 v xs W);have q:∀ W,G W->W.cell? (ad g (4+i*10) ab)=some (ag (v (4+i*10))):=λW j=>((n W).1 j).eD f 0 U;have r:∀ W,G W->W.cell? (ad g (4+i*10+1) ab)=some (ag (v ((4+i*10)+1))):=λW j=>((n W).1 j).eD f 1 U;have s:∀ W,G W->W.cell? (ad g (4+i*10+2) ab)=some (ag (v ((4+i*10)+2))):=λW j=>((n W).1 j).eD f 2 U;have t:∀ W,G W->W.cell? (ad g (4+i*10+2+1) ab)=some (ag (v ((4+i*10)+3))):=λW j=>((n W).1 j).eD f 3 U;have l:=(n _).2 (h.keep (Keeps.refl _ _).drew);have p:=af (λ(W W':ai) (j:G W) (aj:Below W W W')=>(n W').2 (((n W).1 j).keep (Keeps.bD aj a7)));have P:=af (λ(W:ai) (j:G W)=>(n W).1 j);have T:=h.lim.fix f 0 U;have V:=h.lim.fix f 1 U;have L:=h.lim.fix f 2 U;have M:=h.lim.fix f 3 U;have H:=af (W6 (v (4+i*10)) (v ((4+i*10)+1)) (v ((4+i*10)+2)) (v ((4+i*10)+3)) (-3932160) (-3932160) 3932160 3932160 T V L M U U);have D:=zf (v (4+i*10)) (v ((4+i*10)+2)) (-3932160) 3932160 1 2 L f_ f_;have E:=zf (v ((4+i*10)+1)) (v ((4+i*10)+3)) (-3932160) 3932160 4 8 M f_ f_;change bj (mn (4+i*10) v).1/\bj (mn (4+i*10) v).2.1 at D;change bj (mo (4+i*10) v).1/\bj (mo (4+i*10) v).2.1 at E;change Hid (∀ w,Calls _ _ _ w λe w'=>e=aV #[aQ #[ag (mn (4+i*10) v).1,ag (mo (4+i*10) v).1],aQ #[ag (mn (4+i*10) v).2.1,ag (mo (4+i*10) v).2.1],I (bits .or .i64 (mn (4+i*10) v).2.2 (mo (4+i*10) v).2.2),I 0]/\_)at H;unfold r6;generalize mn (4+i*10) v=X at *;generalize mo (4+i*10) v=Y at *
 go_in
 go_wp2_with fail;generalize a':4+i*10=o at *;obtain⟨F,a⟩:∃ F:ai->ak,∀ W,F W:=⟨λ_=>True,λ_=>trivial⟩;refine cH 24 ?_;refine cI (F) (.range 24) 0 24 ?_;refine dC (a bU.drew) [0,1,2,3,4,6,7,8] 16 ?_;generalize bU.drew=C at *;have x:=q C l;have y:=r C l;have z:=s C l;have A:=t C l;refine Sa (m:=15) 5 9 10 #[true,true,true,true,true,true,true,true,true,false,false,false,false,false,false,false,false,false,false,false,false,false,false,false] #[true,true,true,true,true,false,true,true,true,true,false,false,false,false,false,false,false,false,false,false,false,false,false,false] #[true,true,true,true,true,false,true,true,true,false,true,false,false,false,false,false,false,false,false,false,false,false,false,false] aH aH aH aH aH aH aH aH aH aH gp gp gp (λK d=>?_) (λK d=>?_) (λK d=>?_)
 all_goals simp only[dm,hf]
 focus
  go_simp;refine d _ _ (a _) ?_;refine r3 (m:=14) 9 10 #[true,true,true,true,true,true,true,true,true,true,false,false,false,false,false,false,false,false,false,false,false,false,false,false] #[true,true,true,true,true,true,true,true,true,false,true,false,false,false,false,false,false,false,false,false,false,false,false,false] aH aH aH aH aH aH aH gp gp (λK d=>?_) (λK d=>?_)
  all_goals simp only[dm,hf]
  focus
   go_simp;refine d _ _ (a _) ?_;refine ew 10 λK d=>?_;go_simp;refine aU (B.o _) λao k=>?_;have b:=p.o _ _ l k;have x:=q ao b;have y:=r ao b;have z:=s ao b;have A:=t ao b;refine d _ _ (a _) ?_
  rotate_left
  focus
   go_simp;refine aU (B.o _) λao k=>?_;have b:=p.o _ _ l k;have x:=q ao b;have y:=r ao b;have z:=s ao b;have A:=t ao b;refine d _ _ (a _) ?_;refine hg 9 (a _) ?_
 rotate_left 2
 focus
  go_simp;refine d _ _ (a _) ?_;refine r3 (m:=14) 5 10 #[true,true,true,true,true,true,true,true,true,true,false,false,false,false,false,false,false,false,false,false,false,false,false,false] #[true,true,true,true,true,false,true,true,true,true,true,false,false,false,false,false,false,false,false,false,false,false,false,false] aH aH aH aH aH aH aH gp gp (λK d=>?_) (λK d=>?_)
  all_goals simp only[dm,hf]
  focus
   go_simp;refine d _ _ (a _) ?_;refine ew 10 λK d=>?_;go_simp;refine aU (B.o _) λao k=>?_;have b:=p.o _ _ l k;have x:=q ao b;have y:=r ao b;have z:=s ao b;have A:=t ao b;refine d _ _ (a _) ?_
  rotate_left
  focus
   go_simp;refine aU (B.o _) λao k=>?_;have b:=p.o _ _ l k;have x:=q ao b;have y:=r ao b;have z:=s ao b;have A:=t ao b;refine d _ _ (a _) ?_;refine hg 5 (a _) ?_
 rotate_left 2
 focus
  go_simp;refine aU (B.o _) λao k=>?_;have b:=p.o _ _ l k;have x:=q ao b;have y:=r ao b;have z:=s ao b;have A:=t ao b;refine d _ _ (a _) ?_;refine r3 (m:=14) 5 9 #[true,true,true,true,true,true,true,true,true,false,true,false,false,false,false,false,false,false,false,false,false,false,false,false] #[true,true,true,true,true,false,true,true,true,true,true,false,false,false,false,false,false,false,false,false,false,false,false,false] aH aH aH aH aH aH aH gp gp (λK d=>?_) (λK d=>?_)
  all_goals simp only[dm,hf]
  focus
   go_simp;refine d _ _ (a _) ?_;refine hg 9 (a _) ?_
  rotate_left
  focus
   go_simp;refine d _ _ (a _) ?_;refine hg 5 (a _) ?_
 all_goals
  refine ew 11 λK d=>?_;go_simp;refine aU (H.o _) λaC R=>?_;have an:=P.o _ (p.o _ _ b R);refine d _ _ (a _) ?_;refine dC (a aC) [12,13,14,15,16] 7 ?_;have hd:=an.eD f 0 U;have h2:=an.eD f 1 U;have lb:=an.eD f 2 U;have l':World.cell? _ (ad g (o+2+1) ab)=_:=an.eD f 3 U;have f0:=an.st.free o;have f1:=an.st.free (o+1);have f2:=an.st.free (o+2);have f3:=an.st.free (o+2+1);have u:=af ((((an.kE f 0 U _ D.1).kE f 1 U _ E.1).kE f 2 U _ D.2).kE f 3 U _ E.2);refine hg 17 (a _) ?_;refine hg 18 (a _) ?_;refine hg 19 (a _) ?_;refine hg 20 (a _) ?_;refine hg 21 (a _) ?_;refine hg 22 (a _) ?_;refine h_ 23 (a _) ?_;have an:=u.o;generalize World.setCell (World.setCell (World.setCell (World.setCell _ _ _) _ _) _ _) _ _=bm at *;generalize N:bF (bF (bF (bF v (o+0) X.1) (o+1) Y.1) (o+2) X.2.1) (o+3) Y.2.1=v' at *;rw[rC]at N;have g':bm.cell? (ad g o ab)=some (ag (v' o)):=an.eD f 0 U;have Z:=an.lim.fix f 0 U;by_cases aj:(bits .or .i64 X.2.2 Y.2.2 != 0)=true
  .have Q:=af (qc an.st (i+1) 3 3 8192 3 0 (v' o) Z);go_wp2_with fail;refine aU Q.o ?_;rintro gf ⟨O,S⟩;have u:=af (an.bW O S);go_wp2;go_end0;exact⟨rfl,u.o⟩
  have u:=af an;go_wp2;go_end0;exact⟨rfl,u.o⟩
def dy(o n:J)(f:J->aa)(v:J->aa):J->aa:=λj=>if o<=j/\j<o+n then f (j-o)else v j
def nb(x y f dc:aa)(q:J):aa:=if q=0 then x else if q=1 then y else if q=4 then f else if q=5 then 3 else if q=9 then dc else 0
def nU(k:aa):aa:=if k%2=1 then 2621440 else -2621440
def oW(k:aa):aa:=if 2<=k then 2621440 else -2621440
def nh(v:J->aa):aa:=iJ (v 1) / 65536*4 / 65536
def nQ(i:J)(fr:aa)(s:(J->aa)×ah aB):(J->aa)×ah aB:=
 let o:=4+i*10
 if 1<s.1 (o+8)then(bF s.1 (o+8) (s.1 (o+8)-1),s.2)
 else(dy o 10 (nb (nU (nh s.1)) (oW (nh s.1)) 0 (s.1 (o+9))) (bF (bF s.1 (o+8) (s.1 (o+8)-1)) 1 (iJ (s.1 1))),h0 fr s.2 (j6 (i+1) 6 6 16384 9 0 (nU (nh s.1))))
def oY(v:J->aa):J->J->b5 J
 | _,0=>none
 | k,n+1=>if v (24+k*6+4)=0 then some k else oY v (k+1) n
def rb(x y bU gk du a:aa)(q:J):aa:=if q=0 then x else if q=1 then y else if q=2 then bU else if q=3 then gk else if q=4 then du else a
def nZ(i:J)(fr:aa)(s:(J->aa)×ah aB):(J->aa)×ah aB:=
 let o:=4+i*10
 if 0<s.1 (o+6)then s else match oY s.1 0 6 with
  | none=>s
  | some k=>(bF (dy (24+k*6) 6 (rb (dj (s.1 o) (hN (s.1 (o+4)) 262144)) (dj (s.1 (o+1)) (hO (s.1 (o+4)) 262144)) (hN (s.1 (o+4)) 196608) (hO (s.1 (o+4)) 196608) (i+1) 40) s.1) (o+6) 8,h0 fr s.2 (j6 (i+1) 1 1 16384 5 0 (s.1 o)))
def h'(i:J)(bS fr:aa)(s:(J->aa)×ah aB):(J->aa)×ah aB:=
 if 0<s.1 (4+i*10+8)then nQ i fr s else if ed bS 16=true then nZ i fr (mY i fr (hS i bS fr s))else mY i fr (hS i bS fr s)
def FZ(v:J->aa):aY:=decide (0<v 12) || (decide (0<v 22) || !kz (fA (v 14) (v 4)) (fA (v 15) (v 5)) (dj 262144 262144))
def iY(fr:aa)(s:(J->aa)×ah aB):(J->aa)×ah aB:=
 if FZ s.1=true then s else(bF (bF (bF (bF s.1 6 (s.1 16)) 7 (s.1 17)) 16 (s.1 6)) 17 (s.1 7),h0 fr s.2 (j6 0 4 4 16384 6 0 0))
def mh(i:J)(fr:aa)(s:(J->aa)×ah aB):(J->aa)×ah aB:=
 let o:=4+i*10
 let a:=4+(1-i)*10
 let b:=bF s.1 (o+5) (s.1 (o+5)-1)
 let c:=h0 fr s.2 (j6 (i+1) 2 2 32768 8 0 (s.1 o))
 if 1<s.1 (o+5)then(b,c)else(bF (bF b (o+8) 30) (a+9) (s.1 (a+9)+1),h0 fr c (j6 (i+1) 5 5 32768 10 0 (s.1 o)))
def fS(u:J)(v:J->aa):J->aa:=bF (bF (bF v (u+5) (v (u+5)-1)) u (dj (v u) (v (u+2)))) (u+1) (dj (v (u+1)) (v (u+3)))
def HL(u p:J)(v:J->aa):aY:=decide (v (p+8)=0)&&kz (fA (v p) (v u)) (fA (v (p+1)) (v (u+1))) (dj 65536 262144)
def i_(k:J)(fr:aa)(s:(J->aa)×ah aB):aY×(J->aa)×ah aB:=
 let u:=24+k*6
 if s.1 (u+5)=1 then(false,bF s.1 (u+5) (s.1 (u+5)-1),s.2)
 else if iF (-4194304) (-4194304) 4194304 4194304 (fS u s.1 u) (fS u s.1 (u+1))=false then(false,fS u s.1,s.2)
 else if HL u (4+(2-s.1 (u+4)).toNat*10) (fS u s.1)=true then(false,mh (2-s.1 (u+4)).toNat fr (fS u s.1,s.2))
 else(true,fS u s.1,s.2)
def qd(k:J)(fr:aa)(s:(J->aa)×ah aB):(J->aa)×ah aB:=
 if s.1 (24+k*6+4)=0 then s else if (i_ k fr s).1=true then(i_ k fr s).2 else(dy (24+k*6) 6 (λ_=>0) (i_ k fr s).2.1,(i_ k fr s).2.2)
def iP(fr:aa)(s:(J->aa)×ah aB):J->(J->aa)×ah aB
 | 0=>s
 | k+1=>qd k fr (iP fr s k)
def mP(q:J):aa:=if q<10 then nb (-2097152) 0 0 0 q else nb 2097152 0 32768 0 (q-10)
def BZ(v:J->aa):aY:=decide (1<v 3)&&(decide (v 13<3)&&decide (v 23<3))
def j_(fr:aa)(s:(J->aa)×ah aB):(J->aa)×ah aB:=
 if BZ s.1=true then(bF s.1 3 (s.1 3-1),s.2)
 else(dy 24 36 (λ_=>0) (dy 4 20 mP (bF (bF (bF s.1 3 (s.1 3-1)) 2 (s.1 2+1)) 3 600)),h0 fr s.2 (j6 0 7 7 32768 12 0 0))
def stepG(a b fr:aa)(v:J->aa):(J->aa)×ah aB:=j_ fr (iP fr (iY fr (h' 1 b fr (h' 0 a fr (v,[])))) 6)
def ix(a b:aa)(v:J->aa):J->aa:=bF (stepG a b (v 0) v).1 0 (v 0+1)
def kb(a b:aa)(v:J->aa):ah aB:=(stepG a b (v 0) v).2
structure mL(c:aa)(p:J->aa):ak where
 x:-3932160<=p 0/\p 0<=3932160
 y:-3932160<=p 1/\p 1<=3932160
 bU:bj (p 2)
 gk:bj (p 3)
 gF:0<=p 4/\p 4<=65535
 au:0<=p 5/\p 5<=3
 co:0<=p 6/\p 6<=8
 e1:0<=p 7/\p 7<=20
 eW:0<=p 8/\p 8<=30
 dc:0<=p 9/\p 9<=c
 up:0<p 5↔p 8=0
def ti(p:J->aa):ak:=(∀ q,q<6->p q=0)\/((-4194304<=p 0/\p 0<=4194304)/\(-4194304<=p 1/\p 1<=4194304)/\bj (p 2)/\bj (p 3)/\(1<=p 4/\p 4<=2)/\(1<=p 5/\p 5<=40))
structure Mid(c f r:aa)(v:J->aa):ak where
 pl:∀ o,ej o->mL c (λq=>v (o+q))
 pc:∀ k,k<6->ti (λq=>v (24+k*6+q))
 f0:v 0=f
 f1:0<=v 1/\v 1<=4294967295
 f2:v 2=r
 f3:1<=v 3/\v 3<=600
def ti.congr{p lM:J->aa}(h:ti p)(a:∀ q,q<6->lM q=p q):ti lM:=by
 unfold ti at h⊢;rw[a 0 U,a 1 U,a 2 U,a 3 U,a 4 U,a 5 U];exact h.imp (λh q b=>(a q b).trans (h q b)) id
def mL.congr{c:aa}{p lM:J->aa}(h:mL c p)(a:∀ q,q<10->lM q=p q):mL c lM:=by
 have b:=a 0 U;have h1:=a 1 U;have h2:=a 2 U;have d:=a 3 U;have e:=a 4 U;have f:=a 5 U;have g:=a 6 U;have i:=a 7 U;have j:=a 8 U;have k:=a 9 U;have⟨l,m,o,r,s,t,u,v,w,x,n⟩:=h;constructor<;>simp only[b,h1,h2,d,e,f,g,i,j,k]<;>assumption
def mL.mono{c d:aa}{p:J->aa}(h:mL c p)(al:c<=d):mL d p:={h with dc:=⟨h.dc.1,zA h.dc.2 al⟩}
theorem Mid.mono{c d f r:aa}{v:J->aa}(h:Mid c f r v)(al:c<=d):Mid d f r v:={h with pl:=λo a=>(h.pl o a).mono al}
def Mid.p6{c f r:aa}{v v':J->aa}(h:Mid c f r v){o:J}(a:ej o)(av:∀ j,j<o\/o+10<=j->v' j=v j)(au:mL c (λq=>v' (o+q))):Mid c f r v':=by
 have i:4<=o/\o+10<=24:=by unfold ej at a;omega
 refine⟨λd b=>?_,λk hk=>(h.pc k hk).congr λq g=>av _ (.inr U),?_,?_,?_,?_⟩
 .by_cases e:d=o
  .subst e;exact au
  exact(h.pl d b).congr λq g=>av _ (by unfold ej at a b;omega)
 .rw[av 0 (.inl U)];exact h.f0
 .rw[av 1 (.inl U)];exact h.f1
 .rw[av 2 (.inl U)];exact h.f2
 rw[av 3 (.inl U)];exact h.f3
def Mid.y8{c f r:aa}{v v':J->aa}(h:Mid c f r v){k:J}(hk:k<6)(av:∀ j,j<24+k*6\/24+k*6+6<=j->v' j=v j)(au:ti (λq=>v' (24+k*6+q))):Mid c f r v':=by
 refine⟨λg a=>(h.pl g a).congr λq d=>av _ (.inl (by unfold ej at a;omega)),λj b=>?_,?_,?_,?_,?_⟩
 .by_cases e:j=k
  .subst e;exact au
  exact(h.pc j b).congr λq d=>av _ U
 .rw[av 0 (.inl U)];exact h.f0
 .rw[av 1 (.inl U)];exact h.f1
 .rw[av 2 (.inl U)];exact h.f2
 rw[av 3 (.inl U)];exact h.f3
def ov(v:J->aa)(o a q:J)(x:aa):bF v (o+a) x (o+q)=if q=a then x else v (o+q):=by
 unfold bF;by_cases h:q=a
 .rw[aD h,aD U]
 rw[az h,az U]
def Yx(v:J->aa)(o q:J)(x:aa):bF v o x (o+q)=if q=0 then x else v (o+q):=ov v o 0 q x
def qg(v:J->aa)(o:J)(x:aa):bF v o x o=x:=aD rfl
def cX(v:J->aa)(o j:J)(x:aa)(h:j≠o):bF v o x j=v j:=az h
def mx(o n:J)(f v:J->aa)(q:J)(h:q<n):dy o n f v (o+q)=f q:=by
 unfold dy;rw[aD U,show o+q-o=q by omega]
def nj(o n:J)(f v:J->aa)(j:J)(h:j<o\/o+n<=j):dy o n f v j=v j:=az U
structure iW(o:J)(v v':J->aa):ak where
 same:∀ j,j≠o+2->j≠o+3->j≠o+4->j≠o+6->j≠o+7->v' j=v j
 aC:bj (v' (o+2))
 bm:bj (v' (o+3))
 co:0<=v' (o+6)/\v' (o+6)<=8
 e1:0<=v' (o+7)/\v' (o+7)<=20
def iW.C5{o:J}{v v':J->aa}(h:iW o v v'){x y:aa}(e:bj x)(f:bj y):iW o v (qh o x y v')/\qh o x y v' (o+4)=v' (o+4):=by
 unfold qh;refine⟨⟨λj h2 a b c d=>?_,?_,?_,?_,?_⟩,?_⟩
 .rw[cX _ _ _ _ a,cX _ _ _ _ h2];exact h.same j h2 a b c d
 all_goals simp only[ov]
 .exact e
 .exact f
 .exact h.co
 .exact h.e1
 rfl
def iW.tB{o:J}{v v':J->aa}(h:iW o v v')(x:aa):iW o v (bF v' (o+4) x):=by
 refine⟨λj h2 b a c d=>?_,?_,?_,?_,?_⟩
 .rw[cX _ _ _ _ a];exact h.same j h2 b a c d
 all_goals simp only[ov]
 .exact h.aC
 .exact h.bm
 .exact h.co
 exact h.e1
def iW.K5{o:J}{v v':J->aa}(h:iW o v v'):iW o v (bF v' (o+7) 20)/\bF v' (o+7) 20 (o+4)=v' (o+4):=by
 refine⟨⟨λj h2 b c d a=>?_,?_,?_,?_,?_⟩,?_⟩
 .rw[cX _ _ _ _ a];exact h.same j h2 b c d a
 all_goals simp only[ov]
 .exact h.aC
 .exact h.bm
 .exact h.co
 .show(0:aa)<=20/\(20:aa)<=20;decide
 rfl
def iW.goes{o:J}{v v':J->aa}(h:iW o v v')(l:aa):iW o v (h7 o l v')/\h7 o l v' (o+4)=v' (o+4):=h.C5 (oS _ _) (oS _ _)
def Ku{c:aa}{v:J->aa}{o:J}(h:mL c (λq=>v (o+q)))(i:J)(p:o=4+i*10)(bS fr:aa)(xs:ah aB):iW o v (hS i bS fr (v,xs)).1/\0<=(hS i bS fr (v,xs)).1 (o+4)/\(hS i bS fr (v,xs)).1 (o+4)<=65535:=by
 have m:iW o v (qO o v):=by
  have a:=h.co;have g:=h.e1;refine⟨λj h2 k d a g=>?_,?_,?_,?_,?_⟩
  .unfold qO;rw[cX _ _ _ _ g,cX _ _ _ _ a]
  all_goals unfold qO;simp only[ov]
  .exact h.bU
  .exact h.gk
  .show 0<=max (v (o+6)-1) 0/\max (v (o+6)-1) 0<=8;omega
  show 0<=max (v (o+7)-1) 0/\max (v (o+7)-1) 0<=20;omega
 have h1:∀ n b l,iW o v l->iW o v (lC o n b l):=λn b l h1=>by
  cases b
  .exact h1
  exact h1.tB _
 have h2:=h1 1024 (ed bS 2) _ (h1 (-1024) (ed bS 1) _ m);generalize r:lC o 1024 (ed bS 2) (lC o (-1024) (ed bS 1) (qO o v))=v2 at *;have k:iW o v (oe o v2):=h2.tB _;have f3:0<=oe o v2 (o+4)/\oe o v2 (o+4)<=65535:=by
  unfold oe;rw[qg];omega
 have d:iW o v (jt o bS v)/\(0<=jt o bS v (o+4)/\jt o bS v (o+4)<=65535):=by
  unfold jt;rw[r];cases ed bS 8
  .exact⟨k,f3⟩
  have d:=k.C5 (lJ (oe o v2 (o+2)) 32768) (lJ (oe o v2 (o+3)) 32768);exact⟨d.1,by rw[show rR o true (oe o v2) (o+4)=_ from d.2];exact f3⟩
 have f:iW o v (kD i o fr (ed bS 4) (jt o bS v,xs)).1/\(0<=(kD i o fr (ed bS 4) (jt o bS v,xs)).1 (o+4)/\(kD i o fr (ed bS 4) (jt o bS v,xs)).1 (o+4)<=65535):=by
  cases ed bS 4
  .exact d
  have f:=d.1.goes 8192;exact⟨f.1,by show 0<=h7 o 8192 (jt o bS v) (o+4)/\h7 o 8192 (jt o bS v) (o+4)<=65535;rw[f.2];exact d.2⟩
 unfold hS;simp only[<-p];generalize kD i o fr (ed bS 4) (jt o bS v,xs)=t at *;have a:iW o v (nV i o fr (ed bS 32) t).1/\(0<=(nV i o fr (ed bS 32) t).1 (o+4)/\(nV i o fr (ed bS 32) t).1 (o+4)<=65535):=by
  unfold nV;split
  .have a:=f.1.goes 65536;exact⟨a.1.K5.1,by show 0<=bF (h7 o 65536 t.1) (o+7) 20 (o+4)/\bF (h7 o 65536 t.1) (o+7) 20 (o+4)<=65535;rw[a.1.K5.2,a.2];exact f.2⟩
  exact f
 generalize nV i o fr (ed bS 32) t=e at *;have g:=a.1.C5 (y_ (e.1 (o+2)) (e.1 (o+3)) 61440 131072).1 (y_ (e.1 (o+2)) (e.1 (o+3)) 61440 131072).2;exact⟨g.1,by show 0<=y9 o e.1 (o+4)/\y9 o e.1 (o+4)<=65535;rw[show y9 o e.1 (o+4)=_ from g.2];exact a.2⟩
def IC{c f r:aa}{v:J->aa}(h:Mid c f r v)(i:J)(aw:i<2)(bS fr:aa)(xs:ah aB):Mid c f r (hS i bS fr (v,xs)).1:=by
 have a:=lG i aw;have au:=h.pl _ a;obtain⟨h1,h2⟩:=Ku au i rfl bS fr xs;generalize (hS i bS fr (v,xs)).1=v' at *;generalize 4+i*10=o at *;refine h.p6 a (λj b=>h1.same j U U U U U) ?_;have e:∀ q,q≠2->q≠3->q≠4->q≠6->q≠7->v' (o+q)=v (o+q):=λq _ _ _ _ _=>h1.same _ U U U U U;refine⟨?_,?_,h1.aC,h1.bm,h2,?_,h1.co,h1.e1,?_,?_,?_⟩
 .show _<=v' (o+0)/\v' (o+0)<=_;rw[e 0 U U U U U];exact au.x
 .show _<=v' (o+1)/\v' (o+1)<=_;rw[e 1 U U U U U];exact au.y
 .show _<=v' (o+5)/\v' (o+5)<=_;rw[e 5 U U U U U];exact au.au
 .show _<=v' (o+8)/\v' (o+8)<=_;rw[e 8 U U U U U];exact au.eW
 .show _<=v' (o+9)/\v' (o+9)<=_;rw[e 9 U U U U U];exact au.dc
 show 0<v' (o+5)↔v' (o+8)=0;rw[e 5 U U U U U,e 8 U U U U U];exact au.up
def K0(p v bl aw jG hx:aa)(h:bl<=aw):bl<=(hT p v bl aw jG hx).1/\(hT p v bl aw jG hx).1<=aw:=by
 unfold hT;dsimp only;split
 .exact⟨jw _,h⟩
 split
 .exact⟨h,jw _⟩
 exact⟨U,U⟩
def Iz{c f r:aa}{v:J->aa}(h:Mid c f r v)(i:J)(aw:i<2)(fr:aa)(xs:ah aB):Mid c f r (mY i fr (v,xs)).1:=by
 have a:=lG i aw;have au:=h.pl _ a;show Mid c f r (r6 (4+i*10) v);generalize 4+i*10=o at *;have b:=K0 (v o) (v (o+2)) (-3932160) 3932160 1 2 U;have d:=(zf (v o) (v (o+2)) (-3932160) 3932160 1 2 au.bU f_ f_).2;have e:=K0 (v (o+1)) (v (o+3)) (-3932160) 3932160 4 8 U;have g:=(zf (v (o+1)) (v (o+3)) (-3932160) 3932160 4 8 au.gk f_ f_).2;unfold r6;change _<=(mn o v).1/\(mn o v).1<=_ at b;change bj (mn o v).2.1 at d;change _<=(mo o v).1/\(mo o v).1<=_ at e;change bj (mo o v).2.1 at g;generalize mn o v=X at *;generalize mo o v=Y at *;refine h.p6 a (λj k=>by rw[cX _ _ _ _ U,cX _ _ _ _ U,cX _ _ _ _ U,cX _ _ _ _ U]) ?_;constructor<;>simp only[ov,Yx]
 .exact b
 .exact e
 .exact d
 .exact g
 .exact au.gF
 .exact au.au
 .exact au.co
 .exact au.e1
 .exact au.eW
 .exact au.dc
 exact au.up
def Tu{c f r:aa}{v:J->aa}(h:Mid c f r v)(i:J)(aw:i<2)(hd:0<v (4+i*10+8))(fr:aa)(xs:ah aB):Mid c f r (nQ i fr (v,xs)).1:=by
 have d:=lG i aw;have au:=h.pl _ d;unfold nQ;generalize 4+i*10=o at *;dsimp only;have z:4<=o/\o+10<=24:=by unfold ej at d;omega
 have u:=au.eW;have A:=au.up;split
 .rename_i h1;refine h.p6 d (λj w=>cX _ _ _ _ U) ?_;constructor<;>simp only[ov]
  .exact au.x
  .exact au.y
  .exact au.bU
  .exact au.gk
  .exact au.gF
  .exact au.au
  .exact au.co
  .exact au.e1
  .show 0<=v (o+8)-1/\v (o+8)-1<=30;omega
  .exact au.dc
  show 0<v (o+5)↔v (o+8)-1=0;omega
 show Mid c f r (dy o 10 (nb (nU (nh v)) (oW (nh v)) 0 (v (o+9))) (bF (bF v (o+8) (v (o+8)-1)) 1 (iJ (v 1))));have s:-3932160<=nU (nh v)/\nU (nh v)<=3932160:=by unfold nU;split<;>omega
 have t:-3932160<=oW (nh v)/\oW (nh v)<=3932160:=by unfold oW;split<;>omega
 have ar:0<=iJ (v 1)/\iJ (v 1)<=4294967295:=by unfold iJ;omega
 have n:∀ j,j≠1->j≠o+8->bF (bF v (o+8) (v (o+8)-1)) 1 (iJ (v 1)) j=v j:=λj h1 h2=>by rw[cX _ _ _ _ h1,cX _ _ _ _ h2]
 have p:bF (bF v (o+8) (v (o+8)-1)) 1 (iJ (v 1)) 1=iJ (v 1):=qg _ _ _;generalize bF (bF v (o+8) (v (o+8)-1)) 1 (iJ (v 1))=m at *;generalize nU (nh v)=X at *;generalize oW (nh v)=Y at *;have aj:∀ j,j≠1->(j<o\/o+10<=j)->dy o 10 (nb X Y 0 (v (o+9))) m j=v j:=λj h1 h2=>by rw[nj _ _ _ _ _ h2,n j h1 U]
 refine⟨λb g=>?_,λk hk=>(h.pc k hk).congr λq l=>aj _ U U,?_,?_,?_,?_⟩
 .by_cases e:b=o
  .subst e;have a:∀ q,q<10->dy b 10 (nb X Y 0 (v (b+9))) m (b+q)=nb X Y 0 (v (b+9)) q:=λq l=>mx _ _ _ _ _ l;constructor
   .rw[a 0 U];exact s
   .rw[a 1 U];exact t
   .rw[a 2 U];show bj 0;unfold bj;omega
   .rw[a 3 U];show bj 0;unfold bj;omega
   .rw[a 4 U];show(0:aa)<=0/\(0:aa)<=65535;omega
   .rw[a 5 U];show(0:aa)<=3/\(3:aa)<=3;omega
   .rw[a 6 U];show(0:aa)<=0/\(0:aa)<=8;omega
   .rw[a 7 U];show(0:aa)<=0/\(0:aa)<=20;omega
   .rw[a 8 U];show(0:aa)<=0/\(0:aa)<=30;omega
   .rw[a 9 U];exact au.dc
   rw[a 5 U,a 8 U];show(0:aa)<3↔(0:aa)=0;omega
  exact(h.pl b g).congr λq l=>aj _ (by unfold ej at g;omega) (by unfold ej at d g;omega)
 .rw[aj 0 U U];exact h.f0
 .rw[nj _ _ _ _ _ U,p];exact ar
 .rw[aj 2 U U];exact h.f2
 rw[aj 3 U U];exact h.f3
def Kj(a:aa):-65536<=nn a/\nn a<=65536:=by
 unfold nn;dsimp only;have b:0<=a%65536%32768/\a%65536%32768<32768:=U;generalize a%65536%32768=x at *;have au:=Kk b.1 b.2;generalize x*(32768-x)=p at *;have hd:(0:aa)<5368709120-4*p:=U;have h1:(p*1048576).tdiv (5368709120-4*p)<=65536:=by
  rw[Int.tdiv_eq_ediv_of_nonneg U]
  have:=Int.ediv_le_ediv hd (show p*1048576<=65536*(5368709120-4*p)by omega)
  rwa [Int.mul_ediv_cancel _ U]at this
 have h2:0<=(p*1048576).tdiv (5368709120-4*p):=Int.tdiv_nonneg U U;generalize (p*1048576).tdiv (5368709120-4*p)=n at *;unfold tY ia;split<;>omega
def RU(f:aa):(-262144<=hN f 262144/\hN f 262144<=262144)/\(-262144<=hO f 262144/\hO f 262144<=262144):=by
 have h1:=Kj f;have h2:=Kj (f%65536+16384);unfold hN hO rT eh ia;omega
theorem A6(v:J->aa):∀ n k j,oY v k n=some j->k<=j/\j<k+n
 | 0,_,_,h=>by cases h
 | n+1,k,j,h=>by
  unfold oY at h;split at h
  .cases h;omega
  have:=A6 v n (k+1) j h;omega
def Tw{c f r:aa}{v:J->aa}(h:Mid c f r v)(i:J)(aw:i<2)(fr:aa)(xs:ah aB):Mid c f r (nZ i fr (v,xs)).1:=by
 have b:=lG i aw;have au:=h.pl _ b;unfold nZ;generalize 4+i*10=o at *;dsimp only;split
 .exact h
 split
 .exact h
 rename_i k hk;have l:=A6 _ _ _ _ hk;have g:=au.x;have m:=au.y;have aJ:=RU (v (o+4));have s1:-4194304<=dj (v o) (hN (v (o+4)) 262144)/\dj (v o) (hN (v (o+4)) 262144)<=4194304:=by
  change _<=v o/\v o<=_ at g;unfold dj ia;omega
 have s2:-4194304<=dj (v (o+1)) (hO (v (o+4)) 262144)/\dj (v (o+1)) (hO (v (o+4)) 262144)<=4194304:=by
  unfold dj ia;omega
 have gS:=lJ (rT (v (o+4))) 196608;have e:=lJ (nn (v (o+4))) 196608;change bj (hN (v (o+4)) 196608)at gS;change bj (hO (v (o+4)) 196608)at e;generalize dj (v o) (hN (v (o+4)) 262144)=X at *;generalize dj (v (o+1)) (hO (v (o+4)) 262144)=Y at *;generalize hN (v (o+4)) 196608=W at *;generalize hO (v (o+4)) 196608=Z at *
 have h1:Mid c f r (dy (24+k*6) 6 (rb X Y W Z (i+1) 40) v):=h.y8 (k:=k) U (λj d=>nj _ _ _ _ _ d) (.inr (by
  simp only[mx _ _ _ _ 0 (show 0<6 by omega),mx _ _ _ _ 1 (show 1<6 by omega),mx _ _ _ _ 2 (show 2<6 by omega),mx _ _ _ _ 3 (show 3<6 by omega),mx _ _ _ _ 4 (show 4<6 by omega),mx _ _ _ _ 5 (show 5<6 by omega)];refine⟨s1,s2,gS,e,?_,?_⟩
  .show 1<=(i:aa)+1/\(i:aa)+1<=2;omega
  .show(1:aa)<=40/\(40:aa)<=40;omega))
 have a:=h1.pl _ b;generalize dy (24+k*6) 6 (rb X Y W Z (i+1) 40) v=n at *;refine h1.p6 b (λj d=>cX _ _ _ _ U) ?_;constructor<;>simp only[ov]
 .exact a.x
 .exact a.y
 .exact a.bU
 .exact a.gk
 .exact a.gF
 .exact a.au
 .show(0:aa)<=8/\(8:aa)<=8;omega
 .exact a.e1
 .exact a.eW
 .exact a.dc
 exact a.up
def tW{c f r:aa}{v:J->aa}(h:Mid c f r v)(i:J)(aw:i<2)(bS fr:aa)(xs:ah aB):Mid c f r (h' i bS fr (v,xs)).1:=by
 unfold h';split
 .exact Tu h i aw ‹_› fr xs
 split
 .exact Tw (Iz (IC h i aw bS fr xs) i aw fr _) i aw fr _
 exact Iz (IC h i aw bS fr xs) i aw fr _
def BO{c f r:aa}{v:J->aa}(h:Mid c f r v)(fr:aa)(xs:ah aB):Mid c f r (iY fr (v,xs)).1:=by
 unfold iY;split
 .exact h
 have a:=h.pl 4 (.inl rfl);have b:=h.pl 14 (.inr rfl);show Mid c f r (bF (bF (bF (bF v 6 (v 16)) 7 (v 17)) 16 (v 6)) 17 (v 7));have h1:Mid c f r (bF (bF v 6 (v 16)) 7 (v 17)):=h.p6 (.inl rfl) (λj d=>Ef) ⟨a.x,a.y,b.bU,b.gk,a.gF,a.au,a.co,a.e1,a.eW,a.dc,a.up⟩;exact h1.p6 (.inr rfl) (λj d=>Ef) ⟨b.x,b.y,a.bU,a.gk,b.gF,b.au,b.co,b.e1,b.eW,b.dc,b.up⟩
def Ty{c f r:aa}{v:J->aa}(h:Mid c f r v)(i:J)(aw:i<2)(hd:v (4+i*10+8)=0)(fr:aa)(xs:ah aB):Mid (c+1) f r (mh i fr (v,xs)).1:=by
 have b:=lG i aw;have d:=lG (1-i) U;have au:=h.pl _ b;have m:=au.up;have k:=au.au;unfold mh;generalize 4+i*10=o at *;generalize 4+(1-i)*10=g at *;dsimp only;split
 .refine(h.p6 b (λj e=>cX _ _ _ _ U) ?_).mono U;constructor<;>simp only[ov]
  .exact au.x
  .exact au.y
  .exact au.bU
  .exact au.gk
  .exact au.gF
  .show 0<=v (o+5)-1/\v (o+5)-1<=3;omega
  .exact au.co
  .exact au.e1
  .exact au.eW
  .exact au.dc
  show 0<v (o+5)-1↔v (o+8)=0;omega
 have h1:Mid c f r (bF (bF v (o+5) (v (o+5)-1)) (o+8) 30):=by
  refine h.p6 b (λj e=>Ef) ?_;constructor<;>simp only[ov]
  .exact au.x
  .exact au.y
  .exact au.bU
  .exact au.gk
  .exact au.gF
  .show 0<=v (o+5)-1/\v (o+5)-1<=3;omega
  .exact au.co
  .exact au.e1
  .show(0:aa)<=30/\(30:aa)<=30;omega
  .exact au.dc
  show 0<v (o+5)-1↔(30:aa)=0;omega
 generalize bF (bF v (o+5) (v (o+5)-1)) (o+8) 30=n at *;have a:=h1.pl _ d;have l:=(h.pl _ d).dc;refine(h1.mono (show c<=c+1 by omega)).p6 d (λj e=>cX _ _ _ _ U) ?_;constructor<;>simp only[ov]
 .exact a.x
 .exact a.y
 .exact a.bU
 .exact a.gk
 .exact a.gF
 .exact a.au
 .exact a.co
 .exact a.e1
 .exact a.eW
 .show 0<=v (g+9)+1/\v (g+9)+1<=c+1;omega
 exact a.up
def Bm(u:J)(v:J->aa):fS u v u=dj (v u) (v (u+2))/\fS u v (u+1)=dj (v (u+1)) (v (u+3))/\fS u v (u+5)=v (u+5)-1/\∀ j,j≠u->j≠u+1->j≠u+5->fS u v j=v j:=by
 unfold fS;refine⟨by rw[cX _ _ _ _ U,qg],qg _ _ _,by rw[cX _ _ _ _ U,cX _ _ _ _ U,qg],λj h1 h2 a=>by rw[cX _ _ _ _ h2,cX _ _ _ _ h1,cX _ _ _ _ a]⟩
def Tx{c f r:aa}{v:J->aa}(h:Mid c f r v)(k:J)(hk:k<6)(ar:v (24+k*6+4)≠0)(fr:aa)(xs:ah aB):((i_ k fr (v,xs)).1=true->Mid c f r (i_ k fr (v,xs)).2.1)/\Mid (c+1) f r (dy (24+k*6) 6 (λ_=>0) (i_ k fr (v,xs)).2.1):=by
 have g:(-4194304<=v (24+k*6+0)/\v (24+k*6+0)<=4194304)/\(-4194304<=v (24+k*6+1)/\v (24+k*6+1)<=4194304)/\bj (v (24+k*6+2))/\bj (v (24+k*6+3))/\(1<=v (24+k*6+4)/\v (24+k*6+4)<=2)/\(1<=v (24+k*6+5)/\v (24+k*6+5)<=40):=(h.pc k hk).resolve_left λm=>ar (m 4 U)
 have d:∀ v':J->aa,(∀ j,j<24+k*6\/24+k*6+6<=j->v' j=v j)->Mid (c+1) f r (dy (24+k*6) 6 (λ_=>0) v'):=λv' o=>
  (h.mono U).y8 hk (λj a=>by rw[nj _ _ _ _ _ a,o j a]) (.inl λq e=>mx _ _ _ _ q e)
 unfold i_;generalize hu:24+k*6=u at *;dsimp only;have aZ:=Bm u v;split
 .exact⟨(λh=>Bool.noConfusion h),d _ (λj a=>cX _ _ _ _ U)⟩
 rename_i h1;split
 .exact⟨(λh=>Bool.noConfusion h),d _ (λj a=>aZ.2.2.2 j U U U)⟩
 rename_i h2;have b:iF (-4194304) (-4194304) 4194304 4194304 (fS u v u) (fS u v (u+1))=true:=by simpa using h2
 simp only[iF,d',fZ]at b;have p:=aZ.2.2.2 (u+3) U U U;have s:=aZ.2.2.2 (u+4) U U U;have n:=aZ.2.2.1;have l:Mid c f r (fS u v):=by
  refine h.y8 hk (by rw[hu];exact λj a=>aZ.2.2.2 j U U U) (.inr ?_);rw[hu];show(_<=fS u v u/\fS u v u<=_)/\(_<=fS u v (u+1)/\fS u v (u+1)<=_)/\bj (fS u v (u+2))/\bj (fS u v (u+3))/\(1<=fS u v (u+4)/\fS u v (u+4)<=2)/\1<=fS u v (u+5)/\fS u v (u+5)<=40;rw[(aZ.2.2.2 (u+2) U U U),p,s,n];refine⟨⟨b.1.1.1,b.1.1.2⟩,⟨b.1.2,b.2⟩,g.2.2.1,g.2.2.2.1,g.2.2.2.2.1,U⟩
 split
 .rename_i i;refine⟨(λh=>Bool.noConfusion h),?_⟩;have t:(2-v (u+4)).toNat<2:=U;have hd:fS u v (4+(2-v (u+4)).toNat*10+8)=0:=by
   simp only[HL,d',fZ]at i;exact i.1
  exact(Ty l (2-v (u+4)).toNat t hd fr xs).y8 hk (by rw[hu];exact λj a=>nj _ _ _ _ _ a) (.inl (by rw[hu];exact λq e=>mx _ _ _ _ q e))
 refine⟨λ_=>l,d _ (λj a=>aZ.2.2.2 j U U U)⟩
def TA{c f r:aa}{v:J->aa}(h:Mid c f r v)(k:J)(hk:k<6)(fr:aa)(xs:ah aB):Mid (c+1) f r (qd k fr (v,xs)).1:=by
 unfold qd;split
 .exact h.mono U
 have a:=Tx h k hk ‹_› fr xs;split
 .exact(a.1 ‹_›).mono U
 exact a.2
theorem yA{c f r:aa}{s:(J->aa)×ah aB}(h:Mid c f r s.1)(fr:aa):∀ k:J,k<=6->Mid (c+k) f r (iP fr s k).1
 | 0,_=>by show Mid (c+0) f r s.1;rwa [Int.add_zero]
 | k+1,hk=>by
  rw[show c+((k+1:J):aa)=c+k+1 by omega];exact(TA (yA h fr k U) k U fr (iP fr s k).2)
def G4(c:aa)(al:0<=c)(o:J)(a:ej o):mL c (λq=>mP (o-4+q)):=by
 rcases a with rfl|rfl
 all_goals
  constructor
  all_goals first|(show bj 0;unfold bj;omega)|(refine⟨bq,?_⟩;first|exact al|decide)|(exact⟨λ_=>bq,λ_=>bq⟩)|decide
def IA{c f r:aa}{v:J->aa}(h:Mid c f r v)(fr:aa)(xs:ah aB):∃ r',Mid 2 f r' (j_ fr (v,xs)).1/\r<=r'/\r'<=r+1:=by
 unfold j_;split
 .rename_i a;simp only[BZ,d',fZ]at a;have i:=h.f3;show ∃ r',Mid 2 f r' (bF v 3 (v 3-1))/\r<=r'/\r'<=r+1;refine⟨r,⟨λo au=>?_,λk hk=>(h.pc k hk).congr λq b=>cX _ _ _ _ U,?_,?_,?_,?_⟩,U,U⟩
  .have h1:=h.pl o au;have l:v (o+9)<3:=by rcases au with rfl|rfl;exact a.2.1;exact a.2.2
   have d:mL 2 (λq=>v (o+q)):={h1 with dc:=⟨h1.dc.1,by show v (o+9)<=2;omega⟩};exact d.congr λq b=>cX _ _ _ _ z6
  .rw[cX _ _ _ _ U];exact h.f0
  .rw[cX _ _ _ _ U];exact h.f1
  .rw[cX _ _ _ _ U];exact h.f2
  rw[qg];omega
 show ∃ r',Mid 2 f r' (dy 24 36 (λ_=>0) (dy 4 20 mP (bF (bF (bF v 3 (v 3-1)) 2 (v 2+1)) 3 600)))/\r<=r'/\r'<=r+1;have e:∀ j,j<4->dy 24 36 (λ_=>0) (dy 4 20 mP (bF (bF (bF v 3 (v 3-1)) 2 (v 2+1)) 3 600)) j=bF (bF (bF v 3 (v 3-1)) 2 (v 2+1)) 3 600 j:=λj m=>by rw[nj _ _ _ _ _ U,nj _ _ _ _ _ U]
 have g:bF (bF (bF v 3 (v 3-1)) 2 (v 2+1)) 3 600 2=v 2+1:=by rw[cX _ _ _ _ U,qg]
 refine⟨r+1,⟨λo au=>?_,λk hk=>.inl λq b=>?_,?_,?_,?_,?_⟩,U,U⟩
 .refine(G4 2 U o au).congr λq b=>?_;rw[nj _ _ _ _ _ z6,show o+q=4+(o-4+q)by unfold ej at au;omega,mx _ _ _ _ _ z6]
 .show dy 24 36 (λ_=>0) (dy 4 20 mP (bF (bF (bF v 3 (v 3-1)) 2 (v 2+1)) 3 600)) (24+k*6+q)=0;rw[show 24+k*6+q=24+(k*6+q)by omega,mx _ _ _ _ _ U]
 .rw[e 0 U,cX _ _ _ _ U,cX _ _ _ _ U,cX _ _ _ _ U];exact h.f0
 .rw[e 1 U,cX _ _ _ _ U,cX _ _ _ _ U,cX _ _ _ _ U];exact h.f1
 .rw[e 2 U,g,h.f2]
 rw[e 3 U,qg];omega
def IB{f r:aa}{v:J->aa}(h:Mid 2 f r v)(g:0<=f/\f<=1073741824)(t:0<=r/\r<=1073741824):k' v=true:=by
 have k:∀ o,ej o->na v o=true:=λo s=>by
  have p:=h.pl o s;have i:=p.x;have l:=p.y;have g:=p.gF;have aJ:=p.au;have al:=p.co;have w:=p.e1;have hd:=p.eW;have av:=p.dc;have u:=p.up;rw[show o+0=o from rfl]at i;have m:(decide (v (o+5)>0) == decide (v (o+8)=0))=true:=by
   rw[nH,decide_eq_decide];exact u
  unfold na sa iF gP;rw[m];simp only[d',fZ];exact⟨g,aJ,al,w,hd,av,⟨⟨⟨i.1,i.2⟩,l.1⟩,l.2⟩,trivial⟩
 have an:∀ j,j<6->pd v j=true:=λj n=>by
  unfold pd;rw[show 24+6*j=24+j*6+0 by omega,show 25+6*j=24+j*6+1 by omega,show 26+6*j=24+j*6+2 by omega,show 27+6*j=24+j*6+3 by omega,show 28+6*j=24+j*6+4 by omega,show 29+6*j=24+j*6+5 by omega];unfold uv;rcases h.pc j n with c|⟨a,b,_,_,d,e⟩
  .replace c:∀ q,q<6->v (24+j*6+q)=0:=c;rw[c 0 U,c 1 U,c 2 U,c 3 U,c 4 U,c 5 U];rfl
  rw[uH];right;simp only[gP,iF,d',fZ];exact⟨d,e,⟨⟨⟨a.1,a.2⟩,b.1⟩,b.2⟩⟩
 unfold k';rw[k 4 (.inl rfl),k 14 (.inr rfl)];simp only[pf,an 0 U,an 1 U,an 2 U,an 3 U,an 4 U,an 5 U,gP,d',fZ,sL];rw[h.f0,h.f2];exact⟨g,t,h.f3⟩
def mid_step{f r:aa}{v:J->aa}(h:Mid 2 f r v)(a b:aa):∃ r',Mid 2 (f+1) r' (ix a b v)/\r<=r'/\r'<=r+1:=by
 have e:Mid 2 f r (h' 1 b (v 0) (h' 0 a (v 0) (v,[]))).1:=tW (tW h 0 U a (v 0) []) 1 U b (v 0) _;have g:Mid 2 f r (iY (v 0) (h' 1 b (v 0) (h' 0 a (v 0) (v,[])))).1:=BO e (v 0) _;have⟨r',c,h1,h2⟩:=IA (yA g (v 0) 6 bs) (v 0) (iP (v 0) (iY (v 0) (h' 1 b (v 0) (h' 0 a (v 0) (v,[])))) 6).2;unfold ix;refine⟨r',⟨λo au=>(c.pl o au).congr λq d=>cX _ _ _ _ z6,λk hk=>(c.pc k hk).congr λq d=>cX _ _ _ _ U,?_,?_,?_,?_⟩,h1,h2⟩
 .rw[qg,h.f0]
 .rw[cX _ _ _ _ U];exact c.f1
 .rw[cX _ _ _ _ U];exact c.f2
 rw[cX _ _ _ _ U];exact c.f3
def Mid.lim{c f r:aa}{v:J->aa}(h:Mid c f r v)(K:0<=f/\f<=1073741824)(M:0<=r/\r<=1073741824):dY c 0 0 v:=λj L=>by
 have B:(if j=0 then(0:aa)else 0)=0:=by split<;>rfl
 rw[B];have z:∀ o,ej o->∀ q,q<10->kt 0 (o+q)<=v (o+q)/\v (o+q)<=jO c 0 (o+q):=λo l q a=>by
  have p:=h.pl o l;have m:=p.x;have n:=p.y;have d:=p.bU;have e:=p.gk;have s:=p.gF;have t:=p.au;have D:=p.co;have E:=p.e1;have F:=p.eW;have A:=p.dc;rw[(ks l c 0 q a).1,(ks l c 0 q a).2]
  match q,a with
  | 0,_=>show -2147483648<=v (o+0)/\v (o+0)<=2147483647;omega
  | 1,_=>show -2147483648<=v (o+1)/\v (o+1)<=2147483647;omega
  | 2,_=>exact d
  | 3,_=>exact e
  | 4,_=>show -0<=v (o+4)/\v (o+4)<=65535+0;omega
  | 5,_=>show -100<=v (o+5)/\v (o+5)<=1000;omega
  | 6,_=>show 0<=v (o+6)/\v (o+6)<=1000;omega
  | 7,_=>show 0<=v (o+7)/\v (o+7)<=1000;omega
  | 8,_=>show 0<=v (o+8)/\v (o+8)<=1000;omega
  | 9,_=>exact A
 by_cases b:j<4
 .have k:=h.f0;have h1:=h.f1;have h2:=h.f2;have H:=h.f3;have g:kt 0 j=0:=aD b;have i:jO c 0 j=4294967295:=by
   unfold jO;by_cases h:j=1
   .exact aD h
   rw[az h];exact aD b
  rw[g,i]
  match j,b with
  | 0,_=>omega
  | 1,_=>omega
  | 2,_=>omega
  | 3,_=>omega
 by_cases G:j<14
 .have:=z 4 (.inl rfl) (j-4) U
  rwa [show 4+(j-4)=j by omega]at this
 by_cases w:j<24
 .have:=z 14 (.inr rfl) (j-14) U
  rwa [show 14+(j-14)=j by omega]at this
 have av:=h.pc ((j-24) / 6) U;have a:(j-24)%6<6:=e2 _ bq;have C:24+(j-24) / 6*6+(j-24)%6=j:=by have:=pr (j-24) 6;omega
 have aj:(-2147483648<=v j/\v j<=2147483647)/\((j-24)%6<4\/(0<=v j/\v j<=1000)):=by
  generalize (j-24)%6=q at *;generalize 24+(j-24) / 6*6=u at *;subst C;rcases av with k|⟨m,n,d,e,s,t⟩
  .replace k:v (u+q)=0:=k q a;omega
  unfold bj at d e
  match q,a with
  | 0,_=>change _<=v (u+0)/\v (u+0)<=_ at m;omega
  | 1,_=>change _<=v (u+1)/\v (u+1)<=_ at n;omega
  | 2,_=>change _<=v (u+2)/\v (u+2)<=_ at d;omega
  | 3,_=>change _<=v (u+3)/\v (u+3)<=_ at e;omega
  | 4,_=>change _<=v (u+4)/\v (u+4)<=_ at s;omega
  | 5,_=>change _<=v (u+5)/\v (u+5)<=_ at t;omega
 have g:kt 0 j=if (j-24)%6<4 then -2147483648 else 0:=by unfold kt;rw[az b,az w]
 have i:jO c 0 j=if (j-24)%6<4 then 2147483647 else 1000:=by unfold jO;rw[az U,az b,az w]
 rw[g,i];split<;>omega
def Tv(aG:aa)(av:0<=aG/\aG<=4294967295):Mid 2 0 0 (lg aG 0):=by
 refine⟨λo a=>(G4 2 U o a).congr λq b=>?_,λk hk=>.inl λq b=>?_,rfl,av,rfl,by show(1:aa)<=600-((0:J):aa)/\(600:aa)-((0:J):aa)<=600;omega⟩
 .rcases a with rfl|rfl
  all_goals
   match q,b with
   | 0,_=>rfl
   | 1,_=>rfl
   | 2,_=>rfl
   | 3,_=>rfl
   | 4,_=>rfl
   | 5,_=>rfl
   | 6,_=>rfl
   | 7,_=>rfl
   | 8,_=>rfl
   | 9,_=>rfl
 show lg aG 0 (24+k*6+q)=0;unfold lg;rw[az U,az U,az U,az U,az U,az U,az U,az U]
end Go.Proofs.YtalagblioepadaaGreatDoor
