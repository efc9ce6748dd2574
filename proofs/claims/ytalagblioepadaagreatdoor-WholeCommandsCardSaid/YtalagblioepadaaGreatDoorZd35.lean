/- The proof, part 35. -/
import Derived.Test.YtalagblioepadaaGreatDoorZd34
namespace Go.Proofs.YtalagblioepadaaGreatDoor
set_option linter.all false
open Proofs.Tryz List Go.RowKit
set_option maxRecDepth 100000
set_option maxHeartbeats 1000000
def Ay{p:al}(h:p:=by unfold ey at au;omega):p:=h
def o1{p:al}(h:p:=by unfold ey at d;omega):p:=h
def EZ{p:al}(h:p:=by show 0<=_/\_<=1000;omega):p:=h
def EN{p:al}(h:p:=by rw[c4 _ _ _ _ U,c4 _ _ _ _ U]):p:=h
section
variable{w w':aj}{bo g bl:J}{v:J->aa}{fr:aa}{xs:ah aC}
def kK(d:aa)(j:J):aa:=if j<4 then 0 else if j<24 then(if (j-4)%10<4 then -2147483648 else if (j-4)%10=4 then -d else if (j-4)%10=5 then -100 else 0)else if (j-24)%6<4 then -2147483648 else 0
def j3(c d:aa)(j:J):aa:=if j=1 then 4294967295 else if j<4 then 4294967295 else if j<24 then(if (j-4)%10<4 then 2147483647 else if (j-4)%10=4 then 65535+d else if (j-4)%10=9 then c else 1000)else if (j-24)%6<4 then 2147483647 else 1000
def ef(c:aa)(k:J)(e:aa)(v:J->aa):al:=∀ j,j<60->kK (if j=k then e else 0) j<=v j/\v j<=j3 c (if j=k then e else 0) j
def ef.hC{c e:aa}{k:J}(h:ef c k e v)(i:J)(x:aa)(f:kK (if i=k then e else 0) i<=x/\x<=j3 c (if i=k then e else 0) i):ef c k e (bK v i x):=λj d=>by
 unfold bK;by_cases b:j=i
 .have a:(if j=i then x else v j)=x:=aE b;rw[a];subst b;exact f
 have a:(if j=i then x else v j)=v j:=aB b;rw[a];exact h j d
def ef.move{c:aa}{k:J}(h:ef c k 0 v)(i:J):ef c i 0 v:=λj a=>by simpa using h j a
def ey(o:J):al:=o=4\/o=14
def uc{o:J}(a:ey o)(q:J)(b:q<10):dA (o+q)=if q<4 then .i32 else .i64:=by
 rcases a with rfl|rfl
 .unfold dA;rw[aB U,aB U,aE U,show(4+q-4)%10=q by omega]
 unfold dA;rw[aB U,aB U,aE U,show(14+q-4)%10=q by omega]
def kJ{o:J}(a:ey o)(c d:aa)(q:J)(b:q<10):kK d (o+q)=(if q<4 then -2147483648 else if q=4 then -d else if q=5 then -100 else 0)/\j3 c d (o+q)=(if q<4 then 2147483647 else if q=4 then 65535+d else if q=9 then c else 1000):=by
 have h1:o+q<24/\4<=o+q:=by unfold ey at a;omega
 have h2:(o+q-4)%10=q:=by unfold ey at a;omega
 constructor
 .unfold kK;rw[aB U,aE U,h2]
 unfold j3;rw[aB U,aB U,aE U,h2]
def Cc(q:J):aa:=if q=5 then -100 else 0
def B4(c:aa)(q:J):aa:=if q=9 then c else 1000
def lX(i:J)(ax:i<2):ey (4+i*10):=by unfold ey;omega
def ef.fix{c e:aa}{k:J}(h:ef c k e v){o:J}(d:ey o)(q:J)(a:q<4):bm (v (o+q)):=by
 have h1:=h (o+q) o1;rw[(kJ d c _ q U).1,(kJ d c _ q U).2,aE a,aE a]at h1;exact h1
def ef.num{c e:aa}{k:J}(h:ef c k e v){o:J}(d:ey o)(q:J)(a:5<=q/\q<10):Cc q<=v (o+q)/\v (o+q)<=B4 c q:=by
 have h1:=h (o+q) o1;rw[(kJ d c _ q U).1,(kJ d c _ q U).2]at h1;simp only[aB (show ¬ q<4 by omega),aB (show ¬ q=4 by omega)]at h1;exact h1
def ef.g_{c e:aa}{o:J}(h:ef c (o+4) e v)(d:ey o):-e<=v (o+4)/\v (o+4)<=65535+e:=by
 have h1:=h (o+4) o1;rw[aE rfl,(kJ d c _ 4 U).1,(kJ d c _ 4 U).2]at h1;exact h1
def ef.eW{c e:aa}{o:J}(h:ef c (o+4) e v)(d:ey o)(a x:aa)(g:-a<=x/\x<=65535+a):ef c (o+4) a (bK v (o+4) x):=λj f=>by
 unfold bK;by_cases b:j=o+4
 .subst b;rw[aE rfl,aE rfl,(kJ d c _ 4 U).1,(kJ d c _ 4 U).2];exact g
 have h1:=h j f;rw[aB b]at h1⊢;rw[aB b];exact h1
structure SgI(w:aj)(bo g bl:J)(fr c:aa)(k:J)(e:aa)(v:J->aa)(xs:ah aC)(b2:aj):al where
 st:St b2 bo g bl v fr xs
 cu:Keeps (λj=>bo<=j) w b2
 lim:ef c k e v
namespace SgI
variable{b2 gz:aj}{c e:aa}{k:J}
theorem keep(h:SgI w bo g bl fr c k e v xs b2)(hk:Keeps aG b2 gz):SgI w bo g bl fr c k e v xs gz:=⟨h.st.keep hk,h.cu.trans (hk.mono λ_ _ e=>e.elim),h.lim⟩
def b9{ys:ah aC}(h:SgI w bo g bl fr c k e v xs b2)(a:St gz bo g bl v fr ys)(hk:Keeps (λj=>bo<=j) b2 gz):SgI w bo g bl fr c k e v ys gz:=⟨a,h.cu.trans hk,h.lim⟩
theorem hC(h:SgI w bo g bl fr c k e v xs b2)(i:J)(ax:i<60)(q:IntKind)(a:dA i=q)(x:aa)(b:kK (if i=k then e else 0) i<=x/\x<=j3 c (if i=k then e else 0) i):SgI w bo g bl fr c k e (bK v i x) xs (b2.setCell (ae g i ad) (.int q x)):=
 ⟨h.st.set i ax q a x,h.cu.setCell (p:=ae g i ad) h.st.pk _,h.lim.hC i x b⟩
def rK(h:SgI w bo g bl fr c k e v xs b2){o:J}(d:ey o)(q:J)(b:5<=q/\q<10)(x:aa)(a:Cc q<=x/\x<=B4 c q):SgI w bo g bl fr c k e (bK v (o+q) x) xs (b2.setCell (ae g (o+q) ad) (I x)):=by
 refine h.hC _ o1 _ (by rw[uc d q U,aB U]) x ?_;rw[(kJ d c _ q U).1,(kJ d c _ q U).2];simp only[aB (show ¬ q<4 by omega),aB (show ¬ q=4 by omega)];exact a
def kU(h:SgI w bo g bl fr c k e v xs b2){o:J}(d:ey o)(q:J)(a:q<4)(x:aa)(b:bm x):SgI w bo g bl fr c k e (bK v (o+q) x) xs (b2.setCell (ae g (o+q) ad) (ai x)):=by
 refine h.hC _ o1 _ (by rw[uc d q U,aE a]) x ?_;rw[(kJ d c _ q U).1,(kJ d c _ q U).2,aE a,aE a];exact b
theorem tQ{o:J}(h:SgI w bo g bl fr c (o+4) e v xs b2)(d:ey o)(a x:aa)(b:-a<=x/\x<=65535+a):SgI w bo g bl fr c (o+4) a (bK v (o+4) x) xs (b2.setCell (ae g (o+4) ad) (I x)):=
 ⟨h.st.set _ o1 _ (by rw[uc d 4 U,aB U]) x,h.cu.setCell (p:=ae g (o+4) ad) h.st.pk _,h.lim.eW d a x b⟩
theorem wide{o:J}(h:SgI w bo g bl fr c (o+4) e v xs b2)(b:ey o)(a:aa)(d:e<=a):SgI w bo g bl fr c (o+4) a v xs b2:=
 ⟨h.st,h.cu,by
  have h1:=h.lim.g_ b;have h2:=h.lim.eW b a (v (o+4)) U
  rwa [Zh]at h2⟩
theorem fW(h:SgI w bo g bl fr c k e v xs b2){o:J}(d:ey o)(q:J)(a:4<=q/\q<10):b2.cell? (ae g (o+q) ad)=some (I (v (o+q))):=
 h.st.cell _ o1 _ (by rw[uc d q U,aB U])
theorem eM(h:SgI w bo g bl fr c k e v xs b2){o:J}(d:ey o)(q:J)(a:q<4):b2.cell? (ae g (o+q) ad)=some (ai (v (o+q))):=
 h.st.cell _ o1 _ (by rw[uc d q U,aE a])
end SgI
def q6(o:J)(v:J->aa):J->aa:=bK (bK v (o+6) (max (v (o+6)-1) 0)) (o+7) (max (v (o+7)-1) 0)
def lU(o:J)(n:aa)(b:a1)(v:J->aa):J->aa:=if b then bK v (o+4) (v (o+4)+n)else v
def oF(o:J)(v:J->aa):J->aa:=bK v (o+4) (v (o+4)%65536)
def qA(o:J)(x y:aa)(v:J->aa):J->aa:=bK (bK v (o+2) x) (o+3) y
def r_(o:J)(b:a1)(v:J->aa):J->aa:=if b then qA o (eu (v (o+2)) 32768) (eu (v (o+3)) 32768) v else v
def ir(o:J)(l:aa)(v:J->aa):J->aa:=qA o (dt (v (o+2)) (h5 (v (o+4)) l)) (dt (v (o+3)) (h6 (v (o+4)) l)) v
def kT(i o:J)(fr:aa)(b:a1)(s:(J->aa)×ah aC):(J->aa)×ah aC:=
 if b then(ir o 8192 s.1,if ((ir o 8192 s.1 0).tmod 8 == 0)=true then ih fr s.2 (kk (i+1) 8 8 4096 1 8 (ir o 8192 s.1 o))else s.2)else s
def og(i o:J)(fr:aa)(b:a1)(s:(J->aa)×ah aC):(J->aa)×ah aC:=
 if b=true/\s.1 (o+7)=0 then(bK (ir o 65536 s.1) (o+7) 20,ih fr s.2 (kk (i+1) 9 9 8192 4 0 (bK (ir o 65536 s.1) (o+7) 20 o)))else s
def zs(o:J)(v:J->aa):J->aa:=qA o (rE (v (o+2)) (v (o+3)) 61440 131072).1 (rE (v (o+2)) (v (o+3)) 61440 131072).2 v
def jJ(o:J)(bY:aa)(v:J->aa):J->aa:=r_ o (eo bY 8) (oF o (lU o 1024 (eo bY 2) (lU o (-1024) (eo bY 1) (q6 o v))))
def h'(i:J)(bY fr:aa)(s:(J->aa)×ah aC):(J->aa)×ah aC:=
 let o:=4+i*10
 let t:=og i o fr (eo bY 32) (kT i o fr (eo bY 4) (jJ o bY s.1,s.2))
 (zs o t.1,t.2)
def l0(a b:aa):bm (eu a b):=hz _
def zt(a b k m:aa):bm (rE a b k m).1/\bm (rE a b k m).2:=by
 have c:bm 0:=by unfold bm;omega
 unfold rE sS sT;split
 .constructor
  .dsimp only;split
   .exact c
   exact G' _ _
  dsimp only;split
  .exact c
  exact G' _ _
 exact⟨l0 _ _,l0 _ _⟩
def o9(a b:aa):bm (dt a b):=hz _
def XM{c:aa}(h:St w bo g bl v fr xs)(O:ef c 0 0 v)(i:J)(ax:i<2)(bY:aa):aA 347 #[g,I i,aH bY] w λe w'=>e=aY #[]/\SgI w bo g bl fr c 0 0 (h' i bY fr (v,xs)).1 (h' i bY fr (v,xs)).2 w':=by
 have a:=lX i ax;have ar:SgI w bo g bl fr c (4+i*10+4) 0 v xs w:=⟨h,Keeps.refl _ _,O.move _⟩;have aar:=ar.fW a 6 U;have N:=ar.fW a 7 U;have f6:=h.free (4+i*10+6);have S:=h.free (4+i*10+7);have rf:0<=v (4+i*10+6)/\v (4+i*10+6)<=1000:=O.num a 6 U;have TS:0<=v (4+i*10+7)/\v (4+i*10+7)<=1000:=O.num a 7 U;have b:=ag ((ar.rK a 6 U (max (v (4+i*10+6)-1) 0) EZ).rK a 7 U (max (v (4+i*10+7)-1) 0) EZ);clear h O ar;unfold h'
 go_in
 go_wp2_with fail
 go_region
 generalize s':4+i*10=o at *;have ar:SgI w bo g bl fr c (o+4) 0 (q6 o v) xs _:=b.o.keep (Keeps.refl _ _).drew;generalize World.drew _=ao at *;clear b aar N f6 S rf TS;generalize vl:q6 o v=Z at *;go_wp2_with fail;refine(tX bY 1 _).mono ?_;rintro e _ ⟨rfl,rfl⟩;go_upto_if 32 with fail
 go_cut [] (λb2=>SgI w bo g bl fr c (o+4) (0+1024) (lU o (-1024) (eo bY 1) Z) xs b2)
 case first=>
  have a':=ar.fW a 4 U;have R:=ar.st.free (o+4);have Tq:=ar.lim.g_ a;have B:=ag ar;clear ar;cases ak:eo bY 1
  .go_wp2_with fail;go_meet;simpa[lU,ak]using B.o.wide a (0+1024) U
  go_wp2_with fail;go_meet;simpa[lU,ak,Mi]using B.o.tQ a (0+1024) (Z (o+4)+(-1024)) U
 have ar:=hcut;clear hcut;generalize v':lU o (-1024) (eo bY 1) Z=v2 at *;go_wp2_with fail;refine(tX bY 2 _).mono ?_;rintro e _ ⟨rfl,rfl⟩;go_upto_if 41 with fail
 go_cut [] (λb2=>SgI w bo g bl fr c (o+4) ((0+1024)+1024) (lU o 1024 (eo bY 2) v2) xs b2)
 case first=>
  have a':=ar.fW a 4 U;have R:=ar.st.free (o+4);have Tq:=ar.lim.g_ a;have B:=ag ar;clear ar;cases ak:eo bY 2
  .go_wp2_with fail;go_meet;simpa[lU,ak]using B.o.wide a ((0+1024)+1024) U
  go_wp2_with fail;go_meet;simpa[lU,ak,Mi]using B.o.tQ a ((0+1024)+1024) (v2 (o+4)+1024) U
 have ar:=hcut;clear hcut;generalize zd:lU o 1024 (eo bY 2) v2=Q at *;have a':=ar.fW a 4 U;have R:=ar.st.free (o+4);have l':=AW (Q (o+4));have b:=ag (ar.tQ a 0 (Q (o+4)%65536) U);go_upto_region 7 with fail
 have ar:SgI w bo g bl fr c (o+4) 0 (oF o Q) xs _:=b.o;generalize World.setCell _ _ _=aat at *;clear b a' R l';generalize zp:oF o Q=A at *;go_wp2_with fail;refine(tX bY 8 _).mono ?_;rintro e _ ⟨rfl,rfl⟩;go_upto_if 57 with fail
 go_cut [] (λb2=>SgI w bo g bl fr c (o+4) 0 (r_ o (eo bY 8) A) xs b2)
 case first=>
  have p:=ar.eM a 2 U;have q:World.cell? _ (ae g (o+2+1) ad)=_:=ar.eM a 3 U;have f2:=ar.st.free (o+2);have f3:=ar.st.free (o+2+1);have l:=ar.lim.fix a 2 U;have m:=ar.lim.fix a 3 U;have r':=ag (C8 (A (o+2)) (A (o+3)) 32768 l m gi);have b:=ag ar;clear ar;cases ak:eo bY 8
  .go_wp2_with fail;go_meet;simpa[r_,ak]using b.o
  go_wp2_with fail;refine(r'.o _).mono ?_;rintro e T' ⟨rfl,T⟩;have ar:=b.out.keep (Keeps.bJ T a8);clear p q f2 f3 b;have p:=ar.eM a 2 U;have q:World.cell? _ (ae g (o+2+1) ad)=_:=ar.eM a 3 U;have f2:=ar.st.free (o+2);have f3:=ar.st.free (o+2+1);have l:=ar.lim.fix a 2 U;have m:=ar.lim.fix a 3 U;have b:=ag ((ar.kU a 2 U _ (l0 (A (o+2)) 32768)).kU a 3 U _ (l0 (A (o+3)) 32768));clear ar;go_wp2_with fail;go_meet;simpa[r_,ak,qA]using b.o
 have ar:=hcut;clear hcut;generalize Aw:r_ o (eo bY 8) A=j at *;go_wp2_with fail;refine(tX bY 4 _).mono ?_;rintro e _ ⟨rfl,rfl⟩;go_upto_if 67 with fail
 go_cut [] (λb2=>SgI w bo g bl fr c (o+4) 0 (kT i o fr (eo bY 4) (j,xs)).1 (kT i o fr (eo bY 4) (j,xs)).2 b2)
 case first=>
  have b:=ag ar;cases ak:eo bY 4
  .clear ar;go_wp2_with fail;go_meet;simpa[kT,ak]using b.o
  go_wp2_with fail;obtain⟨G,k⟩:∃ G:aj->al,∀ W,G W↔SgI w bo g bl fr c (o+4) 0 j xs W:=⟨_,λ_=>Iff.rfl⟩;have V:∀ x:bs G,x.to.cell? (ae g (o+2) ad)=some (ai (j (o+2))):=λx=>((k _).1 x.held).eM a 2 U;have X:∀ x:bs G,x.to.cell? (ae g (o+2+1) ad)=some (ai (j (o+3))):=λx=>((k _).1 x.held).eM a 3 U;have Y:∀ x:bs G,x.to.cell? (ae g (o+4) ad)=some (I (j (o+4))):=λx=>((k _).1 x.held).fW a 4 U;have u:=(k _).2 (ar.keep (Keeps.refl _ _).drew);have r:=ag (λ(W W':aj) (s:G W) (ak:Below W W W')=>(k W').2 (((k W).1 s).keep (Keeps.bJ ak a8)));have E:=ag (λ(W:aj) (s:G W)=>(k W).1 s);have D:=ag (uI (j (o+2)) (j (o+3)) (h5 (j (o+4)) 8192) (h6 (j (o+4)) 8192) (ar.lim.fix a 2 U) (ar.lim.fix a 3 U) (l0 _ _) (l0 _ _));clear k ar;refine cJ 14 ?_;refine cK (G) (.range 11) 3 11 ?_;refine dK (u) (.range 9) 2 ?_;generalize World.drew _=wd at *;refine eH 9 λK f=>?_;go_simp;refine(yx _ 8192 gi _).mono ?_;rintro e V' ⟨rfl,H⟩;have y:=r.out _ _ u H;refine f _ _ (y) ?_;clear f K;refine jG 10 λK f=>?_;go_simp;refine(D.out _).mono ?_;rintro e aaq ⟨rfl,L⟩;have z:=r.out _ _ y L;refine f _ _ (z) ?_;clear f K;have ar:=E.out _ z;clear V X Y u y z H L r E D;have p:=ar.eM a 2 U;have q:World.cell? _ (ae g (o+2+1) ad)=_:=ar.eM a 3 U;have f2:=ar.st.free (o+2);have f3:=ar.st.free (o+2+1);have l:=ar.lim.fix a 2 U;have m:=ar.lim.fix a 3 U;have b:=ag ((ar.kU a 2 U _ (o9 (j (o+2)) (h5 (j (o+4)) 8192))).kU a 3 U _ (o9 (j (o+3)) (h6 (j (o+4)) 8192)));refine cK (λW=>0<=W.heap.size) [11,12,13] 0 3 ?_;refine eH 11 λK f=>?_;go_simp;refine f _ _ (de _) ?_;clear f K;refine eH 12 λK f=>?_;go_simp;refine f _ _ (de _) ?_;clear f K;refine kM 13 λK f=>?_;go_simp;refine f _ _ (de _) ?_;clear f K;clear p q f2 f3 l m ar;have ar:SgI w bo g bl fr c (o+4) 0 (ir o 8192 j) xs _:=b.o;generalize World.setCell _ _ _=ab at *;clear b;have aau:ab.cell? (ae g 0 ad)=some (I (ir o 8192 j 0)):=ar.st.cell 0 U .i64 rfl;have lb:ab.cell? (ae g o ad)=some (ai (ir o 8192 j o)):=ar.eM a 0 U;have P:=ar.lim.fix a 0 U;generalize g':ir o 8192 j=d at *;by_cases gf:((d 0).tmod 8 == 0)=true
  .have F:=ag (qv ar.st (i+1) 8 8 4096 1 8 (d o) P);go_wp2_with fail;refine F.o.mono ?_;rintro e h2 ⟨rfl,C,M⟩;have b:=ag (ar.b9 C M);clear C M F;go_wp2_with fail;go_meet;unfold kT;simp only[ak,g',gf,if_true];exact b.o
  go_wp2_with fail;go_meet;unfold kT;simp only[ak,g',gf,if_true];exact ar
 have ar:=hcut;clear hcut;generalize aK:kT i o fr (eo bY 4) (j,xs)=t at *;obtain⟨d,ys⟩:=t;go_wp2_with fail;refine(tX bY 32 _).mono ?_;rintro e _ ⟨rfl,rfl⟩;have N:=ar.fW a 7 U;have m':(eo bY 32=true/\d (o+7)=0)\/(eo bY 32=true/\¬ d (o+7)=0)\/eo bY 32=false:=by
  cases eo bY 32
  .exact .inr (.inr rfl)
  by_cases h:d (o+7)=0
  .exact .inl ⟨rfl,h⟩
  exact .inr (.inl ⟨rfl,h⟩)
 rcases m' with⟨ak,av⟩|⟨ak,av⟩|ak
 focus
  go_upto_region 14 with fail
  clear N;obtain⟨G,k⟩:∃ G:aj->al,∀ W,G W↔SgI w bo g bl fr c (o+4) 0 d ys W:=⟨_,λ_=>Iff.rfl⟩;have V:∀ x:bs G,x.to.cell? (ae g (o+2) ad)=some (ai (d (o+2))):=λx=>((k _).1 x.held).eM a 2 U;have X:∀ x:bs G,x.to.cell? (ae g (o+2+1) ad)=some (ai (d (o+3))):=λx=>((k _).1 x.held).eM a 3 U;have Y:∀ x:bs G,x.to.cell? (ae g (o+4) ad)=some (I (d (o+4))):=λx=>((k _).1 x.held).fW a 4 U;have u:=(k _).2 (ar.keep (Keeps.refl _ _).drew);have r:=ag (λ(W W':aj) (s:G W) (ak:Below W W W')=>(k W').2 (((k W).1 s).keep (Keeps.bJ ak a8)));have E:=ag (λ(W:aj) (s:G W)=>(k W).1 s);have D:=ag (uI (d (o+2)) (d (o+3)) (h5 (d (o+4)) 65536) (h6 (d (o+4)) 65536) (ar.lim.fix a 2 U) (ar.lim.fix a 3 U) (l0 _ _) (l0 _ _));clear k ar;refine cJ 14 ?_;refine cK (G) (.range 11) 3 11 ?_;refine dK (u) (.range 9) 2 ?_;generalize World.drew _=wd at *;refine eH 9 λK f=>?_;go_simp;refine(yx _ 65536 gi _).mono ?_;rintro e V' ⟨rfl,H⟩;have y:=r.out _ _ u H;refine f _ _ (y) ?_;clear f K;refine jG 10 λK f=>?_;go_simp;refine(D.out _).mono ?_;rintro e aaq ⟨rfl,L⟩;have z:=r.out _ _ y L;refine f _ _ (z) ?_;clear f K;have ar:=E.out _ z;clear V X Y u y z H L r E D;have p:=ar.eM a 2 U;have q:World.cell? _ (ae g (o+2+1) ad)=_:=ar.eM a 3 U;have f2:=ar.st.free (o+2);have f3:=ar.st.free (o+2+1);have l:=ar.lim.fix a 2 U;have m:=ar.lim.fix a 3 U;have b:=ag ((ar.kU a 2 U _ (o9 (d (o+2)) (h5 (d (o+4)) 65536))).kU a 3 U _ (o9 (d (o+3)) (h6 (d (o+4)) 65536)));refine cK (λW=>0<=W.heap.size) [11,12,13] 0 3 ?_;refine eH 11 λK f=>?_;go_simp;refine f _ _ (de _) ?_;clear f K;refine eH 12 λK f=>?_;go_simp;refine f _ _ (de _) ?_;clear f K;refine kM 13 λK f=>?_;go_simp;refine f _ _ (de _) ?_;clear f K;clear p q f2 f3 l m ar;have ar:SgI w bo g bl fr c (o+4) 0 (ir o 65536 d) ys _:=b.o;generalize World.setCell _ _ _=ab at *;clear b;have N:=ar.fW a 7 U;have S:=ar.st.free (o+7);have b:=ag (ar.rK a 7 U 20 (by unfold Cc B4;omega));clear ar;go_upto_region 16 with fail
  have ar:SgI w bo g bl fr c (o+4) 0 (bK (ir o 65536 d) (o+7) 20) ys _:=b.o;generalize World.setCell _ _ _=h2 at *;clear b N S;have lb:h2.cell? (ae g o ad)=some (ai (bK (ir o 65536 d) (o+7) 20 o)):=ar.eM a 0 U;have P:=ar.lim.fix a 0 U;have hd:og i o fr (eo bY 32) (d,ys)=(bK (ir o 65536 d) (o+7) 20,ih fr ys (kk (i+1) 9 9 8192 4 0 (bK (ir o 65536 d) (o+7) 20 o))):=aE ⟨ak,av⟩;generalize bK (ir o 65536 d) (o+7) 20=n at *;have F:=ag (qv ar.st (i+1) 9 9 8192 4 0 (n o) P);have aas:(i:aa)+1<=2:=U;go_wp2_with fail;refine F.o.mono ?_;rintro e wc ⟨rfl,C,M⟩;have ar:=ar.b9 C M;clear C M F lb P;generalize ih _ _ _=cn at *;go_upto_region 17 with fail
 rotate_left
 focus
  go_upto_region 17 with fail
  have hd:og i o fr (eo bY 32) (d,ys)=(d,ys):=aB (λh=>av h.2);generalize CW:d=n at *;generalize Q':ys=cn at *
 rotate_left
 focus
  go_upto_region 17 with fail
  have hd:og i o fr (eo bY 32) (d,ys)=(d,ys):=aB (λh=>by rw[ak]at h;cases h.1);generalize CW:d=n at *;generalize Q':ys=cn at *
 all_goals
  have p:=ar.eM a 2 U;have q:World.cell? _ (ae g (o+2+1) ad)=_:=ar.eM a 3 U;have f2:=ar.st.free (o+2);have f3:=ar.st.free (o+2+1);have l:=ar.lim.fix a 2 U;have m:=ar.lim.fix a 3 U;have sd:=ag (XQ (n (o+2)) (n (o+3)) 61440 131072 l m gi gi);have b:=ag ar;clear ar;go_wp2_with fail;refine(sd.o _).mono ?_;rintro e T' ⟨rfl,T⟩;have ar:=b.out.keep (Keeps.bJ T a8);clear p q f2 f3 b;have p:=ar.eM a 2 U;have q:World.cell? _ (ae g (o+2+1) ad)=_:=ar.eM a 3 U;have f2:=ar.st.free (o+2);have f3:=ar.st.free (o+2+1);have l:=ar.lim.fix a 2 U;have m:=ar.lim.fix a 3 U;have b:=ag ((ar.kU a 2 U _ (zt (n (o+2)) (n (o+3)) 61440 131072).1).kU a 3 U _ (zt (n (o+2)) (n (o+3)) 61440 131072).2);clear ar;go_wp2;go_end0;refine⟨rfl,?_⟩;have ps:jJ o bY v=j:=by unfold jJ;rw[vl,v',zd,zp,Aw]
  simp only[s',ps,aK,hd];exact⟨b.o.st,b.o.cu,b.o.lim.move 0⟩
end
variable{w w':aj}{bo g bl:J}{v:J->aa}{fr:aa}{xs:ah aC}
def mF(o:J)(v:J->aa):aa×aa×aa:=ia (v o) (v (o+2)) (-3932160) 3932160 1 2
def mG(o:J)(v:J->aa):aa×aa×aa:=ia (v (o+1)) (v (o+3)) (-3932160) 3932160 4 8
def sw(o:J)(v:J->aa):J->aa:=bK (bK (bK (bK v o (mF o v).1) (o+1) (mG o v).1) (o+2) (mF o v).2.1) (o+3) (mG o v).2.1
def nt(i:J)(fr:aa)(s:(J->aa)×ah aC):(J->aa)×ah aC:=
 (sw (4+i*10) s.1,if (bits .or .i64 (mF (4+i*10) s.1).2.2 (mG (4+i*10) s.1).2.2 != 0)=true then ih fr s.2 (kk (i+1) 3 3 8192 3 0 (sw (4+i*10) s.1 (4+i*10)))else s.2)
def zC(p v bo ax cZ ab:aa)(aU:bm v)(h1:bm bo)(h2:bm ax):bm (ia p v bo ax cZ ab).1/\bm (ia p v bo ax cZ ab).2.1:=by
 have c:∀ a b,bm (eu a b):=λa b=>hz _;unfold ia;dsimp only;split
 .exact⟨h1,c _ _⟩
 split
 .exact⟨h2,c _ _⟩
 exact⟨hz _,aU⟩
section
variable{P:Program}{ops:a7 Oper}{md:Region.Mode}{Q:Exit->Act->aj->al}{F:aj->al}{late:J->a1}{aQ full:a7 a1}{gJ m:J}{a:Act}
def SU(k j l:J)(c d e:a7 a1)(r:(Region.ready md ops aQ == [k,j,l])=true)(g:late k=false)(n:late j=false)(o:late l=false)(p:(ops[k]?).isSome=true)(au:(ops[j]?).isSome=true)(q:(ops[l]?).isSome=true)(aw:aQ.setIfInBounds k true=c)(s:aQ.setIfInBounds j true=d)(t:aQ.setIfInBounds l true=e)(u:Region.wanted (du ops k) (yielded ops a.tmps)=true)(v:Region.wanted (du ops j) (yielded ops a.tmps)=true)(x:Region.wanted (du ops l) (yielded ops a.tmps)=true)(h:∀ K:Act->aj->al,(∀ a' w',F w'->ew P md ops F Q late full gJ m c a' w'->K a' w')->(du ops k).wp P a w K Q)(h2:∀ K:Act->aj->al,(∀ a' w',F w'->ew P md ops F Q late full gJ m d a' w'->K a' w')->(du ops j).wp P a w K Q)(f:∀ K:Act->aj->al,(∀ a' w',F w'->ew P md ops F Q late full gJ m e a' w'->K a' w')->(du ops l).wp P a w K Q):ew P md ops F Q late full gJ (m+1) aQ a w:=by
 have b:Region.ready md ops aQ=[k,j,l]:=by simpa using r
 refine⟨xD,λi ax=>?_⟩;rw[b]at ax;rcases ff.1 ax with rfl|ax
 .exact wi c g p aw u h
 rcases ff.1 ax with rfl|ax
 .exact wi d n au s v h2
 obtain rfl:i=l:=by simpa using ax
 exact wi e o q t x f
end
def XK{c:aa}{b2:aj}(h:SgI w bo g bl fr c 0 0 v xs b2)(i:J)(ax:i<2):aA 348 #[g,I i] b2 λe w'=>e=aY #[]/\SgI w bo g bl fr c 0 0 (nt i fr (v,xs)).1 (nt i fr (v,xs)).2 w':=by
 have f:=lX i ax;have B:=ag BR;unfold nt;have⟨G,n⟩:=h0 (F:=λW=>SgI w bo g bl fr c 0 0 v xs W);have q:∀ W,G W->W.cell? (ae g (4+i*10) ad)=some (ai (v (4+i*10))):=λW j=>((n W).1 j).eM f 0 U;have r:∀ W,G W->W.cell? (ae g (4+i*10+1) ad)=some (ai (v ((4+i*10)+1))):=λW j=>((n W).1 j).eM f 1 U;have s:∀ W,G W->W.cell? (ae g (4+i*10+2) ad)=some (ai (v ((4+i*10)+2))):=λW j=>((n W).1 j).eM f 2 U;have t:∀ W,G W->W.cell? (ae g (4+i*10+2+1) ad)=some (ai (v ((4+i*10)+3))):=λW j=>((n W).1 j).eM f 3 U;have l:=(n _).2 (h.keep (Keeps.refl _ _).drew);have p:=ag (λ(W W':aj) (j:G W) (ak:Below W W W')=>(n W').2 (((n W).1 j).keep (Keeps.bJ ak a8)));have P:=ag (λ(W:aj) (j:G W)=>(n W).1 j);have T:=h.lim.fix f 0 U;have V:=h.lim.fix f 1 U;have L:=h.lim.fix f 2 U;have M:=h.lim.fix f 3 U;have H:=ag (XO (v (4+i*10)) (v ((4+i*10)+1)) (v ((4+i*10)+2)) (v ((4+i*10)+3)) (-3932160) (-3932160) 3932160 3932160 T V L M U U);have D:=zC (v (4+i*10)) (v ((4+i*10)+2)) (-3932160) 3932160 1 2 L gi gi;have E:=zC (v ((4+i*10)+1)) (v ((4+i*10)+3)) (-3932160) 3932160 4 8 M gi gi;change bm (mF (4+i*10) v).1/\bm (mF (4+i*10) v).2.1 at D;change bm (mG (4+i*10) v).1/\bm (mG (4+i*10) v).2.1 at E;change Hid (∀ w,Calls _ _ _ w λe w'=>e=aY #[aL #[ai (mF (4+i*10) v).1,ai (mG (4+i*10) v).1],aL #[ai (mF (4+i*10) v).2.1,ai (mG (4+i*10) v).2.1],I (bits .or .i64 (mF (4+i*10) v).2.2 (mG (4+i*10) v).2.2),I 0]/\_)at H;unfold sw;generalize mF (4+i*10) v=X at *;generalize mG (4+i*10) v=Y at *
 go_in
 go_wp2_with fail;generalize ab:4+i*10=o at *;obtain⟨F,a⟩:∃ F:aj->al,∀ W,F W:=⟨λ_=>True,λ_=>trivial⟩;refine cJ 24 ?_;refine cK (F) (.range 24) 0 24 ?_;refine dK (a b2.drew) [0,1,2,3,4,6,7,8] 16 ?_;generalize b2.drew=C at *;have x:=q C l;have y:=r C l;have z:=s C l;have A:=t C l;refine SU (m:=15) 5 9 10 #[true,true,true,true,true,true,true,true,true,false,false,false,false,false,false,false,false,false,false,false,false,false,false,false] #[true,true,true,true,true,false,true,true,true,true,false,false,false,false,false,false,false,false,false,false,false,false,false,false] #[true,true,true,true,true,false,true,true,true,false,true,false,false,false,false,false,false,false,false,false,false,false,false,false] aI aI aI aI aI aI aI aI aI aI gF gF gF (λK d=>?_) (λK d=>?_) (λK d=>?_)
 all_goals simp only[du,hr]
 focus
  go_simp;refine d _ _ (a _) ?_;refine so (m:=14) 9 10 #[true,true,true,true,true,true,true,true,true,true,false,false,false,false,false,false,false,false,false,false,false,false,false,false] #[true,true,true,true,true,true,true,true,true,false,true,false,false,false,false,false,false,false,false,false,false,false,false,false] aI aI aI aI aI aI aI gF gF (λK d=>?_) (λK d=>?_)
  all_goals simp only[du,hr]
  focus
   go_simp;refine d _ _ (a _) ?_;refine eH 10 λK d=>?_;go_simp;refine aW (B.o _) λao k=>?_;have b:=p.o _ _ l k;have x:=q ao b;have y:=r ao b;have z:=s ao b;have A:=t ao b;refine d _ _ (a _) ?_
  rotate_left
  focus
   go_simp;refine aW (B.o _) λao k=>?_;have b:=p.o _ _ l k;have x:=q ao b;have y:=r ao b;have z:=s ao b;have A:=t ao b;refine d _ _ (a _) ?_;refine hs 9 (a _) ?_
 rotate_left 2
 focus
  go_simp;refine d _ _ (a _) ?_;refine so (m:=14) 5 10 #[true,true,true,true,true,true,true,true,true,true,false,false,false,false,false,false,false,false,false,false,false,false,false,false] #[true,true,true,true,true,false,true,true,true,true,true,false,false,false,false,false,false,false,false,false,false,false,false,false] aI aI aI aI aI aI aI gF gF (λK d=>?_) (λK d=>?_)
  all_goals simp only[du,hr]
  focus
   go_simp;refine d _ _ (a _) ?_;refine eH 10 λK d=>?_;go_simp;refine aW (B.o _) λao k=>?_;have b:=p.o _ _ l k;have x:=q ao b;have y:=r ao b;have z:=s ao b;have A:=t ao b;refine d _ _ (a _) ?_
  rotate_left
  focus
   go_simp;refine aW (B.o _) λao k=>?_;have b:=p.o _ _ l k;have x:=q ao b;have y:=r ao b;have z:=s ao b;have A:=t ao b;refine d _ _ (a _) ?_;refine hs 5 (a _) ?_
 rotate_left 2
 focus
  go_simp;refine aW (B.o _) λao k=>?_;have b:=p.o _ _ l k;have x:=q ao b;have y:=r ao b;have z:=s ao b;have A:=t ao b;refine d _ _ (a _) ?_;refine so (m:=14) 5 9 #[true,true,true,true,true,true,true,true,true,false,true,false,false,false,false,false,false,false,false,false,false,false,false,false] #[true,true,true,true,true,false,true,true,true,true,true,false,false,false,false,false,false,false,false,false,false,false,false,false] aI aI aI aI aI aI aI gF gF (λK d=>?_) (λK d=>?_)
  all_goals simp only[du,hr]
  focus
   go_simp;refine d _ _ (a _) ?_;refine hs 9 (a _) ?_
  rotate_left
  focus
   go_simp;refine d _ _ (a _) ?_;refine hs 5 (a _) ?_
 all_goals
  refine eH 11 λK d=>?_;go_simp;refine aW (H.o _) λaD R=>?_;have ar:=P.o _ (p.o _ _ b R);refine d _ _ (a _) ?_;refine dK (a aD) [12,13,14,15,16] 7 ?_;have g':=ar.eM f 0 U;have hd:=ar.eM f 1 U;have h2:=ar.eM f 2 U;have lb:World.cell? _ (ae g (o+2+1) ad)=_:=ar.eM f 3 U;have f0:=ar.st.free o;have f1:=ar.st.free (o+1);have f2:=ar.st.free (o+2);have f3:=ar.st.free (o+2+1);have u:=ag ((((ar.kU f 0 U _ D.1).kU f 1 U _ E.1).kU f 2 U _ D.2).kU f 3 U _ E.2);refine hs 17 (a _) ?_;refine hs 18 (a _) ?_;refine hs 19 (a _) ?_;refine hs 20 (a _) ?_;refine hs 21 (a _) ?_;refine hs 22 (a _) ?_;refine h9 23 (a _) ?_;have ar:=u.o;generalize World.setCell (World.setCell (World.setCell (World.setCell _ _ _) _ _) _ _) _ _=bq at *;generalize N:bK (bK (bK (bK v (o+0) X.1) (o+1) Y.1) (o+2) X.2.1) (o+3) Y.2.1=v' at *;rw[rV]at N;have gf:bq.cell? (ae g o ad)=some (ai (v' o)):=ar.eM f 0 U;have Z:=ar.lim.fix f 0 U;by_cases ak:(bits .or .i64 X.2.2 Y.2.2 != 0)=true
  .have Q:=ag (qv ar.st (i+1) 3 3 8192 3 0 (v' o) Z);go_wp2_with fail;refine aW Q.o ?_;rintro a' ⟨O,S⟩;have u:=ag (ar.b9 O S);go_wp2;go_end0;exact⟨rfl,u.o⟩
  have u:=ag ar;go_wp2;go_end0;exact⟨rfl,u.o⟩
def dH(o n:J)(f:J->aa)(v:J->aa):J->aa:=λj=>if o<=j/\j<o+n then f (j-o)else v j
def ny(x y f dk:aa)(q:J):aa:=if q=0 then x else if q=1 then y else if q=4 then f else if q=5 then 3 else if q=9 then dk else 0
def oe(k:aa):aa:=if k%2=1 then 2621440 else -2621440
def pb(k:aa):aa:=if 2<=k then 2621440 else -2621440
def nC(v:J->aa):aa:=iZ (v 1) / 65536*4 / 65536
def oa(i:J)(fr:aa)(s:(J->aa)×ah aC):(J->aa)×ah aC:=
 let o:=4+i*10
 if 1<s.1 (o+8)then(bK s.1 (o+8) (s.1 (o+8)-1),s.2)
 else(dH o 10 (ny (oe (nC s.1)) (pb (nC s.1)) 0 (s.1 (o+9))) (bK (bK s.1 (o+8) (s.1 (o+8)-1)) 1 (iZ (s.1 1))),ih fr s.2 (kk (i+1) 6 6 16384 9 0 (oe (nC s.1))))
def pd(v:J->aa):J->J->b_ J
 | _,0=>none
 | k,n+1=>if v (24+k*6+4)=0 then some k else pd v (k+1) n
def rC(x y b2 gz dB a:aa)(q:J):aa:=if q=0 then x else if q=1 then y else if q=2 then b2 else if q=3 then gz else if q=4 then dB else a
def om(i:J)(fr:aa)(s:(J->aa)×ah aC):(J->aa)×ah aC:=
 let o:=4+i*10
 if 0<s.1 (o+6)then s else match pd s.1 0 6 with
  | none=>s
  | some k=>(bK (dH (24+k*6) 6 (rC (dt (s.1 o) (h5 (s.1 (o+4)) 262144)) (dt (s.1 (o+1)) (h6 (s.1 (o+4)) 262144)) (h5 (s.1 (o+4)) 196608) (h6 (s.1 (o+4)) 196608) (i+1) 40) s.1) (o+6) 8,ih fr s.2 (kk (i+1) 1 1 16384 5 0 (s.1 o)))
def iy(i:J)(bY fr:aa)(s:(J->aa)×ah aC):(J->aa)×ah aC:=
 if 0<s.1 (4+i*10+8)then oa i fr s else if eo bY 16=true then om i fr (nt i fr (h' i bY fr s))else nt i fr (h' i bY fr s)
def GA(v:J->aa):a1:=decide (0<v 12) || (decide (0<v 22) || !kO (fK (v 14) (v 4)) (fK (v 15) (v 5)) (dt 262144 262144))
def jj(fr:aa)(s:(J->aa)×ah aC):(J->aa)×ah aC:=
 if GA s.1=true then s else(bK (bK (bK (bK s.1 6 (s.1 16)) 7 (s.1 17)) 16 (s.1 6)) 17 (s.1 7),ih fr s.2 (kk 0 4 4 16384 6 0 0))
def mA(i:J)(fr:aa)(s:(J->aa)×ah aC):(J->aa)×ah aC:=
 let o:=4+i*10
 let a:=4+(1-i)*10
 let b:=bK s.1 (o+5) (s.1 (o+5)-1)
 let c:=ih fr s.2 (kk (i+1) 2 2 32768 8 0 (s.1 o))
 if 1<s.1 (o+5)then(b,c)else(bK (bK b (o+8) 30) (a+9) (s.1 (a+9)+1),ih fr c (kk (i+1) 5 5 32768 10 0 (s.1 o)))
def fZ(u:J)(v:J->aa):J->aa:=bK (bK (bK v (u+5) (v (u+5)-1)) u (dt (v u) (v (u+2)))) (u+1) (dt (v (u+1)) (v (u+3)))
def Ir(u p:J)(v:J->aa):a1:=decide (v (p+8)=0)&&kO (fK (v p) (v u)) (fK (v (p+1)) (v (u+1))) (dt 65536 262144)
def jk(k:J)(fr:aa)(s:(J->aa)×ah aC):a1×(J->aa)×ah aC:=
 let u:=24+k*6
 if s.1 (u+5)=1 then(false,bK s.1 (u+5) (s.1 (u+5)-1),s.2)
 else if iV (-4194304) (-4194304) 4194304 4194304 (fZ u s.1 u) (fZ u s.1 (u+1))=false then(false,fZ u s.1,s.2)
 else if Ir u (4+(2-s.1 (u+4)).toNat*10) (fZ u s.1)=true then(false,mA (2-s.1 (u+4)).toNat fr (fZ u s.1,s.2))
 else(true,fZ u s.1,s.2)
def qw(k:J)(fr:aa)(s:(J->aa)×ah aC):(J->aa)×ah aC:=
 if s.1 (24+k*6+4)=0 then s else if (jk k fr s).1=true then(jk k fr s).2 else(dH (24+k*6) 6 (λ_=>0) (jk k fr s).2.1,(jk k fr s).2.2)
def ja(fr:aa)(s:(J->aa)×ah aC):J->(J->aa)×ah aC
 | 0=>s
 | k+1=>qw k fr (ja fr s k)
def ng(q:J):aa:=if q<10 then ny (-2097152) 0 0 0 q else ny 2097152 0 32768 0 (q-10)
def Ct(v:J->aa):a1:=decide (1<v 3)&&(decide (v 13<3)&&decide (v 23<3))
def kp(fr:aa)(s:(J->aa)×ah aC):(J->aa)×ah aC:=
 if Ct s.1=true then(bK s.1 3 (s.1 3-1),s.2)
 else(dH 24 36 (λ_=>0) (dH 4 20 ng (bK (bK (bK s.1 3 (s.1 3-1)) 2 (s.1 2+1)) 3 600)),ih fr s.2 (kk 0 7 7 32768 12 0 0))
def stepG(a b fr:aa)(v:J->aa):(J->aa)×ah aC:=kp fr (ja fr (jj fr (iy 1 b fr (iy 0 a fr (v,[])))) 6)
def iL(a b:aa)(v:J->aa):J->aa:=bK (stepG a b (v 0) v).1 0 (v 0+1)
def ks(a b:aa)(v:J->aa):ah aC:=(stepG a b (v 0) v).2
structure na(c:aa)(p:J->aa):al where
 x:-3932160<=p 0/\p 0<=3932160
 y:-3932160<=p 1/\p 1<=3932160
 b2:bm (p 2)
 gz:bm (p 3)
 g_:0<=p 4/\p 4<=65535
 au:0<=p 5/\p 5<=3
 co:0<=p 6/\p 6<=8
 e7:0<=p 7/\p 7<=20
 eg:0<=p 8/\p 8<=30
 dk:0<=p 9/\p 9<=c
 up:0<p 5↔p 8=0
def tx(p:J->aa):al:=(∀ q,q<6->p q=0)\/((-4194304<=p 0/\p 0<=4194304)/\(-4194304<=p 1/\p 1<=4194304)/\bm (p 2)/\bm (p 3)/\(1<=p 4/\p 4<=2)/\(1<=p 5/\p 5<=40))
structure Mid(c f r:aa)(v:J->aa):al where
 pl:∀ o,ey o->na c (λq=>v (o+q))
 px:∀ k,k<6->tx (λq=>v (24+k*6+q))
 f0:v 0=f
 f1:0<=v 1/\v 1<=4294967295
 f2:v 2=r
 f3:1<=v 3/\v 3<=600
def tx.congr{p l3:J->aa}(h:tx p)(a:∀ q,q<6->l3 q=p q):tx l3:=by
 unfold tx at h⊢;rw[a 0 U,a 1 U,a 2 U,a 3 U,a 4 U,a 5 U];exact h.imp (λh q b=>(a q b).trans (h q b)) id
def na.congr{c:aa}{p l3:J->aa}(h:na c p)(a:∀ q,q<10->l3 q=p q):na c l3:=by
 have b:=a 0 U;have h1:=a 1 U;have h2:=a 2 U;have d:=a 3 U;have e:=a 4 U;have f:=a 5 U;have g:=a 6 U;have i:=a 7 U;have j:=a 8 U;have k:=a 9 U;have⟨l,m,o,r,s,t,u,v,w,x,n⟩:=h;constructor<;>simp only[b,h1,h2,d,e,f,g,i,j,k]<;>assumption
def na.mono{c d:aa}{p:J->aa}(h:na c p)(an:c<=d):na d p:={h with dk:=⟨h.dk.1,zW h.dk.2 an⟩}
theorem Mid.mono{c d f r:aa}{v:J->aa}(h:Mid c f r v)(an:c<=d):Mid d f r v:={h with pl:=λo a=>(h.pl o a).mono an}
def Mid.ql{c f r:aa}{v v':J->aa}(h:Mid c f r v){o:J}(a:ey o)(aw:∀ j,j<o\/o+10<=j->v' j=v j)(au:na c (λq=>v' (o+q))):Mid c f r v':=by
 have i:4<=o/\o+10<=24:=by unfold ey at a;omega
 refine⟨λd b=>?_,λk hk=>(h.px k hk).congr λq g=>aw _ (.inr U),?_,?_,?_,?_⟩
 .by_cases e:d=o
  .subst e;exact au
  exact(h.pl d b).congr λq g=>aw _ (by unfold ey at a b;omega)
 .rw[aw 0 (.inl U)];exact h.f0
 .rw[aw 1 (.inl U)];exact h.f1
 .rw[aw 2 (.inl U)];exact h.f2
 rw[aw 3 (.inl U)];exact h.f3
def Mid.zr{c f r:aa}{v v':J->aa}(h:Mid c f r v){k:J}(hk:k<6)(aw:∀ j,j<24+k*6\/24+k*6+6<=j->v' j=v j)(au:tx (λq=>v' (24+k*6+q))):Mid c f r v':=by
 refine⟨λg a=>(h.pl g a).congr λq d=>aw _ (.inl (by unfold ey at a;omega)),λj b=>?_,?_,?_,?_,?_⟩
 .by_cases e:j=k
  .subst e;exact au
  exact(h.px j b).congr λq d=>aw _ U
 .rw[aw 0 (.inl U)];exact h.f0
 .rw[aw 1 (.inl U)];exact h.f1
 .rw[aw 2 (.inl U)];exact h.f2
 rw[aw 3 (.inl U)];exact h.f3
def oO(v:J->aa)(o a q:J)(x:aa):bK v (o+a) x (o+q)=if q=a then x else v (o+q):=by
 unfold bK;by_cases h:q=a
 .rw[aE h,aE U]
 rw[aB h,aB U]
def Zg(v:J->aa)(o q:J)(x:aa):bK v o x (o+q)=if q=0 then x else v (o+q):=oO v o 0 q x
def qz(v:J->aa)(o:J)(x:aa):bK v o x o=x:=aE rfl
def c4(v:J->aa)(o j:J)(x:aa)(h:j≠o):bK v o x j=v j:=aB h
def mN(o n:J)(f v:J->aa)(q:J)(h:q<n):dH o n f v (o+q)=f q:=by
 unfold dH;rw[aE U,show o+q-o=q by omega]
def nE(o n:J)(f v:J->aa)(j:J)(h:j<o\/o+n<=j):dH o n f v j=v j:=aB U
structure jh(o:J)(v v':J->aa):al where
 same:∀ j,j≠o+2->j≠o+3->j≠o+4->j≠o+6->j≠o+7->v' j=v j
 aD:bm (v' (o+2))
 bq:bm (v' (o+3))
 co:0<=v' (o+6)/\v' (o+6)<=8
 e7:0<=v' (o+7)/\v' (o+7)<=20
def jh.DA{o:J}{v v':J->aa}(h:jh o v v'){x y:aa}(e:bm x)(f:bm y):jh o v (qA o x y v')/\qA o x y v' (o+4)=v' (o+4):=by
 unfold qA;refine⟨⟨λj h2 a b c d=>?_,?_,?_,?_,?_⟩,?_⟩
 .rw[c4 _ _ _ _ a,c4 _ _ _ _ h2];exact h.same j h2 a b c d
 all_goals simp only[oO]
 .exact e
 .exact f
 .exact h.co
 .exact h.e7
 rfl
def jh.tQ{o:J}{v v':J->aa}(h:jh o v v')(x:aa):jh o v (bK v' (o+4) x):=by
 refine⟨λj h2 b a c d=>?_,?_,?_,?_,?_⟩
 .rw[c4 _ _ _ _ a];exact h.same j h2 b a c d
 all_goals simp only[oO]
 .exact h.aD
 .exact h.bq
 .exact h.co
 exact h.e7
def jh.LI{o:J}{v v':J->aa}(h:jh o v v'):jh o v (bK v' (o+7) 20)/\bK v' (o+7) 20 (o+4)=v' (o+4):=by
 refine⟨⟨λj h2 b c d a=>?_,?_,?_,?_,?_⟩,?_⟩
 .rw[c4 _ _ _ _ a];exact h.same j h2 b c d a
 all_goals simp only[oO]
 .exact h.aD
 .exact h.bq
 .exact h.co
 .show(0:aa)<=20/\(20:aa)<=20;decide
 rfl
def jh.goes{o:J}{v v':J->aa}(h:jh o v v')(l:aa):jh o v (ir o l v')/\ir o l v' (o+4)=v' (o+4):=h.DA (o9 _ _) (o9 _ _)
def K8{c:aa}{v:J->aa}{o:J}(h:na c (λq=>v (o+q)))(i:J)(p:o=4+i*10)(bY fr:aa)(xs:ah aC):jh o v (h' i bY fr (v,xs)).1/\0<=(h' i bY fr (v,xs)).1 (o+4)/\(h' i bY fr (v,xs)).1 (o+4)<=65535:=by
 have m:jh o v (q6 o v):=by
  have a:=h.co;have g:=h.e7;refine⟨λj h2 k d a g=>?_,?_,?_,?_,?_⟩
  .unfold q6;rw[c4 _ _ _ _ g,c4 _ _ _ _ a]
  all_goals unfold q6;simp only[oO]
  .exact h.b2
  .exact h.gz
  .show 0<=max (v (o+6)-1) 0/\max (v (o+6)-1) 0<=8;omega
  show 0<=max (v (o+7)-1) 0/\max (v (o+7)-1) 0<=20;omega
 have h1:∀ n b l,jh o v l->jh o v (lU o n b l):=λn b l h1=>by
  cases b
  .exact h1
  exact h1.tQ _
 have h2:=h1 1024 (eo bY 2) _ (h1 (-1024) (eo bY 1) _ m);generalize r:lU o 1024 (eo bY 2) (lU o (-1024) (eo bY 1) (q6 o v))=v2 at *;have k:jh o v (oF o v2):=h2.tQ _;have f3:0<=oF o v2 (o+4)/\oF o v2 (o+4)<=65535:=by
  unfold oF;rw[qz];omega
 have d:jh o v (jJ o bY v)/\(0<=jJ o bY v (o+4)/\jJ o bY v (o+4)<=65535):=by
  unfold jJ;rw[r];cases eo bY 8
  .exact⟨k,f3⟩
  have d:=k.DA (l0 (oF o v2 (o+2)) 32768) (l0 (oF o v2 (o+3)) 32768);exact⟨d.1,by rw[show r_ o true (oF o v2) (o+4)=_ from d.2];exact f3⟩
 have f:jh o v (kT i o fr (eo bY 4) (jJ o bY v,xs)).1/\(0<=(kT i o fr (eo bY 4) (jJ o bY v,xs)).1 (o+4)/\(kT i o fr (eo bY 4) (jJ o bY v,xs)).1 (o+4)<=65535):=by
  cases eo bY 4
  .exact d
  have f:=d.1.goes 8192;exact⟨f.1,by show 0<=ir o 8192 (jJ o bY v) (o+4)/\ir o 8192 (jJ o bY v) (o+4)<=65535;rw[f.2];exact d.2⟩
 unfold h';simp only[<-p];generalize kT i o fr (eo bY 4) (jJ o bY v,xs)=t at *;have a:jh o v (og i o fr (eo bY 32) t).1/\(0<=(og i o fr (eo bY 32) t).1 (o+4)/\(og i o fr (eo bY 32) t).1 (o+4)<=65535):=by
  unfold og;split
  .have a:=f.1.goes 65536;exact⟨a.1.LI.1,by show 0<=bK (ir o 65536 t.1) (o+7) 20 (o+4)/\bK (ir o 65536 t.1) (o+7) 20 (o+4)<=65535;rw[a.1.LI.2,a.2];exact f.2⟩
  exact f
 generalize og i o fr (eo bY 32) t=e at *;have g:=a.1.DA (zt (e.1 (o+2)) (e.1 (o+3)) 61440 131072).1 (zt (e.1 (o+2)) (e.1 (o+3)) 61440 131072).2;exact⟨g.1,by show 0<=zs o e.1 (o+4)/\zs o e.1 (o+4)<=65535;rw[show zs o e.1 (o+4)=_ from g.2];exact a.2⟩
def Jf{c f r:aa}{v:J->aa}(h:Mid c f r v)(i:J)(ax:i<2)(bY fr:aa)(xs:ah aC):Mid c f r (h' i bY fr (v,xs)).1:=by
 have a:=lX i ax;have au:=h.pl _ a;obtain⟨h1,h2⟩:=K8 au i rfl bY fr xs;generalize (h' i bY fr (v,xs)).1=v' at *;generalize 4+i*10=o at *;refine h.ql a (λj b=>h1.same j U U U U U) ?_;have e:∀ q,q≠2->q≠3->q≠4->q≠6->q≠7->v' (o+q)=v (o+q):=λq _ _ _ _ _=>h1.same _ U U U U U;refine⟨?_,?_,h1.aD,h1.bq,h2,?_,h1.co,h1.e7,?_,?_,?_⟩
 .show _<=v' (o+0)/\v' (o+0)<=_;rw[e 0 U U U U U];exact au.x
 .show _<=v' (o+1)/\v' (o+1)<=_;rw[e 1 U U U U U];exact au.y
 .show _<=v' (o+5)/\v' (o+5)<=_;rw[e 5 U U U U U];exact au.au
 .show _<=v' (o+8)/\v' (o+8)<=_;rw[e 8 U U U U U];exact au.eg
 .show _<=v' (o+9)/\v' (o+9)<=_;rw[e 9 U U U U U];exact au.dk
 show 0<v' (o+5)↔v' (o+8)=0;rw[e 5 U U U U U,e 8 U U U U U];exact au.up
def LC(p v bo ax cZ ab:aa)(h:bo<=ax):bo<=(ia p v bo ax cZ ab).1/\(ia p v bo ax cZ ab).1<=ax:=by
 unfold ia;dsimp only;split
 .exact⟨jw _,h⟩
 split
 .exact⟨h,jw _⟩
 exact⟨U,U⟩
def Jc{c f r:aa}{v:J->aa}(h:Mid c f r v)(i:J)(ax:i<2)(fr:aa)(xs:ah aC):Mid c f r (nt i fr (v,xs)).1:=by
 have a:=lX i ax;have au:=h.pl _ a;show Mid c f r (sw (4+i*10) v);generalize 4+i*10=o at *;have b:=LC (v o) (v (o+2)) (-3932160) 3932160 1 2 U;have d:=(zC (v o) (v (o+2)) (-3932160) 3932160 1 2 au.b2 gi gi).2;have e:=LC (v (o+1)) (v (o+3)) (-3932160) 3932160 4 8 U;have g:=(zC (v (o+1)) (v (o+3)) (-3932160) 3932160 4 8 au.gz gi gi).2;unfold sw;change _<=(mF o v).1/\(mF o v).1<=_ at b;change bm (mF o v).2.1 at d;change _<=(mG o v).1/\(mG o v).1<=_ at e;change bm (mG o v).2.1 at g;generalize mF o v=X at *;generalize mG o v=Y at *;refine h.ql a (λj k=>by rw[c4 _ _ _ _ U,c4 _ _ _ _ U,c4 _ _ _ _ U,c4 _ _ _ _ U]) ?_;constructor<;>simp only[oO,Zg]
 .exact b
 .exact e
 .exact d
 .exact g
 .exact au.g_
 .exact au.au
 .exact au.co
 .exact au.e7
 .exact au.eg
 .exact au.dk
 exact au.up
def Ua{c f r:aa}{v:J->aa}(h:Mid c f r v)(i:J)(ax:i<2)(hd:0<v (4+i*10+8))(fr:aa)(xs:ah aC):Mid c f r (oa i fr (v,xs)).1:=by
 have d:=lX i ax;have au:=h.pl _ d;unfold oa;generalize 4+i*10=o at *;dsimp only;have z:4<=o/\o+10<=24:=by unfold ey at d;omega
 have u:=au.eg;have A:=au.up;split
 .rename_i h1;refine h.ql d (λj w=>c4 _ _ _ _ U) ?_;constructor<;>simp only[oO]
  .exact au.x
  .exact au.y
  .exact au.b2
  .exact au.gz
  .exact au.g_
  .exact au.au
  .exact au.co
  .exact au.e7
  .show 0<=v (o+8)-1/\v (o+8)-1<=30;omega
  .exact au.dk
  show 0<v (o+5)↔v (o+8)-1=0;omega
 show Mid c f r (dH o 10 (ny (oe (nC v)) (pb (nC v)) 0 (v (o+9))) (bK (bK v (o+8) (v (o+8)-1)) 1 (iZ (v 1))));have s:-3932160<=oe (nC v)/\oe (nC v)<=3932160:=by unfold oe;split<;>omega
 have t:-3932160<=pb (nC v)/\pb (nC v)<=3932160:=by unfold pb;split<;>omega
 have av:0<=iZ (v 1)/\iZ (v 1)<=4294967295:=by unfold iZ;omega
 have n:∀ j,j≠1->j≠o+8->bK (bK v (o+8) (v (o+8)-1)) 1 (iZ (v 1)) j=v j:=λj h1 h2=>by rw[c4 _ _ _ _ h1,c4 _ _ _ _ h2]
 have p:bK (bK v (o+8) (v (o+8)-1)) 1 (iZ (v 1)) 1=iZ (v 1):=qz _ _ _;generalize bK (bK v (o+8) (v (o+8)-1)) 1 (iZ (v 1))=m at *;generalize oe (nC v)=X at *;generalize pb (nC v)=Y at *;have ak:∀ j,j≠1->(j<o\/o+10<=j)->dH o 10 (ny X Y 0 (v (o+9))) m j=v j:=λj h1 h2=>by rw[nE _ _ _ _ _ h2,n j h1 U]
 refine⟨λb g=>?_,λk hk=>(h.px k hk).congr λq l=>ak _ U U,?_,?_,?_,?_⟩
 .by_cases e:b=o
  .subst e;have a:∀ q,q<10->dH b 10 (ny X Y 0 (v (b+9))) m (b+q)=ny X Y 0 (v (b+9)) q:=λq l=>mN _ _ _ _ _ l;constructor
   .rw[a 0 U];exact s
   .rw[a 1 U];exact t
   .rw[a 2 U];show bm 0;unfold bm;omega
   .rw[a 3 U];show bm 0;unfold bm;omega
   .rw[a 4 U];show(0:aa)<=0/\(0:aa)<=65535;omega
   .rw[a 5 U];show(0:aa)<=3/\(3:aa)<=3;omega
   .rw[a 6 U];show(0:aa)<=0/\(0:aa)<=8;omega
   .rw[a 7 U];show(0:aa)<=0/\(0:aa)<=20;omega
   .rw[a 8 U];show(0:aa)<=0/\(0:aa)<=30;omega
   .rw[a 9 U];exact au.dk
   rw[a 5 U,a 8 U];show(0:aa)<3↔(0:aa)=0;omega
  exact(h.pl b g).congr λq l=>ak _ (by unfold ey at g;omega) (by unfold ey at d g;omega)
 .rw[ak 0 U U];exact h.f0
 .rw[nE _ _ _ _ _ U,p];exact av
 .rw[ak 2 U U];exact h.f2
 rw[ak 3 U U];exact h.f3
def KW(a:aa):-65536<=nH a/\nH a<=65536:=by
 unfold nH;dsimp only;have b:0<=a%65536%32768/\a%65536%32768<32768:=U;generalize a%65536%32768=x at *;have au:=KX b.1 b.2;generalize x*(32768-x)=p at *;have hd:(0:aa)<5368709120-4*p:=U;have h1:(p*1048576).tdiv (5368709120-4*p)<=65536:=by
  rw[Int.tdiv_eq_ediv_of_nonneg U]
  have:=Int.ediv_le_ediv hd (show p*1048576<=65536*(5368709120-4*p)by omega)
  rwa [Int.mul_ediv_cancel _ U]at this
 have h2:0<=(p*1048576).tdiv (5368709120-4*p):=Int.tdiv_nonneg U U;generalize (p*1048576).tdiv (5368709120-4*p)=n at *;unfold um iz;split<;>omega
def SD(f:aa):(-262144<=h5 f 262144/\h5 f 262144<=262144)/\(-262144<=h6 f 262144/\h6 f 262144<=262144):=by
 have h1:=KW f;have h2:=KW (f%65536+16384);unfold h5 h6 sc eu iz;omega
theorem Bz(v:J->aa):∀ n k j,pd v k n=some j->k<=j/\j<k+n
 | 0,_,_,h=>by cases h
 | n+1,k,j,h=>by
  unfold pd at h;split at h
  .cases h;omega
  have:=Bz v n (k+1) j h;omega
def Uc{c f r:aa}{v:J->aa}(h:Mid c f r v)(i:J)(ax:i<2)(fr:aa)(xs:ah aC):Mid c f r (om i fr (v,xs)).1:=by
 have b:=lX i ax;have au:=h.pl _ b;unfold om;generalize 4+i*10=o at *;dsimp only;split
 .exact h
 split
 .exact h
 rename_i k hk;have l:=Bz _ _ _ _ hk;have g:=au.x;have m:=au.y;have aS:=SD (v (o+4));have s1:-4194304<=dt (v o) (h5 (v (o+4)) 262144)/\dt (v o) (h5 (v (o+4)) 262144)<=4194304:=by
  change _<=v o/\v o<=_ at g;unfold dt iz;omega
 have s2:-4194304<=dt (v (o+1)) (h6 (v (o+4)) 262144)/\dt (v (o+1)) (h6 (v (o+4)) 262144)<=4194304:=by
  unfold dt iz;omega
 have gy:=l0 (sc (v (o+4))) 196608;have e:=l0 (nH (v (o+4))) 196608;change bm (h5 (v (o+4)) 196608)at gy;change bm (h6 (v (o+4)) 196608)at e;generalize dt (v o) (h5 (v (o+4)) 262144)=X at *;generalize dt (v (o+1)) (h6 (v (o+4)) 262144)=Y at *;generalize h5 (v (o+4)) 196608=W at *;generalize h6 (v (o+4)) 196608=Z at *
 have h1:Mid c f r (dH (24+k*6) 6 (rC X Y W Z (i+1) 40) v):=h.zr (k:=k) U (λj d=>nE _ _ _ _ _ d) (.inr (by
  simp only[mN _ _ _ _ 0 (show 0<6 by omega),mN _ _ _ _ 1 (show 1<6 by omega),mN _ _ _ _ 2 (show 2<6 by omega),mN _ _ _ _ 3 (show 3<6 by omega),mN _ _ _ _ 4 (show 4<6 by omega),mN _ _ _ _ 5 (show 5<6 by omega)];refine⟨s1,s2,gy,e,?_,?_⟩
  .show 1<=(i:aa)+1/\(i:aa)+1<=2;omega
  .show(1:aa)<=40/\(40:aa)<=40;omega))
 have a:=h1.pl _ b;generalize dH (24+k*6) 6 (rC X Y W Z (i+1) 40) v=n at *;refine h1.ql b (λj d=>c4 _ _ _ _ U) ?_;constructor<;>simp only[oO]
 .exact a.x
 .exact a.y
 .exact a.b2
 .exact a.gz
 .exact a.g_
 .exact a.au
 .show(0:aa)<=8/\(8:aa)<=8;omega
 .exact a.e7
 .exact a.eg
 .exact a.dk
 exact a.up
def uj{c f r:aa}{v:J->aa}(h:Mid c f r v)(i:J)(ax:i<2)(bY fr:aa)(xs:ah aC):Mid c f r (iy i bY fr (v,xs)).1:=by
 unfold iy;split
 .exact Ua h i ax ‹_› fr xs
 split
 .exact Uc (Jc (Jf h i ax bY fr xs) i ax fr _) i ax fr _
 exact Jc (Jf h i ax bY fr xs) i ax fr _
def Ci{c f r:aa}{v:J->aa}(h:Mid c f r v)(fr:aa)(xs:ah aC):Mid c f r (jj fr (v,xs)).1:=by
 unfold jj;split
 .exact h
 have a:=h.pl 4 (.inl rfl);have b:=h.pl 14 (.inr rfl);show Mid c f r (bK (bK (bK (bK v 6 (v 16)) 7 (v 17)) 16 (v 6)) 17 (v 7));have h1:Mid c f r (bK (bK v 6 (v 16)) 7 (v 17)):=h.ql (.inl rfl) (λj d=>EN) ⟨a.x,a.y,b.b2,b.gz,a.g_,a.au,a.co,a.e7,a.eg,a.dk,a.up⟩;exact h1.ql (.inr rfl) (λj d=>EN) ⟨b.x,b.y,a.b2,a.gz,b.g_,b.au,b.co,b.e7,b.eg,b.dk,b.up⟩
def Ue{c f r:aa}{v:J->aa}(h:Mid c f r v)(i:J)(ax:i<2)(hd:v (4+i*10+8)=0)(fr:aa)(xs:ah aC):Mid (c+1) f r (mA i fr (v,xs)).1:=by
 have b:=lX i ax;have d:=lX (1-i) U;have au:=h.pl _ b;have m:=au.up;have k:=au.au;unfold mA;generalize 4+i*10=o at *;generalize 4+(1-i)*10=g at *;dsimp only;split
 .refine(h.ql b (λj e=>c4 _ _ _ _ U) ?_).mono U;constructor<;>simp only[oO]
  .exact au.x
  .exact au.y
  .exact au.b2
  .exact au.gz
  .exact au.g_
  .show 0<=v (o+5)-1/\v (o+5)-1<=3;omega
  .exact au.co
  .exact au.e7
  .exact au.eg
  .exact au.dk
  show 0<v (o+5)-1↔v (o+8)=0;omega
 have h1:Mid c f r (bK (bK v (o+5) (v (o+5)-1)) (o+8) 30):=by
  refine h.ql b (λj e=>EN) ?_;constructor<;>simp only[oO]
  .exact au.x
  .exact au.y
  .exact au.b2
  .exact au.gz
  .exact au.g_
  .show 0<=v (o+5)-1/\v (o+5)-1<=3;omega
  .exact au.co
  .exact au.e7
  .show(0:aa)<=30/\(30:aa)<=30;omega
  .exact au.dk
  show 0<v (o+5)-1↔(30:aa)=0;omega
 generalize bK (bK v (o+5) (v (o+5)-1)) (o+8) 30=n at *;have a:=h1.pl _ d;have l:=(h.pl _ d).dk;refine(h1.mono (show c<=c+1 by omega)).ql d (λj e=>c4 _ _ _ _ U) ?_;constructor<;>simp only[oO]
 .exact a.x
 .exact a.y
 .exact a.b2
 .exact a.gz
 .exact a.g_
 .exact a.au
 .exact a.co
 .exact a.e7
 .exact a.eg
 .show 0<=v (g+9)+1/\v (g+9)+1<=c+1;omega
 exact a.up
def BS(u:J)(v:J->aa):fZ u v u=dt (v u) (v (u+2))/\fZ u v (u+1)=dt (v (u+1)) (v (u+3))/\fZ u v (u+5)=v (u+5)-1/\∀ j,j≠u->j≠u+1->j≠u+5->fZ u v j=v j:=by
 unfold fZ;refine⟨by rw[c4 _ _ _ _ U,qz],qz _ _ _,by rw[c4 _ _ _ _ U,c4 _ _ _ _ U,qz],λj h1 h2 a=>by rw[c4 _ _ _ _ h2,c4 _ _ _ _ h1,c4 _ _ _ _ a]⟩
def Ud{c f r:aa}{v:J->aa}(h:Mid c f r v)(k:J)(hk:k<6)(av:v (24+k*6+4)≠0)(fr:aa)(xs:ah aC):((jk k fr (v,xs)).1=true->Mid c f r (jk k fr (v,xs)).2.1)/\Mid (c+1) f r (dH (24+k*6) 6 (λ_=>0) (jk k fr (v,xs)).2.1):=by
 have g:(-4194304<=v (24+k*6+0)/\v (24+k*6+0)<=4194304)/\(-4194304<=v (24+k*6+1)/\v (24+k*6+1)<=4194304)/\bm (v (24+k*6+2))/\bm (v (24+k*6+3))/\(1<=v (24+k*6+4)/\v (24+k*6+4)<=2)/\(1<=v (24+k*6+5)/\v (24+k*6+5)<=40):=(h.px k hk).resolve_left λm=>av (m 4 U)
 have d:∀ v':J->aa,(∀ j,j<24+k*6\/24+k*6+6<=j->v' j=v j)->Mid (c+1) f r (dH (24+k*6) 6 (λ_=>0) v'):=λv' o=>
  (h.mono U).zr hk (λj a=>by rw[nE _ _ _ _ _ a,o j a]) (.inl λq e=>mN _ _ _ _ q e)
 unfold jk;generalize hu:24+k*6=u at *;dsimp only;have aZ:=BS u v;split
 .exact⟨(λh=>Bool.noConfusion h),d _ (λj a=>c4 _ _ _ _ U)⟩
 rename_i h1;split
 .exact⟨(λh=>Bool.noConfusion h),d _ (λj a=>aZ.2.2.2 j U U U)⟩
 rename_i h2;have b:iV (-4194304) (-4194304) 4194304 4194304 (fZ u v u) (fZ u v (u+1))=true:=by simpa using h2
 simp only[iV,ep,gh]at b;have p:=aZ.2.2.2 (u+3) U U U;have s:=aZ.2.2.2 (u+4) U U U;have n:=aZ.2.2.1;have l:Mid c f r (fZ u v):=by
  refine h.zr hk (by rw[hu];exact λj a=>aZ.2.2.2 j U U U) (.inr ?_);rw[hu];show(_<=fZ u v u/\fZ u v u<=_)/\(_<=fZ u v (u+1)/\fZ u v (u+1)<=_)/\bm (fZ u v (u+2))/\bm (fZ u v (u+3))/\(1<=fZ u v (u+4)/\fZ u v (u+4)<=2)/\1<=fZ u v (u+5)/\fZ u v (u+5)<=40;rw[(aZ.2.2.2 (u+2) U U U),p,s,n];refine⟨⟨b.1.1.1,b.1.1.2⟩,⟨b.1.2,b.2⟩,g.2.2.1,g.2.2.2.1,g.2.2.2.2.1,U⟩
 split
 .rename_i i;refine⟨(λh=>Bool.noConfusion h),?_⟩;have t:(2-v (u+4)).toNat<2:=U;have hd:fZ u v (4+(2-v (u+4)).toNat*10+8)=0:=by
   simp only[Ir,ep,gh]at i;exact i.1
  exact(Ue l (2-v (u+4)).toNat t hd fr xs).zr hk (by rw[hu];exact λj a=>nE _ _ _ _ _ a) (.inl (by rw[hu];exact λq e=>mN _ _ _ _ q e))
 refine⟨λ_=>l,d _ (λj a=>aZ.2.2.2 j U U U)⟩
def Uf{c f r:aa}{v:J->aa}(h:Mid c f r v)(k:J)(hk:k<6)(fr:aa)(xs:ah aC):Mid (c+1) f r (qw k fr (v,xs)).1:=by
 unfold qw;split
 .exact h.mono U
 have a:=Ud h k hk ‹_› fr xs;split
 .exact(a.1 ‹_›).mono U
 exact a.2
theorem yR{c f r:aa}{s:(J->aa)×ah aC}(h:Mid c f r s.1)(fr:aa):∀ k:J,k<=6->Mid (c+k) f r (ja fr s k).1
 | 0,_=>by show Mid (c+0) f r s.1;rwa [Int.add_zero]
 | k+1,hk=>by
  rw[show c+((k+1:J):aa)=c+k+1 by omega];exact(Uf (yR h fr k U) k U fr (ja fr s k).2)
def HH(c:aa)(an:0<=c)(o:J)(a:ey o):na c (λq=>ng (o-4+q)):=by
 rcases a with rfl|rfl
 all_goals
  constructor
  all_goals first|(show bm 0;unfold bm;omega)|(refine⟨bt,?_⟩;first|exact an|decide)|(exact⟨λ_=>bt,λ_=>bt⟩)|decide
def Jd{c f r:aa}{v:J->aa}(h:Mid c f r v)(fr:aa)(xs:ah aC):∃ r',Mid 2 f r' (kp fr (v,xs)).1/\r<=r'/\r'<=r+1:=by
 unfold kp;split
 .rename_i a;simp only[Ct,ep,gh]at a;have i:=h.f3;show ∃ r',Mid 2 f r' (bK v 3 (v 3-1))/\r<=r'/\r'<=r+1;refine⟨r,⟨λo au=>?_,λk hk=>(h.px k hk).congr λq b=>c4 _ _ _ _ U,?_,?_,?_,?_⟩,U,U⟩
  .have h1:=h.pl o au;have l:v (o+9)<3:=by rcases au with rfl|rfl;exact a.2.1;exact a.2.2
   have d:na 2 (λq=>v (o+q)):={h1 with dk:=⟨h1.dk.1,by show v (o+9)<=2;omega⟩};exact d.congr λq b=>c4 _ _ _ _ Ay
  .rw[c4 _ _ _ _ U];exact h.f0
  .rw[c4 _ _ _ _ U];exact h.f1
  .rw[c4 _ _ _ _ U];exact h.f2
  rw[qz];omega
 show ∃ r',Mid 2 f r' (dH 24 36 (λ_=>0) (dH 4 20 ng (bK (bK (bK v 3 (v 3-1)) 2 (v 2+1)) 3 600)))/\r<=r'/\r'<=r+1;have e:∀ j,j<4->dH 24 36 (λ_=>0) (dH 4 20 ng (bK (bK (bK v 3 (v 3-1)) 2 (v 2+1)) 3 600)) j=bK (bK (bK v 3 (v 3-1)) 2 (v 2+1)) 3 600 j:=λj m=>by rw[nE _ _ _ _ _ U,nE _ _ _ _ _ U]
 have g:bK (bK (bK v 3 (v 3-1)) 2 (v 2+1)) 3 600 2=v 2+1:=by rw[c4 _ _ _ _ U,qz]
 refine⟨r+1,⟨λo au=>?_,λk hk=>.inl λq b=>?_,?_,?_,?_,?_⟩,U,U⟩
 .refine(HH 2 U o au).congr λq b=>?_;rw[nE _ _ _ _ _ Ay,show o+q=4+(o-4+q)by unfold ey at au;omega,mN _ _ _ _ _ Ay]
 .show dH 24 36 (λ_=>0) (dH 4 20 ng (bK (bK (bK v 3 (v 3-1)) 2 (v 2+1)) 3 600)) (24+k*6+q)=0;rw[show 24+k*6+q=24+(k*6+q)by omega,mN _ _ _ _ _ U]
 .rw[e 0 U,c4 _ _ _ _ U,c4 _ _ _ _ U,c4 _ _ _ _ U];exact h.f0
 .rw[e 1 U,c4 _ _ _ _ U,c4 _ _ _ _ U,c4 _ _ _ _ U];exact h.f1
 .rw[e 2 U,g,h.f2]
 rw[e 3 U,qz];omega
def Je{f r:aa}{v:J->aa}(h:Mid 2 f r v)(g:0<=f/\f<=1073741824)(t:0<=r/\r<=1073741824):lv v=true:=by
 have k:∀ o,ey o->nx v o=true:=λo s=>by
  have p:=h.pl o s;have i:=p.x;have l:=p.y;have g:=p.g_;have aS:=p.au;have an:=p.co;have w:=p.e7;have hd:=p.eg;have aw:=p.dk;have u:=p.up;rw[show o+0=o from rfl]at i;have m:(decide (v (o+5)>0) == decide (v (o+8)=0))=true:=by
   rw[nY,decide_eq_decide];exact u
  unfold nx sA iV ha;rw[m];simp only[ep,gh];exact⟨g,aS,an,w,hd,aw,⟨⟨⟨i.1,i.2⟩,l.1⟩,l.2⟩,trivial⟩
 have ar:∀ j,j<6->py v j=true:=λj n=>by
  unfold py;rw[show 24+6*j=24+j*6+0 by omega,show 25+6*j=24+j*6+1 by omega,show 26+6*j=24+j*6+2 by omega,show 27+6*j=24+j*6+3 by omega,show 28+6*j=24+j*6+4 by omega,show 29+6*j=24+j*6+5 by omega];unfold uJ;rcases h.px j n with c|⟨a,b,_,_,d,e⟩
  .replace c:∀ q,q<6->v (24+j*6+q)=0:=c;rw[c 0 U,c 1 U,c 2 U,c 3 U,c 4 U,c 5 U];rfl
  rw[uW];right;simp only[ha,iV,ep,gh];exact⟨d,e,⟨⟨⟨a.1,a.2⟩,b.1⟩,b.2⟩⟩
 unfold lv;rw[k 4 (.inl rfl),k 14 (.inr rfl)];simp only[pA,ar 0 U,ar 1 U,ar 2 U,ar 3 U,ar 4 U,ar 5 U,ha,ep,gh,s7];rw[h.f0,h.f2];exact⟨g,t,h.f3⟩
def mid_step{f r:aa}{v:J->aa}(h:Mid 2 f r v)(a b:aa):∃ r',Mid 2 (f+1) r' (iL a b v)/\r<=r'/\r'<=r+1:=by
 have e:Mid 2 f r (iy 1 b (v 0) (iy 0 a (v 0) (v,[]))).1:=uj (uj h 0 U a (v 0) []) 1 U b (v 0) _;have g:Mid 2 f r (jj (v 0) (iy 1 b (v 0) (iy 0 a (v 0) (v,[])))).1:=Ci e (v 0) _;have⟨r',c,h1,h2⟩:=Jd (yR g (v 0) 6 bx) (v 0) (ja (v 0) (jj (v 0) (iy 1 b (v 0) (iy 0 a (v 0) (v,[])))) 6).2;unfold iL;refine⟨r',⟨λo au=>(c.pl o au).congr λq d=>c4 _ _ _ _ Ay,λk hk=>(c.px k hk).congr λq d=>c4 _ _ _ _ U,?_,?_,?_,?_⟩,h1,h2⟩
 .rw[qz,h.f0]
 .rw[c4 _ _ _ _ U];exact c.f1
 .rw[c4 _ _ _ _ U];exact c.f2
 rw[c4 _ _ _ _ U];exact c.f3
def Mid.lim{c f r:aa}{v:J->aa}(h:Mid c f r v)(K:0<=f/\f<=1073741824)(M:0<=r/\r<=1073741824):ef c 0 0 v:=λj L=>by
 have B:(if j=0 then(0:aa)else 0)=0:=by split<;>rfl
 rw[B];have z:∀ o,ey o->∀ q,q<10->kK 0 (o+q)<=v (o+q)/\v (o+q)<=j3 c 0 (o+q):=λo l q a=>by
  have p:=h.pl o l;have m:=p.x;have n:=p.y;have d:=p.b2;have e:=p.gz;have s:=p.g_;have t:=p.au;have D:=p.co;have E:=p.e7;have F:=p.eg;have A:=p.dk;rw[(kJ l c 0 q a).1,(kJ l c 0 q a).2]
  match q,a with
  | 0,_=>show -2147483648<=v (o+0)/\v (o+0)<=2147483647;omega
  | 1,_=>show -2147483648<=v (o+1)/\v (o+1)<=2147483647;omega
  | 2,_=>exact d
  | 3,_=>exact e
  | 4,_=>show -0<=v (o+4)/\v (o+4)<=65535+0;omega
  | 5,_=>show -100<=v (o+5)/\v (o+5)<=1000;omega
  | 6,_=>show 0<=v (o+6)/\v (o+6)<=1000;omega
  | 7,_=>show 0<=v (o+7)/\v (o+7)<=1000;omega
  | 8,_=>show 0<=v (o+8)/\v (o+8)<=1000;omega
  | 9,_=>exact A
 by_cases b:j<4
 .have k:=h.f0;have h1:=h.f1;have h2:=h.f2;have H:=h.f3;have g:kK 0 j=0:=aE b;have i:j3 c 0 j=4294967295:=by
   unfold j3;by_cases h:j=1
   .exact aE h
   rw[aB h];exact aE b
  rw[g,i]
  match j,b with
  | 0,_=>omega
  | 1,_=>omega
  | 2,_=>omega
  | 3,_=>omega
 by_cases G:j<14
 .have:=z 4 (.inl rfl) (j-4) U
  rwa [show 4+(j-4)=j by omega]at this
 by_cases w:j<24
 .have:=z 14 (.inr rfl) (j-14) U
  rwa [show 14+(j-14)=j by omega]at this
 have aw:=h.px ((j-24) / 6) U;have a:(j-24)%6<6:=e8 _ bt;have C:24+(j-24) / 6*6+(j-24)%6=j:=by have:=pK (j-24) 6;omega
 have ak:(-2147483648<=v j/\v j<=2147483647)/\((j-24)%6<4\/(0<=v j/\v j<=1000)):=by
  generalize (j-24)%6=q at *;generalize 24+(j-24) / 6*6=u at *;subst C;rcases aw with k|⟨m,n,d,e,s,t⟩
  .replace k:v (u+q)=0:=k q a;omega
  unfold bm at d e
  match q,a with
  | 0,_=>change _<=v (u+0)/\v (u+0)<=_ at m;omega
  | 1,_=>change _<=v (u+1)/\v (u+1)<=_ at n;omega
  | 2,_=>change _<=v (u+2)/\v (u+2)<=_ at d;omega
  | 3,_=>change _<=v (u+3)/\v (u+3)<=_ at e;omega
  | 4,_=>change _<=v (u+4)/\v (u+4)<=_ at s;omega
  | 5,_=>change _<=v (u+5)/\v (u+5)<=_ at t;omega
 have g:kK 0 j=if (j-24)%6<4 then -2147483648 else 0:=by unfold kK;rw[aB b,aB w]
 have i:j3 c 0 j=if (j-24)%6<4 then 2147483647 else 1000:=by unfold j3;rw[aB U,aB b,aB w]
 rw[g,i];split<;>omega
def Ub(aJ:aa)(aw:0<=aJ/\aJ<=4294967295):Mid 2 0 0 (lz aJ 0):=by
 refine⟨λo a=>(HH 2 U o a).congr λq b=>?_,λk hk=>.inl λq b=>?_,rfl,aw,rfl,by show(1:aa)<=600-((0:J):aa)/\(600:aa)-((0:J):aa)<=600;omega⟩
 .rcases a with rfl|rfl
  all_goals
   match q,b with
   | 0,_=>rfl
   | 1,_=>rfl
   | 2,_=>rfl
   | 3,_=>rfl
   | 4,_=>rfl
   | 5,_=>rfl
   | 6,_=>rfl
   | 7,_=>rfl
   | 8,_=>rfl
   | 9,_=>rfl
 show lz aJ 0 (24+k*6+q)=0;unfold lz;rw[aB U,aB U,aB U,aB U,aB U,aB U,aB U,aB U]
end Go.Proofs.YtalagblioepadaaGreatDoor
