/- The proof, part 35. -/
import Derived.Test.YtalagblioepadaaGreatDoorZb34
namespace Go.Proofs.YtalagblioepadaaGreatDoor
set_option linter.all false
open Proofs.Tryz List Go.RowKit
set_option maxRecDepth 100000
set_option maxHeartbeats 1000000
def zH{p:ak}(h:p:=by unfold ej at ar;omega):p:=h
def ov{p:ak}(h:p:=by unfold ej at d;omega):p:=h
def D2{p:ak}(h:p:=by show 0<=_/\_<=1000;omega):p:=h
def DR{p:ak}(h:p:=by rw[dX _ _ _ _ U,dX _ _ _ _ U]):p:=h
section
variable{w w':ai}{bm g bg:J}{v:J->aa}{fr:aa}{xs:ah aC}
def kk(d:aa)(j:J):aa:=if j<4 then 0 else if j<24 then(if (j-4)%10<4 then -2147483648 else if (j-4)%10=4 then -d else if (j-4)%10=5 then -100 else 0)else if (j-24)%6<4 then -2147483648 else 0
def jE(c d:aa)(j:J):aa:=if j=1 then 4294967295 else if j<4 then 4294967295 else if j<24 then(if (j-4)%10<4 then 2147483647 else if (j-4)%10=4 then 65535+d else if (j-4)%10=9 then c else 1000)else if (j-24)%6<4 then 2147483647 else 1000
def d_(c:aa)(k:J)(e:aa)(v:J->aa):ak:=∀ j,j<60->kk (if j=k then e else 0) j<=v j/\v j<=jE c (if j=k then e else 0) j
def d_.hc{c e:aa}{k:J}(h:d_ c k e v)(i:J)(x:aa)(f:kk (if i=k then e else 0) i<=x/\x<=jE c (if i=k then e else 0) i):d_ c k e (bH v i x):=λj d=>by
 unfold bH;by_cases b:j=i
 .have a:(if j=i then x else v j)=x:=aD b;rw[a];subst b;exact f
 have a:(if j=i then x else v j)=v j:=aA b;rw[a];exact h j d
def d_.move{c:aa}{k:J}(h:d_ c k 0 v)(i:J):d_ c i 0 v:=λj a=>by simpa using h j a
def ej(o:J):ak:=o=4\/o=14
def tA{o:J}(a:ej o)(q:J)(b:q<10):dt (o+q)=if q<4 then .i32 else .i64:=by
 rcases a with rfl|rfl
 .unfold dt;rw[aA U,aA U,aD U,show(4+q-4)%10=q by omega]
 unfold dt;rw[aA U,aA U,aD U,show(14+q-4)%10=q by omega]
def kj{o:J}(a:ej o)(c d:aa)(q:J)(b:q<10):kk d (o+q)=(if q<4 then -2147483648 else if q=4 then -d else if q=5 then -100 else 0)/\jE c d (o+q)=(if q<4 then 2147483647 else if q=4 then 65535+d else if q=9 then c else 1000):=by
 have h1:o+q<24/\4<=o+q:=by unfold ej at a;omega
 have h2:(o+q-4)%10=q:=by unfold ej at a;omega
 constructor
 .unfold kk;rw[aA U,aD U,h2]
 unfold jE;rw[aA U,aA U,aD U,h2]
def Bj(q:J):aa:=if q=5 then -100 else 0
def Bb(c:aa)(q:J):aa:=if q=9 then c else 1000
def l6(i:J)(av:i<2):ej (4+i*10):=by unfold ej;omega
def d_.fix{c e:aa}{k:J}(h:d_ c k e v){o:J}(d:ej o)(q:J)(a:q<4):bk (v (o+q)):=by
 have h1:=h (o+q) ov;rw[(kj d c _ q U).1,(kj d c _ q U).2,aD a,aD a]at h1;exact h1
def d_.num{c e:aa}{k:J}(h:d_ c k e v){o:J}(d:ej o)(q:J)(a:5<=q/\q<10):Bj q<=v (o+q)/\v (o+q)<=Bb c q:=by
 have h1:=h (o+q) ov;rw[(kj d c _ q U).1,(kj d c _ q U).2]at h1;simp only[aA (show ¬ q<4 by omega),aA (show ¬ q=4 by omega)]at h1;exact h1
def d_.gI{c e:aa}{o:J}(h:d_ c (o+4) e v)(d:ej o):-e<=v (o+4)/\v (o+4)<=65535+e:=by
 have h1:=h (o+4) ov;rw[aD rfl,(kj d c _ 4 U).1,(kj d c _ 4 U).2]at h1;exact h1
def d_.eK{c e:aa}{o:J}(h:d_ c (o+4) e v)(d:ej o)(a x:aa)(g:-a<=x/\x<=65535+a):d_ c (o+4) a (bH v (o+4) x):=λj f=>by
 unfold bH;by_cases b:j=o+4
 .subst b;rw[aD rfl,aD rfl,(kj d c _ 4 U).1,(kj d c _ 4 U).2];exact g
 have h1:=h j f;rw[aA b]at h1⊢;rw[aA b];exact h1
structure SgI(w:ai)(bm g bg:J)(fr c:aa)(k:J)(e:aa)(v:J->aa)(xs:ah aC)(bV:ai):ak where
 st:St bV bm g bg v fr xs
 cv:Keeps (λj=>bm<=j) w bV
 lim:d_ c k e v
namespace SgI
variable{bV ga:ai}{c e:aa}{k:J}
theorem keep(h:SgI w bm g bg fr c k e v xs bV)(hk:Keeps aG bV ga):SgI w bm g bg fr c k e v xs ga:=⟨h.st.keep hk,h.cv.trans (hk.mono λ_ _ e=>e.elim),h.lim⟩
def b2{ys:ah aC}(h:SgI w bm g bg fr c k e v xs bV)(a:St ga bm g bg v fr ys)(hk:Keeps (λj=>bm<=j) bV ga):SgI w bm g bg fr c k e v ys ga:=⟨a,h.cv.trans hk,h.lim⟩
theorem hc(h:SgI w bm g bg fr c k e v xs bV)(i:J)(av:i<60)(q:IntKind)(a:dt i=q)(x:aa)(b:kk (if i=k then e else 0) i<=x/\x<=jE c (if i=k then e else 0) i):SgI w bm g bg fr c k e (bH v i x) xs (bV.setCell (ad g i ab) (.int q x)):=
 ⟨h.st.set i av q a x,h.cv.setCell (p:=ad g i ab) h.st.oP _,h.lim.hc i x b⟩
def q1(h:SgI w bm g bg fr c k e v xs bV){o:J}(d:ej o)(q:J)(b:5<=q/\q<10)(x:aa)(a:Bj q<=x/\x<=Bb c q):SgI w bm g bg fr c k e (bH v (o+q) x) xs (bV.setCell (ad g (o+q) ab) (I x)):=by
 refine h.hc _ ov _ (by rw[tA d q U,aA U]) x ?_;rw[(kj d c _ q U).1,(kj d c _ q U).2];simp only[aA (show ¬ q<4 by omega),aA (show ¬ q=4 by omega)];exact a
def kt(h:SgI w bm g bg fr c k e v xs bV){o:J}(d:ej o)(q:J)(a:q<4)(x:aa)(b:bk x):SgI w bm g bg fr c k e (bH v (o+q) x) xs (bV.setCell (ad g (o+q) ab) (ag x)):=by
 refine h.hc _ ov _ (by rw[tA d q U,aD a]) x ?_;rw[(kj d c _ q U).1,(kj d c _ q U).2,aD a,aD a];exact b
theorem tl{o:J}(h:SgI w bm g bg fr c (o+4) e v xs bV)(d:ej o)(a x:aa)(b:-a<=x/\x<=65535+a):SgI w bm g bg fr c (o+4) a (bH v (o+4) x) xs (bV.setCell (ad g (o+4) ab) (I x)):=
 ⟨h.st.set _ ov _ (by rw[tA d 4 U,aA U]) x,h.cv.setCell (p:=ad g (o+4) ab) h.st.oP _,h.lim.eK d a x b⟩
theorem wide{o:J}(h:SgI w bm g bg fr c (o+4) e v xs bV)(b:ej o)(a:aa)(d:e<=a):SgI w bm g bg fr c (o+4) a v xs bV:=
 ⟨h.st,h.cv,by
  have h1:=h.lim.gI b;have h2:=h.lim.eK b a (v (o+4)) U
  rwa [XW]at h2⟩
theorem fK(h:SgI w bm g bg fr c k e v xs bV){o:J}(d:ej o)(q:J)(a:4<=q/\q<10):bV.cell? (ad g (o+q) ab)=some (I (v (o+q))):=
 h.st.cell _ ov _ (by rw[tA d q U,aA U])
theorem eB(h:SgI w bm g bg fr c k e v xs bV){o:J}(d:ej o)(q:J)(a:q<4):bV.cell? (ad g (o+q) ab)=some (ag (v (o+q))):=
 h.st.cell _ ov _ (by rw[tA d q U,aD a])
end SgI
def rD(o:J)(v:J->aa):J->aa:=bH (bH v (o+6) (max (v (o+6)-1) 0)) (o+7) (max (v (o+7)-1) 0)
def l3(o:J)(n:aa)(b:aY)(v:J->aa):J->aa:=if b then bH v (o+4) (v (o+4)+n)else v
def o0(o:J)(v:J->aa):J->aa:=bH v (o+4) (v (o+4)%65536)
def sq(o:J)(x y:aa)(v:J->aa):J->aa:=bH (bH v (o+2) x) (o+3) y
def tc(o:J)(b:aY)(v:J->aa):J->aa:=if b then sq o (ei (v (o+2)) 32768) (ei (v (o+3)) 32768) v else v
def iz(o:J)(l:aa)(v:J->aa):J->aa:=sq o (ds (v (o+2)) (ia (v (o+4)) l)) (ds (v (o+3)) (ib (v (o+4)) l)) v
def mn(i o:J)(fr:aa)(b:aY)(s:(J->aa)×ah aC):(J->aa)×ah aC:=
 if b then(iz o 8192 s.1,if ((iz o 8192 s.1 0).tmod 8 == 0)=true then iv fr s.2 (kO (i+1) 8 8 4096 1 8 (iz o 8192 s.1 o))else s.2)else s
def oK(i o:J)(fr:aa)(b:aY)(s:(J->aa)×ah aC):(J->aa)×ah aC:=
 if b=true/\s.1 (o+7)=0 then(bH (iz o 65536 s.1) (o+7) 20,iv fr s.2 (kO (i+1) 9 9 8192 4 0 (bH (iz o 65536 s.1) (o+7) 20 o)))else s
def yN(o:J)(v:J->aa):J->aa:=sq o (qW (v (o+2)) (v (o+3)) 61440 131072).1 (qW (v (o+2)) (v (o+3)) 61440 131072).2 v
def lK(o:J)(b6:aa)(v:J->aa):J->aa:=tc o (ek b6 8) (o0 o (l3 o 1024 (ek b6 2) (l3 o (-1024) (ek b6 1) (rD o v))))
def j4(i:J)(b6 fr:aa)(s:(J->aa)×ah aC):(J->aa)×ah aC:=
 let o:=4+i*10
 let t:=oK i o fr (ek b6 32) (mn i o fr (ek b6 4) (lK o b6 s.1,s.2))
 (yN o t.1,t.2)
def lr(a b:aa):bk (ei a b):=ha _
def yO(a b k m:aa):bk (qW a b k m).1/\bk (qW a b k m).2:=by
 have c:bk 0:=by unfold bk;omega
 unfold qW sj sk;split
 .constructor
  .dsimp only;split
   .exact c
   exact F0 _ _
  dsimp only;split
  .exact c
  exact F0 _ _
 exact⟨lr _ _,lr _ _⟩
def oF(a b:aa):bk (ds a b):=ha _
def Wr{c:aa}(h:St w bm g bg v fr xs)(O:d_ c 0 0 v)(i:J)(av:i<2)(b6:aa):az 347 #[g,I i,aF b6] w λe w'=>e=aV #[]/\SgI w bm g bg fr c 0 0 (j4 i b6 fr (v,xs)).1 (j4 i b6 fr (v,xs)).2 w':=by
 have a:=l6 i av;have al:SgI w bm g bg fr c (4+i*10+4) 0 v xs w:=⟨h,Keeps.refl _ _,O.move _⟩;have Y4:=al.fK a 6 U;have N:=al.fK a 7 U;have f6:=h.free (4+i*10+6);have S:=h.free (4+i*10+7);have qF:0<=v (4+i*10+6)/\v (4+i*10+6)<=1000:=O.num a 6 U;have T':0<=v (4+i*10+7)/\v (4+i*10+7)<=1000:=O.num a 7 U;have b:=af ((al.q1 a 6 U (max (v (4+i*10+6)-1) 0) D2).q1 a 7 U (max (v (4+i*10+7)-1) 0) D2);clear h O al;unfold j4
 go_in
 go_wp2_with fail
 go_region
 generalize vl:4+i*10=o at *;have al:SgI w bm g bg fr c (o+4) 0 (rD o v) xs _:=b.o.keep (Keeps.refl _ _).drew;generalize World.drew _=an at *;clear b Y4 N f6 S qF T';generalize v':rD o v=Z at *;go_wp2_with fail;refine(tt b6 1 _).mono ?_;rintro e _ ⟨rfl,rfl⟩;go_upto_if 32 with fail
 go_cut [] (λbV=>SgI w bm g bg fr c (o+4) (0+1024) (l3 o (-1024) (ek b6 1) Z) xs bV)
 case first=>
  have gf:=al.fK a 4 U;have R:=al.st.free (o+4);have TS:=al.lim.gI a;have B:=af al;clear al;cases aj:ek b6 1
  .go_wp2_with fail;go_meet;simpa[l3,aj]using B.o.wide a (0+1024) U
  go_wp2_with fail;go_meet;simpa[l3,aj,K']using B.o.tl a (0+1024) (Z (o+4)+(-1024)) U
 have al:=hcut;clear hcut;generalize zd:l3 o (-1024) (ek b6 1) Z=v2 at *;go_wp2_with fail;refine(tt b6 2 _).mono ?_;rintro e _ ⟨rfl,rfl⟩;go_upto_if 41 with fail
 go_cut [] (λbV=>SgI w bm g bg fr c (o+4) ((0+1024)+1024) (l3 o 1024 (ek b6 2) v2) xs bV)
 case first=>
  have gf:=al.fK a 4 U;have R:=al.st.free (o+4);have TS:=al.lim.gI a;have B:=af al;clear al;cases aj:ek b6 2
  .go_wp2_with fail;go_meet;simpa[l3,aj]using B.o.wide a ((0+1024)+1024) U
  go_wp2_with fail;go_meet;simpa[l3,aj,K']using B.o.tl a ((0+1024)+1024) (v2 (o+4)+1024) U
 have al:=hcut;clear hcut;generalize zp:l3 o 1024 (ek b6 2) v2=Q at *;have gf:=al.fK a 4 U;have R:=al.st.free (o+4);have m':=z8 (Q (o+4));have b:=af (al.tl a 0 (Q (o+4)%65536) U);go_upto_region 7 with fail
 have al:SgI w bm g bg fr c (o+4) 0 (o0 o Q) xs _:=b.o;generalize World.setCell _ _ _=Y6 at *;clear b gf R m';generalize Aw:o0 o Q=A at *;go_wp2_with fail;refine(tt b6 8 _).mono ?_;rintro e _ ⟨rfl,rfl⟩;go_upto_if 57 with fail
 go_cut [] (λbV=>SgI w bm g bg fr c (o+4) 0 (tc o (ek b6 8) A) xs bV)
 case first=>
  have p:=al.eB a 2 U;have q:World.cell? _ (ad g (o+2+1) ab)=_:=al.eB a 3 U;have f2:=al.st.free (o+2);have f3:=al.st.free (o+2+1);have l:=al.lim.fix a 2 U;have m:=al.lim.fix a 3 U;have sd:=af (Cc (A (o+2)) (A (o+3)) 32768 l m fS);have b:=af al;clear al;cases aj:ek b6 8
  .go_wp2_with fail;go_meet;simpa[tc,aj]using b.o
  go_wp2_with fail;refine(sd.o _).mono ?_;rintro e V' ⟨rfl,T⟩;have al:=b.out.keep (Keeps.bE T a7);clear p q f2 f3 b;have p:=al.eB a 2 U;have q:World.cell? _ (ad g (o+2+1) ab)=_:=al.eB a 3 U;have f2:=al.st.free (o+2);have f3:=al.st.free (o+2+1);have l:=al.lim.fix a 2 U;have m:=al.lim.fix a 3 U;have b:=af ((al.kt a 2 U _ (lr (A (o+2)) 32768)).kt a 3 U _ (lr (A (o+3)) 32768));clear al;go_wp2_with fail;go_meet;simpa[tc,aj,sq]using b.o
 have al:=hcut;clear hcut;generalize CW:tc o (ek b6 8) A=j at *;go_wp2_with fail;refine(tt b6 4 _).mono ?_;rintro e _ ⟨rfl,rfl⟩;go_upto_if 67 with fail
 go_cut [] (λbV=>SgI w bm g bg fr c (o+4) 0 (mn i o fr (ek b6 4) (j,xs)).1 (mn i o fr (ek b6 4) (j,xs)).2 bV)
 case first=>
  have b:=af al;cases aj:ek b6 4
  .clear al;go_wp2_with fail;go_meet;simpa[mn,aj]using b.o
  go_wp2_with fail;obtain⟨G,k⟩:∃ G:ai->ak,∀ W,G W↔SgI w bm g bg fr c (o+4) 0 j xs W:=⟨_,λ_=>Iff.rfl⟩;have V:∀ x:bp G,x.to.cell? (ad g (o+2) ab)=some (ag (j (o+2))):=λx=>((k _).1 x.held).eB a 2 U;have X:∀ x:bp G,x.to.cell? (ad g (o+2+1) ab)=some (ag (j (o+3))):=λx=>((k _).1 x.held).eB a 3 U;have Y:∀ x:bp G,x.to.cell? (ad g (o+4) ab)=some (I (j (o+4))):=λx=>((k _).1 x.held).fK a 4 U;have u:=(k _).2 (al.keep (Keeps.refl _ _).drew);have r:=af (λ(W W':ai) (s:G W) (aj:Below W W W')=>(k W').2 (((k W).1 s).keep (Keeps.bE aj a7)));have E:=af (λ(W:ai) (s:G W)=>(k W).1 s);have D:=af (t' (j (o+2)) (j (o+3)) (ia (j (o+4)) 8192) (ib (j (o+4)) 8192) (al.lim.fix a 2 U) (al.lim.fix a 3 U) (lr _ _) (lr _ _));clear k al;refine cB 14 ?_;refine cC (G) (.range 11) 3 11 ?_;refine de (u) (.range 9) 2 ?_;generalize World.drew _=wd at *;refine dC 9 λK f=>?_;go_simp;refine(xU _ 8192 fS _).mono ?_;rintro e Y2 ⟨rfl,H⟩;have y:=r.out _ _ u H;refine f _ _ (y) ?_;clear f K;refine jg 10 λK f=>?_;go_simp;refine(D.out _).mono ?_;rintro e Y3 ⟨rfl,L⟩;have z:=r.out _ _ y L;refine f _ _ (z) ?_;clear f K;have al:=E.out _ z;clear V X Y u y z H L r E D;have p:=al.eB a 2 U;have q:World.cell? _ (ad g (o+2+1) ab)=_:=al.eB a 3 U;have f2:=al.st.free (o+2);have f3:=al.st.free (o+2+1);have l:=al.lim.fix a 2 U;have m:=al.lim.fix a 3 U;have b:=af ((al.kt a 2 U _ (oF (j (o+2)) (ia (j (o+4)) 8192))).kt a 3 U _ (oF (j (o+3)) (ib (j (o+4)) 8192)));refine cC (λW=>0<=W.heap.size) [11,12,13] 0 3 ?_;refine dC 11 λK f=>?_;go_simp;refine f _ _ (c' _) ?_;clear f K;refine dC 12 λK f=>?_;go_simp;refine f _ _ (c' _) ?_;clear f K;refine kn 13 λK f=>?_;go_simp;refine f _ _ (c' _) ?_;clear f K;clear p q f2 f3 l m al;have al:SgI w bm g bg fr c (o+4) 0 (iz o 8192 j) xs _:=b.o;generalize World.setCell _ _ _=a' at *;clear b;have Y7:a'.cell? (ad g 0 ab)=some (I (iz o 8192 j 0)):=al.st.cell 0 U .i64 rfl;have l':a'.cell? (ad g o ab)=some (ag (iz o 8192 j o)):=al.eB a 0 U;have P:=al.lim.fix a 0 U;generalize h2:iz o 8192 j=d at *;by_cases g':((d 0).tmod 8 == 0)=true
  .have F:=af (p0 al.st (i+1) 8 8 4096 1 8 (d o) P);go_wp2_with fail;refine F.o.mono ?_;rintro e lb ⟨rfl,C,M⟩;have b:=af (al.b2 C M);clear C M F;go_wp2_with fail;go_meet;unfold mn;simp only[aj,h2,g',if_true];exact b.o
  go_wp2_with fail;go_meet;unfold mn;simp only[aj,h2,g',if_true];exact al
 have al:=hcut;clear hcut;generalize aN:mn i o fr (ek b6 4) (j,xs)=t at *;obtain⟨d,ys⟩:=t;go_wp2_with fail;refine(tt b6 32 _).mono ?_;rintro e _ ⟨rfl,rfl⟩;have N:=al.fK a 7 U;have ps:(ek b6 32=true/\d (o+7)=0)\/(ek b6 32=true/\¬ d (o+7)=0)\/ek b6 32=false:=by
  cases ek b6 32
  .exact .inr (.inr rfl)
  by_cases h:d (o+7)=0
  .exact .inl ⟨rfl,h⟩
  exact .inr (.inl ⟨rfl,h⟩)
 rcases ps with⟨aj,au⟩|⟨aj,au⟩|aj
 focus
  go_upto_region 14 with fail
  clear N;obtain⟨G,k⟩:∃ G:ai->ak,∀ W,G W↔SgI w bm g bg fr c (o+4) 0 d ys W:=⟨_,λ_=>Iff.rfl⟩;have V:∀ x:bp G,x.to.cell? (ad g (o+2) ab)=some (ag (d (o+2))):=λx=>((k _).1 x.held).eB a 2 U;have X:∀ x:bp G,x.to.cell? (ad g (o+2+1) ab)=some (ag (d (o+3))):=λx=>((k _).1 x.held).eB a 3 U;have Y:∀ x:bp G,x.to.cell? (ad g (o+4) ab)=some (I (d (o+4))):=λx=>((k _).1 x.held).fK a 4 U;have u:=(k _).2 (al.keep (Keeps.refl _ _).drew);have r:=af (λ(W W':ai) (s:G W) (aj:Below W W W')=>(k W').2 (((k W).1 s).keep (Keeps.bE aj a7)));have E:=af (λ(W:ai) (s:G W)=>(k W).1 s);have D:=af (t' (d (o+2)) (d (o+3)) (ia (d (o+4)) 65536) (ib (d (o+4)) 65536) (al.lim.fix a 2 U) (al.lim.fix a 3 U) (lr _ _) (lr _ _));clear k al;refine cB 14 ?_;refine cC (G) (.range 11) 3 11 ?_;refine de (u) (.range 9) 2 ?_;generalize World.drew _=wd at *;refine dC 9 λK f=>?_;go_simp;refine(xU _ 65536 fS _).mono ?_;rintro e Y2 ⟨rfl,H⟩;have y:=r.out _ _ u H;refine f _ _ (y) ?_;clear f K;refine jg 10 λK f=>?_;go_simp;refine(D.out _).mono ?_;rintro e Y3 ⟨rfl,L⟩;have z:=r.out _ _ y L;refine f _ _ (z) ?_;clear f K;have al:=E.out _ z;clear V X Y u y z H L r E D;have p:=al.eB a 2 U;have q:World.cell? _ (ad g (o+2+1) ab)=_:=al.eB a 3 U;have f2:=al.st.free (o+2);have f3:=al.st.free (o+2+1);have l:=al.lim.fix a 2 U;have m:=al.lim.fix a 3 U;have b:=af ((al.kt a 2 U _ (oF (d (o+2)) (ia (d (o+4)) 65536))).kt a 3 U _ (oF (d (o+3)) (ib (d (o+4)) 65536)));refine cC (λW=>0<=W.heap.size) [11,12,13] 0 3 ?_;refine dC 11 λK f=>?_;go_simp;refine f _ _ (c' _) ?_;clear f K;refine dC 12 λK f=>?_;go_simp;refine f _ _ (c' _) ?_;clear f K;refine kn 13 λK f=>?_;go_simp;refine f _ _ (c' _) ?_;clear f K;clear p q f2 f3 l m al;have al:SgI w bm g bg fr c (o+4) 0 (iz o 65536 d) ys _:=b.o;generalize World.setCell _ _ _=a' at *;clear b;have N:=al.fK a 7 U;have S:=al.st.free (o+7);have b:=af (al.q1 a 7 U 20 (by unfold Bj Bb;omega));clear al;go_upto_region 16 with fail
  have al:SgI w bm g bg fr c (o+4) 0 (bH (iz o 65536 d) (o+7) 20) ys _:=b.o;generalize World.setCell _ _ _=lb at *;clear b N S;have l':lb.cell? (ad g o ab)=some (ag (bH (iz o 65536 d) (o+7) 20 o)):=al.eB a 0 U;have P:=al.lim.fix a 0 U;have hd:oK i o fr (ek b6 32) (d,ys)=(bH (iz o 65536 d) (o+7) 20,iv fr ys (kO (i+1) 9 9 8192 4 0 (bH (iz o 65536 d) (o+7) 20 o))):=aD ⟨aj,au⟩;generalize bH (iz o 65536 d) (o+7) 20=n at *;have F:=af (p0 al.st (i+1) 9 9 8192 4 0 (n o) P);have Y5:(i:aa)+1<=2:=U;go_wp2_with fail;refine F.o.mono ?_;rintro e wc ⟨rfl,C,M⟩;have al:=al.b2 C M;clear C M F l' P;generalize iv _ _ _=ch at *;go_upto_region 17 with fail
 rotate_left
 focus
  go_upto_region 17 with fail
  have hd:oK i o fr (ek b6 32) (d,ys)=(d,ys):=aA (λh=>au h.2);generalize Q':d=n at *;generalize Tq:ys=ch at *
 rotate_left
 focus
  go_upto_region 17 with fail
  have hd:oK i o fr (ek b6 32) (d,ys)=(d,ys):=aA (λh=>by rw[aj]at h;cases h.1);generalize Q':d=n at *;generalize Tq:ys=ch at *
 all_goals
  have p:=al.eB a 2 U;have q:World.cell? _ (ad g (o+2+1) ab)=_:=al.eB a 3 U;have f2:=al.st.free (o+2);have f3:=al.st.free (o+2+1);have l:=al.lim.fix a 2 U;have m:=al.lim.fix a 3 U;have s':=af (Wv (n (o+2)) (n (o+3)) 61440 131072 l m fS fS);have b:=af al;clear al;go_wp2_with fail;refine(s'.o _).mono ?_;rintro e V' ⟨rfl,T⟩;have al:=b.out.keep (Keeps.bE T a7);clear p q f2 f3 b;have p:=al.eB a 2 U;have q:World.cell? _ (ad g (o+2+1) ab)=_:=al.eB a 3 U;have f2:=al.st.free (o+2);have f3:=al.st.free (o+2+1);have l:=al.lim.fix a 2 U;have m:=al.lim.fix a 3 U;have b:=af ((al.kt a 2 U _ (yO (n (o+2)) (n (o+3)) 61440 131072).1).kt a 3 U _ (yO (n (o+2)) (n (o+3)) 61440 131072).2);clear al;go_wp2;go_end0;refine⟨rfl,?_⟩;have r':lK o b6 v=j:=by unfold lK;rw[v',zd,zp,Aw,CW]
  simp only[vl,r',aN,hd];exact⟨b.o.st,b.o.cv,b.o.lim.move 0⟩
end
variable{w w':ai}{bm g bg:J}{v:J->aa}{fr:aa}{xs:ah aC}
def l_(o:J)(v:J->aa):aa×aa×aa:=hF (v o) (v (o+2)) (-3932160) 3932160 1 2
def ma(o:J)(v:J->aa):aa×aa×aa:=hF (v (o+1)) (v (o+3)) (-3932160) 3932160 4 8
def vM(o:J)(v:J->aa):J->aa:=bH (bH (bH (bH v o (l_ o v).1) (o+1) (ma o v).1) (o+2) (l_ o v).2.1) (o+3) (ma o v).2.1
def qJ(i:J)(fr:aa)(s:(J->aa)×ah aC):(J->aa)×ah aC:=
 (vM (4+i*10) s.1,if (bits .or .i64 (l_ (4+i*10) s.1).2.2 (ma (4+i*10) s.1).2.2 != 0)=true then iv fr s.2 (kO (i+1) 3 3 8192 3 0 (vM (4+i*10) s.1 (4+i*10)))else s.2)
def yV(p v bm av jw hq:aa)(aX:bk v)(h1:bk bm)(h2:bk av):bk (hF p v bm av jw hq).1/\bk (hF p v bm av jw hq).2.1:=by
 have c:∀ a b,bk (ei a b):=λa b=>ha _;unfold hF;dsimp only;split
 .exact⟨h1,c _ _⟩
 split
 .exact⟨h2,c _ _⟩
 exact⟨ha _,aX⟩
section
variable{P:Program}{ops:a6 Oper}{md:Region.Mode}{Q:Exit->Act->ai->ak}{F:ai->ak}{late:J->aY}{aL full:a6 aY}{gl m:J}{a:Act}
def Rz(k j l:J)(c d e:a6 aY)(r:(Region.ready md ops aL == [k,j,l])=true)(g:late k=false)(n:late j=false)(o:late l=false)(p:(ops[k]?).isSome=true)(ar:(ops[j]?).isSome=true)(q:(ops[l]?).isSome=true)(ax:aL.setIfInBounds k true=c)(s:aL.setIfInBounds j true=d)(t:aL.setIfInBounds l true=e)(u:Region.wanted (dj ops k) (yielded ops a.tmps)=true)(v:Region.wanted (dj ops j) (yielded ops a.tmps)=true)(x:Region.wanted (dj ops l) (yielded ops a.tmps)=true)(h:∀ K:Act->ai->ak,(∀ a' w',F w'->ew P md ops F Q late full gl m c a' w'->K a' w')->(dj ops k).wp P a w K Q)(h2:∀ K:Act->ai->ak,(∀ a' w',F w'->ew P md ops F Q late full gl m d a' w'->K a' w')->(dj ops j).wp P a w K Q)(f:∀ K:Act->ai->ak,(∀ a' w',F w'->ew P md ops F Q late full gl m e a' w'->K a' w')->(dj ops l).wp P a w K Q):ew P md ops F Q late full gl (m+1) aL a w:=by
 have b:Region.ready md ops aL=[k,j,l]:=by simpa using r
 refine⟨w1,λi av=>?_⟩;rw[b]at av;rcases e3.1 av with rfl|av
 .exact vE c g p ax u h
 rcases e3.1 av with rfl|av
 .exact vE d n ar s v h2
 obtain rfl:i=l:=by simpa using av
 exact vE e o q t x f
end
def Wp{c:aa}{bV:ai}(h:SgI w bm g bg fr c 0 0 v xs bV)(i:J)(av:i<2):az 348 #[g,I i] bV λe w'=>e=aV #[]/\SgI w bm g bg fr c 0 0 (qJ i fr (v,xs)).1 (qJ i fr (v,xs)).2 w':=by
 have f:=l6 i av;have B:=af A1;unfold qJ;have⟨G,n⟩:=hj (F:=λW=>SgI w bm g bg fr c 0 0 v xs W);have q:∀ W,G W->W.cell? (ad g (4+i*10) ab)=some (ag (v (4+i*10))):=λW j=>((n W).1 j).eB f 0 U;have r:∀ W,G W->W.cell? (ad g (4+i*10+1) ab)=some (ag (v ((4+i*10)+1))):=λW j=>((n W).1 j).eB f 1 U;have s:∀ W,G W->W.cell? (ad g (4+i*10+2) ab)=some (ag (v ((4+i*10)+2))):=λW j=>((n W).1 j).eB f 2 U;have t:∀ W,G W->W.cell? (ad g (4+i*10+2+1) ab)=some (ag (v ((4+i*10)+3))):=λW j=>((n W).1 j).eB f 3 U;have l:=(n _).2 (h.keep (Keeps.refl _ _).drew);have p:=af (λ(W W':ai) (j:G W) (aj:Below W W W')=>(n W').2 (((n W).1 j).keep (Keeps.bE aj a7)));have P:=af (λ(W:ai) (j:G W)=>(n W).1 j);have T:=h.lim.fix f 0 U;have V:=h.lim.fix f 1 U;have L:=h.lim.fix f 2 U;have M:=h.lim.fix f 3 U;have H:=af (Wt (v (4+i*10)) (v ((4+i*10)+1)) (v ((4+i*10)+2)) (v ((4+i*10)+3)) (-3932160) (-3932160) 3932160 3932160 T V L M U U);have D:=yV (v (4+i*10)) (v ((4+i*10)+2)) (-3932160) 3932160 1 2 L fS fS;have E:=yV (v ((4+i*10)+1)) (v ((4+i*10)+3)) (-3932160) 3932160 4 8 M fS fS;change bk (l_ (4+i*10) v).1/\bk (l_ (4+i*10) v).2.1 at D;change bk (ma (4+i*10) v).1/\bk (ma (4+i*10) v).2.1 at E;change Hid (∀ w,Calls _ _ _ w λe w'=>e=aV #[aM #[ag (l_ (4+i*10) v).1,ag (ma (4+i*10) v).1],aM #[ag (l_ (4+i*10) v).2.1,ag (ma (4+i*10) v).2.1],I (bits .or .i64 (l_ (4+i*10) v).2.2 (ma (4+i*10) v).2.2),I 0]/\_)at H;unfold vM;generalize l_ (4+i*10) v=X at *;generalize ma (4+i*10) v=Y at *
 go_in
 go_wp2_with fail;generalize a':4+i*10=o at *;obtain⟨F,a⟩:∃ F:ai->ak,∀ W,F W:=⟨λ_=>True,λ_=>trivial⟩;refine cB 24 ?_;refine cC (F) (.range 24) 0 24 ?_;refine de (a bV.drew) [0,1,2,3,4,6,7,8] 16 ?_;generalize bV.drew=C at *;have x:=q C l;have y:=r C l;have z:=s C l;have A:=t C l;refine Rz (m:=15) 5 9 10 #[true,true,true,true,true,true,true,true,true,false,false,false,false,false,false,false,false,false,false,false,false,false,false,false] #[true,true,true,true,true,false,true,true,true,true,false,false,false,false,false,false,false,false,false,false,false,false,false,false] #[true,true,true,true,true,false,true,true,true,false,true,false,false,false,false,false,false,false,false,false,false,false,false,false] aH aH aH aH aH aH aH aH aH aH gh gh gh (λK d=>?_) (λK d=>?_) (λK d=>?_)
 all_goals simp only[dj,gY]
 focus
  go_simp;refine d _ _ (a _) ?_;refine rQ (m:=14) 9 10 #[true,true,true,true,true,true,true,true,true,true,false,false,false,false,false,false,false,false,false,false,false,false,false,false] #[true,true,true,true,true,true,true,true,true,false,true,false,false,false,false,false,false,false,false,false,false,false,false,false] aH aH aH aH aH aH aH gh gh (λK d=>?_) (λK d=>?_)
  all_goals simp only[dj,gY]
  focus
   go_simp;refine d _ _ (a _) ?_;refine dC 10 λK d=>?_;go_simp;refine aT (B.o _) λan k=>?_;have b:=p.o _ _ l k;have x:=q an b;have y:=r an b;have z:=s an b;have A:=t an b;refine d _ _ (a _) ?_
  rotate_left
  focus
   go_simp;refine aT (B.o _) λan k=>?_;have b:=p.o _ _ l k;have x:=q an b;have y:=r an b;have z:=s an b;have A:=t an b;refine d _ _ (a _) ?_;refine gZ 9 (a _) ?_
 rotate_left 2
 focus
  go_simp;refine d _ _ (a _) ?_;refine rQ (m:=14) 5 10 #[true,true,true,true,true,true,true,true,true,true,false,false,false,false,false,false,false,false,false,false,false,false,false,false] #[true,true,true,true,true,false,true,true,true,true,true,false,false,false,false,false,false,false,false,false,false,false,false,false] aH aH aH aH aH aH aH gh gh (λK d=>?_) (λK d=>?_)
  all_goals simp only[dj,gY]
  focus
   go_simp;refine d _ _ (a _) ?_;refine dC 10 λK d=>?_;go_simp;refine aT (B.o _) λan k=>?_;have b:=p.o _ _ l k;have x:=q an b;have y:=r an b;have z:=s an b;have A:=t an b;refine d _ _ (a _) ?_
  rotate_left
  focus
   go_simp;refine aT (B.o _) λan k=>?_;have b:=p.o _ _ l k;have x:=q an b;have y:=r an b;have z:=s an b;have A:=t an b;refine d _ _ (a _) ?_;refine gZ 5 (a _) ?_
 rotate_left 2
 focus
  go_simp;refine aT (B.o _) λan k=>?_;have b:=p.o _ _ l k;have x:=q an b;have y:=r an b;have z:=s an b;have A:=t an b;refine d _ _ (a _) ?_;refine rQ (m:=14) 5 9 #[true,true,true,true,true,true,true,true,true,false,true,false,false,false,false,false,false,false,false,false,false,false,false,false] #[true,true,true,true,true,false,true,true,true,true,true,false,false,false,false,false,false,false,false,false,false,false,false,false] aH aH aH aH aH aH aH gh gh (λK d=>?_) (λK d=>?_)
  all_goals simp only[dj,gY]
  focus
   go_simp;refine d _ _ (a _) ?_;refine gZ 9 (a _) ?_
  rotate_left
  focus
   go_simp;refine d _ _ (a _) ?_;refine gZ 5 (a _) ?_
 all_goals
  refine dC 11 λK d=>?_;go_simp;refine aT (H.o _) λaB R=>?_;have al:=P.o _ (p.o _ _ b R);refine d _ _ (a _) ?_;refine de (a aB) [12,13,14,15,16] 7 ?_;have hd:=al.eB f 0 U;have h2:=al.eB f 1 U;have lb:=al.eB f 2 U;have l':World.cell? _ (ad g (o+2+1) ab)=_:=al.eB f 3 U;have f0:=al.st.free o;have f1:=al.st.free (o+1);have f2:=al.st.free (o+2);have f3:=al.st.free (o+2+1);have u:=af ((((al.kt f 0 U _ D.1).kt f 1 U _ E.1).kt f 2 U _ D.2).kt f 3 U _ E.2);refine gZ 17 (a _) ?_;refine gZ 18 (a _) ?_;refine gZ 19 (a _) ?_;refine gZ 20 (a _) ?_;refine gZ 21 (a _) ?_;refine gZ 22 (a _) ?_;refine hX 23 (a _) ?_;have al:=u.o;generalize World.setCell (World.setCell (World.setCell (World.setCell _ _ _) _ _) _ _) _ _=bn at *;generalize N:bH (bH (bH (bH v (o+0) X.1) (o+1) Y.1) (o+2) X.2.1) (o+3) Y.2.1=v' at *;rw[re]at N;have g':bn.cell? (ad g o ab)=some (ag (v' o)):=al.eB f 0 U;have Z:=al.lim.fix f 0 U;by_cases aj:(bits .or .i64 X.2.2 Y.2.2 != 0)=true
  .have Q:=af (p0 al.st (i+1) 3 3 8192 3 0 (v' o) Z);go_wp2_with fail;refine aT Q.o ?_;rintro gf ⟨O,S⟩;have u:=af (al.b2 O S);go_wp2;go_end0;exact⟨rfl,u.o⟩
  have u:=af al;go_wp2;go_end0;exact⟨rfl,u.o⟩
def dN(o n:J)(f:J->aa)(v:J->aa):J->aa:=λj=>if o<=j/\j<o+n then f (j-o)else v j
def mO(x y f dd:aa)(q:J):aa:=if q=0 then x else if q=1 then y else if q=4 then f else if q=5 then 3 else if q=9 then dd else 0
def nD(k:aa):aa:=if k%2=1 then 2621440 else -2621440
def oI(k:aa):aa:=if 2<=k then 2621440 else -2621440
def mT(v:J->aa):aa:=iE (v 1) / 65536*4 / 65536
def qp(i:J)(fr:aa)(s:(J->aa)×ah aC):(J->aa)×ah aC:=
 let o:=4+i*10
 if 1<s.1 (o+8)then(bH s.1 (o+8) (s.1 (o+8)-1),s.2)
 else(dN o 10 (mO (nD (mT s.1)) (oI (mT s.1)) 0 (s.1 (o+9))) (bH (bH s.1 (o+8) (s.1 (o+8)-1)) 1 (iE (s.1 1))),iv fr s.2 (kO (i+1) 6 6 16384 9 0 (nD (mT s.1))))
def qB(v:J->aa):J->J->b4 J
 | _,0=>none
 | k,n+1=>if v (24+k*6+4)=0 then some k else qB v (k+1) n
def r9(x y bV ga du a:aa)(q:J):aa:=if q=0 then x else if q=1 then y else if q=2 then bV else if q=3 then ga else if q=4 then du else a
def pD(i:J)(fr:aa)(s:(J->aa)×ah aC):(J->aa)×ah aC:=
 let o:=4+i*10
 if 0<s.1 (o+6)then s else match qB s.1 0 6 with
  | none=>s
  | some k=>(bH (dN (24+k*6) 6 (r9 (ds (s.1 o) (ia (s.1 (o+4)) 262144)) (ds (s.1 (o+1)) (ib (s.1 (o+4)) 262144)) (ia (s.1 (o+4)) 196608) (ib (s.1 (o+4)) 196608) (i+1) 40) s.1) (o+6) 8,iv fr s.2 (kO (i+1) 1 1 16384 5 0 (s.1 o)))
def jh(i:J)(b6 fr:aa)(s:(J->aa)×ah aC):(J->aa)×ah aC:=
 if 0<s.1 (4+i*10+8)then qp i fr s else if ek b6 16=true then pD i fr (qJ i fr (j4 i b6 fr s))else qJ i fr (j4 i b6 fr s)
def Fx(v:J->aa):aY:=decide (0<v 12) || (decide (0<v 22) || !kp (fx (v 14) (v 4)) (fx (v 15) (v 5)) (ds 262144 262144))
def kc(fr:aa)(s:(J->aa)×ah aC):(J->aa)×ah aC:=
 if Fx s.1=true then s else(bH (bH (bH (bH s.1 6 (s.1 16)) 7 (s.1 17)) 16 (s.1 6)) 17 (s.1 7),iv fr s.2 (kO 0 4 4 16384 6 0 0))
def nK(i:J)(fr:aa)(s:(J->aa)×ah aC):(J->aa)×ah aC:=
 let o:=4+i*10
 let a:=4+(1-i)*10
 let b:=bH s.1 (o+5) (s.1 (o+5)-1)
 let c:=iv fr s.2 (kO (i+1) 2 2 32768 8 0 (s.1 o))
 if 1<s.1 (o+5)then(b,c)else(bH (bH b (o+8) 30) (a+9) (s.1 (a+9)+1),iv fr c (kO (i+1) 5 5 32768 10 0 (s.1 o)))
def gx(u:J)(v:J->aa):J->aa:=bH (bH (bH v (u+5) (v (u+5)-1)) u (ds (v u) (v (u+2)))) (u+1) (ds (v (u+1)) (v (u+3)))
def Hj(u p:J)(v:J->aa):aY:=decide (v (p+8)=0)&&kp (fx (v p) (v u)) (fx (v (p+1)) (v (u+1))) (ds 65536 262144)
def ke(k:J)(fr:aa)(s:(J->aa)×ah aC):aY×(J->aa)×ah aC:=
 let u:=24+k*6
 if s.1 (u+5)=1 then(false,bH s.1 (u+5) (s.1 (u+5)-1),s.2)
 else if iA (-4194304) (-4194304) 4194304 4194304 (gx u s.1 u) (gx u s.1 (u+1))=false then(false,gx u s.1,s.2)
 else if Hj u (4+(2-s.1 (u+4)).toNat*10) (gx u s.1)=true then(false,nK (2-s.1 (u+4)).toNat fr (gx u s.1,s.2))
 else(true,gx u s.1,s.2)
def sa(k:J)(fr:aa)(s:(J->aa)×ah aC):(J->aa)×ah aC:=
 if s.1 (24+k*6+4)=0 then s else if (ke k fr s).1=true then(ke k fr s).2 else(dN (24+k*6) 6 (λ_=>0) (ke k fr s).2.1,(ke k fr s).2.2)
def jj(fr:aa)(s:(J->aa)×ah aC):J->(J->aa)×ah aC
 | 0=>s
 | k+1=>sa k fr (jj fr s k)
def mD(q:J):aa:=if q<10 then mO (-2097152) 0 0 0 q else mO 2097152 0 32768 0 (q-10)
def BA(v:J->aa):aY:=decide (1<v 3)&&(decide (v 13<3)&&decide (v 23<3))
def kV(fr:aa)(s:(J->aa)×ah aC):(J->aa)×ah aC:=
 if BA s.1=true then(bH s.1 3 (s.1 3-1),s.2)
 else(dN 24 36 (λ_=>0) (dN 4 20 mD (bH (bH (bH s.1 3 (s.1 3-1)) 2 (s.1 2+1)) 3 600)),iv fr s.2 (kO 0 7 7 32768 12 0 0))
def stepG(a b fr:aa)(v:J->aa):(J->aa)×ah aC:=kV fr (jj fr (kc fr (jh 1 b fr (jh 0 a fr (v,[])))) 6)
def jI(a b:aa)(v:J->aa):J->aa:=bH (stepG a b (v 0) v).1 0 (v 0+1)
def mj(a b:aa)(v:J->aa):ah aC:=(stepG a b (v 0) v).2
structure ny(c:aa)(p:J->aa):ak where
 x:-3932160<=p 0/\p 0<=3932160
 y:-3932160<=p 1/\p 1<=3932160
 bV:bk (p 2)
 ga:bk (p 3)
 gI:0<=p 4/\p 4<=65535
 ar:0<=p 5/\p 5<=3
 co:0<=p 6/\p 6<=8
 eV:0<=p 7/\p 7<=20
 eQ:0<=p 8/\p 8<=30
 dd:0<=p 9/\p 9<=c
 up:0<p 5↔p 8=0
def s5(p:J->aa):ak:=(∀ q,q<6->p q=0)\/((-4194304<=p 0/\p 0<=4194304)/\(-4194304<=p 1/\p 1<=4194304)/\bk (p 2)/\bk (p 3)/\(1<=p 4/\p 4<=2)/\(1<=p 5/\p 5<=40))
structure Mid(c f r:aa)(v:J->aa):ak where
 pl:∀ o,ej o->ny c (λq=>v (o+q))
 p1:∀ k,k<6->s5 (λq=>v (24+k*6+q))
 f0:v 0=f
 f1:0<=v 1/\v 1<=4294967295
 f2:v 2=r
 f3:1<=v 3/\v 3<=600
def s5.congr{p lx:J->aa}(h:s5 p)(a:∀ q,q<6->lx q=p q):s5 lx:=by
 unfold s5 at h⊢;rw[a 0 U,a 1 U,a 2 U,a 3 U,a 4 U,a 5 U];exact h.imp (λh q b=>(a q b).trans (h q b)) id
def ny.congr{c:aa}{p lx:J->aa}(h:ny c p)(a:∀ q,q<10->lx q=p q):ny c lx:=by
 have b:=a 0 U;have h1:=a 1 U;have h2:=a 2 U;have d:=a 3 U;have e:=a 4 U;have f:=a 5 U;have g:=a 6 U;have i:=a 7 U;have j:=a 8 U;have k:=a 9 U;have⟨l,m,o,r,s,t,u,v,w,x,n⟩:=h;constructor<;>simp only[b,h1,h2,d,e,f,g,i,j,k]<;>assumption
def ny.mono{c d:aa}{p:J->aa}(h:ny c p)(aq:c<=d):ny d p:={h with dd:=⟨h.dd.1,zc h.dd.2 aq⟩}
theorem Mid.mono{c d f r:aa}{v:J->aa}(h:Mid c f r v)(aq:c<=d):Mid d f r v:={h with pl:=λo a=>(h.pl o a).mono aq}
def Mid.pR{c f r:aa}{v v':J->aa}(h:Mid c f r v){o:J}(a:ej o)(ax:∀ j,j<o\/o+10<=j->v' j=v j)(ar:ny c (λq=>v' (o+q))):Mid c f r v':=by
 have i:4<=o/\o+10<=24:=by unfold ej at a;omega
 refine⟨λd b=>?_,λk hk=>(h.p1 k hk).congr λq g=>ax _ (.inr U),?_,?_,?_,?_⟩
 .by_cases e:d=o
  .subst e;exact ar
  exact(h.pl d b).congr λq g=>ax _ (by unfold ej at a b;omega)
 .rw[ax 0 (.inl U)];exact h.f0
 .rw[ax 1 (.inl U)];exact h.f1
 .rw[ax 2 (.inl U)];exact h.f2
 rw[ax 3 (.inl U)];exact h.f3
def Mid.yM{c f r:aa}{v v':J->aa}(h:Mid c f r v){k:J}(hk:k<6)(ax:∀ j,j<24+k*6\/24+k*6+6<=j->v' j=v j)(ar:s5 (λq=>v' (24+k*6+q))):Mid c f r v':=by
 refine⟨λg a=>(h.pl g a).congr λq d=>ax _ (.inl (by unfold ej at a;omega)),λj b=>?_,?_,?_,?_,?_⟩
 .by_cases e:j=k
  .subst e;exact ar
  exact(h.p1 j b).congr λq d=>ax _ U
 .rw[ax 0 (.inl U)];exact h.f0
 .rw[ax 1 (.inl U)];exact h.f1
 .rw[ax 2 (.inl U)];exact h.f2
 rw[ax 3 (.inl U)];exact h.f3
def n9(v:J->aa)(o a q:J)(x:aa):bH v (o+a) x (o+q)=if q=a then x else v (o+q):=by
 unfold bH;by_cases h:q=a
 .rw[aD h,aD U]
 rw[aA h,aA U]
def XV(v:J->aa)(o q:J)(x:aa):bH v o x (o+q)=if q=0 then x else v (o+q):=n9 v o 0 q x
def p4(v:J->aa)(o:J)(x:aa):bH v o x o=x:=aD rfl
def dX(v:J->aa)(o j:J)(x:aa)(h:j≠o):bH v o x j=v j:=aA h
def nX(o n:J)(f v:J->aa)(q:J)(h:q<n):dN o n f v (o+q)=f q:=by
 unfold dN;rw[aD U,show o+q-o=q by omega]
def pW(o n:J)(f v:J->aa)(j:J)(h:j<o\/o+n<=j):dN o n f v j=v j:=aA U
structure iQ(o:J)(v v':J->aa):ak where
 same:∀ j,j≠o+2->j≠o+3->j≠o+4->j≠o+6->j≠o+7->v' j=v j
 aB:bk (v' (o+2))
 bn:bk (v' (o+3))
 co:0<=v' (o+6)/\v' (o+6)<=8
 eV:0<=v' (o+7)/\v' (o+7)<=20
def iQ.CD{o:J}{v v':J->aa}(h:iQ o v v'){x y:aa}(e:bk x)(f:bk y):iQ o v (sq o x y v')/\sq o x y v' (o+4)=v' (o+4):=by
 unfold sq;refine⟨⟨λj h2 a b c d=>?_,?_,?_,?_,?_⟩,?_⟩
 .rw[dX _ _ _ _ a,dX _ _ _ _ h2];exact h.same j h2 a b c d
 all_goals simp only[n9]
 .exact e
 .exact f
 .exact h.co
 .exact h.eV
 rfl
def iQ.tl{o:J}{v v':J->aa}(h:iQ o v v')(x:aa):iQ o v (bH v' (o+4) x):=by
 refine⟨λj h2 b a c d=>?_,?_,?_,?_,?_⟩
 .rw[dX _ _ _ _ a];exact h.same j h2 b a c d
 all_goals simp only[n9]
 .exact h.aB
 .exact h.bn
 .exact h.co
 exact h.eV
def iQ.Kz{o:J}{v v':J->aa}(h:iQ o v v'):iQ o v (bH v' (o+7) 20)/\bH v' (o+7) 20 (o+4)=v' (o+4):=by
 refine⟨⟨λj h2 b c d a=>?_,?_,?_,?_,?_⟩,?_⟩
 .rw[dX _ _ _ _ a];exact h.same j h2 b c d a
 all_goals simp only[n9]
 .exact h.aB
 .exact h.bn
 .exact h.co
 .show(0:aa)<=20/\(20:aa)<=20;decide
 rfl
def iQ.goes{o:J}{v v':J->aa}(h:iQ o v v')(l:aa):iQ o v (iz o l v')/\iz o l v' (o+4)=v' (o+4):=h.CD (oF _ _) (oF _ _)
def W7{c:aa}{v:J->aa}{o:J}(h:ny c (λq=>v (o+q)))(i:J)(p:o=4+i*10)(b6 fr:aa)(xs:ah aC):iQ o v (j4 i b6 fr (v,xs)).1/\0<=(j4 i b6 fr (v,xs)).1 (o+4)/\(j4 i b6 fr (v,xs)).1 (o+4)<=65535:=by
 have m:iQ o v (rD o v):=by
  have a:=h.co;have g:=h.eV;refine⟨λj h2 k d a g=>?_,?_,?_,?_,?_⟩
  .unfold rD;rw[dX _ _ _ _ g,dX _ _ _ _ a]
  all_goals unfold rD;simp only[n9]
  .exact h.bV
  .exact h.ga
  .show 0<=max (v (o+6)-1) 0/\max (v (o+6)-1) 0<=8;omega
  show 0<=max (v (o+7)-1) 0/\max (v (o+7)-1) 0<=20;omega
 have h1:∀ n b l,iQ o v l->iQ o v (l3 o n b l):=λn b l h1=>by
  cases b
  .exact h1
  exact h1.tl _
 have h2:=h1 1024 (ek b6 2) _ (h1 (-1024) (ek b6 1) _ m);generalize r:l3 o 1024 (ek b6 2) (l3 o (-1024) (ek b6 1) (rD o v))=v2 at *;have k:iQ o v (o0 o v2):=h2.tl _;have f3:0<=o0 o v2 (o+4)/\o0 o v2 (o+4)<=65535:=by
  unfold o0;rw[p4];omega
 have d:iQ o v (lK o b6 v)/\(0<=lK o b6 v (o+4)/\lK o b6 v (o+4)<=65535):=by
  unfold lK;rw[r];cases ek b6 8
  .exact⟨k,f3⟩
  have d:=k.CD (lr (o0 o v2 (o+2)) 32768) (lr (o0 o v2 (o+3)) 32768);exact⟨d.1,by rw[show tc o true (o0 o v2) (o+4)=_ from d.2];exact f3⟩
 have f:iQ o v (mn i o fr (ek b6 4) (lK o b6 v,xs)).1/\(0<=(mn i o fr (ek b6 4) (lK o b6 v,xs)).1 (o+4)/\(mn i o fr (ek b6 4) (lK o b6 v,xs)).1 (o+4)<=65535):=by
  cases ek b6 4
  .exact d
  have f:=d.1.goes 8192;exact⟨f.1,by show 0<=iz o 8192 (lK o b6 v) (o+4)/\iz o 8192 (lK o b6 v) (o+4)<=65535;rw[f.2];exact d.2⟩
 unfold j4;simp only[<-p];generalize mn i o fr (ek b6 4) (lK o b6 v,xs)=t at *;have a:iQ o v (oK i o fr (ek b6 32) t).1/\(0<=(oK i o fr (ek b6 32) t).1 (o+4)/\(oK i o fr (ek b6 32) t).1 (o+4)<=65535):=by
  unfold oK;split
  .have a:=f.1.goes 65536;exact⟨a.1.Kz.1,by show 0<=bH (iz o 65536 t.1) (o+7) 20 (o+4)/\bH (iz o 65536 t.1) (o+7) 20 (o+4)<=65535;rw[a.1.Kz.2,a.2];exact f.2⟩
  exact f
 generalize oK i o fr (ek b6 32) t=e at *;have g:=a.1.CD (yO (e.1 (o+2)) (e.1 (o+3)) 61440 131072).1 (yO (e.1 (o+2)) (e.1 (o+3)) 61440 131072).2;exact⟨g.1,by show 0<=yN o e.1 (o+4)/\yN o e.1 (o+4)<=65535;rw[show yN o e.1 (o+4)=_ from g.2];exact a.2⟩
def H'{c f r:aa}{v:J->aa}(h:Mid c f r v)(i:J)(av:i<2)(b6 fr:aa)(xs:ah aC):Mid c f r (j4 i b6 fr (v,xs)).1:=by
 have a:=l6 i av;have ar:=h.pl _ a;obtain⟨h1,h2⟩:=W7 ar i rfl b6 fr xs;generalize (j4 i b6 fr (v,xs)).1=v' at *;generalize 4+i*10=o at *;refine h.pR a (λj b=>h1.same j U U U U U) ?_;have e:∀ q,q≠2->q≠3->q≠4->q≠6->q≠7->v' (o+q)=v (o+q):=λq _ _ _ _ _=>h1.same _ U U U U U;refine⟨?_,?_,h1.aB,h1.bn,h2,?_,h1.co,h1.eV,?_,?_,?_⟩
 .show _<=v' (o+0)/\v' (o+0)<=_;rw[e 0 U U U U U];exact ar.x
 .show _<=v' (o+1)/\v' (o+1)<=_;rw[e 1 U U U U U];exact ar.y
 .show _<=v' (o+5)/\v' (o+5)<=_;rw[e 5 U U U U U];exact ar.ar
 .show _<=v' (o+8)/\v' (o+8)<=_;rw[e 8 U U U U U];exact ar.eQ
 .show _<=v' (o+9)/\v' (o+9)<=_;rw[e 9 U U U U U];exact ar.dd
 show 0<v' (o+5)↔v' (o+8)=0;rw[e 5 U U U U U,e 8 U U U U U];exact ar.up
def Ku(p v bm av jw hq:aa)(h:bm<=av):bm<=(hF p v bm av jw hq).1/\(hF p v bm av jw hq).1<=av:=by
 unfold hF;dsimp only;split
 .exact⟨jm _,h⟩
 split
 .exact⟨h,jm _⟩
 exact⟨U,U⟩
def H8{c f r:aa}{v:J->aa}(h:Mid c f r v)(i:J)(av:i<2)(fr:aa)(xs:ah aC):Mid c f r (qJ i fr (v,xs)).1:=by
 have a:=l6 i av;have ar:=h.pl _ a;show Mid c f r (vM (4+i*10) v);generalize 4+i*10=o at *;have b:=Ku (v o) (v (o+2)) (-3932160) 3932160 1 2 U;have d:=(yV (v o) (v (o+2)) (-3932160) 3932160 1 2 ar.bV fS fS).2;have e:=Ku (v (o+1)) (v (o+3)) (-3932160) 3932160 4 8 U;have g:=(yV (v (o+1)) (v (o+3)) (-3932160) 3932160 4 8 ar.ga fS fS).2;unfold vM;change _<=(l_ o v).1/\(l_ o v).1<=_ at b;change bk (l_ o v).2.1 at d;change _<=(ma o v).1/\(ma o v).1<=_ at e;change bk (ma o v).2.1 at g;generalize l_ o v=X at *;generalize ma o v=Y at *;refine h.pR a (λj k=>by rw[dX _ _ _ _ U,dX _ _ _ _ U,dX _ _ _ _ U,dX _ _ _ _ U]) ?_;constructor<;>simp only[n9,XV]
 .exact b
 .exact e
 .exact d
 .exact g
 .exact ar.gI
 .exact ar.ar
 .exact ar.co
 .exact ar.eV
 .exact ar.eQ
 .exact ar.dd
 exact ar.up
def SR{c f r:aa}{v:J->aa}(h:Mid c f r v)(i:J)(av:i<2)(hd:0<v (4+i*10+8))(fr:aa)(xs:ah aC):Mid c f r (qp i fr (v,xs)).1:=by
 have d:=l6 i av;have ar:=h.pl _ d;unfold qp;generalize 4+i*10=o at *;dsimp only;have z:4<=o/\o+10<=24:=by unfold ej at d;omega
 have u:=ar.eQ;have A:=ar.up;split
 .rename_i h1;refine h.pR d (λj w=>dX _ _ _ _ U) ?_;constructor<;>simp only[n9]
  .exact ar.x
  .exact ar.y
  .exact ar.bV
  .exact ar.ga
  .exact ar.gI
  .exact ar.ar
  .exact ar.co
  .exact ar.eV
  .show 0<=v (o+8)-1/\v (o+8)-1<=30;omega
  .exact ar.dd
  show 0<v (o+5)↔v (o+8)-1=0;omega
 show Mid c f r (dN o 10 (mO (nD (mT v)) (oI (mT v)) 0 (v (o+9))) (bH (bH v (o+8) (v (o+8)-1)) 1 (iE (v 1))));have s:-3932160<=nD (mT v)/\nD (mT v)<=3932160:=by unfold nD;split<;>omega
 have t:-3932160<=oI (mT v)/\oI (mT v)<=3932160:=by unfold oI;split<;>omega
 have au:0<=iE (v 1)/\iE (v 1)<=4294967295:=by unfold iE;omega
 have n:∀ j,j≠1->j≠o+8->bH (bH v (o+8) (v (o+8)-1)) 1 (iE (v 1)) j=v j:=λj h1 h2=>by rw[dX _ _ _ _ h1,dX _ _ _ _ h2]
 have p:bH (bH v (o+8) (v (o+8)-1)) 1 (iE (v 1)) 1=iE (v 1):=p4 _ _ _;generalize bH (bH v (o+8) (v (o+8)-1)) 1 (iE (v 1))=m at *;generalize nD (mT v)=X at *;generalize oI (mT v)=Y at *;have aj:∀ j,j≠1->(j<o\/o+10<=j)->dN o 10 (mO X Y 0 (v (o+9))) m j=v j:=λj h1 h2=>by rw[pW _ _ _ _ _ h2,n j h1 U]
 refine⟨λb g=>?_,λk hk=>(h.p1 k hk).congr λq l=>aj _ U U,?_,?_,?_,?_⟩
 .by_cases e:b=o
  .subst e;have a:∀ q,q<10->dN b 10 (mO X Y 0 (v (b+9))) m (b+q)=mO X Y 0 (v (b+9)) q:=λq l=>nX _ _ _ _ _ l;constructor
   .rw[a 0 U];exact s
   .rw[a 1 U];exact t
   .rw[a 2 U];show bk 0;unfold bk;omega
   .rw[a 3 U];show bk 0;unfold bk;omega
   .rw[a 4 U];show(0:aa)<=0/\(0:aa)<=65535;omega
   .rw[a 5 U];show(0:aa)<=3/\(3:aa)<=3;omega
   .rw[a 6 U];show(0:aa)<=0/\(0:aa)<=8;omega
   .rw[a 7 U];show(0:aa)<=0/\(0:aa)<=20;omega
   .rw[a 8 U];show(0:aa)<=0/\(0:aa)<=30;omega
   .rw[a 9 U];exact ar.dd
   rw[a 5 U,a 8 U];show(0:aa)<3↔(0:aa)=0;omega
  exact(h.pl b g).congr λq l=>aj _ (by unfold ej at g;omega) (by unfold ej at d g;omega)
 .rw[aj 0 U U];exact h.f0
 .rw[pW _ _ _ _ _ U,p];exact au
 .rw[aj 2 U U];exact h.f2
 rw[aj 3 U U];exact h.f3
def JR(a:aa):-65536<=mX a/\mX a<=65536:=by
 unfold mX;dsimp only;have b:0<=a%65536%32768/\a%65536%32768<32768:=U;generalize a%65536%32768=x at *;have ar:=JS b.1 b.2;generalize x*(32768-x)=p at *;have hd:(0:aa)<5368709120-4*p:=U;have h1:(p*1048576).tdiv (5368709120-4*p)<=65536:=by
  rw[Int.tdiv_eq_ediv_of_nonneg U]
  have:=Int.ediv_le_ediv hd (show p*1048576<=65536*(5368709120-4*p)by omega)
  rwa [Int.mul_ediv_cancel _ U]at this
 have h2:0<=(p*1048576).tdiv (5368709120-4*p):=Int.tdiv_nonneg U U;generalize (p*1048576).tdiv (5368709120-4*p)=n at *;unfold tH hZ;split<;>omega
def Ri(f:aa):(-262144<=ia f 262144/\ia f 262144<=262144)/\(-262144<=ib f 262144/\ib f 262144<=262144):=by
 have h1:=JR f;have h2:=JR (f%65536+16384);unfold ia ib rE ei hZ;omega
theorem Gw(v:J->aa):∀ n k j,qB v k n=some j->k<=j/\j<k+n
 | 0,_,_,h=>by cases h
 | n+1,k,j,h=>by
  unfold qB at h;split at h
  .cases h;omega
  have:=Gw v n (k+1) j h;omega
def SU{c f r:aa}{v:J->aa}(h:Mid c f r v)(i:J)(av:i<2)(fr:aa)(xs:ah aC):Mid c f r (pD i fr (v,xs)).1:=by
 have b:=l6 i av;have ar:=h.pl _ b;unfold pD;generalize 4+i*10=o at *;dsimp only;split
 .exact h
 split
 .exact h
 rename_i k hk;have l:=Gw _ _ _ _ hk;have g:=ar.x;have m:=ar.y;have aR:=Ri (v (o+4));have s1:-4194304<=ds (v o) (ia (v (o+4)) 262144)/\ds (v o) (ia (v (o+4)) 262144)<=4194304:=by
  change _<=v o/\v o<=_ at g;unfold ds hZ;omega
 have s2:-4194304<=ds (v (o+1)) (ib (v (o+4)) 262144)/\ds (v (o+1)) (ib (v (o+4)) 262144)<=4194304:=by
  unfold ds hZ;omega
 have gO:=lr (rE (v (o+4))) 196608;have e:=lr (mX (v (o+4))) 196608;change bk (ia (v (o+4)) 196608)at gO;change bk (ib (v (o+4)) 196608)at e;generalize ds (v o) (ia (v (o+4)) 262144)=X at *;generalize ds (v (o+1)) (ib (v (o+4)) 262144)=Y at *;generalize ia (v (o+4)) 196608=W at *;generalize ib (v (o+4)) 196608=Z at *
 have h1:Mid c f r (dN (24+k*6) 6 (r9 X Y W Z (i+1) 40) v):=h.yM (k:=k) U (λj d=>pW _ _ _ _ _ d) (.inr (by
  simp only[nX _ _ _ _ 0 (show 0<6 by omega),nX _ _ _ _ 1 (show 1<6 by omega),nX _ _ _ _ 2 (show 2<6 by omega),nX _ _ _ _ 3 (show 3<6 by omega),nX _ _ _ _ 4 (show 4<6 by omega),nX _ _ _ _ 5 (show 5<6 by omega)];refine⟨s1,s2,gO,e,?_,?_⟩
  .show 1<=(i:aa)+1/\(i:aa)+1<=2;omega
  .show(1:aa)<=40/\(40:aa)<=40;omega))
 have a:=h1.pl _ b;generalize dN (24+k*6) 6 (r9 X Y W Z (i+1) 40) v=n at *;refine h1.pR b (λj d=>dX _ _ _ _ U) ?_;constructor<;>simp only[n9]
 .exact a.x
 .exact a.y
 .exact a.bV
 .exact a.ga
 .exact a.gI
 .exact a.ar
 .show(0:aa)<=8/\(8:aa)<=8;omega
 .exact a.eV
 .exact a.eQ
 .exact a.dd
 exact a.up
def ye{c f r:aa}{v:J->aa}(h:Mid c f r v)(i:J)(av:i<2)(b6 fr:aa)(xs:ah aC):Mid c f r (jh i b6 fr (v,xs)).1:=by
 unfold jh;split
 .exact SR h i av ‹_› fr xs
 split
 .exact SU (H8 (H' h i av b6 fr xs) i av fr _) i av fr _
 exact H8 (H' h i av b6 fr xs) i av fr _
def H7{c f r:aa}{v:J->aa}(h:Mid c f r v)(fr:aa)(xs:ah aC):Mid c f r (kc fr (v,xs)).1:=by
 unfold kc;split
 .exact h
 have a:=h.pl 4 (.inl rfl);have b:=h.pl 14 (.inr rfl);show Mid c f r (bH (bH (bH (bH v 6 (v 16)) 7 (v 17)) 16 (v 6)) 17 (v 7));have h1:Mid c f r (bH (bH v 6 (v 16)) 7 (v 17)):=h.pR (.inl rfl) (λj d=>DR) ⟨a.x,a.y,b.bV,b.ga,a.gI,a.ar,a.co,a.eV,a.eQ,a.dd,a.up⟩;exact h1.pR (.inr rfl) (λj d=>DR) ⟨b.x,b.y,a.bV,a.ga,b.gI,b.ar,b.co,b.eV,b.eQ,b.dd,b.up⟩
def SX{c f r:aa}{v:J->aa}(h:Mid c f r v)(i:J)(av:i<2)(hd:v (4+i*10+8)=0)(fr:aa)(xs:ah aC):Mid (c+1) f r (nK i fr (v,xs)).1:=by
 have b:=l6 i av;have d:=l6 (1-i) U;have ar:=h.pl _ b;have m:=ar.up;have k:=ar.ar;unfold nK;generalize 4+i*10=o at *;generalize 4+(1-i)*10=g at *;dsimp only;split
 .refine(h.pR b (λj e=>dX _ _ _ _ U) ?_).mono U;constructor<;>simp only[n9]
  .exact ar.x
  .exact ar.y
  .exact ar.bV
  .exact ar.ga
  .exact ar.gI
  .show 0<=v (o+5)-1/\v (o+5)-1<=3;omega
  .exact ar.co
  .exact ar.eV
  .exact ar.eQ
  .exact ar.dd
  show 0<v (o+5)-1↔v (o+8)=0;omega
 have h1:Mid c f r (bH (bH v (o+5) (v (o+5)-1)) (o+8) 30):=by
  refine h.pR b (λj e=>DR) ?_;constructor<;>simp only[n9]
  .exact ar.x
  .exact ar.y
  .exact ar.bV
  .exact ar.ga
  .exact ar.gI
  .show 0<=v (o+5)-1/\v (o+5)-1<=3;omega
  .exact ar.co
  .exact ar.eV
  .show(0:aa)<=30/\(30:aa)<=30;omega
  .exact ar.dd
  show 0<v (o+5)-1↔(30:aa)=0;omega
 generalize bH (bH v (o+5) (v (o+5)-1)) (o+8) 30=n at *;have a:=h1.pl _ d;have l:=(h.pl _ d).dd;refine(h1.mono (show c<=c+1 by omega)).pR d (λj e=>dX _ _ _ _ U) ?_;constructor<;>simp only[n9]
 .exact a.x
 .exact a.y
 .exact a.bV
 .exact a.ga
 .exact a.gI
 .exact a.ar
 .exact a.co
 .exact a.eV
 .exact a.eQ
 .show 0<=v (g+9)+1/\v (g+9)+1<=c+1;omega
 exact a.up
def G3(u:J)(v:J->aa):gx u v u=ds (v u) (v (u+2))/\gx u v (u+1)=ds (v (u+1)) (v (u+3))/\gx u v (u+5)=v (u+5)-1/\∀ j,j≠u->j≠u+1->j≠u+5->gx u v j=v j:=by
 unfold gx;refine⟨by rw[dX _ _ _ _ U,p4],p4 _ _ _,by rw[dX _ _ _ _ U,dX _ _ _ _ U,p4],λj h1 h2 a=>by rw[dX _ _ _ _ h2,dX _ _ _ _ h1,dX _ _ _ _ a]⟩
def SV{c f r:aa}{v:J->aa}(h:Mid c f r v)(k:J)(hk:k<6)(au:v (24+k*6+4)≠0)(fr:aa)(xs:ah aC):((ke k fr (v,xs)).1=true->Mid c f r (ke k fr (v,xs)).2.1)/\Mid (c+1) f r (dN (24+k*6) 6 (λ_=>0) (ke k fr (v,xs)).2.1):=by
 have g:(-4194304<=v (24+k*6+0)/\v (24+k*6+0)<=4194304)/\(-4194304<=v (24+k*6+1)/\v (24+k*6+1)<=4194304)/\bk (v (24+k*6+2))/\bk (v (24+k*6+3))/\(1<=v (24+k*6+4)/\v (24+k*6+4)<=2)/\(1<=v (24+k*6+5)/\v (24+k*6+5)<=40):=(h.p1 k hk).resolve_left λm=>au (m 4 U)
 have d:∀ v':J->aa,(∀ j,j<24+k*6\/24+k*6+6<=j->v' j=v j)->Mid (c+1) f r (dN (24+k*6) 6 (λ_=>0) v'):=λv' o=>
  (h.mono U).yM hk (λj a=>by rw[pW _ _ _ _ _ a,o j a]) (.inl λq e=>nX _ _ _ _ q e)
 unfold ke;generalize hu:24+k*6=u at *;dsimp only;have a1:=G3 u v;split
 .exact⟨(λh=>Bool.noConfusion h),d _ (λj a=>dX _ _ _ _ U)⟩
 rename_i h1;split
 .exact⟨(λh=>Bool.noConfusion h),d _ (λj a=>a1.2.2.2 j U U U)⟩
 rename_i h2;have b:iA (-4194304) (-4194304) 4194304 4194304 (gx u v u) (gx u v (u+1))=true:=by simpa using h2
 simp only[iA,ee,gg]at b;have p:=a1.2.2.2 (u+3) U U U;have s:=a1.2.2.2 (u+4) U U U;have n:=a1.2.2.1;have l:Mid c f r (gx u v):=by
  refine h.yM hk (by rw[hu];exact λj a=>a1.2.2.2 j U U U) (.inr ?_);rw[hu];show(_<=gx u v u/\gx u v u<=_)/\(_<=gx u v (u+1)/\gx u v (u+1)<=_)/\bk (gx u v (u+2))/\bk (gx u v (u+3))/\(1<=gx u v (u+4)/\gx u v (u+4)<=2)/\1<=gx u v (u+5)/\gx u v (u+5)<=40;rw[(a1.2.2.2 (u+2) U U U),p,s,n];refine⟨⟨b.1.1.1,b.1.1.2⟩,⟨b.1.2,b.2⟩,g.2.2.1,g.2.2.2.1,g.2.2.2.2.1,U⟩
 split
 .rename_i i;refine⟨(λh=>Bool.noConfusion h),?_⟩;have t:(2-v (u+4)).toNat<2:=U;have hd:gx u v (4+(2-v (u+4)).toNat*10+8)=0:=by
   simp only[Hj,ee,gg]at i;exact i.1
  exact(SX l (2-v (u+4)).toNat t hd fr xs).yM hk (by rw[hu];exact λj a=>pW _ _ _ _ _ a) (.inl (by rw[hu];exact λq e=>nX _ _ _ _ q e))
 refine⟨λ_=>l,d _ (λj a=>a1.2.2.2 j U U U)⟩
def SZ{c f r:aa}{v:J->aa}(h:Mid c f r v)(k:J)(hk:k<6)(fr:aa)(xs:ah aC):Mid (c+1) f r (sa k fr (v,xs)).1:=by
 unfold sa;split
 .exact h.mono U
 have a:=SV h k hk ‹_› fr xs;split
 .exact(a.1 ‹_›).mono U
 exact a.2
theorem Bp{c f r:aa}{s:(J->aa)×ah aC}(h:Mid c f r s.1)(fr:aa):∀ k:J,k<=6->Mid (c+k) f r (jj fr s k).1
 | 0,_=>by show Mid (c+0) f r s.1;rwa [Int.add_zero]
 | k+1,hk=>by
  rw[show c+((k+1:J):aa)=c+k+1 by omega];exact(SZ (Bp h fr k U) k U fr (jj fr s k).2)
def Gy(c:aa)(aq:0<=c)(o:J)(a:ej o):ny c (λq=>mD (o-4+q)):=by
 rcases a with rfl|rfl
 all_goals
  constructor
  all_goals first|(show bk 0;unfold bk;omega)|(refine⟨bq,?_⟩;first|exact aq|decide)|(exact⟨λ_=>bq,λ_=>bq⟩)|decide
def H9{c f r:aa}{v:J->aa}(h:Mid c f r v)(fr:aa)(xs:ah aC):∃ r',Mid 2 f r' (kV fr (v,xs)).1/\r<=r'/\r'<=r+1:=by
 unfold kV;split
 .rename_i a;simp only[BA,ee,gg]at a;have i:=h.f3;show ∃ r',Mid 2 f r' (bH v 3 (v 3-1))/\r<=r'/\r'<=r+1;refine⟨r,⟨λo ar=>?_,λk hk=>(h.p1 k hk).congr λq b=>dX _ _ _ _ U,?_,?_,?_,?_⟩,U,U⟩
  .have h1:=h.pl o ar;have l:v (o+9)<3:=by rcases ar with rfl|rfl;exact a.2.1;exact a.2.2
   have d:ny 2 (λq=>v (o+q)):={h1 with dd:=⟨h1.dd.1,by show v (o+9)<=2;omega⟩};exact d.congr λq b=>dX _ _ _ _ zH
  .rw[dX _ _ _ _ U];exact h.f0
  .rw[dX _ _ _ _ U];exact h.f1
  .rw[dX _ _ _ _ U];exact h.f2
  rw[p4];omega
 show ∃ r',Mid 2 f r' (dN 24 36 (λ_=>0) (dN 4 20 mD (bH (bH (bH v 3 (v 3-1)) 2 (v 2+1)) 3 600)))/\r<=r'/\r'<=r+1;have e:∀ j,j<4->dN 24 36 (λ_=>0) (dN 4 20 mD (bH (bH (bH v 3 (v 3-1)) 2 (v 2+1)) 3 600)) j=bH (bH (bH v 3 (v 3-1)) 2 (v 2+1)) 3 600 j:=λj m=>by rw[pW _ _ _ _ _ U,pW _ _ _ _ _ U]
 have g:bH (bH (bH v 3 (v 3-1)) 2 (v 2+1)) 3 600 2=v 2+1:=by rw[dX _ _ _ _ U,p4]
 refine⟨r+1,⟨λo ar=>?_,λk hk=>.inl λq b=>?_,?_,?_,?_,?_⟩,U,U⟩
 .refine(Gy 2 U o ar).congr λq b=>?_;rw[pW _ _ _ _ _ zH,show o+q=4+(o-4+q)by unfold ej at ar;omega,nX _ _ _ _ _ zH]
 .show dN 24 36 (λ_=>0) (dN 4 20 mD (bH (bH (bH v 3 (v 3-1)) 2 (v 2+1)) 3 600)) (24+k*6+q)=0;rw[show 24+k*6+q=24+(k*6+q)by omega,nX _ _ _ _ _ U]
 .rw[e 0 U,dX _ _ _ _ U,dX _ _ _ _ U,dX _ _ _ _ U];exact h.f0
 .rw[e 1 U,dX _ _ _ _ U,dX _ _ _ _ U,dX _ _ _ _ U];exact h.f1
 .rw[e 2 U,g,h.f2]
 rw[e 3 U,p4];omega
def H_{f r:aa}{v:J->aa}(h:Mid 2 f r v)(g:0<=f/\f<=1073741824)(t:0<=r/\r<=1073741824):kZ v=true:=by
 have k:∀ o,ej o->mN v o=true:=λo s=>by
  have p:=h.pl o s;have i:=p.x;have l:=p.y;have g:=p.gI;have aR:=p.ar;have aq:=p.co;have w:=p.eV;have hd:=p.eQ;have ax:=p.dd;have u:=p.up;rw[show o+0=o from rfl]at i;have m:(decide (v (o+5)>0) == decide (v (o+8)=0))=true:=by
   rw[np,decide_eq_decide];exact u
  unfold mN rY iA gK;rw[m];simp only[ee,gg];exact⟨g,aR,aq,w,hd,ax,⟨⟨⟨i.1,i.2⟩,l.1⟩,l.2⟩,trivial⟩
 have al:∀ j,j<6->o1 v j=true:=λj n=>by
  unfold o1;rw[show 24+6*j=24+j*6+0 by omega,show 25+6*j=24+j*6+1 by omega,show 26+6*j=24+j*6+2 by omega,show 27+6*j=24+j*6+3 by omega,show 28+6*j=24+j*6+4 by omega,show 29+6*j=24+j*6+5 by omega];unfold ua;rcases h.p1 j n with c|⟨a,b,_,_,d,e⟩
  .replace c:∀ q,q<6->v (24+j*6+q)=0:=c;rw[c 0 U,c 1 U,c 2 U,c 3 U,c 4 U,c 5 U];rfl
  rw[uq];right;simp only[gK,iA,ee,gg];exact⟨d,e,⟨⟨⟨a.1,a.2⟩,b.1⟩,b.2⟩⟩
 unfold kZ;rw[k 4 (.inl rfl),k 14 (.inr rfl)];simp only[o3,al 0 U,al 1 U,al 2 U,al 3 U,al 4 U,al 5 U,gK,ee,gg,sz];rw[h.f0,h.f2];exact⟨g,t,h.f3⟩
def mid_step{f r:aa}{v:J->aa}(h:Mid 2 f r v)(a b:aa):∃ r',Mid 2 (f+1) r' (jI a b v)/\r<=r'/\r'<=r+1:=by
 have e:Mid 2 f r (jh 1 b (v 0) (jh 0 a (v 0) (v,[]))).1:=ye (ye h 0 U a (v 0) []) 1 U b (v 0) _;have g:Mid 2 f r (kc (v 0) (jh 1 b (v 0) (jh 0 a (v 0) (v,[])))).1:=H7 e (v 0) _;have⟨r',c,h1,h2⟩:=H9 (Bp g (v 0) 6 bA) (v 0) (jj (v 0) (kc (v 0) (jh 1 b (v 0) (jh 0 a (v 0) (v,[])))) 6).2;unfold jI;refine⟨r',⟨λo ar=>(c.pl o ar).congr λq d=>dX _ _ _ _ zH,λk hk=>(c.p1 k hk).congr λq d=>dX _ _ _ _ U,?_,?_,?_,?_⟩,h1,h2⟩
 .rw[p4,h.f0]
 .rw[dX _ _ _ _ U];exact c.f1
 .rw[dX _ _ _ _ U];exact c.f2
 rw[dX _ _ _ _ U];exact c.f3
def Mid.lim{c f r:aa}{v:J->aa}(h:Mid c f r v)(K:0<=f/\f<=1073741824)(M:0<=r/\r<=1073741824):d_ c 0 0 v:=λj L=>by
 have B:(if j=0 then(0:aa)else 0)=0:=by split<;>rfl
 rw[B];have z:∀ o,ej o->∀ q,q<10->kk 0 (o+q)<=v (o+q)/\v (o+q)<=jE c 0 (o+q):=λo l q a=>by
  have p:=h.pl o l;have m:=p.x;have n:=p.y;have d:=p.bV;have e:=p.ga;have s:=p.gI;have t:=p.ar;have D:=p.co;have E:=p.eV;have F:=p.eQ;have A:=p.dd;rw[(kj l c 0 q a).1,(kj l c 0 q a).2]
  match q,a with
  | 0,_=>show -2147483648<=v (o+0)/\v (o+0)<=2147483647;omega
  | 1,_=>show -2147483648<=v (o+1)/\v (o+1)<=2147483647;omega
  | 2,_=>exact d
  | 3,_=>exact e
  | 4,_=>show -0<=v (o+4)/\v (o+4)<=65535+0;omega
  | 5,_=>show -100<=v (o+5)/\v (o+5)<=1000;omega
  | 6,_=>show 0<=v (o+6)/\v (o+6)<=1000;omega
  | 7,_=>show 0<=v (o+7)/\v (o+7)<=1000;omega
  | 8,_=>show 0<=v (o+8)/\v (o+8)<=1000;omega
  | 9,_=>exact A
 by_cases b:j<4
 .have k:=h.f0;have h1:=h.f1;have h2:=h.f2;have H:=h.f3;have g:kk 0 j=0:=aD b;have i:jE c 0 j=4294967295:=by
   unfold jE;by_cases h:j=1
   .exact aD h
   rw[aA h];exact aD b
  rw[g,i]
  match j,b with
  | 0,_=>omega
  | 1,_=>omega
  | 2,_=>omega
  | 3,_=>omega
 by_cases G:j<14
 .have:=z 4 (.inl rfl) (j-4) U
  rwa [show 4+(j-4)=j by omega]at this
 by_cases w:j<24
 .have:=z 14 (.inr rfl) (j-14) U
  rwa [show 14+(j-14)=j by omega]at this
 have ax:=h.p1 ((j-24) / 6) U;have a:(j-24)%6<6:=eW _ bq;have C:24+(j-24) / 6*6+(j-24)%6=j:=by have:=o_ (j-24) 6;omega
 have aj:(-2147483648<=v j/\v j<=2147483647)/\((j-24)%6<4\/(0<=v j/\v j<=1000)):=by
  generalize (j-24)%6=q at *;generalize 24+(j-24) / 6*6=u at *;subst C;rcases ax with k|⟨m,n,d,e,s,t⟩
  .replace k:v (u+q)=0:=k q a;omega
  unfold bk at d e
  match q,a with
  | 0,_=>change _<=v (u+0)/\v (u+0)<=_ at m;omega
  | 1,_=>change _<=v (u+1)/\v (u+1)<=_ at n;omega
  | 2,_=>change _<=v (u+2)/\v (u+2)<=_ at d;omega
  | 3,_=>change _<=v (u+3)/\v (u+3)<=_ at e;omega
  | 4,_=>change _<=v (u+4)/\v (u+4)<=_ at s;omega
  | 5,_=>change _<=v (u+5)/\v (u+5)<=_ at t;omega
 have g:kk 0 j=if (j-24)%6<4 then -2147483648 else 0:=by unfold kk;rw[aA b,aA w]
 have i:jE c 0 j=if (j-24)%6<4 then 2147483647 else 1000:=by unfold jE;rw[aA U,aA b,aA w]
 rw[g,i];split<;>omega
def SS(aO:aa)(ax:0<=aO/\aO<=4294967295):Mid 2 0 0 (k2 aO 0):=by
 refine⟨λo a=>(Gy 2 U o a).congr λq b=>?_,λk hk=>.inl λq b=>?_,rfl,ax,rfl,by show(1:aa)<=600-((0:J):aa)/\(600:aa)-((0:J):aa)<=600;omega⟩
 .rcases a with rfl|rfl
  all_goals
   match q,b with
   | 0,_=>rfl
   | 1,_=>rfl
   | 2,_=>rfl
   | 3,_=>rfl
   | 4,_=>rfl
   | 5,_=>rfl
   | 6,_=>rfl
   | 7,_=>rfl
   | 8,_=>rfl
   | 9,_=>rfl
 show k2 aO 0 (24+k*6+q)=0;unfold k2;rw[aA U,aA U,aA U,aA U,aA U,aA U,aA U,aA U]
end Go.Proofs.YtalagblioepadaaGreatDoor
