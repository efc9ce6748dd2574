/- The proof, part 36. -/
import Derived.Test.YtalagblioepadaaGreatDoorZd35
namespace Go.Proofs.YtalagblioepadaaGreatDoor
set_option linter.all false
open Proofs.Tryz List Go.RowKit
set_option maxRecDepth 100000
set_option maxHeartbeats 1000000
def Nv{p:al}(h:p:=by
 go_wp2_with fail;go_quiet (fail);have a:=ag (h.drewN nq);generalize b2.drewN nq=ao at *;clear h k l;have k:ao.cell? (ae g 12 ad)=some (I (v 12)):=a.o.st.cell 12 U .i64 rfl;have l:ao.cell? (ae g 22 ad)=some (I (v 22)):=a.o.st.cell 22 U .i64 rfl;go_wp2_with fail;go_quiet (fail);go_wp2;refine c1 (v:=aY #[]) jA rfl ?_;exact⟨rfl,a.o.drewN _⟩
 ):p:=h
def My{p:al}(h:p:=by
 go_wp2;refine c1 (v:=aY #[]) jA rfl ?_;exact⟨rfl,a.o⟩
 ):p:=h
variable{w w':aj}{bo g bl:J}{v:J->aa}{fr:aa}{xs:ah aC}
def XE(v:J->aa)(bl o n:J)(c:a7 ay)(f:J->aa)(an:c.size=n)(b:o+n<=60)(a:∀ q,q<n->c[q]?=some (.int (dA (o+q)) (f q))):e5 (hf v bl) o c=hf (dH o n f v) bl:=by
 apply pP;intro k;rw[sM _ _ _ (by rw[zq,an];omega),an];by_cases hk:k<60
 .rw[zo (dH o n f v) bl k hk];unfold dH;by_cases h:o<=k/\k<o+n
  .rw[aE h,aE h,a _ U,show o+(k-o)=k by omega]
  rw[aB h,aB h,zo v bl k hk]
 rw[aB U];by_cases h:k=60
 .subst h;rw[hf,hf,pQ,pQ,aE (et _).symm,aE (et _).symm]
 rw[mg (by rw[zq];omega),mg (by rw[zq];omega)]
def St.row(h:St w bo g bl v fr xs)(T:TypeId)(o n:J)(c:a7 ay)(f:J->aa)(m:∀ w,(Go.sizeOf T).run prog w=.ok n w)(an:c.size=n)(i:o+n<=60)(a:∀ q,q<n->c[q]?=some (.int (dA (o+q)) (f q))):(Instr.storeAt T (.pointer (some (ae g o ad))) (.agg c)).run prog w=.ok () (w.setRow g (hf (dH o n f v) bl))/\St (w.setRow g (hf (dH o n f v) bl)) bo g bl (dH o n f v) fr xs/\Keeps (λj=>j=g) w (w.setRow g (hf (dH o n f v) bl)):=by
 have h1:=ru (P:=prog) T n g o c _ _ m an h.bd (by rw[zq];omega) (λx l=>by
  obtain⟨q,b,k⟩:=s_.1 l;have h2:=a q (by simpa[an]using b);rw[<-mh,gA b,k]at h2;cases h2;rfl)
 rw[XE v bl o n c f an i a]at h1;have hk:=iW w g (hf (dH o n f v) bl);have⟨cQ,au,av⟩:=h.wF;exact⟨h1,⟨fb _ _ _ _ _ h.bd,⟨cQ,au.keep hk (gE h.ne) (λj d e=>av (by rw[d,e])),av⟩,h.ne,h.pk,h.rh⟩,hk⟩
def ef.row{c e:aa}{k:J}(h:ef c k e v)(o n:J)(f:J->aa)(b:∀ q,q<n->kK (if o+q=k then e else 0) (o+q)<=f q/\f q<=j3 c (if o+q=k then e else 0) (o+q)):ef c k e (dH o n f v):=λj d=>by
 unfold dH;by_cases h1:o<=j/\j<o+n
 .have a:(if o<=j/\j<o+n then f (j-o)else v j)=f (j-o):=aE h1;rw[a]
  have:=b (j-o) U
  rwa [show o+(j-o)=j by omega]at this
 have a:(if o<=j/\j<o+n then f (j-o)else v j)=v j:=aB h1;rw[a];exact h j d
def CC(x y f dk:aa):a7 ay:=#[ai x,ai y,ai 0,ai 0,I f,I 3,I 0,I 0,I 0,I dk]
def CD(x y f dk:aa){o:J}(b:ey o):∀ q,q<10->(CC x y f dk)[q]?=some (.int (dA (o+q)) (ny x y f dk q)):=λq a=>by
 rw[uc b q a]
 match q,a with
 | 0,_=>rfl
 | 1,_=>rfl
 | 2,_=>rfl
 | 3,_=>rfl
 | 4,_=>rfl
 | 5,_=>rfl
 | 6,_=>rfl
 | 7,_=>rfl
 | 8,_=>rfl
 | 9,_=>rfl
def ef.CB{c:aa}{k:J}(h:ef c k 0 v){o:J}(b:ey o)(x y f dk:aa)(d:bm x)(e:bm y)(l:0<=f/\f<=65535)(aw:0<=dk/\dk<=c):ef c k 0 (dH o 10 (ny x y f dk) v):=h.row o 10 _ λq a=>by
 have i:=d.2;have j:=e.2;have g:(if o+q=k then(0:aa)else 0)=0:=by split<;>rfl
 rw[g,(kJ b c 0 q a).1,(kJ b c 0 q a).2]
 match q,a with
 | 0,_=>exact⟨d.1,i⟩
 | 1,_=>exact⟨e.1,j⟩
 | 2,_=>show(-2147483648:aa)<=0/\(0:aa)<=2147483647;decide
 | 3,_=>show(-2147483648:aa)<=0/\(0:aa)<=2147483647;decide
 | 4,_=>exact⟨by show -0<=f;omega,by show f<=65535+0;omega⟩
 | 5,_=>show(-100:aa)<=3/\(3:aa)<=1000;decide
 | 6,_=>show(0:aa)<=0/\(0:aa)<=1000;decide
 | 7,_=>show(0:aa)<=0/\(0:aa)<=1000;decide
 | 8,_=>show(0:aa)<=0/\(0:aa)<=1000;decide
 | 9,_=>exact aw
theorem SgI.row{c:aa}{b2:aj}(h:SgI w bo g bl fr c 0 0 v xs b2)(T:TypeId)(o n:J)(fs:a7 ay)(f:J->aa)(k:∀ w,(Go.sizeOf T).run prog w=.ok n w)(an:fs.size=n)(d:o+n<=60)(i:∀ q,q<n->fs[q]?=some (.int (dA (o+q)) (f q)))(b:ef c 0 0 (dH o n f v)):(Instr.storeAt T (.pointer (some (ae g o ad))) (.agg fs)).run prog b2=.ok () (b2.setRow g (hf (dH o n f v) bl))/\SgI w bo g bl fr c 0 0 (dH o n f v) xs (b2.setRow g (hf (dH o n f v) bl)):=by
 have⟨h1,h2,a⟩:=h.st.row T o n fs f k an d i;exact⟨h1,h2,h.cu.trans (a.mono λj _ e=>by rw[e];exact h.st.pk),b⟩
def XG{c:aa}{b2:aj}(h:SgI w bo g bl fr c 0 0 v xs b2)(i:J)(ax:i<2)(hd:0<v (4+i*10+8)):aA 346 #[g,I i] b2 λe w'=>e=aY #[]/\SgI w bo g bl fr c 0 0 (oa i fr (v,xs)).1 (oa i fr (v,xs)).2 w':=by
 have f:=lX i ax;have zp:=h.fW f 8 U;have f8:=h.st.free (4+i*10+8);have wo:0<=v (4+i*10+8)/\v (4+i*10+8)<=1000:=h.lim.num f 8 U;have lb:=h.lim.num f 9 U;have a:=ag (h.rK f 8 U (v (4+i*10+8)-1) EZ);unfold oa;by_cases ak:1<v (4+i*10+8)
 .simp only[aE ak];have T:0<v (4+i*10+8)-1:=U
  go_in
  exact My
 simp only[aB ak];have T:¬ 0<v (4+i*10+8)-1:=U;have D:bK v (4+i*10+8) (v (4+i*10+8)-1) 1=v 1:=aB U;have k:bK v (4+i*10+8) (v (4+i*10+8)-1) (4+i*10+9)=v (4+i*10+9):=aB U;have L:=ag (Qu (v 1));have av:0<=iZ (v 1)/\iZ (v 1)<=4294967295:=by unfold iZ;omega
 unfold nC;generalize a':bK v (4+i*10+8) (v (4+i*10+8)-1)=y at *;have m':=ag a';generalize iZ (v 1)=N at *;have M:N / 65536*4 / 65536=0\/N / 65536*4 / 65536=1\/N / 65536*4 / 65536=2\/N / 65536*4 / 65536=3:=U;generalize N / 65536*4 / 65536=K at *;have Q:(if (K%2 == 1)=true then 2621440 else -2621440)=oe K:=by rcases M with rfl|rfl|rfl|rfl<;>decide
 have R:(if 2<=K then 2621440 else -2621440)=pb K:=rfl;have t:bm (oe K):=by unfold oe bm;split<;>omega
 have S:bm (pb K):=by unfold pb bm;split<;>omega
 generalize oe K=X at *;generalize pb K=Y at *;have q:=ag Q;have r:=ag R;have j:=bW D k
 go_in
 go_upto_region 4 with fail
 have ar:=a.o;generalize World.setCell _ _ _=ao at *;have l':ao.cell? (ae g 1 ad)=some (aR (v 1)):=by rw[<-j.o.1];exact ar.st.cell 1 U .u32 rfl
 go_wp2_with fail;refine aW (L.o _) λaD V=>?_;have ar:=ar.keep (Keeps.bJ V a8);have l':=ar.st.cell 1 U .u32 rfl;have f1:=ar.st.free 1;have a:=ag (ar.hC 1 U .u32 rfl N av);go_upto_region 5 with fail
 have ar:=a.o;generalize World.setCell _ _ _=bq at *;have a:=ag ar;have b:=ag (aX bq (af #[ai (-2621440),ai (-2621440)] 91));have d:=ag ((b7 bq.heap.size bq).alloc bx (af #[ai (-2621440),ai (-2621440)] 91));go_upto_if 42 with fail
 generalize bq.alloc (af #[ai (-2621440),ai (-2621440)] 91)=vl at *;generalize Z:bq.heap.size=bX at *;have s:=ag Z;go_cut [] (λgz=>gz.heap[bX]?=some (af #[ai X,ai (-2621440)] 91 (0,0))/\Below bX bq gz)
 case first=>
  have b':=bP b.o;have z0:=aO b.o;have l:=ag (b3 b.o 0 (ai 2621440));have n:=ag (d.o.setCell (p:=ae bX 0 ad) (df bX) (ai 2621440));by_cases au:(K%2 == 1)=true
  .obtain rfl:(2621440:aa)=X:=by rw[<-q.o,aE au]
   go_wp2_with fail;go_meet;exact⟨l.o,n.o⟩
  obtain rfl:(-2621440:aa)=X:=by rw[<-q.o,aB au]
  go_wp2_with fail;go_meet;exact⟨b.o,d.o⟩
 have⟨b,d⟩:=hcut;go_upto_if 45 with fail
 go_cut [] (λgz=>gz.heap[bX]?=some (af #[ai X,ai Y] 91 (0,0))/\Below bX bq gz)
 case first=>
  have bR:=bP b;have Aw:=aO b;have l:=ag (b3 b 1 (ai 2621440));have n:=ag (d.setCell (p:=ae bX 1 ad) (df bX) (ai 2621440));have z:=ag b;have j:=ag d;by_cases au:2<=K
  .obtain rfl:(2621440:aa)=Y:=by rw[<-r.o,aE au]
   go_wp2_with fail;go_meet;exact⟨l.o,n.o⟩
  obtain rfl:(-2621440:aa)=Y:=by rw[<-r.o,aB au]
  go_wp2_with fail;go_meet;exact⟨z.o,j.o⟩
 have⟨b,d⟩:=hcut;have ar:=a.o.keep (Keeps.bJ (show Below bq bq wc by rw[s.o];exact d) a8);have r':=s.o;have sd:=bT a.o.st.bd;have k:bK y 1 N (4+i*10+9)=v (4+i*10+9):=by rw[<-j.o.2];exact aB U
 generalize gf:bK y 1 N=v2 at *;have C:=ag gf;have ps:bm 0:=by unfold bm;omega
 obtain⟨u,O⟩:=(ar.keep (Keeps.refl _ wc).drew).row 93 (4+i*10) 10 (CC X Y 0 (v (4+i*10+9))) _ sizeOf93 rfl U (CD X Y 0 (v (4+i*10+9)) f) (ar.lim.CB f X Y 0 (v (4+i*10+9)) t S U lb);obtain⟨G,m⟩:=h0 (F:=λW=>(SgI w bo g bl fr c 0 0 v2 xs W/\W.heap[bX]?=some (af #[ai X,ai Y] 91 (0,0))));have s':∀ x:bs G,x.to.cell? (ae g (4+i*10+9) ad)=some (I (v (4+i*10+9))):=λx=>by rw[<-k];exact((m _).1 x.held).1.fW f 9 U
 have b':=λx:bs G=>aO (((m _).1 x.held).2);have g':=(m wc.drew).2 ⟨ar.keep (Keeps.refl _ wc).drew,(bb wc).drew.heap b id⟩;have H:=(iW wc.drew g (hf (dH (4+i*10) 10 (ny X Y 0 (v (4+i*10+9))) v2) bl)).heap ((bb wc).drew.heap b id) (show bX≠g by omega);have B:=ag O;have A:=ag H;go_wp2_with fail;unfold CC at u;generalize ab:4+i*10=o at *;generalize World.setRow _ _ _=v' at *;refine cJ 9 ?_;refine cK (G) (.range 8) 1 8 ?_;refine dK (g') (.range 8) 0 ?_;refine lZ ?_;refine cK (λW=>0<=W.heap.size) [8] 0 1 ?_;refine pv 8 (de _) (nM rfl rfl rfl u) ?_;simp only[Act.put];have ar:=B.o;have zd:=aO A.o;have P:=ag (qv ar.st (i+1) 6 6 16384 9 0 X t);go_wp2_with fail;refine aW P.o ?_;rintro ys ⟨E,h2⟩;have a:=ag (ar.b9 E h2);go_wp2;go_end0;subst ab;rw[C.out];exact⟨rfl,a.o⟩
theorem BA(v:J->aa):∀ k,k<=6->(∀ j,j<k->v (24+j*6+4)≠0)->pd v 0 6=pd v k (6-k)
 | 0,_,_=>rfl
 | k+1,hk,h=>by
  rw[BA v k U (λj a=>h j U),show 6-k=(6-(k+1))+1 by omega];show(if v (24+k*6+4)=0 then some k else pd v (k+1) (6-(k+1)))=_;rw[aB (h k U)]
def yI(k:J)(hk:k<6)(q:J)(a:q<6):dA (24+k*6+q)=if q<4 then .i32 else .i64:=by
 unfold dA;rw[aB U,aB U,aB U,show(24+k*6+q-24)%6=q by omega]
def pn(c d:aa)(k:J)(hk:k<6)(q:J)(a:q<6):kK d (24+k*6+q)=(if q<4 then -2147483648 else 0)/\j3 c d (24+k*6+q)=(if q<4 then 2147483647 else 1000):=by
 have h2:(24+k*6+q-24)%6=q:=U;constructor
 .unfold kK;rw[aB U,aB U,h2]
 unfold j3;rw[aB U,aB U,aB U,h2]
def KS(x y b2 gz dB b:aa)(k:J)(hk:k<6):∀ q,q<6->(#[ai x,ai y,ai b2,ai gz,I dB,I b]:a7 ay)[q]?=some (.int (dA (24+k*6+q)) (rC x y b2 gz dB b q)):=λq a=>by
 rw[yI k hk q a]
 match q,a with
 | 0,_=>rfl
 | 1,_=>rfl
 | 2,_=>rfl
 | 3,_=>rfl
 | 4,_=>rfl
 | 5,_=>rfl
def ef.X0{c:aa}(h:ef c 0 0 v)(k:J)(hk:k<6)(x y b2 gz dB b:aa)(i:bm x)(j:bm y)(f:bm b2)(g:bm gz)(e:0<=dB/\dB<=1000)(d:0<=b/\b<=1000):ef c 0 0 (dH (24+k*6) 6 (rC x y b2 gz dB b) v):=h.row _ 6 _ λq a=>by
 rw[aB U,(pn c 0 k hk q a).1,(pn c 0 k hk q a).2]
 match q,a with
 | 0,_=>exact i
 | 1,_=>exact j
 | 2,_=>exact f
 | 3,_=>exact g
 | 4,_=>exact e
 | 5,_=>exact d
def SgI.cellS{c:aa}{b2:aj}(h:SgI w bo g bl fr c 0 0 v xs b2)(k:J)(hk:k<6)(q:J)(a:q<6):b2.cell? (ae g (24+k*6+q) ad)=some (.int (if q<4 then .i32 else .i64) (v (24+k*6+q))):=h.st.cell _ U _ (yI k hk q a)
def SC(f l:aa):bm (h5 f l)/\bm (h6 f l):=⟨l0 _ _,l0 _ _⟩
def XI{c:aa}{b2:aj}(h:SgI w bo g bl fr c 0 0 v xs b2)(i:J)(ax:i<2):aA 350 #[g,I i] b2 λe w'=>e=aY #[]/\SgI w bo g bl fr c 0 0 (om i fr (v,xs)).1 (om i fr (v,xs)).2 w':=by
 have d:=lX i ax;have ys:=h.fW d 6 U;have a:=ag h;by_cases an:0<v (4+i*10+6)
 .rw[show om i fr (v,xs)=(v,xs)from aE an]
  go_in
  exact My
 obtain⟨R,b⟩:∃ R,om i fr (v,xs)=R:=⟨_,rfl⟩;rw[b];rw[show om i fr (v,xs)=_ from aB an]at b;have B:=ag b
 go_in
 go_wp2_with fail;go_loopg [17] 6 (λQ z wr=>∃ k:J,Q=6-k/\k<=6/\z=I k/\(∀ j,j<k->v (24+j*6+4)≠0)/\SgI w bo g bl fr c 0 0 v xs wr)
 case atStart=>exact⟨0,rfl,U,rfl,λj D=>absurd D (kZ j),a.o⟩
 obtain⟨k,aZ,hk,rfl,A,aV⟩:=hrel;by_cases y:k<6
 .have zd:=aV.cellS k y 4 U;by_cases M:v (24+k*6+4)=0
  .have r':pd v 0 6=some k:=by
    rw[BA v k U A,show 6-k=(6-(k+1))+1 by omega];exact aE M
   have b:=B.o;rw[r']at b;dsimp only at b;have N:=ag b;obtain⟨G,f⟩:=h0 (F:=λW=>SgI w bo g bl fr c 0 0 v xs W);have Q':∀ x:bs G,x.to.cell? (ae g (4+i*10) ad)=some (ai (v (4+i*10))):=λx=>((f _).1 x.held).eM d 0 U;have St:∀ x:bs G,x.to.cell? (ae g (4+i*10+1) ad)=some (ai (v (4+i*10+1))):=λx=>((f _).1 x.held).eM d 1 U;have Tq:∀ x:bs G,x.to.cell? (ae g (4+i*10+4) ad)=some (I (v (4+i*10+4))):=λx=>((f _).1 x.held).fW d 4 U;have E:=(f _).2 (aV.keep (Keeps.refl _ _).drew);have t:=ag (λ(W W':aj) (u:G W) (ak:Below W W W')=>(f W').2 (((f W).1 u).keep (Keeps.bJ ak a8)));have ab:=ag (λ(W:aj) (u:G W)=>(f W).1 u);have p:=SC (v (4+i*10+4));have r:=aV.lim.fix d 0 U;have vl:=aV.lim.fix d 1 U;have T:=ag (yx (v (4+i*10+4)) 262144 gi);have Z:=ag (yx (v (4+i*10+4)) 196608 gi);have V:=ag (uI (v (4+i*10)) (v (4+i*10+1)) (h5 (v (4+i*10+4)) 262144) (h6 (v (4+i*10+4)) 262144) r vl (p _).1 (p _).2);have h2:=(p 196608).1;have lb:=(p 196608).2;have g':=o9 (v (4+i*10)) (h5 (v (4+i*10+4)) 262144);have hd:=o9 (v (4+i*10+1)) (h6 (v (4+i*10+4)) 262144);generalize dt (v (4+i*10)) (h5 (v (4+i*10+4)) 262144)=X at *;generalize dt (v (4+i*10+1)) (h6 (v (4+i*10+4)) 262144)=Y at *;generalize h5 (v (4+i*10+4)) 196608=m at *;generalize h6 (v (4+i*10+4)) 196608=n at *;go_wp2_with fail;generalize CW:4+i*10=o at *;refine cJ 25 ?_;refine cK (G) (.range 24) 1 24 ?_;refine dK (E) [0,1,2,3,4,5,6,7,8,9,12,13,14,15,17,18,20,21,22] 5 ?_;generalize World.drew _=wd at *;refine eH 10 λK l=>?_;go_simp;refine aW (T.o _) λao l'=>?_;have H:=t.o _ _ E l';refine l _ _ (H) ?_;refine eH 11 λK l=>?_;go_simp;refine aW (V.o _) λaD m'=>?_;have L:=t.o _ _ H m';refine l _ _ (L) ?_;refine eH 16 λK l=>?_;go_simp;refine aW (Z.o _) λbq ps=>?_;have q:=t.o _ _ L ps;refine l _ _ (q) ?_;refine hs 19 q ?_;refine jG 23 λK l=>?_;go_simp;refine l _ _ (q) ?_;have ar:=ab.o _ q;obtain⟨sd,a'⟩:=ar.row 96 (24+k*6) 6 #[ai X,ai Y,ai m,ai n,I (i+1),I 40] _ sizeOf96 rfl U (KS X Y m n (i+1) 40 k y) (ar.lim.X0 k y X Y m n (i+1) 40 g' hd h2 lb U U);have O:=ag a';generalize World.setRow _ _ _=TS at *;refine cK (λW=>0<=W.heap.size) [24] 0 1 ?_;refine pv 24 (de _) (nM rfl rfl rfl sd) ?_;simp only[Act.put];have ar:=O.o;have Aw:o+10<=24:=by unfold ey at d;omega
   have C:bK (dH (24+k*6) 6 (rC X Y m n (i+1) 40) v) (o+6) 8 o=v o:=by rw[c4 _ _ _ _ U,nE _ _ _ _ _ U]
   have ys:=ar.fW d 6 U;have f6:=ar.st.free (o+6);have a:=ag (ar.rK d 6 U 8 (by show 0<=_/\_<=(1000:aa);omega));go_upto_region 8 with fail
   have ar:=a.o;generalize World.setCell _ _ _=v' at *;generalize bK (dH (24+k*6) 6 (rC X Y m n (i+1) 40) v) (o+6) 8=v2 at *;have V':v'.cell? (ae g o ad)=some (ai (v o)):=by rw[<-C];exact ar.eM d 0 U
   have r:=ar.lim.fix d 0 U;rw[rV,C]at r;have gf:=ag (qv ar.st (i+1) 1 1 16384 5 0 (v o) r);have zp:(i:aa)+1<=2:=U;go_wp2_with fail;refine aW gf.o ?_;rintro T' ⟨S,s'⟩;have a:=ag (ar.b9 S s');go_wp2;refine c1 (v:=aY #[]) jA rfl ?_;refine⟨rfl,?_⟩;rw[<-N.out];exact a.o
  have s:=ag aV;have P:=ag (show ∀ j,j<k+1->v (24+j*6+4)≠0 from λj D=>by
   by_cases e:j=k
   .subst e;exact M
   .exact A j U)
  go_wp2_with fail;go_roundg (6-(k+1))
  case rel=>exact⟨k+1,rfl,U,by go_num,P.o,s.o⟩
  omega
 obtain rfl:k=6:=U;have b:=B.out;rw[BA v 6 bx A]at b;change (v,xs)=R at b;subst b;have s:=ag aV;go_wp2_with fail;go_end0;exact⟨rfl,s.o⟩
def KN{c:aa}{b2:aj}(h:SgI w bo g bl fr c 0 0 v xs b2)(i:J)(ax:i<2)(bY:aa):aA 324 #[g,I i,aH bY] b2 λe w'=>e=aY #[]/\SgI w bo g bl fr c 0 0 (iy i bY fr (v,xs)).1 (iy i bY fr (v,xs)).2 w':=by
 have m:=h.fW (lX i ax) 8 U;obtain⟨R,a⟩:∃ R,iy i bY fr (v,xs)=R:=⟨_,rfl⟩;rw[a];unfold iy at a;by_cases hd:0<v (4+i*10+8)
 .have f:=ag (XG h i ax hd);rw[aE hd]at a;subst a
  go_in
  go_wp2_with fail;refine aW f.o λao h1=>?_;go_wp2;refine c1 (v:=aY #[]) jA rfl ?_;exact⟨rfl,h1⟩
 rw[aB hd]at a;have b:=ag a
 go_in
 go_wp2_with fail;refine aW (XM h.st h.lim i ax bY) λao h1=>?_;have h1:SgI w bo g bl fr c 0 0 (h' i bY fr (v,xs)).1 (h' i bY fr (v,xs)).2 ao:=⟨h1.st,h.cu.trans h1.cu,h1.lim⟩;generalize h' i bY fr (v,xs)=s1 at *;have⟨j,k⟩:=s1;go_wp2_with fail;refine aW (XK h1 i ax) λaD h2=>?_;generalize nt i fr (j,k)=s2 at *;have⟨v2,l⟩:=s2;go_wp2_with fail;refine bE (tX bY 16 _) ?_;cases au:eo bY 16
 .go_wp2_with fail;go_end0;refine⟨rfl,?_⟩;rw[<-b.o,au];exact h2
 go_wp2_with fail;refine aW (XI h2 i ax) λbq d=>?_;go_wp2;go_end0;refine⟨rfl,?_⟩;rw[<-b.o,au];exact d
def ef.mono{c d:aa}{k:J}{e:aa}(h:ef c k e v)(an:c<=d):ef d k e v:=λj a=>by
 have h1:=h j a;refine⟨h1.1,zW h1.2 ?_⟩;unfold j3
 repeat' split
 all_goals omega
theorem SgI.mono{c d:aa}{b2:aj}(h:SgI w bo g bl fr c 0 0 v xs b2)(an:c<=d):SgI w bo g bl fr d 0 0 v xs b2:=⟨h.st,h.cu,h.lim.mono an⟩
def KM{c:aa}{b2:aj}(h:SgI w bo g bl fr c 0 0 v xs b2)(i:J)(ax:i<2)(aS:-50<=v (4+i*10+5))(an:c<1000):aA 355 #[g,I i] b2 λe w'=>e=aY #[]/\SgI w bo g bl fr (c+1) 0 0 (mA i fr (v,xs)).1 (mA i fr (v,xs)).2 w':=by
 have b:=lX i ax;have k:=lX (1-i) U;have q:=h.fW b 5 U;have E:=h.st.free (4+i*10+5);have N:-100<=v (4+i*10+5)/\v (4+i*10+5)<=1000:=h.lim.num b 5 U;have O:0<=v (4+(1-i)*10+9)/\v (4+(1-i)*10+9)<=c:=h.lim.num k 9 U;have a:=ag (h.rK b 5 U (v (4+i*10+5)-1) (by show -100<=_/\_<=1000;omega));have K:(i:aa)+1<=2:=U;obtain⟨R,m⟩:∃ R,mA i fr (v,xs)=R:=⟨_,rfl⟩;rw[m]
 go_in
 go_upto_region 2 with fail
 have ar:=a.o;generalize World.setCell _ _ _=ao at *;have p:ao.cell? (ae g (4+i*10) ad)=some (ai (bK v (4+i*10+5) (v (4+i*10+5)-1) (4+i*10))):=ar.eM b 0 U;have f:bK v (4+i*10+5) (v (4+i*10+5)-1) (4+i*10)=v (4+i*10):=aB U;have t:bK v (4+i*10+5) (v (4+i*10+5)-1) (4+i*10+5)=v (4+i*10+5)-1:=aE rfl;have u:bK v (4+i*10+5) (v (4+i*10+5)-1) (4+(1-i)*10+9)=v (4+(1-i)*10+9):=aB U;have n:bm (v (4+i*10)):=by rw[<-f];exact ar.lim.fix b 0 U
 rw[f]at p;have j:=ag (qv ar.st (i+1) 2 2 32768 8 0 (v (4+i*10)) n);go_wp2_with fail;refine aW j.o ?_;rintro aD ⟨h2,z⟩;have ar:=ar.b9 h2 z;have d:=m;unfold mA at d;dsimp only at d;generalize L:bK v (4+i*10+5) (v (4+i*10+5)-1)=l at *;generalize M:ih fr xs (kk (i+1) 2 2 32768 8 0 (v (4+i*10)))=S at *;have q:=ar.fW b 5 U;rw[t]at q;by_cases ak:1<v (4+i*10+5)
 .rw[aE ak]at d;subst d;have y:0<v (4+i*10+5)-1:=U;have a:=ag (ar.mono (show c<=c+1 by omega));go_wp2_with fail;refine c1 (v:=aY #[]) jA rfl ?_;exact⟨rfl,a.o⟩
 rw[aB ak]at d;have y:¬ 0<v (4+i*10+5)-1:=U;have F:=ar.st.free (4+i*10+8);have T:=ar.fW b 8 U;have a:=ag ((ar.rK b 8 U 30 (by show 0<=_/\_<=(1000:aa);omega)).mono (show c<=c+1 by omega));go_upto_region 5 with fail
 have ar:=a.o;generalize World.setCell _ _ _=bq at *;have s:bK l (4+i*10+8) 30 (4+(1-i)*10+9)=v (4+(1-i)*10+9):=by rw[<-u];exact aB U
 have r:bK l (4+i*10+8) 30 (4+i*10)=v (4+i*10):=by rw[<-f];exact aB U
 generalize bK l (4+i*10+8) 30=v2 at *;have C:=ar.fW k 9 U;rw[s]at C;have G:=ar.st.free (4+(1-i)*10+9);have a:=ag (ar.rK k 9 U (v (4+(1-i)*10+9)+1) (by show 0<=_/\_<=c+1;omega));have D:(1:aa)-i=((1-i:J):aa):=U;have H:1-i<2:=U
 go_region
 have ar:=a.o.keep (Keeps.refl _ _).drew;generalize World.drew _=B at *;have b':bK v2 (4+(1-i)*10+9) (v (4+(1-i)*10+9)+1) (4+i*10)=v (4+i*10):=by rw[<-r];exact aB U
 generalize bK v2 (4+(1-i)*10+9) (v (4+(1-i)*10+9)+1)=P at *;have p:B.cell? (ae g (4+i*10) ad)=some (ai (v (4+i*10))):=by rw[<-b'];exact ar.eM b 0 U
 have j:=ag (qv ar.st (i+1) 5 5 32768 10 0 (v (4+i*10)) n);go_wp2_with fail;refine aW j.o ?_;rintro Q ⟨x,A⟩;have a:=ag (ar.b9 x A);go_wp2;go_end0;refine⟨rfl,?_⟩;rw[<-d];exact a.o
theorem SgI.drewN{c:aa}{b2:aj}(h:SgI w bo g bl fr c 0 0 v xs b2)(n:J):SgI w bo g bl fr c 0 0 v xs (b2.drewN n):=h.keep ((Keeps.refl _ b2).drewN n)
def XH{c:aa}{b2:aj}(h:SgI w bo g bl fr c 0 0 v xs b2):aA 325 #[g] b2 λe w'=>e=aY #[]/\SgI w bo g bl fr c 0 0 (jj fr (v,xs)).1 (jj fr (v,xs)).2 w':=by
 have k:b2.cell? (ae g 12 ad)=some (I (v 12)):=h.st.cell 12 U .i64 rfl;have l:b2.cell? (ae g 22 ad)=some (I (v 22)):=h.st.cell 22 U .i64 rfl;obtain⟨R,d⟩:∃ R,jj fr (v,xs)=R:=⟨_,rfl⟩;rw[d];unfold jj GA at d;dsimp only at d;by_cases n:0<v 12
 .rw[ei n,zO,aE rfl]at d;subst d
  go_in
  exact Nv
 rw[di n,w4]at d;have Y:decide (0<v 12)=false:=di n;by_cases p:0<v 22
 .rw[ei p,zO,aE rfl]at d;subst d
  go_in
  exact Nv
 rw[di p,w4]at d;have Z:decide (0<v 22)=false:=di p;have f:ey 4:=.inl rfl;have i:ey 14:=.inr rfl;have j:=ag (C_ (v 4) (v 5) 262144 (v 14) (v 15) 262144 (h.lim.fix f 0 U) (h.lim.fix f 1 U) gi (h.lim.fix i 0 U) (h.lim.fix i 1 U) gi);generalize kO (fK (v 14) (v 4)) (fK (v 15) (v 5)) (dt 262144 262144)=t at *;have s:=ag d;clear d
 go_in
 go_wp2_with fail;go_quiet (fail);have a:=ag (h.drewN nq);generalize b2.drewN nq=ao at *;clear h k l;have k:ao.cell? (ae g 12 ad)=some (I (v 12)):=a.o.st.cell 12 U .i64 rfl;have l:ao.cell? (ae g 22 ad)=some (I (v 22)):=a.o.st.cell 22 U .i64 rfl;go_wp2_with fail;obtain⟨G,b⟩:∃ G:aj->al,∀ W,G W↔SgI w bo g bl fr c 0 0 v xs W:=⟨_,λ_=>Iff.rfl⟩;have L:∀ x:bs G,x.to.cell? (ae g 12 ad)=some (I (v 12)):=λx=>((b _).1 x.held).st.cell 12 U .i64 rfl;have O:∀ x:bs G,x.to.cell? (ae g 22 ad)=some (I (v 22)):=λx=>((b _).1 x.held).st.cell 22 U .i64 rfl;have P:∀ x:bs G,x.to.cell? (ae g 4 ad)=some (ai (v 4)):=λx=>((b _).1 x.held).st.cell 4 U .i32 rfl;have Q:∀ x:bs G,x.to.cell? (ae g 5 ad)=some (ai (v 5)):=λx=>((b _).1 x.held).st.cell 5 U .i32 rfl;have M:∀ x:bs G,x.to.cell? (ae g 14 ad)=some (ai (v 14)):=λx=>((b _).1 x.held).st.cell 14 U .i32 rfl;have N:∀ x:bs G,x.to.cell? (ae g 15 ad)=some (ai (v 15)):=λx=>((b _).1 x.held).st.cell 15 U .i32 rfl;have r:=(b _).2 (a.o.keep (Keeps.refl _ ao).drew);have y:=ag (λ(W W':aj) (q:G W) (ak:Below W W W')=>(b W').2 (((b W).1 q).keep (Keeps.bJ ak a8)));have z:=ag (λ(W:aj) (q:G W)=>(b W).1 q);clear b a k l f i;refine cJ 24 ?_;refine cK (G) (.range 24) 0 24 ?_;refine dK (r) (.range 21) 3 ?_;refine eH 21 λK A=>?_;go_simp;refine(j.o _).mono ?_;rintro e aD ⟨rfl,B⟩;have m:=y.out _ _ r B;refine A _ _ (m) ?_;clear A K;refine dK (m) [22,23] 0 ?_;refine ox ?_;have ar:=z.out _ m;clear L O P Q M N r m B y z j;cases t
 .have a:=ag ar;clear ar;go_wp2;refine c1 (v:=aY #[]) jA rfl ?_;refine⟨rfl,?_⟩;rw[<-s.out];exact a.o
 have f:ey 4:=.inl rfl;have i:ey 14:=.inr rfl;have V:aD.cell? (ae g 6 ad)=some (ai (v 6)):=ar.st.cell 6 U .i32 rfl;have X:aD.cell? (ae g 7 ad)=some (ai (v 7)):=ar.st.cell 7 U .i32 rfl;have S:aD.cell? (ae g 16 ad)=some (ai (v 16)):=ar.st.cell 16 U .i32 rfl;have T:aD.cell? (ae g 17 ad)=some (ai (v 17)):=ar.st.cell 17 U .i32 rfl;have F:=ar.st.free 6;have H:=ar.st.free 7;have D:=ar.st.free 16;have E:=ar.st.free 17;have a:=ag ((((ar.kU f 2 U (v 16) (ar.lim.fix i 2 U)).kU f 3 U (v 17) (ar.lim.fix i 3 U)).kU i 2 U (v 6) (ar.lim.fix f 2 U)).kU i 3 U (v 7) (ar.lim.fix f 3 U));clear ar f i;go_wp2_with fail
 go_region
 have ar:=a.o.keep (Keeps.refl _ _).drew;generalize World.drew _=ab at *;clear a V X S T F H D E;have j:=ag (qv ar.st 0 4 4 16384 6 0 0 gi);go_wp2_with fail;refine j.o.mono ?_;rintro e a' ⟨rfl,u,C⟩;have a:=ag (ar.b9 u C);clear u C j ar;go_wp2;go_end0;refine⟨rfl,?_⟩;rw[<-s.out];exact a.o
def RH:∀ q,q<20->(fY (-2097152) 0++fY 2097152 32768)[q]?=some (.int (dA (4+q)) (ng q)):=λq a=>by
 unfold ng;by_cases h:q<10
 .rw[Array.getElem?_append_left (show q<(fY (-2097152) 0).size from h),aE h];exact CD (-2097152) 0 0 0 (o:=4) (.inl rfl) q h
 rw[Array.getElem?_append_right (show(fY (-2097152) 0).size<=q by show 10<=q;omega),aB h,show 4+q=14+(q-10)by omega];exact CD 2097152 0 32768 0 (o:=14) (.inr rfl) (q-10) U
def ef.fresh{c:aa}{v:J->aa}(h:ef c 0 0 v)(an:0<=c):ef c 0 0 (dH 4 20 ng v):=by
 have e:dH 4 20 ng v=dH 14 10 (ny 2097152 0 32768 0) (dH 4 10 (ny (-2097152) 0 0 0) v):=by
  funext j
  unfold dH ng;by_cases h1:14<=j/\j<14+10
  .rw[aE h1,aE U,aB U,show j-4-10=j-14 by omega]
  rw[aB h1];by_cases h2:4<=j/\j<4+10
  .rw[aE h2,aE U,aE U]
  rw[aB h2,aB U]
 have f0:bm 0:=by unfold bm;omega
 rw[e];exact(h.CB (.inl rfl) (-2097152) 0 0 0 gi f0 U U).CB (.inr rfl) 2097152 0 32768 0 gi f0 U U
def ef.none{c:aa}{v:J->aa}(h:ef c 0 0 v):ef c 0 0 (dH 24 36 (λ_=>0) v):=h.row 24 36 _ λq a=>by
 rw[aB U];constructor
 .unfold kK;rw[aB U,aB U];split<;>omega
 unfold j3;rw[aB U,aB U,aB U];split<;>omega
def Ao:a7 ay:=((range 36).map λq=>Value.int (dA (24+q)) 0).toArray
def Z7:∀ q,q<36->Ao[q]?=some (.int (dA (24+q)) 0):=λq a=>by simp[Ao,a]
def Kg(w:aj):(Instr.build 97 #[]).run prog w=.ok (.agg Ao) w:=aI
section
variable{P:Program}{o:Oper}{a:Act}{Q:Exit->Act->aj->al}{ops:a7 Oper}{rest:ah Oper}{u:aj}{x:ay}
theorem DJ{T:TypeId}(hrun:(Instr.build T #[]).run P w=.ok x u)(b:o.guard=none)(c:o.op=.build T #[])(h:wpList P ops Q rest (a.put o.dst x) u):wpList P ops Q (o :: rest) a w:=
 zI hrun b c aM h
end
def XL{c:aa}{b2:aj}(h:SgI w bo g bl fr c 0 0 v xs b2)(M:1<=v 3/\v 3<=600)(h2:0<=v 2/\v 2<=1073741824)(an:0<=c):aA 327 #[g] b2 λe w'=>e=aY #[]/\SgI w bo g bl fr c 0 0 (kp fr (v,xs)).1 (kp fr (v,xs)).2 w':=by
 have n:b2.cell? (ae g 3 ad)=some (I (v 3)):=h.st.cell 3 U .i64 rfl;have G:b2.cell? (ae g 13 ad)=some (I (v 13)):=h.st.cell 13 U .i64 rfl;have K:b2.cell? (ae g 23 ad)=some (I (v 23)):=h.st.cell 23 U .i64 rfl;have f3:=h.st.free 3;have f:=ag (h.hC 3 U .i64 rfl (v 3-1) (by show 0<=v 3-1/\v 3-1<=4294967295;omega));obtain⟨R,i⟩:∃ R,kp fr (v,xs)=R:=⟨_,rfl⟩;rw[i];unfold kp Ct at i;dsimp only at i;by_cases l:1<v 3/\v 13<3/\v 23<3
 .have⟨a,b,d⟩:=l;have a':0<v 3-1:=U;rw[ei a,ei b,ei d]at i;have k:=ag i;clear i h
  go_in
  go_wp2_with fail;refine c1 (v:=aY #[]) jA rfl ?_;refine⟨rfl,?_⟩;rw[<-k.o];exact f.o
 have D:(¬ 1<v 3/\decide (1<v 3)=false)\/((1<v 3/\¬ v 13<3)/\decide (v 13<3)=false)\/((1<v 3/\v 13<3/\¬ v 23<3)/\decide (v 23<3)=false):=by
  simp only[pO];omega
 have r:(dH 24 36 (λ_=>0) (dH 4 20 ng (bK (bK (bK v 3 (v 3-1)) 2 (v 2+1)) 3 600)),ih fr xs (kk 0 7 7 32768 12 0 0))=R:=by
  rw[<-i,aB];simp only[ep,gh];exact l
 have k:=ag r;clear i h r l
 go_in
 rcases D with⟨a,b⟩|⟨⟨a,C⟩,b⟩|⟨⟨a,C,L⟩,b⟩
 focus
  have a':¬ 0<v 3-1:=U;go_upto_region 2 with fail
 rotate_left
 focus
  have a':0<v 3-1:=U;go_upto_region 2 with fail
 rotate_left
 focus
  have a':0<v 3-1:=U;go_upto_region 2 with fail
 all_goals
  have ar:=f.out;generalize World.setCell _ _ _=ao at *;clear f n G K f3;have p:bK v 3 (v 3-1) 2=v 2:=aB U;have H:ao.cell? (ae g 2 ad)=some (I (v 2)):=by rw[<-p];exact ar.st.cell 2 U .i64 rfl
  have f2:=ar.st.free 2;have f:=ag (ar.hC 2 U .i64 rfl (v 2+1) (by show 0<=v 2+1/\v 2+1<=4294967295;omega));clear ar;go_upto_region 3 with fail
  have ar:=f.o;generalize World.setCell _ _ _=aD at *;clear f H f2 p;have n:aD.cell? (ae g 3 ad)=some (I (bK (bK v 3 (v 3-1)) 2 (v 2+1) 3)):=ar.st.cell 3 U .i64 rfl;have f3:=ar.st.free 3;have f:=ag (ar.hC 3 U .i64 rfl 600 (by show 0<=(600:aa)/\(600:aa)<=4294967295;omega));clear ar;go_upto_region 4 with fail
  have ar:=f.o;generalize World.setCell _ _ _=bq at *;clear f n f3;generalize bK (bK (bK v 3 (v 3-1)) 2 (v 2+1)) 3 600=N at *;go_wp2_with fail;refine(H7 _).mono ?_;rintro e O ⟨rfl,u⟩;go_wp2_with fail;refine(H8 _).mono ?_;rintro e E ⟨rfl,x⟩;have ar:=(ar.keep (Keeps.bJ u a8)).keep (Keeps.bJ x a8);obtain⟨y,m⟩:=ar.row 94 4 20 _ ng sizeOf94 rfl U RH (ar.lim.fresh an);obtain⟨z,s⟩:=m.row 97 24 36 _ _ sizeOf97 rfl U Z7 m.lim.none;have f:=ag s;have j:=Kh;have t:=Kg;clear ar m s u x;generalize fY (-2097152) 0++fY 2097152 32768=pl at *;generalize Ao=S at *;go_upto_region 5 with(first|(refine s0 (j _) rfl rfl rfl rfl ?_)|(refine c7 y rfl rfl rfl rfl ?_)|fail)
  clear y j;generalize E.setRow _ _=F at *;go_upto_region 6 with(first|(refine DJ (t _) rfl rfl ?_)|(refine c7 z rfl rfl rfl rfl ?_)|fail)
  clear z t;generalize F.setRow _ _=P at *;have j:=ag (qv f.o.st 0 7 7 32768 12 0 0 gi);go_wp2_with fail;refine j.o.mono ?_;rintro e Q ⟨rfl,q,A⟩;have B:=ag (f.out.b9 q A);clear q A j f;go_wp2;go_end0;refine⟨rfl,?_⟩;rw[<-k.out];exact B.o
def SgI.Zi{c:aa}{b2:aj}(h:SgI w bo g bl fr c 0 0 v xs b2)(k:J)(hk:k<6)(q:J)(a:4<=q/\q<6)(x:aa)(b:0<=x/\x<=1000):SgI w bo g bl fr c 0 0 (bK v (24+k*6+q) x) xs (b2.setCell (ae g (24+k*6+q) ad) (I x)):=by
 refine h.hC _ U _ (by rw[yI k hk q a.2,aB U]) x ?_;rw[aB U,(pn c 0 k hk q a.2).1,(pn c 0 k hk q a.2).2,aB U,aB U];exact b
def SgI.Ls{c:aa}{b2:aj}(h:SgI w bo g bl fr c 0 0 v xs b2)(k:J)(hk:k<6)(q:J)(a:q<4)(x:aa)(b:bm x):SgI w bo g bl fr c 0 0 (bK v (24+k*6+q) x) xs (b2.setCell (ae g (24+k*6+q) ad) (ai x)):=by
 refine h.hC _ U _ (by rw[yI k hk q U,aE a]) x ?_;rw[aB U,(pn c 0 k hk q U).1,(pn c 0 k hk q U).2,aE a,aE a];exact b
def ef.ra{c:aa}(h:ef c 0 0 v)(k:J)(hk:k<6)(q:J)(a:q<4):bm (v (24+k*6+q)):=by
 have h1:=h (24+k*6+q) U;rw[aB U,(pn c 0 k hk q U).1,(pn c 0 k hk q U).2,aE a,aE a]at h1;exact h1
def XJ{c:aa}{b2:aj}(h:SgI w bo g bl fr c 0 0 v xs b2)(k:J)(hk:k<6)(Tq:1<=v (24+k*6+5)/\v (24+k*6+5)<=1000)(hw:1<=v (24+k*6+4)/\v (24+k*6+4)<=2)(aS:∀ o,ey o->-50<=v (o+5))(an:c<1000):aA 326 #[g,.pointer (some (ae g (24+k*6) ad))] b2 λe w'=>e=.returned (.bool (jk k fr (v,xs)).1)/\SgI w bo g bl fr (c+1) 0 0 (jk k fr (v,xs)).2.1 (jk k fr (v,xs)).2.2 w':=by
 have aax:b2.cell? (ae g (24+k*6+5) ad)=some (I (v (24+k*6+5))):=h.cellS k hk 5 U;have f5:=h.st.free (24+k*6+5);have f:=ag (h.Zi k hk 5 U (v (24+k*6+5)-1) U);obtain⟨R,a⟩:∃ R,jk k fr (v,xs)=R:=⟨_,rfl⟩;rw[a];unfold jk at a;dsimp only at a;by_cases h1:v (24+k*6+5)=1
 .have T:v (24+k*6+5)-1=0:=U;rw[aE h1,T]at a;have zp:=f.o.mono (show c<=c+1 by omega);rw[T]at zp;subst a;have j:=ag zp
  go_in
  go_wp2_with fail;go_ret;exact⟨rfl,j.o⟩
 rw[aB h1]at a;have T:¬ v (24+k*6+5)-1=0:=U;have r:=ag a;have TS:=h.lim.ra k hk 0 U;have T':=h.lim.ra k hk 1 U;have V':=h.lim.ra k hk 2 U;have aaq:=h.lim.ra k hk 3 U;have ys:=ag (uI (v (24+k*6)) (v (24+k*6+1)) (v (24+k*6+2)) (v (24+k*6+3)) TS T' V' aaq)
 go_in
 go_upto_region 4 with fail
 have ar:=f.o;generalize World.setCell _ _ _=ao at *;have⟨G,q⟩:=h0 (F:=λW=>SgI w bo g bl fr c 0 0 (bK v (24+k*6+5) (v (24+k*6+5)-1)) xs W);have O:∀ x:bs G,x.to.cell? (ae g (24+k*6) ad)=some (ai (v (24+k*6))):=λx=>by
  have:=((q _).1 x.held).cellS k hk 0 U
  rwa [c4 _ _ _ _ U]at this
 have P:∀ x:bs G,x.to.cell? (ae g (24+k*6+1) ad)=some (ai (v (24+k*6+1))):=λx=>by
  have:=((q _).1 x.held).cellS k hk 1 U
  rwa [c4 _ _ _ _ U]at this
 have aar:∀ x:bs G,x.to.cell? (ae g (24+k*6+2) ad)=some (ai (v (24+k*6+2))):=λx=>by
  have:=((q _).1 x.held).cellS k hk 2 U
  rwa [c4 _ _ _ _ U]at this
 have aas:∀ x:bs G,x.to.cell? (ae g (24+k*6+2+1) ad)=some (ai (v (24+k*6+3))):=λx=>by
  have:=((q _).1 x.held).cellS k hk 3 U
  rwa [c4 _ _ _ _ U]at this
 have n:=(q _).2 (ar.keep (Keeps.refl _ ao).drew);have s:=ag (λ(W W':aj) (m:G W) (ak:Below W W W')=>(q W').2 (((q W).1 m).keep (Keeps.bJ ak a8)));have u:=ag (λ(W:aj) (m:G W)=>(q W).1 m);go_wp2_with fail;refine cJ 13 ?_;refine cK (G) (.range 10) 3 10 ?_;refine dK (n) (.range 9) 1 ?_;generalize World.drew _=wd at *;refine jG 9 λK y=>?_;go_simp;refine aW (ys.o _) λaD Aw=>?_;have a':=s.o _ _ n Aw;refine y _ _ (a') ?_;have ar:=u.o _ a';clear O P aar aas n a' Aw s u ys;have aau:aD.cell? (ae g (24+k*6) ad)=_:=ar.cellS k hk 0 U;have aav:aD.cell? (ae g (24+k*6+1) ad)=_:=ar.cellS k hk 1 U;have f0:=ar.st.free (24+k*6);have f1:=ar.st.free (24+k*6+1);have f:=ag ((ar.Ls k hk 0 U _ (o9 (v (24+k*6)) (v (24+k*6+2)))).Ls k hk 1 U _ (o9 (v (24+k*6+1)) (v (24+k*6+3))));clear ar;refine cK (λW=>0<=W.heap.size) [10,11,12] 0 3 ?_;refine hs 10 (de _) ?_;refine hs 11 (de _) ?_;refine h9 12 (de _) ?_;have ar:SgI w bo g bl fr c 0 0 (fZ (24+k*6) v) xs _:=f.o;generalize World.setCell (World.setCell _ _ _) _ _=bq at *;clear f aau aav f0 f1;have aZ:=BS (24+k*6) v;have g4:=aZ.2.2.2 (24+k*6+4) U U U;have X:∀ o,ey o->-50<=fZ (24+k*6) v (o+5):=λo d=>by
  rw[aZ.2.2.2 (o+5) o1 o1 o1];exact aS o d
 clear aZ aS;generalize fZ (24+k*6) v=V at *;have zd:=ag (C7 (-4194304) (-4194304) 4194304 4194304 (V (24+k*6)) (V (24+k*6+1)));generalize iV (-4194304) (-4194304) 4194304 4194304 (V (24+k*6)) (V (24+k*6+1))=St at *;have⟨G,q⟩:=h0 (F:=λW=>SgI w bo g bl fr c 0 0 V xs W);have O:∀ x:bs G,x.to.cell? (ae g (24+k*6) ad)=some (ai (V (24+k*6))):=λx=>((q _).1 x.held).cellS k hk 0 U;have P:∀ x:bs G,x.to.cell? (ae g (24+k*6+1) ad)=some (ai (V (24+k*6+1))):=λx=>((q _).1 x.held).cellS k hk 1 U;have n:=(q _).2 (ar.keep (Keeps.refl _ bq).drew);have s:=ag (λ(W W':aj) (m:G W) (ak:Below W W W')=>(q W').2 (((q W).1 m).keep (Keeps.bJ ak a8)));have u:=ag (λ(W:aj) (m:G W)=>(q W).1 m);clear ar;go_wp2_with fail;refine cJ 7 ?_;refine cK (G) (.range 7) 0 7 ?_;refine dK (n) [1,2,3,4] 3 ?_;generalize World.drew _=wd at *;refine eH 0 λK y=>?_;go_simp;refine aW (BQ _) λaaw CW=>?_;have gf:=s.o _ _ n CW;refine y _ _ (gf) ?_;clear y K;refine eH 5 λK y=>?_;go_simp;refine aW (zd.o _) λb Q'=>?_;have Y:=s.o _ _ gf Q';refine y _ _ (Y) ?_;clear y K;refine h9 6 Y ?_;have ar:=u.o _ Y;clear n gf Y CW Q' zd s;cases St
 .have f:=ag (ar.mono (show c<=c+1 by omega));clear ar O P;go_wp2_with fail;go_ret;refine⟨?_,?_⟩
  .rw[<-r.o];rfl
  rw[<-r.o];exact f.o
 have Q:b.cell? (ae g (24+k*6+4) ad)=some (I (V (24+k*6+4))):=ar.cellS k hk 4 U;have a:=r.o;rw[aB (show ¬ true=false by decide)]at a;rw[g4]at Q;have D:v (24+k*6+4)=1\/v (24+k*6+4)=2:=U;clear r g4 hw Tq h1 T;rcases D with D|D
 .rw[D]at Q;have av:(2-v (24+k*6+4)).toNat=1:=by rw[D];rfl
  simp only[av]at a;clear av;have au:ey 14:=(.inr rfl);have g':b.cell? (ae g 14 ad)=some (ai (V 14)):=ar.eM au 0 U;have h2:b.cell? (ae g (14+1) ad)=some (ai (V (14+1))):=ar.eM au 1 U;have lb:b.cell? (ae g (14+2) ad)=some (ai (V (14+2))):=ar.eM au 2 U;have l':b.cell? (ae g (14+3) ad)=some (ai (V (14+3))):=ar.eM au 3 U;have m':b.cell? (ae g (14+4) ad)=some (I (V (14+4))):=ar.fW au 4 U;have ps:b.cell? (ae g (14+5) ad)=some (I (V (14+5))):=ar.fW au 5 U;have r':b.cell? (ae g (14+6) ad)=some (I (V (14+6))):=ar.fW au 6 U;have sd:b.cell? (ae g (14+7) ad)=some (I (V (14+7))):=ar.fW au 7 U;have s':b.cell? (ae g (14+8) ad)=some (I (V (14+8))):=ar.fW au 8 U;have vl:b.cell? (ae g (14+9) ad)=some (I (V (14+9))):=ar.fW au 9 U;change (if (decide (V (14+8)=0)&&kO (fK (V 14) (V (24+k*6))) (fK (V (14+1)) (V (24+k*6+1))) (dt 65536 262144))=true then(false,mA 1 fr (V,xs))else(true,V,xs))=R at a;have f:=ag ar;have r:=ag a;clear ar a;have an:=aX b (af #[ai (V 14),ai (V (14+1)),ai (V (14+2)),ai (V (14+3)),I (V (14+4)),I (V (14+5)),I (V (14+6)),I (V (14+7)),I (V (14+8)),I (V (14+9))] 93);have ar:=f.o.keep ((bb b).alloc (af #[ai (V 14),ai (V (14+1)),ai (V (14+2)),ai (V (14+3)),I (V (14+4)),I (V (14+5)),I (V (14+6)),I (V (14+7)),I (V (14+8)),I (V (14+9))] 93));simp only[Nat.reduceAdd]at an ar;have H:=ag an;have j:=ag ar;have Z:=ag X;clear an ar f X u O P;go_upto_region 9 with fail
  clear g' h2 lb l' m' ps r' sd s' vl Q;generalize b.alloc _=B at *;generalize b.heap.size=bX at *;obtain⟨l,i⟩:∃ G:aj->al,∀ W,G W↔(SgI w bo g bl fr c 0 0 V xs W/\W.heap[bX]?=some (af #[ai (V 14),ai (V (14+1)),ai (V (14+2)),ai (V (14+3)),I (V (14+4)),I (V (14+5)),I (V (14+6)),I (V (14+7)),I (V (14+8)),I (V (14+9))] 93 (0,0))):=⟨_,λ_=>Iff.rfl⟩;have eV:∀ x:bs l,x.to.cell? (ae bX 0 ad)=some (ai (V 14)):=λx=>bf ((i _).1 x.held).2 rfl;have fE:∀ x:bs l,x.to.cell? (ae bX (0+1) ad)=some (ai (V (14+1))):=λx=>bf ((i _).1 x.held).2 rfl;have E:∀ x:bs l,x.to.cell? (ae bX 8 ad)=some (I (V (14+8))):=λx=>bf ((i _).1 x.held).2 rfl;have fF:∀ x:bs l,x.to.cell? (ae g (24+k*6) ad)=some (ai (V (24+k*6))):=λx=>((i _).1 x.held).1.cellS k hk 0 U;have s1:∀ x:bs l,x.to.cell? (ae g (24+k*6+1) ad)=some (ai (V (24+k*6+1))):=λx=>((i _).1 x.held).1.cellS k hk 1 U;have n:=(i B.drew).2 ⟨j.o.keep (Keeps.refl _ B).drew,(bb B).drew.heap H.o id⟩;have s:=ag (λ(W W':aj) (m:l W) (ak:Below W W W')=>(i W').2 ⟨((i W).1 m).1.keep (Keeps.bJ ak a8),(Keeps.bJ (S:=aG) ak a8).heap ((i W).1 m).2 id⟩);have u:=ag (λ(W:aj) (m:l W)=>((i W).1 m).1);have C:=ag (C_ (V (24+k*6)) (V (24+k*6+1)) 65536 (V 14) (V (14+1)) 262144 (j.o.lim.ra k hk 0 U) (j.o.lim.ra k hk 1 U) gi (j.o.lim.fix au 0 U) (j.o.lim.fix au 1 U) gi);generalize kO (fK (V 14) (V (24+k*6))) (fK (V (14+1)) (V (24+k*6+1))) (dt 65536 262144)=t at *;clear i;by_cases hd:V (14+8)=0
  focus
   have z:decide (V (14+8)=0)=true:=ei hd;have a:=r.o;rw[z,s7]at a;have p:=ag a;clear r a;rw[hd]at E;go_wp2_with fail;refine cJ 12 ?_;refine cK (l) (.range 12) 0 12 ?_;refine dK (n) (.range 10) 2 ?_;generalize World.drew _=wd at *;refine eH 10 λK y=>?_;go_simp;refine aW (C.o _) λv' N=>?_;have A:=s.o _ _ n N;refine y _ _ (A) ?_;clear y K;refine h9 11 A ?_;have ar:=u.o _ A;clear n A N s u C eV fE E fF s1 j;cases t
   focus
    have f:=ag (ar.mono (show c<=c+1 by omega));clear ar;go_wp2_with fail;go_ret;refine⟨?_,?_⟩
    .rw[<-p.o];rfl
    rw[<-p.o];exact f.o
   focus
    have M:=ag (show aA 355 #[g,I 1] v' _ from KM ar 1 U (Z.o 14 au) an);clear ar;go_wp2_with fail;refine aW M.o λaat L=>?_;have f:=ag L;clear L M;go_wp2_with fail;go_ret;refine⟨?_,?_⟩
    .rw[<-p.o];rfl
    rw[<-p.o];exact f.o
  focus
   have z:decide (V (14+8)=0)=false:=di hd;have a:=r.o;rw[z,DT]at a;have p:=ag a;clear r a n C u s eV fE E fF s1;have fI:B.cell? (ae bX 8 ad)=some (I (V (14+8))):=bf H.o rfl;have ab:(V (14+8) == 0)=false:=by rw[eA];exact hd
   simp only[Nat.reduceAdd]at ab fI z;go_wp2_with fail;go_quiet (fail);have f:=ag ((j.o.drewN nq).mono (show c<=c+1 by omega));clear j fI;go_wp2_with fail;go_ret;refine⟨?_,?_⟩
   .rw[<-p.o];rfl
   rw[<-p.o];exact f.o
 rw[D]at Q;have av:(2-v (24+k*6+4)).toNat=0:=by rw[D];rfl
 simp only[av]at a;clear av;have au:ey 4:=(.inl rfl);have g':b.cell? (ae g 4 ad)=some (ai (V 4)):=ar.eM au 0 U;have h2:b.cell? (ae g (4+1) ad)=some (ai (V (4+1))):=ar.eM au 1 U;have lb:b.cell? (ae g (4+2) ad)=some (ai (V (4+2))):=ar.eM au 2 U;have l':b.cell? (ae g (4+3) ad)=some (ai (V (4+3))):=ar.eM au 3 U;have m':b.cell? (ae g (4+4) ad)=some (I (V (4+4))):=ar.fW au 4 U;have ps:b.cell? (ae g (4+5) ad)=some (I (V (4+5))):=ar.fW au 5 U;have r':b.cell? (ae g (4+6) ad)=some (I (V (4+6))):=ar.fW au 6 U;have sd:b.cell? (ae g (4+7) ad)=some (I (V (4+7))):=ar.fW au 7 U;have s':b.cell? (ae g (4+8) ad)=some (I (V (4+8))):=ar.fW au 8 U;have vl:b.cell? (ae g (4+9) ad)=some (I (V (4+9))):=ar.fW au 9 U;change (if (decide (V (4+8)=0)&&kO (fK (V 4) (V (24+k*6))) (fK (V (4+1)) (V (24+k*6+1))) (dt 65536 262144))=true then(false,mA 0 fr (V,xs))else(true,V,xs))=R at a;have f:=ag ar;have r:=ag a;clear ar a;have an:=aX b (af #[ai (V 4),ai (V (4+1)),ai (V (4+2)),ai (V (4+3)),I (V (4+4)),I (V (4+5)),I (V (4+6)),I (V (4+7)),I (V (4+8)),I (V (4+9))] 93);have ar:=f.o.keep ((bb b).alloc (af #[ai (V 4),ai (V (4+1)),ai (V (4+2)),ai (V (4+3)),I (V (4+4)),I (V (4+5)),I (V (4+6)),I (V (4+7)),I (V (4+8)),I (V (4+9))] 93));simp only[Nat.reduceAdd]at an ar;have H:=ag an;have j:=ag ar;have Z:=ag X;clear an ar f X u O P;go_upto_region 9 with fail
 clear g' h2 lb l' m' ps r' sd s' vl Q;generalize b.alloc _=B at *;generalize b.heap.size=bX at *;obtain⟨l,i⟩:∃ G:aj->al,∀ W,G W↔(SgI w bo g bl fr c 0 0 V xs W/\W.heap[bX]?=some (af #[ai (V 4),ai (V (4+1)),ai (V (4+2)),ai (V (4+3)),I (V (4+4)),I (V (4+5)),I (V (4+6)),I (V (4+7)),I (V (4+8)),I (V (4+9))] 93 (0,0))):=⟨_,λ_=>Iff.rfl⟩;have eV:∀ x:bs l,x.to.cell? (ae bX 0 ad)=some (ai (V 4)):=λx=>bf ((i _).1 x.held).2 rfl;have fE:∀ x:bs l,x.to.cell? (ae bX (0+1) ad)=some (ai (V (4+1))):=λx=>bf ((i _).1 x.held).2 rfl;have E:∀ x:bs l,x.to.cell? (ae bX 8 ad)=some (I (V (4+8))):=λx=>bf ((i _).1 x.held).2 rfl;have fF:∀ x:bs l,x.to.cell? (ae g (24+k*6) ad)=some (ai (V (24+k*6))):=λx=>((i _).1 x.held).1.cellS k hk 0 U;have s1:∀ x:bs l,x.to.cell? (ae g (24+k*6+1) ad)=some (ai (V (24+k*6+1))):=λx=>((i _).1 x.held).1.cellS k hk 1 U;have n:=(i B.drew).2 ⟨j.o.keep (Keeps.refl _ B).drew,(bb B).drew.heap H.o id⟩;have s:=ag (λ(W W':aj) (m:l W) (ak:Below W W W')=>(i W').2 ⟨((i W).1 m).1.keep (Keeps.bJ ak a8),(Keeps.bJ (S:=aG) ak a8).heap ((i W).1 m).2 id⟩);have u:=ag (λ(W:aj) (m:l W)=>((i W).1 m).1);have C:=ag (C_ (V (24+k*6)) (V (24+k*6+1)) 65536 (V 4) (V (4+1)) 262144 (j.o.lim.ra k hk 0 U) (j.o.lim.ra k hk 1 U) gi (j.o.lim.fix au 0 U) (j.o.lim.fix au 1 U) gi);generalize kO (fK (V 4) (V (24+k*6))) (fK (V (4+1)) (V (24+k*6+1))) (dt 65536 262144)=t at *;clear i;by_cases hd:V (4+8)=0
 focus
  have z:decide (V (4+8)=0)=true:=ei hd;have a:=r.o;rw[z,s7]at a;have p:=ag a;clear r a;rw[hd]at E;go_wp2_with fail;refine cJ 12 ?_;refine cK (l) (.range 12) 0 12 ?_;refine dK (n) (.range 10) 2 ?_;generalize World.drew _=wd at *;refine eH 10 λK y=>?_;go_simp;refine aW (C.o _) λv' N=>?_;have A:=s.o _ _ n N;refine y _ _ (A) ?_;clear y K;refine h9 11 A ?_;have ar:=u.o _ A;clear n A N s u C eV fE E fF s1 j;cases t
  focus
   have f:=ag (ar.mono (show c<=c+1 by omega));clear ar;go_wp2_with fail;go_ret;refine⟨?_,?_⟩
   .rw[<-p.o];rfl
   rw[<-p.o];exact f.o
  focus
   have M:=ag (show aA 355 #[g,I 0] v' _ from KM ar 0 U (Z.o 4 au) an);clear ar;go_wp2_with fail;refine aW M.o λaat L=>?_;have f:=ag L;clear L M;go_wp2_with fail;go_ret;refine⟨?_,?_⟩
   .rw[<-p.o];rfl
   rw[<-p.o];exact f.o
 focus
  have z:decide (V (4+8)=0)=false:=di hd;have a:=r.o;rw[z,DT]at a;have p:=ag a;clear r a n C u s eV fE E fF s1;have fI:B.cell? (ae bX 8 ad)=some (I (V (4+8))):=bf H.o rfl;have ab:(V (4+8) == 0)=false:=by rw[eA];exact hd
  simp only[Nat.reduceAdd]at ab fI z;go_wp2_with fail;go_quiet (fail);have f:=ag ((j.o.drewN nq).mono (show c<=c+1 by omega));clear j fI;go_wp2_with fail;go_ret;refine⟨?_,?_⟩
  .rw[<-p.o];rfl
  rw[<-p.o];exact f.o
def eL(fr:aa)(xs:ah aC):al:=ev xs/\xs.length<=64/\∀ e∈xs,fm e=true/\e.k.fr=fr
theorem HF(xs:ah aC)(k:cU):∀ f o,oo xs k f o<o+f->mz xs {k with cg:=oo xs k f o}=false
 | 0,o,h=>absurd h (nW _)
 | f+1,o,h=>by
  unfold oo at h⊢;split at h
  .rename_i h1;rw[aE h1];exact HF xs k f (o+1) U
  rename_i h1;rw[aB h1];simpa using h1
def o'{fr:aa}{xs:ah aC}(h:eL fr xs)(e:aC):eL fr (ih fr xs e):=by
 have⟨h1,h2,a⟩:=h;unfold ih;split
 .exact⟨h1,h2,a⟩
 rename_i c;split
 .exact⟨h1,h2,a⟩
 rename_i av;refine⟨Iz h1 _ (HF xs (sg fr e).k 17 0 (by show sj xs (sg fr e).k<0+17;omega)),?_,λx b=>?_⟩
 .unfold lg;rw[cx,dy,gB,gg];omega
 rcases Jb b with rfl|b
 .exact⟨J9 (by simpa using c) U,rfl⟩
 exact a x b
def JA{fr:aa}(i:J)(bY:aa){s:(J->aa)×ah aC}(h:eL fr s.2):eL fr (iy i bY fr s).2:=by
 have ak:eL fr (oa i fr s).2:=by
  unfold oa;dsimp only;split
  .exact h
  exact o' h _
 have h1:eL fr (h' i bY fr s).2:=by
  unfold h';dsimp only;have h2:eL fr (kT i (4+i*10) fr (eo bY 4) (jJ (4+i*10) bY s.1,s.2)).2:=by
   unfold kT;split
   .show eL fr (if _ then _ else _);split
    .exact o' h _
    exact h
   exact h
  unfold og;split
  .exact o' h2 _
  exact h2
 have a:eL fr (nt i fr (h' i bY fr s)).2:=by
  show eL fr (if _ then _ else _);split
  .exact o' h1 _
  exact h1
 unfold iy;split
 .exact ak
 split
 .unfold om;dsimp only;split
  .exact a
  split
  .exact a
  exact o' a _
 exact a
def U'{fr:aa}{s:(J->aa)×ah aC}(h:eL fr s.2):eL fr (jj fr s).2:=by
 unfold jj;split
 .exact h
 exact o' h _
def Va{fr:aa}(i:J){s:(J->aa)×ah aC}(h:eL fr s.2):eL fr (mA i fr s).2:=by
 unfold mA;dsimp only;split
 .exact o' h _
 exact o' (o' h _) _
def Vb{fr:aa}(k:J){s:(J->aa)×ah aC}(h:eL fr s.2):eL fr (qw k fr s).2:=by
 have h1:eL fr (jk k fr s).2.2:=by
  unfold jk;dsimp only;split
  .exact h
  split
  .exact h
  split
  .exact Va _ h
  exact h
 unfold qw;split
 .exact h
 split
 .exact h1
 exact h1
theorem JB{fr:aa}{s:(J->aa)×ah aC}(h:eL fr s.2):∀ k,eL fr (ja fr s k).2
 | 0=>h
 | k+1=>Vb k (JB h k)
def Vc(a b:aa)(v:J->aa):eL (v 0) (ks a b v):=by
 have c:eL (v 0) ([]:ah aC):=⟨Pairwise.nil,aM,aM⟩;have h1:=JB (U' (JA 1 b (JA 0 a (s:=(v,[])) c))) 6;unfold ks stepG kp;split
 .exact h1
 exact o' h1 _
def ef.tell{c:aa}{v:J->aa}(h:ef c 0 0 v)(an:c<=1000)(o:J)(a:o<60):(uP v o).length<=10:=by
 have h1:=h o a;have ak:-2147483648<=v o/\v o<=4294967295:=by
  have h2:-2147483648<=kK (if o=0 then 0 else 0) o:=by unfold kK;repeat' split<;>omega
  have b:j3 c (if o=0 then 0 else 0) o<=4294967295:=by unfold j3;repeat' split<;>omega
  omega
 unfold uP;split
 .refine oA _ ?_;unfold fN fL;split<;>omega
 refine oA _ ?_;unfold fL;omega
theorem ef.b9{c:aa}{v:J->aa}(h:ef c 0 0 v)(an:c<=1000):∀ L:ah J,(∀ o∈L,o<60)->(b9 v L).length<=10*L.length
 | [],_=>by simp[Go.Proofs.YtalagblioepadaaGreatDoor.b9]
 | o :: L,a=>by
  have h1:=h.tell an o (a o aM);have h2:=ef.b9 h an L (λx b=>a x (by simp[b]));unfold Go.Proofs.YtalagblioepadaaGreatDoor.b9 at h2⊢;rw[jc,cx,dy];omega
def ef.pack{c:aa}{v:J->aa}(h:ef c 0 0 v)(an:c<=1000):(mJ v).length<=100000:=by
 have h1:=h.b9 an (lq 2) bt;have h2:=oA (gl v 6) (by have:=vN v 6;unfold fL;omega);have a:∀ j,j<=6->(rD v j).length<=60*j:=by
  intro j
  induction j with
  | zero=>intro _;simp[rD]
  | succ j f=>
   intro i;have b:=f U;have d:=h.b9 an (sL (24+6*j)) (by unfold sL;intro o e;simp only[ff,vb,or_false]at e;omega);have g:(sL (24+6*j)).length=6:=rfl;unfold rD;rw[cx];split
   .simp;omega
   omega
 have b:=a 6 U;have d:(lq 2).length=24:=rfl;unfold mJ;rw[cx,cx];omega
def Mid.YG{r:aa}{f:J}{v:J->aa}(h:Mid 2 f r v)(i:f<=1000000)(k:0<=r/\r<=f):tA v/\lv v=true/\(mJ v).length<=100000:=by
 have d:=h.lim U U;refine⟨λj g=>?_,Je h U U,d.pack U⟩;have h1:=d j g;unfold kK j3 at h1;simp only[ite_self]at h1;unfold dA;by_cases a:j=1
 .rw[aE a];subst a;exact h.f1
 rw[aB a];simp only[aB a]at h1;by_cases b:j<4
 .simp only[aE b]at h1;rw[aE b];show -9223372036854775808<=v j/\v j<=9223372036854775807;omega
 simp only[aB b]at h1;rw[aB b];by_cases c:j<24
 .simp only[aE c]at h1;rw[aE c];by_cases e:(j-4)%10<4
  .simp only[aE e]at h1;rw[aE e];exact h1
  simp only[aB e]at h1;rw[aB e];show -9223372036854775808<=v j/\v j<=9223372036854775807
  repeat' split at h1
  all_goals omega
 simp only[aB c]at h1;rw[aB c];by_cases e:(j-24)%6<4
 .simp only[aE e]at h1;rw[aE e];exact h1
 simp only[aB e]at h1;rw[aB e];show -9223372036854775808<=v j/\v j<=9223372036854775807;omega
end Go.Proofs.YtalagblioepadaaGreatDoor
