/- The proof, part 36. -/
import Derived.Test.YtalagblioepadaaGreatDoorZc35
namespace Go.Proofs.YtalagblioepadaaGreatDoor
set_option linter.all false
open Proofs.Tryz List Go.RowKit
set_option maxRecDepth 100000
set_option maxHeartbeats 1000000
def MN{p:ak}(h:p:=by
 go_wp2_with fail;go_quiet (fail);have a:=af (h.drewN nq);generalize bU.drewN nq=ao at *;clear h k l;have k:ao.cell? (ad g 12 ab)=some (I (v 12)):=a.o.st.cell 12 U .i64 rfl;have l:ao.cell? (ad g 22 ab)=some (I (v 22)):=a.o.st.cell 22 U .i64 rfl;go_wp2_with fail;go_quiet (fail);go_wp2;refine cU (v:=aV #[]) jj rfl ?_;exact⟨rfl,a.o.drewN _⟩
 ):p:=h
def LV{p:ak}(h:p:=by
 go_wp2;refine cU (v:=aV #[]) jj rfl ?_;exact⟨rfl,a.o⟩
 ):p:=h
variable{w w':ai}{bl g bh:J}{v:J->aa}{fr:aa}{xs:ah aB}
def WW(v:J->aa)(bh o n:J)(c:a6 ax)(f:J->aa)(al:c.size=n)(b:o+n<=60)(a:∀ q,q<n->c[q]?=some (.int (dt (o+q)) (f q))):e0 (gT v bh) o c=gT (dy o n f v) bh:=by
 apply py;intro k;rw[so _ _ _ (by rw[y7,al];omega),al];by_cases hk:k<60
 .rw[y6 (dy o n f v) bh k hk];unfold dy;by_cases h:o<=k/\k<o+n
  .rw[aD h,aD h,a _ U,show o+(k-o)=k by omega]
  rw[az h,az h,y6 v bh k hk]
 rw[az U];by_cases h:k=60
 .subst h;rw[gT,gT,pz,pz,aD (eg _).symm,aD (eg _).symm]
 rw[l0 (by rw[y7];omega),l0 (by rw[y7];omega)]
def St.row(h:St w bl g bh v fr xs)(T:TypeId)(o n:J)(c:a6 ax)(f:J->aa)(m:∀ w,(Go.sizeOf T).run prog w=.ok n w)(al:c.size=n)(i:o+n<=60)(a:∀ q,q<n->c[q]?=some (.int (dt (o+q)) (f q))):(Instr.storeAt T (.pointer (some (ad g o ab))) (.agg c)).run prog w=.ok () (w.setRow g (gT (dy o n f v) bh))/\St (w.setRow g (gT (dy o n f v) bh)) bl g bh (dy o n f v) fr xs/\Keeps (λj=>j=g) w (w.setRow g (gT (dy o n f v) bh)):=by
 have h1:=q8 (P:=prog) T n g o c _ _ m al h.bc (by rw[y7];omega) (λx l=>by
  obtain⟨q,b,k⟩:=sQ.1 l;have h2:=a q (by simpa[al]using b);rw[<-nw,gl b,k]at h2;cases h2;rfl)
 rw[WW v bh o n c f al i a]at h1;have hk:=iG w g (gT (dy o n f v) bh);have⟨cC,au,ar⟩:=h.wj;exact⟨h1,⟨fl _ _ _ _ _ h.bc,⟨cC,au.keep hk (hW h.ne) (λj d e=>ar (by rw[d,e])),ar⟩,h.ne,h.o5,h.qZ⟩,hk⟩
def dY.row{c e:aa}{k:J}(h:dY c k e v)(o n:J)(f:J->aa)(b:∀ q,q<n->kt (if o+q=k then e else 0) (o+q)<=f q/\f q<=jO c (if o+q=k then e else 0) (o+q)):dY c k e (dy o n f v):=λj d=>by
 unfold dy;by_cases h1:o<=j/\j<o+n
 .have a:(if o<=j/\j<o+n then f (j-o)else v j)=f (j-o):=aD h1;rw[a]
  have:=b (j-o) U
  rwa [show o+(j-o)=j by omega]at this
 have a:(if o<=j/\j<o+n then f (j-o)else v j)=v j:=az h1;rw[a];exact h j d
def B8(x y f dc:aa):a6 ax:=#[ag x,ag y,ag 0,ag 0,I f,I 3,I 0,I 0,I 0,I dc]
def B9(x y f dc:aa){o:J}(b:ej o):∀ q,q<10->(B8 x y f dc)[q]?=some (.int (dt (o+q)) (nb x y f dc q)):=λq a=>by
 rw[tP b q a]
 match q,a with
 | 0,_=>rfl
 | 1,_=>rfl
 | 2,_=>rfl
 | 3,_=>rfl
 | 4,_=>rfl
 | 5,_=>rfl
 | 6,_=>rfl
 | 7,_=>rfl
 | 8,_=>rfl
 | 9,_=>rfl
def dY.B7{c:aa}{k:J}(h:dY c k 0 v){o:J}(b:ej o)(x y f dc:aa)(d:bj x)(e:bj y)(l:0<=f/\f<=65535)(av:0<=dc/\dc<=c):dY c k 0 (dy o 10 (nb x y f dc) v):=h.row o 10 _ λq a=>by
 have i:=d.2;have j:=e.2;have g:(if o+q=k then(0:aa)else 0)=0:=by split<;>rfl
 rw[g,(ks b c 0 q a).1,(ks b c 0 q a).2]
 match q,a with
 | 0,_=>exact⟨d.1,i⟩
 | 1,_=>exact⟨e.1,j⟩
 | 2,_=>show(-2147483648:aa)<=0/\(0:aa)<=2147483647;decide
 | 3,_=>show(-2147483648:aa)<=0/\(0:aa)<=2147483647;decide
 | 4,_=>exact⟨by show -0<=f;omega,by show f<=65535+0;omega⟩
 | 5,_=>show(-100:aa)<=3/\(3:aa)<=1000;decide
 | 6,_=>show(0:aa)<=0/\(0:aa)<=1000;decide
 | 7,_=>show(0:aa)<=0/\(0:aa)<=1000;decide
 | 8,_=>show(0:aa)<=0/\(0:aa)<=1000;decide
 | 9,_=>exact av
theorem SgI.row{c:aa}{bU:ai}(h:SgI w bl g bh fr c 0 0 v xs bU)(T:TypeId)(o n:J)(fh:a6 ax)(f:J->aa)(k:∀ w,(Go.sizeOf T).run prog w=.ok n w)(al:fh.size=n)(d:o+n<=60)(i:∀ q,q<n->fh[q]?=some (.int (dt (o+q)) (f q)))(b:dY c 0 0 (dy o n f v)):(Instr.storeAt T (.pointer (some (ad g o ab))) (.agg fh)).run prog bU=.ok () (bU.setRow g (gT (dy o n f v) bh))/\SgI w bl g bh fr c 0 0 (dy o n f v) xs (bU.setRow g (gT (dy o n f v) bh)):=by
 have⟨h1,h2,a⟩:=h.st.row T o n fh f k al d i;exact⟨h1,h2,h.cv.trans (a.mono λj _ e=>by rw[e];exact h.st.o5),b⟩
def WY{c:aa}{bU:ai}(h:SgI w bl g bh fr c 0 0 v xs bU)(i:J)(aw:i<2)(hd:0<v (4+i*10+8)):aA 346 #[g,I i] bU λe w'=>e=aV #[]/\SgI w bl g bh fr c 0 0 (nQ i fr (v,xs)).1 (nQ i fr (v,xs)).2 w':=by
 have f:=lG i aw;have zp:=h.fO f 8 U;have f8:=h.st.free (4+i*10+8);have vW:0<=v (4+i*10+8)/\v (4+i*10+8)<=1000:=h.lim.num f 8 U;have l':=h.lim.num f 9 U;have a:=af (h.rm f 8 U (v (4+i*10+8)-1) Er);unfold nQ;by_cases aj:1<v (4+i*10+8)
 .simp only[aD aj];have T:0<v (4+i*10+8)-1:=U
  go_in
  exact LV
 simp only[az aj];have T:¬ 0<v (4+i*10+8)-1:=U;have D:bF v (4+i*10+8) (v (4+i*10+8)-1) 1=v 1:=az U;have k:bF v (4+i*10+8) (v (4+i*10+8)-1) (4+i*10+9)=v (4+i*10+9):=az U;have L:=af (PK (v 1));have ar:0<=iJ (v 1)/\iJ (v 1)<=4294967295:=by unfold iJ;omega
 unfold nh;generalize gf:bF v (4+i*10+8) (v (4+i*10+8)-1)=y at *;have m':=af gf;generalize iJ (v 1)=N at *;have M:N / 65536*4 / 65536=0\/N / 65536*4 / 65536=1\/N / 65536*4 / 65536=2\/N / 65536*4 / 65536=3:=U;generalize N / 65536*4 / 65536=K at *;have Q:(if (K%2 == 1)=true then 2621440 else -2621440)=nU K:=by rcases M with rfl|rfl|rfl|rfl<;>decide
 have R:(if 2<=K then 2621440 else -2621440)=oW K:=rfl;have t:bj (nU K):=by unfold nU bj;split<;>omega
 have S:bj (oW K):=by unfold oW bj;split<;>omega
 generalize nU K=X at *;generalize oW K=Y at *;have q:=af Q;have r:=af R;have j:=b6 D k
 go_in
 go_upto_region 4 with fail
 have an:=a.o;generalize World.setCell _ _ _=ao at *;have mv:ao.cell? (ad g 1 ab)=some (aP (v 1)):=by rw[<-j.o.1];exact an.st.cell 1 U .u32 rfl
 go_wp2_with fail;refine aU (L.o _) λaC V=>?_;have an:=an.keep (Keeps.bD V a7);have mv:=an.st.cell 1 U .u32 rfl;have f1:=an.st.free 1;have a:=af (an.ho 1 U .u32 rfl N ar);go_upto_region 5 with fail
 have an:=a.o;generalize World.setCell _ _ _=bm at *;have a:=af an;have b:=af (aX bm (ae #[ag (-2621440),ag (-2621440)] 91));have d:=af ((b3 bm.heap.size bm).alloc bs (ae #[ag (-2621440),ag (-2621440)] 91));go_upto_if 42 with fail
 generalize bm.alloc (ae #[ag (-2621440),ag (-2621440)] 91)=vl at *;generalize Z:bm.heap.size=bR at *;have s:=af Z;go_cut [] (λgk=>gk.heap[bR]?=some (ae #[ag X,ag (-2621440)] 91 (0,0))/\Below bR bm gk)
 case first=>
  have cb:=bI b.o;have z0:=aS b.o;have l:=af (bV b.o 0 (ag 2621440));have n:=af (d.o.setCell (p:=ad bR 0 ab) (c9 bR) (ag 2621440));by_cases au:(K%2 == 1)=true
  .obtain rfl:(2621440:aa)=X:=by rw[<-q.o,aD au]
   go_wp2_with fail;go_meet;exact⟨l.o,n.o⟩
  obtain rfl:(-2621440:aa)=X:=by rw[<-q.o,az au]
  go_wp2_with fail;go_meet;exact⟨b.o,d.o⟩
 have⟨b,d⟩:=hcut;go_upto_if 45 with fail
 go_cut [] (λgk=>gk.heap[bR]?=some (ae #[ag X,ag Y] 91 (0,0))/\Below bR bm gk)
 case first=>
  have bO:=bI b;have Aw:=aS b;have l:=af (bV b 1 (ag 2621440));have n:=af (d.setCell (p:=ad bR 1 ab) (c9 bR) (ag 2621440));have z:=af b;have j:=af d;by_cases au:2<=K
  .obtain rfl:(2621440:aa)=Y:=by rw[<-r.o,aD au]
   go_wp2_with fail;go_meet;exact⟨l.o,n.o⟩
  obtain rfl:(-2621440:aa)=Y:=by rw[<-r.o,az au]
  go_wp2_with fail;go_meet;exact⟨z.o,j.o⟩
 have⟨b,d⟩:=hcut;have an:=a.o.keep (Keeps.bD (show Below bm bm wc by rw[s.o];exact d) a7);have r':=s.o;have sd:=bP a.o.st.bc;have k:bF y 1 N (4+i*10+9)=v (4+i*10+9):=by rw[<-j.o.2];exact az U
 generalize g':bF y 1 N=v2 at *;have C:=af g';have ps:bj 0:=by unfold bj;omega
 obtain⟨u,O⟩:=(an.keep (Keeps.refl _ wc).drew).row 93 (4+i*10) 10 (B8 X Y 0 (v (4+i*10+9))) _ sizeOf93 rfl U (B9 X Y 0 (v (4+i*10+9)) f) (an.lim.B7 f X Y 0 (v (4+i*10+9)) t S U l');obtain⟨G,m⟩:=hJ (F:=λW=>(SgI w bl g bh fr c 0 0 v2 xs W/\W.heap[bR]?=some (ae #[ag X,ag Y] 91 (0,0))));have s':∀ x:bp G,x.to.cell? (ad g (4+i*10+9) ab)=some (I (v (4+i*10+9))):=λx=>by rw[<-k];exact((m _).1 x.held).1.fO f 9 U
 have cb:=λx:bp G=>aS (((m _).1 x.held).2);have h2:=(m wc.drew).2 ⟨an.keep (Keeps.refl _ wc).drew,(ba wc).drew.heap b id⟩;have H:=(iG wc.drew g (gT (dy (4+i*10) 10 (nb X Y 0 (v (4+i*10+9))) v2) bh)).heap ((ba wc).drew.heap b id) (show bR≠g by omega);have B:=af O;have A:=af H;go_wp2_with fail;unfold B8 at u;generalize a':4+i*10=o at *;generalize World.setRow _ _ _=v' at *;refine cH 9 ?_;refine cI (G) (.range 8) 1 8 ?_;refine dC (h2) (.range 8) 0 ?_;refine lI ?_;refine cI (λW=>0<=W.heap.size) [8] 0 1 ?_;refine o_ 8 (c' _) (nu rfl rfl rfl u) ?_;simp only[Act.put];have an:=B.o;have zd:=aS A.o;have P:=af (qc an.st (i+1) 6 6 16384 9 0 X t);go_wp2_with fail;refine aU P.o ?_;rintro ys ⟨E,lb⟩;have a:=af (an.bW E lb);go_wp2;go_end0;subst a';rw[C.out];exact⟨rfl,a.o⟩
theorem A7(v:J->aa):∀ k,k<=6->(∀ j,j<k->v (24+j*6+4)≠0)->oY v 0 6=oY v k (6-k)
 | 0,_,_=>rfl
 | k+1,hk,h=>by
  rw[A7 v k U (λj a=>h j U),show 6-k=(6-(k+1))+1 by omega];show(if v (24+k*6+4)=0 then some k else oY v (k+1) (6-(k+1)))=_;rw[az (h k U)]
def yq(k:J)(hk:k<6)(q:J)(a:q<6):dt (24+k*6+q)=if q<4 then .i32 else .i64:=by
 unfold dt;rw[az U,az U,az U,show(24+k*6+q-24)%6=q by omega]
def o6(c d:aa)(k:J)(hk:k<6)(q:J)(a:q<6):kt d (24+k*6+q)=(if q<4 then -2147483648 else 0)/\jO c d (24+k*6+q)=(if q<4 then 2147483647 else 1000):=by
 have h2:(24+k*6+q-24)%6=q:=U;constructor
 .unfold kt;rw[az U,az U,h2]
 unfold jO;rw[az U,az U,az U,h2]
def Kf(x y bU gk du b:aa)(k:J)(hk:k<6):∀ q,q<6->(#[ag x,ag y,ag bU,ag gk,I du,I b]:a6 ax)[q]?=some (.int (dt (24+k*6+q)) (rb x y bU gk du b q)):=λq a=>by
 rw[yq k hk q a]
 match q,a with
 | 0,_=>rfl
 | 1,_=>rfl
 | 2,_=>rfl
 | 3,_=>rfl
 | 4,_=>rfl
 | 5,_=>rfl
def dY.Xh{c:aa}(h:dY c 0 0 v)(k:J)(hk:k<6)(x y bU gk du b:aa)(i:bj x)(j:bj y)(f:bj bU)(g:bj gk)(e:0<=du/\du<=1000)(d:0<=b/\b<=1000):dY c 0 0 (dy (24+k*6) 6 (rb x y bU gk du b) v):=h.row _ 6 _ λq a=>by
 rw[az U,(o6 c 0 k hk q a).1,(o6 c 0 k hk q a).2]
 match q,a with
 | 0,_=>exact i
 | 1,_=>exact j
 | 2,_=>exact f
 | 3,_=>exact g
 | 4,_=>exact e
 | 5,_=>exact d
def SgI.cellS{c:aa}{bU:ai}(h:SgI w bl g bh fr c 0 0 v xs bU)(k:J)(hk:k<6)(q:J)(a:q<6):bU.cell? (ad g (24+k*6+q) ab)=some (.int (if q<4 then .i32 else .i64) (v (24+k*6+q))):=h.st.cell _ U _ (yq k hk q a)
def RT(f l:aa):bj (hN f l)/\bj (hO f l):=⟨lJ _ _,lJ _ _⟩
def W0{c:aa}{bU:ai}(h:SgI w bl g bh fr c 0 0 v xs bU)(i:J)(aw:i<2):aA 350 #[g,I i] bU λe w'=>e=aV #[]/\SgI w bl g bh fr c 0 0 (nZ i fr (v,xs)).1 (nZ i fr (v,xs)).2 w':=by
 have d:=lG i aw;have ys:=h.fO d 6 U;have a:=af h;by_cases al:0<v (4+i*10+6)
 .rw[show nZ i fr (v,xs)=(v,xs)from aD al]
  go_in
  exact LV
 obtain⟨R,b⟩:∃ R,nZ i fr (v,xs)=R:=⟨_,rfl⟩;rw[b];rw[show nZ i fr (v,xs)=_ from az al]at b;have B:=af b
 go_in
 go_wp2_with fail;go_loopg [17] 6 (λQ z wr=>∃ k:J,Q=6-k/\k<=6/\z=I k/\(∀ j,j<k->v (24+j*6+4)≠0)/\SgI w bl g bh fr c 0 0 v xs wr)
 case atStart=>exact⟨0,rfl,U,rfl,λj D=>absurd D (lp j),a.o⟩
 obtain⟨k,aZ,hk,rfl,A,aT⟩:=hrel;by_cases y:k<6
 .have zd:=aT.cellS k y 4 U;by_cases M:v (24+k*6+4)=0
  .have r':oY v 0 6=some k:=by
    rw[A7 v k U A,show 6-k=(6-(k+1))+1 by omega];exact aD M
   have b:=B.o;rw[r']at b;dsimp only at b;have N:=af b;obtain⟨G,f⟩:=hJ (F:=λW=>SgI w bl g bh fr c 0 0 v xs W);have Q':∀ x:bp G,x.to.cell? (ad g (4+i*10) ab)=some (ag (v (4+i*10))):=λx=>((f _).1 x.held).eD d 0 U;have St:∀ x:bp G,x.to.cell? (ad g (4+i*10+1) ab)=some (ag (v (4+i*10+1))):=λx=>((f _).1 x.held).eD d 1 U;have Tq:∀ x:bp G,x.to.cell? (ad g (4+i*10+4) ab)=some (I (v (4+i*10+4))):=λx=>((f _).1 x.held).fO d 4 U;have E:=(f _).2 (aT.keep (Keeps.refl _ _).drew);have t:=af (λ(W W':ai) (u:G W) (aj:Below W W W')=>(f W').2 (((f W).1 u).keep (Keeps.bD aj a7)));have a':=af (λ(W:ai) (u:G W)=>(f W).1 u);have p:=RT (v (4+i*10+4));have r:=aT.lim.fix d 0 U;have vl:=aT.lim.fix d 1 U;have T:=af (ye (v (4+i*10+4)) 262144 f_);have Z:=af (ye (v (4+i*10+4)) 196608 f_);have V:=af (uu (v (4+i*10)) (v (4+i*10+1)) (hN (v (4+i*10+4)) 262144) (hO (v (4+i*10+4)) 262144) r vl (p _).1 (p _).2);have lb:=(p 196608).1;have l':=(p 196608).2;have hd:=oS (v (4+i*10)) (hN (v (4+i*10+4)) 262144);have h2:=oS (v (4+i*10+1)) (hO (v (4+i*10+4)) 262144);generalize dj (v (4+i*10)) (hN (v (4+i*10+4)) 262144)=X at *;generalize dj (v (4+i*10+1)) (hO (v (4+i*10+4)) 262144)=Y at *;generalize hN (v (4+i*10+4)) 196608=m at *;generalize hO (v (4+i*10+4)) 196608=n at *;go_wp2_with fail;generalize CW:4+i*10=o at *;refine cH 25 ?_;refine cI (G) (.range 24) 1 24 ?_;refine dC (E) [0,1,2,3,4,5,6,7,8,9,12,13,14,15,17,18,20,21,22] 5 ?_;generalize World.drew _=wd at *;refine ew 10 λK l=>?_;go_simp;refine aU (T.o _) λao mv=>?_;have H:=t.o _ _ E mv;refine l _ _ (H) ?_;refine ew 11 λK l=>?_;go_simp;refine aU (V.o _) λaC m'=>?_;have L:=t.o _ _ H m';refine l _ _ (L) ?_;refine ew 16 λK l=>?_;go_simp;refine aU (Z.o _) λbm ps=>?_;have q:=t.o _ _ L ps;refine l _ _ (q) ?_;refine hg 19 q ?_;refine jq 23 λK l=>?_;go_simp;refine l _ _ (q) ?_;have an:=a'.o _ q;obtain⟨sd,gf⟩:=an.row 96 (24+k*6) 6 #[ag X,ag Y,ag m,ag n,I (i+1),I 40] _ sizeOf96 rfl U (Kf X Y m n (i+1) 40 k y) (an.lim.Xh k y X Y m n (i+1) 40 hd h2 lb l' U U);have O:=af gf;generalize World.setRow _ _ _=TS at *;refine cI (λW=>0<=W.heap.size) [24] 0 1 ?_;refine o_ 24 (c' _) (nu rfl rfl rfl sd) ?_;simp only[Act.put];have an:=O.o;have Aw:o+10<=24:=by unfold ej at d;omega
   have C:bF (dy (24+k*6) 6 (rb X Y m n (i+1) 40) v) (o+6) 8 o=v o:=by rw[cX _ _ _ _ U,nj _ _ _ _ _ U]
   have ys:=an.fO d 6 U;have f6:=an.st.free (o+6);have a:=af (an.rm d 6 U 8 (by show 0<=_/\_<=(1000:aa);omega));go_upto_region 8 with fail
   have an:=a.o;generalize World.setCell _ _ _=v' at *;generalize bF (dy (24+k*6) 6 (rb X Y m n (i+1) 40) v) (o+6) 8=v2 at *;have V':v'.cell? (ad g o ab)=some (ag (v o)):=by rw[<-C];exact an.eD d 0 U
   have r:=an.lim.fix d 0 U;rw[rC,C]at r;have g':=af (qc an.st (i+1) 1 1 16384 5 0 (v o) r);have zp:(i:aa)+1<=2:=U;go_wp2_with fail;refine aU g'.o ?_;rintro T' ⟨S,s'⟩;have a:=af (an.bW S s');go_wp2;refine cU (v:=aV #[]) jj rfl ?_;refine⟨rfl,?_⟩;rw[<-N.out];exact a.o
  have s:=af aT;have P:=af (show ∀ j,j<k+1->v (24+j*6+4)≠0 from λj D=>by
   by_cases e:j=k
   .subst e;exact M
   .exact A j U)
  go_wp2_with fail;go_roundg (6-(k+1))
  case rel=>exact⟨k+1,rfl,U,by go_num,P.o,s.o⟩
  omega
 obtain rfl:k=6:=U;have b:=B.out;rw[A7 v 6 bs A]at b;change (v,xs)=R at b;subst b;have s:=af aT;go_wp2_with fail;go_end0;exact⟨rfl,s.o⟩
def Ka{c:aa}{bU:ai}(h:SgI w bl g bh fr c 0 0 v xs bU)(i:J)(aw:i<2)(bS:aa):aA 324 #[g,I i,aF bS] bU λe w'=>e=aV #[]/\SgI w bl g bh fr c 0 0 (h' i bS fr (v,xs)).1 (h' i bS fr (v,xs)).2 w':=by
 have m:=h.fO (lG i aw) 8 U;obtain⟨R,a⟩:∃ R,h' i bS fr (v,xs)=R:=⟨_,rfl⟩;rw[a];unfold h' at a;by_cases hd:0<v (4+i*10+8)
 .have f:=af (WY h i aw hd);rw[aD hd]at a;subst a
  go_in
  go_wp2_with fail;refine aU f.o λao h1=>?_;go_wp2;refine cU (v:=aV #[]) jj rfl ?_;exact⟨rfl,h1⟩
 rw[az hd]at a;have b:=af a
 go_in
 go_wp2_with fail;refine aU (W4 h.st h.lim i aw bS) λao h1=>?_;have h1:SgI w bl g bh fr c 0 0 (hS i bS fr (v,xs)).1 (hS i bS fr (v,xs)).2 ao:=⟨h1.st,h.cv.trans h1.cv,h1.lim⟩;generalize hS i bS fr (v,xs)=s1 at *;have⟨j,k⟩:=s1;go_wp2_with fail;refine aU (W2 h1 i aw) λaC h2=>?_;generalize mY i fr (j,k)=s2 at *;have⟨v2,l⟩:=s2;go_wp2_with fail;refine bA (tI bS 16 _) ?_;cases au:ed bS 16
 .go_wp2_with fail;go_end0;refine⟨rfl,?_⟩;rw[<-b.o,au];exact h2
 go_wp2_with fail;refine aU (W0 h2 i aw) λbm d=>?_;go_wp2;go_end0;refine⟨rfl,?_⟩;rw[<-b.o,au];exact d
def dY.mono{c d:aa}{k:J}{e:aa}(h:dY c k e v)(al:c<=d):dY d k e v:=λj a=>by
 have h1:=h j a;refine⟨h1.1,zA h1.2 ?_⟩;unfold jO
 repeat' split
 all_goals omega
theorem SgI.mono{c d:aa}{bU:ai}(h:SgI w bl g bh fr c 0 0 v xs bU)(al:c<=d):SgI w bl g bh fr d 0 0 v xs bU:=⟨h.st,h.cv,h.lim.mono al⟩
def J'{c:aa}{bU:ai}(h:SgI w bl g bh fr c 0 0 v xs bU)(i:J)(aw:i<2)(aJ:-50<=v (4+i*10+5))(al:c<1000):aA 355 #[g,I i] bU λe w'=>e=aV #[]/\SgI w bl g bh fr (c+1) 0 0 (mh i fr (v,xs)).1 (mh i fr (v,xs)).2 w':=by
 have b:=lG i aw;have k:=lG (1-i) U;have q:=h.fO b 5 U;have E:=h.st.free (4+i*10+5);have N:-100<=v (4+i*10+5)/\v (4+i*10+5)<=1000:=h.lim.num b 5 U;have O:0<=v (4+(1-i)*10+9)/\v (4+(1-i)*10+9)<=c:=h.lim.num k 9 U;have a:=af (h.rm b 5 U (v (4+i*10+5)-1) (by show -100<=_/\_<=1000;omega));have K:(i:aa)+1<=2:=U;obtain⟨R,m⟩:∃ R,mh i fr (v,xs)=R:=⟨_,rfl⟩;rw[m]
 go_in
 go_upto_region 2 with fail
 have an:=a.o;generalize World.setCell _ _ _=ao at *;have p:ao.cell? (ad g (4+i*10) ab)=some (ag (bF v (4+i*10+5) (v (4+i*10+5)-1) (4+i*10))):=an.eD b 0 U;have f:bF v (4+i*10+5) (v (4+i*10+5)-1) (4+i*10)=v (4+i*10):=az U;have t:bF v (4+i*10+5) (v (4+i*10+5)-1) (4+i*10+5)=v (4+i*10+5)-1:=aD rfl;have u:bF v (4+i*10+5) (v (4+i*10+5)-1) (4+(1-i)*10+9)=v (4+(1-i)*10+9):=az U;have n:bj (v (4+i*10)):=by rw[<-f];exact an.lim.fix b 0 U
 rw[f]at p;have j:=af (qc an.st (i+1) 2 2 32768 8 0 (v (4+i*10)) n);go_wp2_with fail;refine aU j.o ?_;rintro aC ⟨h2,z⟩;have an:=an.bW h2 z;have d:=m;unfold mh at d;dsimp only at d;generalize L:bF v (4+i*10+5) (v (4+i*10+5)-1)=l at *;generalize M:h0 fr xs (j6 (i+1) 2 2 32768 8 0 (v (4+i*10)))=S at *;have q:=an.fO b 5 U;rw[t]at q;by_cases aj:1<v (4+i*10+5)
 .rw[aD aj]at d;subst d;have y:0<v (4+i*10+5)-1:=U;have a:=af (an.mono (show c<=c+1 by omega));go_wp2_with fail;refine cU (v:=aV #[]) jj rfl ?_;exact⟨rfl,a.o⟩
 rw[az aj]at d;have y:¬ 0<v (4+i*10+5)-1:=U;have F:=an.st.free (4+i*10+8);have T:=an.fO b 8 U;have a:=af ((an.rm b 8 U 30 (by show 0<=_/\_<=(1000:aa);omega)).mono (show c<=c+1 by omega));go_upto_region 5 with fail
 have an:=a.o;generalize World.setCell _ _ _=bm at *;have s:bF l (4+i*10+8) 30 (4+(1-i)*10+9)=v (4+(1-i)*10+9):=by rw[<-u];exact az U
 have r:bF l (4+i*10+8) 30 (4+i*10)=v (4+i*10):=by rw[<-f];exact az U
 generalize bF l (4+i*10+8) 30=v2 at *;have C:=an.fO k 9 U;rw[s]at C;have G:=an.st.free (4+(1-i)*10+9);have a:=af (an.rm k 9 U (v (4+(1-i)*10+9)+1) (by show 0<=_/\_<=c+1;omega));have D:(1:aa)-i=((1-i:J):aa):=U;have H:1-i<2:=U
 go_region
 have an:=a.o.keep (Keeps.refl _ _).drew;generalize World.drew _=B at *;have cb:bF v2 (4+(1-i)*10+9) (v (4+(1-i)*10+9)+1) (4+i*10)=v (4+i*10):=by rw[<-r];exact az U
 generalize bF v2 (4+(1-i)*10+9) (v (4+(1-i)*10+9)+1)=P at *;have p:B.cell? (ad g (4+i*10) ab)=some (ag (v (4+i*10))):=by rw[<-cb];exact an.eD b 0 U
 have j:=af (qc an.st (i+1) 5 5 32768 10 0 (v (4+i*10)) n);go_wp2_with fail;refine aU j.o ?_;rintro Q ⟨x,A⟩;have a:=af (an.bW x A);go_wp2;go_end0;refine⟨rfl,?_⟩;rw[<-d];exact a.o
theorem SgI.drewN{c:aa}{bU:ai}(h:SgI w bl g bh fr c 0 0 v xs bU)(n:J):SgI w bl g bh fr c 0 0 v xs (bU.drewN n):=h.keep ((Keeps.refl _ bU).drewN n)
def WZ{c:aa}{bU:ai}(h:SgI w bl g bh fr c 0 0 v xs bU):aA 325 #[g] bU λe w'=>e=aV #[]/\SgI w bl g bh fr c 0 0 (iY fr (v,xs)).1 (iY fr (v,xs)).2 w':=by
 have k:bU.cell? (ad g 12 ab)=some (I (v 12)):=h.st.cell 12 U .i64 rfl;have l:bU.cell? (ad g 22 ab)=some (I (v 22)):=h.st.cell 22 U .i64 rfl;obtain⟨R,d⟩:∃ R,iY fr (v,xs)=R:=⟨_,rfl⟩;rw[d];unfold iY FZ at d;dsimp only at d;by_cases n:0<v 12
 .rw[ee n,zs,aD rfl]at d;subst d
  go_in
  exact MN
 rw[dd n,wO]at d;have Y:decide (0<v 12)=false:=dd n;by_cases p:0<v 22
 .rw[ee p,zs,aD rfl]at d;subst d
  go_in
  exact MN
 rw[dd p,wO]at d;have Z:decide (0<v 22)=false:=dd p;have f:ej 4:=.inl rfl;have i:ej 14:=.inr rfl;have j:=af (CD (v 4) (v 5) 262144 (v 14) (v 15) 262144 (h.lim.fix f 0 U) (h.lim.fix f 1 U) f_ (h.lim.fix i 0 U) (h.lim.fix i 1 U) f_);generalize kz (fA (v 14) (v 4)) (fA (v 15) (v 5)) (dj 262144 262144)=t at *;have s:=af d;clear d
 go_in
 go_wp2_with fail;go_quiet (fail);have a:=af (h.drewN nq);generalize bU.drewN nq=ao at *;clear h k l;have k:ao.cell? (ad g 12 ab)=some (I (v 12)):=a.o.st.cell 12 U .i64 rfl;have l:ao.cell? (ad g 22 ab)=some (I (v 22)):=a.o.st.cell 22 U .i64 rfl;go_wp2_with fail;obtain⟨G,b⟩:∃ G:ai->ak,∀ W,G W↔SgI w bl g bh fr c 0 0 v xs W:=⟨_,λ_=>Iff.rfl⟩;have L:∀ x:bp G,x.to.cell? (ad g 12 ab)=some (I (v 12)):=λx=>((b _).1 x.held).st.cell 12 U .i64 rfl;have O:∀ x:bp G,x.to.cell? (ad g 22 ab)=some (I (v 22)):=λx=>((b _).1 x.held).st.cell 22 U .i64 rfl;have P:∀ x:bp G,x.to.cell? (ad g 4 ab)=some (ag (v 4)):=λx=>((b _).1 x.held).st.cell 4 U .i32 rfl;have Q:∀ x:bp G,x.to.cell? (ad g 5 ab)=some (ag (v 5)):=λx=>((b _).1 x.held).st.cell 5 U .i32 rfl;have M:∀ x:bp G,x.to.cell? (ad g 14 ab)=some (ag (v 14)):=λx=>((b _).1 x.held).st.cell 14 U .i32 rfl;have N:∀ x:bp G,x.to.cell? (ad g 15 ab)=some (ag (v 15)):=λx=>((b _).1 x.held).st.cell 15 U .i32 rfl;have r:=(b _).2 (a.o.keep (Keeps.refl _ ao).drew);have y:=af (λ(W W':ai) (q:G W) (aj:Below W W W')=>(b W').2 (((b W).1 q).keep (Keeps.bD aj a7)));have z:=af (λ(W:ai) (q:G W)=>(b W).1 q);clear b a k l f i;refine cH 24 ?_;refine cI (G) (.range 24) 0 24 ?_;refine dC (r) (.range 21) 3 ?_;refine ew 21 λK A=>?_;go_simp;refine(j.o _).mono ?_;rintro e aC ⟨rfl,B⟩;have m:=y.out _ _ r B;refine A _ _ (m) ?_;clear A K;refine dC (m) [22,23] 0 ?_;refine n5 ?_;have an:=z.out _ m;clear L O P Q M N r m B y z j;cases t
 .have a:=af an;clear an;go_wp2;refine cU (v:=aV #[]) jj rfl ?_;refine⟨rfl,?_⟩;rw[<-s.out];exact a.o
 have f:ej 4:=.inl rfl;have i:ej 14:=.inr rfl;have V:aC.cell? (ad g 6 ab)=some (ag (v 6)):=an.st.cell 6 U .i32 rfl;have X:aC.cell? (ad g 7 ab)=some (ag (v 7)):=an.st.cell 7 U .i32 rfl;have S:aC.cell? (ad g 16 ab)=some (ag (v 16)):=an.st.cell 16 U .i32 rfl;have T:aC.cell? (ad g 17 ab)=some (ag (v 17)):=an.st.cell 17 U .i32 rfl;have F:=an.st.free 6;have H:=an.st.free 7;have D:=an.st.free 16;have E:=an.st.free 17;have a:=af ((((an.kE f 2 U (v 16) (an.lim.fix i 2 U)).kE f 3 U (v 17) (an.lim.fix i 3 U)).kE i 2 U (v 6) (an.lim.fix f 2 U)).kE i 3 U (v 7) (an.lim.fix f 3 U));clear an f i;go_wp2_with fail
 go_region
 have an:=a.o.keep (Keeps.refl _ _).drew;generalize World.drew _=a' at *;clear a V X S T F H D E;have j:=af (qc an.st 0 4 4 16384 6 0 0 f_);go_wp2_with fail;refine j.o.mono ?_;rintro e gf ⟨rfl,u,C⟩;have a:=af (an.bW u C);clear u C j an;go_wp2;go_end0;refine⟨rfl,?_⟩;rw[<-s.out];exact a.o
def QX:∀ q,q<20->(fR (-2097152) 0++fR 2097152 32768)[q]?=some (.int (dt (4+q)) (mP q)):=λq a=>by
 unfold mP;by_cases h:q<10
 .rw[Array.getElem?_append_left (show q<(fR (-2097152) 0).size from h),aD h];exact B9 (-2097152) 0 0 0 (o:=4) (.inl rfl) q h
 rw[Array.getElem?_append_right (show(fR (-2097152) 0).size<=q by show 10<=q;omega),az h,show 4+q=14+(q-10)by omega];exact B9 2097152 0 32768 0 (o:=14) (.inr rfl) (q-10) U
def dY.fresh{c:aa}{v:J->aa}(h:dY c 0 0 v)(al:0<=c):dY c 0 0 (dy 4 20 mP v):=by
 have e:dy 4 20 mP v=dy 14 10 (nb 2097152 0 32768 0) (dy 4 10 (nb (-2097152) 0 0 0) v):=by
  funext j
  unfold dy mP;by_cases h1:14<=j/\j<14+10
  .rw[aD h1,aD U,az U,show j-4-10=j-14 by omega]
  rw[az h1];by_cases h2:4<=j/\j<4+10
  .rw[aD h2,aD U,aD U]
  rw[az h2,az U]
 have f0:bj 0:=by unfold bj;omega
 rw[e];exact(h.B7 (.inl rfl) (-2097152) 0 0 0 f_ f0 U U).B7 (.inr rfl) 2097152 0 32768 0 f_ f0 U U
def dY.none{c:aa}{v:J->aa}(h:dY c 0 0 v):dY c 0 0 (dy 24 36 (λ_=>0) v):=h.row 24 36 _ λq a=>by
 rw[az U];constructor
 .unfold kt;rw[az U,az U];split<;>omega
 unfold jO;rw[az U,az U,az U];split<;>omega
def zU:a6 ax:=((range 36).map λq=>Value.int (dt (24+q)) 0).toArray
def Zm:∀ q,q<36->zU[q]?=some (.int (dt (24+q)) 0):=λq a=>by simp[zU,a]
def JE(w:ai):(Instr.build 97 #[]).run prog w=.ok (.agg zU) w:=aH
section
variable{P:Program}{o:Oper}{a:Act}{Q:Exit->Act->ai->ak}{ops:a6 Oper}{rest:ah Oper}{u:ai}{x:ax}
theorem Dc{T:TypeId}(hrun:(Instr.build T #[]).run P w=.ok x u)(b:o.guard=none)(c:o.op=.build T #[])(h:wpList P ops Q rest (a.put o.dst x) u):wpList P ops Q (o :: rest) a w:=
 zl hrun b c aK h
end
def W3{c:aa}{bU:ai}(h:SgI w bl g bh fr c 0 0 v xs bU)(M:1<=v 3/\v 3<=600)(h2:0<=v 2/\v 2<=1073741824)(al:0<=c):aA 327 #[g] bU λe w'=>e=aV #[]/\SgI w bl g bh fr c 0 0 (j_ fr (v,xs)).1 (j_ fr (v,xs)).2 w':=by
 have n:bU.cell? (ad g 3 ab)=some (I (v 3)):=h.st.cell 3 U .i64 rfl;have G:bU.cell? (ad g 13 ab)=some (I (v 13)):=h.st.cell 13 U .i64 rfl;have K:bU.cell? (ad g 23 ab)=some (I (v 23)):=h.st.cell 23 U .i64 rfl;have f3:=h.st.free 3;have f:=af (h.ho 3 U .i64 rfl (v 3-1) (by show 0<=v 3-1/\v 3-1<=4294967295;omega));obtain⟨R,i⟩:∃ R,j_ fr (v,xs)=R:=⟨_,rfl⟩;rw[i];unfold j_ BZ at i;dsimp only at i;by_cases l:1<v 3/\v 13<3/\v 23<3
 .have⟨a,b,d⟩:=l;have a':0<v 3-1:=U;rw[ee a,ee b,ee d]at i;have k:=af i;clear i h
  go_in
  go_wp2_with fail;refine cU (v:=aV #[]) jj rfl ?_;refine⟨rfl,?_⟩;rw[<-k.o];exact f.o
 have D:(¬ 1<v 3/\decide (1<v 3)=false)\/((1<v 3/\¬ v 13<3)/\decide (v 13<3)=false)\/((1<v 3/\v 13<3/\¬ v 23<3)/\decide (v 23<3)=false):=by
  simp only[px];omega
 have r:(dy 24 36 (λ_=>0) (dy 4 20 mP (bF (bF (bF v 3 (v 3-1)) 2 (v 2+1)) 3 600)),h0 fr xs (j6 0 7 7 32768 12 0 0))=R:=by
  rw[<-i,az];simp only[d',fZ];exact l
 have k:=af r;clear i h r l
 go_in
 rcases D with⟨a,b⟩|⟨⟨a,C⟩,b⟩|⟨⟨a,C,L⟩,b⟩
 focus
  have a':¬ 0<v 3-1:=U;go_upto_region 2 with fail
 rotate_left
 focus
  have a':0<v 3-1:=U;go_upto_region 2 with fail
 rotate_left
 focus
  have a':0<v 3-1:=U;go_upto_region 2 with fail
 all_goals
  have an:=f.out;generalize World.setCell _ _ _=ao at *;clear f n G K f3;have p:bF v 3 (v 3-1) 2=v 2:=az U;have H:ao.cell? (ad g 2 ab)=some (I (v 2)):=by rw[<-p];exact an.st.cell 2 U .i64 rfl
  have f2:=an.st.free 2;have f:=af (an.ho 2 U .i64 rfl (v 2+1) (by show 0<=v 2+1/\v 2+1<=4294967295;omega));clear an;go_upto_region 3 with fail
  have an:=f.o;generalize World.setCell _ _ _=aC at *;clear f H f2 p;have n:aC.cell? (ad g 3 ab)=some (I (bF (bF v 3 (v 3-1)) 2 (v 2+1) 3)):=an.st.cell 3 U .i64 rfl;have f3:=an.st.free 3;have f:=af (an.ho 3 U .i64 rfl 600 (by show 0<=(600:aa)/\(600:aa)<=4294967295;omega));clear an;go_upto_region 4 with fail
  have an:=f.o;generalize World.setCell _ _ _=bm at *;clear f n f3;generalize bF (bF (bF v 3 (v 3-1)) 2 (v 2+1)) 3 600=N at *;go_wp2_with fail;refine(Hs _).mono ?_;rintro e O ⟨rfl,u⟩;go_wp2_with fail;refine(Ht _).mono ?_;rintro e E ⟨rfl,x⟩;have an:=(an.keep (Keeps.bD u a7)).keep (Keeps.bD x a7);obtain⟨y,m⟩:=an.row 94 4 20 _ mP sizeOf94 rfl U QX (an.lim.fresh al);obtain⟨z,s⟩:=m.row 97 24 36 _ _ sizeOf97 rfl U Zm m.lim.none;have f:=af s;have j:=JF;have t:=JE;clear an m s u x;generalize fR (-2097152) 0++fR 2097152 32768=pl at *;generalize zU=S at *;go_upto_region 5 with(first|(refine sG (j _) rfl rfl rfl rfl ?_)|(refine c8 y rfl rfl rfl rfl ?_)|fail)
  clear y j;generalize E.setRow _ _=F at *;go_upto_region 6 with(first|(refine Dc (t _) rfl rfl ?_)|(refine c8 z rfl rfl rfl rfl ?_)|fail)
  clear z t;generalize F.setRow _ _=P at *;have j:=af (qc f.o.st 0 7 7 32768 12 0 0 f_);go_wp2_with fail;refine j.o.mono ?_;rintro e Q ⟨rfl,q,A⟩;have B:=af (f.out.bW q A);clear q A j f;go_wp2;go_end0;refine⟨rfl,?_⟩;rw[<-k.out];exact B.o
def SgI.Yz{c:aa}{bU:ai}(h:SgI w bl g bh fr c 0 0 v xs bU)(k:J)(hk:k<6)(q:J)(a:4<=q/\q<6)(x:aa)(b:0<=x/\x<=1000):SgI w bl g bh fr c 0 0 (bF v (24+k*6+q) x) xs (bU.setCell (ad g (24+k*6+q) ab) (I x)):=by
 refine h.ho _ U _ (by rw[yq k hk q a.2,az U]) x ?_;rw[az U,(o6 c 0 k hk q a.2).1,(o6 c 0 k hk q a.2).2,az U,az U];exact b
def SgI.KR{c:aa}{bU:ai}(h:SgI w bl g bh fr c 0 0 v xs bU)(k:J)(hk:k<6)(q:J)(a:q<4)(x:aa)(b:bj x):SgI w bl g bh fr c 0 0 (bF v (24+k*6+q) x) xs (bU.setCell (ad g (24+k*6+q) ab) (ag x)):=by
 refine h.ho _ U _ (by rw[yq k hk q U,aD a]) x ?_;rw[az U,(o6 c 0 k hk q U).1,(o6 c 0 k hk q U).2,aD a,aD a];exact b
def dY.qU{c:aa}(h:dY c 0 0 v)(k:J)(hk:k<6)(q:J)(a:q<4):bj (v (24+k*6+q)):=by
 have h1:=h (24+k*6+q) U;rw[az U,(o6 c 0 k hk q U).1,(o6 c 0 k hk q U).2,aD a,aD a]at h1;exact h1
def W1{c:aa}{bU:ai}(h:SgI w bl g bh fr c 0 0 v xs bU)(k:J)(hk:k<6)(Tq:1<=v (24+k*6+5)/\v (24+k*6+5)<=1000)(hw:1<=v (24+k*6+4)/\v (24+k*6+4)<=2)(aJ:∀ o,ej o->-50<=v (o+5))(al:c<1000):aA 326 #[g,.pointer (some (ad g (24+k*6) ab))] bU λe w'=>e=.returned (.bool (i_ k fr (v,xs)).1)/\SgI w bl g bh fr (c+1) 0 0 (i_ k fr (v,xs)).2.1 (i_ k fr (v,xs)).2.2 w':=by
 have ZN:bU.cell? (ad g (24+k*6+5) ab)=some (I (v (24+k*6+5))):=h.cellS k hk 5 U;have f5:=h.st.free (24+k*6+5);have f:=af (h.Yz k hk 5 U (v (24+k*6+5)-1) U);obtain⟨R,a⟩:∃ R,i_ k fr (v,xs)=R:=⟨_,rfl⟩;rw[a];unfold i_ at a;dsimp only at a;by_cases h1:v (24+k*6+5)=1
 .have T:v (24+k*6+5)-1=0:=U;rw[aD h1,T]at a;have zp:=f.o.mono (show c<=c+1 by omega);rw[T]at zp;subst a;have j:=af zp
  go_in
  go_wp2_with fail;go_ret;exact⟨rfl,j.o⟩
 rw[az h1]at a;have T:¬ v (24+k*6+5)-1=0:=U;have r:=af a;have TS:=h.lim.qU k hk 0 U;have T':=h.lim.qU k hk 1 U;have V':=h.lim.qU k hk 2 U;have ZG:=h.lim.qU k hk 3 U;have ys:=af (uu (v (24+k*6)) (v (24+k*6+1)) (v (24+k*6+2)) (v (24+k*6+3)) TS T' V' ZG)
 go_in
 go_upto_region 4 with fail
 have an:=f.o;generalize World.setCell _ _ _=ao at *;have⟨G,q⟩:=hJ (F:=λW=>SgI w bl g bh fr c 0 0 (bF v (24+k*6+5) (v (24+k*6+5)-1)) xs W);have O:∀ x:bp G,x.to.cell? (ad g (24+k*6) ab)=some (ag (v (24+k*6))):=λx=>by
  have:=((q _).1 x.held).cellS k hk 0 U
  rwa [cX _ _ _ _ U]at this
 have P:∀ x:bp G,x.to.cell? (ad g (24+k*6+1) ab)=some (ag (v (24+k*6+1))):=λx=>by
  have:=((q _).1 x.held).cellS k hk 1 U
  rwa [cX _ _ _ _ U]at this
 have ZH:∀ x:bp G,x.to.cell? (ad g (24+k*6+2) ab)=some (ag (v (24+k*6+2))):=λx=>by
  have:=((q _).1 x.held).cellS k hk 2 U
  rwa [cX _ _ _ _ U]at this
 have ZI:∀ x:bp G,x.to.cell? (ad g (24+k*6+2+1) ab)=some (ag (v (24+k*6+3))):=λx=>by
  have:=((q _).1 x.held).cellS k hk 3 U
  rwa [cX _ _ _ _ U]at this
 have n:=(q _).2 (an.keep (Keeps.refl _ ao).drew);have s:=af (λ(W W':ai) (m:G W) (aj:Below W W W')=>(q W').2 (((q W).1 m).keep (Keeps.bD aj a7)));have u:=af (λ(W:ai) (m:G W)=>(q W).1 m);go_wp2_with fail;refine cH 13 ?_;refine cI (G) (.range 10) 3 10 ?_;refine dC (n) (.range 9) 1 ?_;generalize World.drew _=wd at *;refine jq 9 λK y=>?_;go_simp;refine aU (ys.o _) λaC Aw=>?_;have gf:=s.o _ _ n Aw;refine y _ _ (gf) ?_;have an:=u.o _ gf;clear O P ZH ZI n gf Aw s u ys;have ZK:aC.cell? (ad g (24+k*6) ab)=_:=an.cellS k hk 0 U;have ZL:aC.cell? (ad g (24+k*6+1) ab)=_:=an.cellS k hk 1 U;have f0:=an.st.free (24+k*6);have f1:=an.st.free (24+k*6+1);have f:=af ((an.KR k hk 0 U _ (oS (v (24+k*6)) (v (24+k*6+2)))).KR k hk 1 U _ (oS (v (24+k*6+1)) (v (24+k*6+3))));clear an;refine cI (λW=>0<=W.heap.size) [10,11,12] 0 3 ?_;refine hg 10 (c' _) ?_;refine hg 11 (c' _) ?_;refine h_ 12 (c' _) ?_;have an:SgI w bl g bh fr c 0 0 (fS (24+k*6) v) xs _:=f.o;generalize World.setCell (World.setCell _ _ _) _ _=bm at *;clear f ZK ZL f0 f1;have aZ:=Bm (24+k*6) v;have g4:=aZ.2.2.2 (24+k*6+4) U U U;have X:∀ o,ej o->-50<=fS (24+k*6) v (o+5):=λo d=>by
  rw[aZ.2.2.2 (o+5) oJ oJ oJ];exact aJ o d
 clear aZ aJ;generalize fS (24+k*6) v=V at *;have zd:=af (CA (-4194304) (-4194304) 4194304 4194304 (V (24+k*6)) (V (24+k*6+1)));generalize iF (-4194304) (-4194304) 4194304 4194304 (V (24+k*6)) (V (24+k*6+1))=St at *;have⟨G,q⟩:=hJ (F:=λW=>SgI w bl g bh fr c 0 0 V xs W);have O:∀ x:bp G,x.to.cell? (ad g (24+k*6) ab)=some (ag (V (24+k*6))):=λx=>((q _).1 x.held).cellS k hk 0 U;have P:∀ x:bp G,x.to.cell? (ad g (24+k*6+1) ab)=some (ag (V (24+k*6+1))):=λx=>((q _).1 x.held).cellS k hk 1 U;have n:=(q _).2 (an.keep (Keeps.refl _ bm).drew);have s:=af (λ(W W':ai) (m:G W) (aj:Below W W W')=>(q W').2 (((q W).1 m).keep (Keeps.bD aj a7)));have u:=af (λ(W:ai) (m:G W)=>(q W).1 m);clear an;go_wp2_with fail;refine cH 7 ?_;refine cI (G) (.range 7) 0 7 ?_;refine dC (n) [1,2,3,4] 3 ?_;generalize World.drew _=wd at *;refine ew 0 λK y=>?_;go_simp;refine aU (Bk _) λZM CW=>?_;have g':=s.o _ _ n CW;refine y _ _ (g') ?_;clear y K;refine ew 5 λK y=>?_;go_simp;refine aU (zd.o _) λb Q'=>?_;have Y:=s.o _ _ g' Q';refine y _ _ (Y) ?_;clear y K;refine h_ 6 Y ?_;have an:=u.o _ Y;clear n g' Y CW Q' zd s;cases St
 .have f:=af (an.mono (show c<=c+1 by omega));clear an O P;go_wp2_with fail;go_ret;refine⟨?_,?_⟩
  .rw[<-r.o];rfl
  rw[<-r.o];exact f.o
 have Q:b.cell? (ad g (24+k*6+4) ab)=some (I (V (24+k*6+4))):=an.cellS k hk 4 U;have a:=r.o;rw[az (show ¬ true=false by decide)]at a;rw[g4]at Q;have D:v (24+k*6+4)=1\/v (24+k*6+4)=2:=U;clear r g4 hw Tq h1 T;rcases D with D|D
 .rw[D]at Q;have ar:(2-v (24+k*6+4)).toNat=1:=by rw[D];rfl
  simp only[ar]at a;clear ar;have au:ej 14:=(.inr rfl);have h2:b.cell? (ad g 14 ab)=some (ag (V 14)):=an.eD au 0 U;have lb:b.cell? (ad g (14+1) ab)=some (ag (V (14+1))):=an.eD au 1 U;have l':b.cell? (ad g (14+2) ab)=some (ag (V (14+2))):=an.eD au 2 U;have mv:b.cell? (ad g (14+3) ab)=some (ag (V (14+3))):=an.eD au 3 U;have m':b.cell? (ad g (14+4) ab)=some (I (V (14+4))):=an.fO au 4 U;have ps:b.cell? (ad g (14+5) ab)=some (I (V (14+5))):=an.fO au 5 U;have r':b.cell? (ad g (14+6) ab)=some (I (V (14+6))):=an.fO au 6 U;have sd:b.cell? (ad g (14+7) ab)=some (I (V (14+7))):=an.fO au 7 U;have s':b.cell? (ad g (14+8) ab)=some (I (V (14+8))):=an.fO au 8 U;have vl:b.cell? (ad g (14+9) ab)=some (I (V (14+9))):=an.fO au 9 U;change (if (decide (V (14+8)=0)&&kz (fA (V 14) (V (24+k*6))) (fA (V (14+1)) (V (24+k*6+1))) (dj 65536 262144))=true then(false,mh 1 fr (V,xs))else(true,V,xs))=R at a;have f:=af an;have r:=af a;clear an a;have al:=aX b (ae #[ag (V 14),ag (V (14+1)),ag (V (14+2)),ag (V (14+3)),I (V (14+4)),I (V (14+5)),I (V (14+6)),I (V (14+7)),I (V (14+8)),I (V (14+9))] 93);have an:=f.o.keep ((ba b).alloc (ae #[ag (V 14),ag (V (14+1)),ag (V (14+2)),ag (V (14+3)),I (V (14+4)),I (V (14+5)),I (V (14+6)),I (V (14+7)),I (V (14+8)),I (V (14+9))] 93));simp only[Nat.reduceAdd]at al an;have H:=af al;have j:=af an;have Z:=af X;clear al an f X u O P;go_upto_region 9 with fail
  clear h2 lb l' mv m' ps r' sd s' vl Q;generalize b.alloc _=B at *;generalize b.heap.size=bR at *;obtain⟨l,i⟩:∃ G:ai->ak,∀ W,G W↔(SgI w bl g bh fr c 0 0 V xs W/\W.heap[bR]?=some (ae #[ag (V 14),ag (V (14+1)),ag (V (14+2)),ag (V (14+3)),I (V (14+4)),I (V (14+5)),I (V (14+6)),I (V (14+7)),I (V (14+8)),I (V (14+9))] 93 (0,0))):=⟨_,λ_=>Iff.rfl⟩;have eO:∀ x:bp l,x.to.cell? (ad bR 0 ab)=some (ag (V 14)):=λx=>bb ((i _).1 x.held).2 rfl;have fu:∀ x:bp l,x.to.cell? (ad bR (0+1) ab)=some (ag (V (14+1))):=λx=>bb ((i _).1 x.held).2 rfl;have E:∀ x:bp l,x.to.cell? (ad bR 8 ab)=some (I (V (14+8))):=λx=>bb ((i _).1 x.held).2 rfl;have fF:∀ x:bp l,x.to.cell? (ad g (24+k*6) ab)=some (ag (V (24+k*6))):=λx=>((i _).1 x.held).1.cellS k hk 0 U;have s1:∀ x:bp l,x.to.cell? (ad g (24+k*6+1) ab)=some (ag (V (24+k*6+1))):=λx=>((i _).1 x.held).1.cellS k hk 1 U;have n:=(i B.drew).2 ⟨j.o.keep (Keeps.refl _ B).drew,(ba B).drew.heap H.o id⟩;have s:=af (λ(W W':ai) (m:l W) (aj:Below W W W')=>(i W').2 ⟨((i W).1 m).1.keep (Keeps.bD aj a7),(Keeps.bD (S:=aI) aj a7).heap ((i W).1 m).2 id⟩);have u:=af (λ(W:ai) (m:l W)=>((i W).1 m).1);have C:=af (CD (V (24+k*6)) (V (24+k*6+1)) 65536 (V 14) (V (14+1)) 262144 (j.o.lim.qU k hk 0 U) (j.o.lim.qU k hk 1 U) f_ (j.o.lim.fix au 0 U) (j.o.lim.fix au 1 U) f_);generalize kz (fA (V 14) (V (24+k*6))) (fA (V (14+1)) (V (24+k*6+1))) (dj 65536 262144)=t at *;clear i;by_cases hd:V (14+8)=0
  focus
   have z:decide (V (14+8)=0)=true:=ee hd;have a:=r.o;rw[z,sL]at a;have p:=af a;clear r a;rw[hd]at E;go_wp2_with fail;refine cH 12 ?_;refine cI (l) (.range 12) 0 12 ?_;refine dC (n) (.range 10) 2 ?_;generalize World.drew _=wd at *;refine ew 10 λK y=>?_;go_simp;refine aU (C.o _) λv' N=>?_;have A:=s.o _ _ n N;refine y _ _ (A) ?_;clear y K;refine h_ 11 A ?_;have an:=u.o _ A;clear n A N s u C eO fu E fF s1 j;cases t
   focus
    have f:=af (an.mono (show c<=c+1 by omega));clear an;go_wp2_with fail;go_ret;refine⟨?_,?_⟩
    .rw[<-p.o];rfl
    rw[<-p.o];exact f.o
   focus
    have M:=af (show aA 355 #[g,I 1] v' _ from J' an 1 U (Z.o 14 au) al);clear an;go_wp2_with fail;refine aU M.o λZJ L=>?_;have f:=af L;clear L M;go_wp2_with fail;go_ret;refine⟨?_,?_⟩
    .rw[<-p.o];rfl
    rw[<-p.o];exact f.o
  focus
   have z:decide (V (14+8)=0)=false:=dd hd;have a:=r.o;rw[z,Dn]at a;have p:=af a;clear r a n C u s eO fu E fF s1;have fy:B.cell? (ad bR 8 ab)=some (I (V (14+8))):=bb H.o rfl;have a':(V (14+8) == 0)=false:=by rw[eu];exact hd
   simp only[Nat.reduceAdd]at a' fy z;go_wp2_with fail;go_quiet (fail);have f:=af ((j.o.drewN nq).mono (show c<=c+1 by omega));clear j fy;go_wp2_with fail;go_ret;refine⟨?_,?_⟩
   .rw[<-p.o];rfl
   rw[<-p.o];exact f.o
 rw[D]at Q;have ar:(2-v (24+k*6+4)).toNat=0:=by rw[D];rfl
 simp only[ar]at a;clear ar;have au:ej 4:=(.inl rfl);have h2:b.cell? (ad g 4 ab)=some (ag (V 4)):=an.eD au 0 U;have lb:b.cell? (ad g (4+1) ab)=some (ag (V (4+1))):=an.eD au 1 U;have l':b.cell? (ad g (4+2) ab)=some (ag (V (4+2))):=an.eD au 2 U;have mv:b.cell? (ad g (4+3) ab)=some (ag (V (4+3))):=an.eD au 3 U;have m':b.cell? (ad g (4+4) ab)=some (I (V (4+4))):=an.fO au 4 U;have ps:b.cell? (ad g (4+5) ab)=some (I (V (4+5))):=an.fO au 5 U;have r':b.cell? (ad g (4+6) ab)=some (I (V (4+6))):=an.fO au 6 U;have sd:b.cell? (ad g (4+7) ab)=some (I (V (4+7))):=an.fO au 7 U;have s':b.cell? (ad g (4+8) ab)=some (I (V (4+8))):=an.fO au 8 U;have vl:b.cell? (ad g (4+9) ab)=some (I (V (4+9))):=an.fO au 9 U;change (if (decide (V (4+8)=0)&&kz (fA (V 4) (V (24+k*6))) (fA (V (4+1)) (V (24+k*6+1))) (dj 65536 262144))=true then(false,mh 0 fr (V,xs))else(true,V,xs))=R at a;have f:=af an;have r:=af a;clear an a;have al:=aX b (ae #[ag (V 4),ag (V (4+1)),ag (V (4+2)),ag (V (4+3)),I (V (4+4)),I (V (4+5)),I (V (4+6)),I (V (4+7)),I (V (4+8)),I (V (4+9))] 93);have an:=f.o.keep ((ba b).alloc (ae #[ag (V 4),ag (V (4+1)),ag (V (4+2)),ag (V (4+3)),I (V (4+4)),I (V (4+5)),I (V (4+6)),I (V (4+7)),I (V (4+8)),I (V (4+9))] 93));simp only[Nat.reduceAdd]at al an;have H:=af al;have j:=af an;have Z:=af X;clear al an f X u O P;go_upto_region 9 with fail
 clear h2 lb l' mv m' ps r' sd s' vl Q;generalize b.alloc _=B at *;generalize b.heap.size=bR at *;obtain⟨l,i⟩:∃ G:ai->ak,∀ W,G W↔(SgI w bl g bh fr c 0 0 V xs W/\W.heap[bR]?=some (ae #[ag (V 4),ag (V (4+1)),ag (V (4+2)),ag (V (4+3)),I (V (4+4)),I (V (4+5)),I (V (4+6)),I (V (4+7)),I (V (4+8)),I (V (4+9))] 93 (0,0))):=⟨_,λ_=>Iff.rfl⟩;have eO:∀ x:bp l,x.to.cell? (ad bR 0 ab)=some (ag (V 4)):=λx=>bb ((i _).1 x.held).2 rfl;have fu:∀ x:bp l,x.to.cell? (ad bR (0+1) ab)=some (ag (V (4+1))):=λx=>bb ((i _).1 x.held).2 rfl;have E:∀ x:bp l,x.to.cell? (ad bR 8 ab)=some (I (V (4+8))):=λx=>bb ((i _).1 x.held).2 rfl;have fF:∀ x:bp l,x.to.cell? (ad g (24+k*6) ab)=some (ag (V (24+k*6))):=λx=>((i _).1 x.held).1.cellS k hk 0 U;have s1:∀ x:bp l,x.to.cell? (ad g (24+k*6+1) ab)=some (ag (V (24+k*6+1))):=λx=>((i _).1 x.held).1.cellS k hk 1 U;have n:=(i B.drew).2 ⟨j.o.keep (Keeps.refl _ B).drew,(ba B).drew.heap H.o id⟩;have s:=af (λ(W W':ai) (m:l W) (aj:Below W W W')=>(i W').2 ⟨((i W).1 m).1.keep (Keeps.bD aj a7),(Keeps.bD (S:=aI) aj a7).heap ((i W).1 m).2 id⟩);have u:=af (λ(W:ai) (m:l W)=>((i W).1 m).1);have C:=af (CD (V (24+k*6)) (V (24+k*6+1)) 65536 (V 4) (V (4+1)) 262144 (j.o.lim.qU k hk 0 U) (j.o.lim.qU k hk 1 U) f_ (j.o.lim.fix au 0 U) (j.o.lim.fix au 1 U) f_);generalize kz (fA (V 4) (V (24+k*6))) (fA (V (4+1)) (V (24+k*6+1))) (dj 65536 262144)=t at *;clear i;by_cases hd:V (4+8)=0
 focus
  have z:decide (V (4+8)=0)=true:=ee hd;have a:=r.o;rw[z,sL]at a;have p:=af a;clear r a;rw[hd]at E;go_wp2_with fail;refine cH 12 ?_;refine cI (l) (.range 12) 0 12 ?_;refine dC (n) (.range 10) 2 ?_;generalize World.drew _=wd at *;refine ew 10 λK y=>?_;go_simp;refine aU (C.o _) λv' N=>?_;have A:=s.o _ _ n N;refine y _ _ (A) ?_;clear y K;refine h_ 11 A ?_;have an:=u.o _ A;clear n A N s u C eO fu E fF s1 j;cases t
  focus
   have f:=af (an.mono (show c<=c+1 by omega));clear an;go_wp2_with fail;go_ret;refine⟨?_,?_⟩
   .rw[<-p.o];rfl
   rw[<-p.o];exact f.o
  focus
   have M:=af (show aA 355 #[g,I 0] v' _ from J' an 0 U (Z.o 4 au) al);clear an;go_wp2_with fail;refine aU M.o λZJ L=>?_;have f:=af L;clear L M;go_wp2_with fail;go_ret;refine⟨?_,?_⟩
   .rw[<-p.o];rfl
   rw[<-p.o];exact f.o
 focus
  have z:decide (V (4+8)=0)=false:=dd hd;have a:=r.o;rw[z,Dn]at a;have p:=af a;clear r a n C u s eO fu E fF s1;have fy:B.cell? (ad bR 8 ab)=some (I (V (4+8))):=bb H.o rfl;have a':(V (4+8) == 0)=false:=by rw[eu];exact hd
  simp only[Nat.reduceAdd]at a' fy z;go_wp2_with fail;go_quiet (fail);have f:=af ((j.o.drewN nq).mono (show c<=c+1 by omega));clear j fy;go_wp2_with fail;go_ret;refine⟨?_,?_⟩
  .rw[<-p.o];rfl
  rw[<-p.o];exact f.o
def eL(fr:aa)(xs:ah aB):ak:=en xs/\xs.length<=64/\∀ e∈xs,fz e=true/\e.k.fr=fr
theorem G2(xs:ah aB)(k:de):∀ f o,n0 xs k f o<o+f->mg xs {k with cq:=n0 xs k f o}=false
 | 0,o,h=>absurd h (oF _)
 | f+1,o,h=>by
  unfold n0 at h⊢;split at h
  .rename_i h1;rw[aD h1];exact G2 xs k f (o+1) U
  rename_i h1;rw[az h1];simpa using h1
def oU{fr:aa}{xs:ah aB}(h:eL fr xs)(e:aB):eL fr (h0 fr xs e):=by
 have⟨h1,h2,a⟩:=h;unfold h0;split
 .exact⟨h1,h2,a⟩
 rename_i c;split
 .exact⟨h1,h2,a⟩
 rename_i ar;refine⟨HT h1 _ (G2 xs (rW fr e).k 17 0 (by show rY xs (rW fr e).k<0+17;omega)),?_,λx b=>?_⟩
 .unfold k0;rw[cx,ds,gn,gm];omega
 rcases Iy b with rfl|b
 .exact⟨Jv (by simpa using c) U,rfl⟩
 exact a x b
def IX{fr:aa}(i:J)(bS:aa){s:(J->aa)×ah aB}(h:eL fr s.2):eL fr (h' i bS fr s).2:=by
 have aj:eL fr (nQ i fr s).2:=by
  unfold nQ;dsimp only;split
  .exact h
  exact oU h _
 have h1:eL fr (hS i bS fr s).2:=by
  unfold hS;dsimp only;have h2:eL fr (kD i (4+i*10) fr (ed bS 4) (jt (4+i*10) bS s.1,s.2)).2:=by
   unfold kD;split
   .show eL fr (if _ then _ else _);split
    .exact oU h _
    exact h
   exact h
  unfold nV;split
  .exact oU h2 _
  exact h2
 have a:eL fr (mY i fr (hS i bS fr s)).2:=by
  show eL fr (if _ then _ else _);split
  .exact oU h1 _
  exact h1
 unfold h';split
 .exact aj
 split
 .unfold nZ;dsimp only;split
  .exact a
  split
  .exact a
  exact oU a _
 exact a
def Uw{fr:aa}{s:(J->aa)×ah aB}(h:eL fr s.2):eL fr (iY fr s).2:=by
 unfold iY;split
 .exact h
 exact oU h _
def Ux{fr:aa}(i:J){s:(J->aa)×ah aB}(h:eL fr s.2):eL fr (mh i fr s).2:=by
 unfold mh;dsimp only;split
 .exact oU h _
 exact oU (oU h _) _
def Uy{fr:aa}(k:J){s:(J->aa)×ah aB}(h:eL fr s.2):eL fr (qd k fr s).2:=by
 have h1:eL fr (i_ k fr s).2.2:=by
  unfold i_;dsimp only;split
  .exact h
  split
  .exact h
  split
  .exact Ux _ h
  exact h
 unfold qd;split
 .exact h
 split
 .exact h1
 exact h1
theorem IY{fr:aa}{s:(J->aa)×ah aB}(h:eL fr s.2):∀ k,eL fr (iP fr s k).2
 | 0=>h
 | k+1=>Uy k (IY h k)
def Uz(a b:aa)(v:J->aa):eL (v 0) (kb a b v):=by
 have c:eL (v 0) ([]:ah aB):=⟨Pairwise.nil,aK,aK⟩;have h1:=IY (Uw (IX 1 b (IX 0 a (s:=(v,[])) c))) 6;unfold kb stepG j_;split
 .exact h1
 exact oU h1 _
def dY.tell{c:aa}{v:J->aa}(h:dY c 0 0 v)(al:c<=1000)(o:J)(a:o<60):(uA v o).length<=10:=by
 have h1:=h o a;have aj:-2147483648<=v o/\v o<=4294967295:=by
  have h2:-2147483648<=kt (if o=0 then 0 else 0) o:=by unfold kt;repeat' split<;>omega
  have b:jO c (if o=0 then 0 else 0) o<=4294967295:=by unfold jO;repeat' split<;>omega
  omega
 unfold uA;split
 .refine n' _ ?_;unfold fC fB;split<;>omega
 refine n' _ ?_;unfold fB;omega
theorem dY.bW{c:aa}{v:J->aa}(h:dY c 0 0 v)(al:c<=1000):∀ L:ah J,(∀ o∈L,o<60)->(bW v L).length<=10*L.length
 | [],_=>by simp[Go.Proofs.YtalagblioepadaaGreatDoor.bW]
 | o :: L,a=>by
  have h1:=h.tell al o (a o aK);have h2:=dY.bW h al L (λx b=>a x (by simp[b]));unfold Go.Proofs.YtalagblioepadaaGreatDoor.bW at h2⊢;rw[iS,cx,ds];omega
def dY.pack{c:aa}{v:J->aa}(h:dY c 0 0 v)(al:c<=1000):(mr v).length<=100000:=by
 have h1:=h.bW al (k9 2) bq;have h2:=n' (gb v 6) (by have:=vw v 6;unfold fB;omega);have a:∀ j,j<=6->(re v j).length<=60*j:=by
  intro j
  induction j with
  | zero=>intro _;simp[re]
  | succ j f=>
   intro i;have b:=f U;have d:=h.bW al (sn (24+6*j)) (by unfold sn;intro o e;simp only[e6,uP,or_false]at e;omega);have g:(sn (24+6*j)).length=6:=rfl;unfold re;rw[cx];split
   .simp;omega
   omega
 have b:=a 6 U;have d:(k9 2).length=24:=rfl;unfold mr;rw[cx,cx];omega
def Mid.XX{r:aa}{f:J}{v:J->aa}(h:Mid 2 f r v)(i:f<=1000000)(k:0<=r/\r<=f):tk v/\k' v=true/\(mr v).length<=100000:=by
 have d:=h.lim U U;refine⟨λj g=>?_,IB h U U,d.pack U⟩;have h1:=d j g;unfold kt jO at h1;simp only[ite_self]at h1;unfold dt;by_cases a:j=1
 .rw[aD a];subst a;exact h.f1
 rw[az a];simp only[az a]at h1;by_cases b:j<4
 .simp only[aD b]at h1;rw[aD b];show -9223372036854775808<=v j/\v j<=9223372036854775807;omega
 simp only[az b]at h1;rw[az b];by_cases c:j<24
 .simp only[aD c]at h1;rw[aD c];by_cases e:(j-4)%10<4
  .simp only[aD e]at h1;rw[aD e];exact h1
  simp only[az e]at h1;rw[az e];show -9223372036854775808<=v j/\v j<=9223372036854775807
  repeat' split at h1
  all_goals omega
 simp only[az c]at h1;rw[az c];by_cases e:(j-24)%6<4
 .simp only[aD e]at h1;rw[aD e];exact h1
 simp only[az e]at h1;rw[az e];show -9223372036854775808<=v j/\v j<=9223372036854775807;omega
end Go.Proofs.YtalagblioepadaaGreatDoor
