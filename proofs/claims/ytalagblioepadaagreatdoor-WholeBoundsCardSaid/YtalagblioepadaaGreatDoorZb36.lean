/- The proof, part 36. -/
import Derived.Test.YtalagblioepadaaGreatDoorZb35
namespace Go.Proofs.YtalagblioepadaaGreatDoor
set_option linter.all false
open Proofs.Tryz List Go.RowKit
set_option maxRecDepth 100000
set_option maxHeartbeats 1000000
def Mf{p:ak}(h:p:=by
 go_wp2_with fail;go_quiet (fail);have a:=af (h.drewN nq);generalize bV.drewN nq=an at *;clear h k l;have k:an.cell? (ad g 12 ab)=some (I (v 12)):=a.o.st.cell 12 U .i64 rfl;have l:an.cell? (ad g 22 ab)=some (I (v 22)):=a.o.st.cell 22 U .i64 rfl;go_wp2_with fail;go_quiet (fail);go_wp2;refine cU (v:=aV #[]) jc rfl ?_;exact⟨rfl,a.o.drewN _⟩
 ):p:=h
def Lm{p:ak}(h:p:=by
 go_wp2;refine cU (v:=aV #[]) jc rfl ?_;exact⟨rfl,a.o⟩
 ):p:=h
variable{w w':ai}{bm g bg:J}{v:J->aa}{fr:aa}{xs:ah aC}
def Wj(v:J->aa)(bg o n:J)(c:a6 aw)(f:J->aa)(aq:c.size=n)(b:o+n<=60)(a:∀ q,q<n->c[q]?=some (.int (dt (o+q)) (f q))):eU (gP v bg) o c=gP (dN o n f v) bg:=by
 apply pc;intro k;rw[sb _ _ _ (by rw[yL,aq];omega),aq];by_cases hk:k<60
 .rw[yK (dN o n f v) bg k hk];unfold dN;by_cases h:o<=k/\k<o+n
  .rw[aD h,aD h,a _ U,show o+(k-o)=k by omega]
  rw[aA h,aA h,yK v bg k hk]
 rw[aA U];by_cases h:k=60
 .subst h;rw[gP,gP,pd,pd,aD (eh _).symm,aD (eh _).symm]
 rw[lO (by rw[yL];omega),lO (by rw[yL];omega)]
def St.row(h:St w bm g bg v fr xs)(T:TypeId)(o n:J)(c:a6 aw)(f:J->aa)(m:∀ w,(Go.sizeOf T).run prog w=.ok n w)(aq:c.size=n)(i:o+n<=60)(a:∀ q,q<n->c[q]?=some (.int (dt (o+q)) (f q))):(Instr.storeAt T (.pointer (some (ad g o ab))) (.agg c)).run prog w=.ok () (w.setRow g (gP (dN o n f v) bg))/\St (w.setRow g (gP (dN o n f v) bg)) bm g bg (dN o n f v) fr xs/\Keeps (λj=>j=g) w (w.setRow g (gP (dN o n f v) bg)):=by
 have h1:=qQ (P:=prog) T n g o c _ _ m aq h.bc (by rw[yL];omega) (λx l=>by
  obtain⟨q,b,k⟩:=sD.1 l;have h2:=a q (by simpa[aq]using b);rw[<-nc,gb b,k]at h2;cases h2;rfl)
 rw[Wj v bg o n c f aq i a]at h1;have hk:=iB w g (gP (dN o n f v) bg);have⟨cL,ar,au⟩:=h.vT;exact⟨h1,⟨fe _ _ _ _ _ h.bc,⟨cL,ar.keep hk (hJ h.ne) (λj d e=>au (by rw[d,e])),au⟩,h.ne,h.oP,h.qG⟩,hk⟩
def d_.row{c e:aa}{k:J}(h:d_ c k e v)(o n:J)(f:J->aa)(b:∀ q,q<n->kk (if o+q=k then e else 0) (o+q)<=f q/\f q<=jE c (if o+q=k then e else 0) (o+q)):d_ c k e (dN o n f v):=λj d=>by
 unfold dN;by_cases h1:o<=j/\j<o+n
 .have a:(if o<=j/\j<o+n then f (j-o)else v j)=f (j-o):=aD h1;rw[a]
  have:=b (j-o) U
  rwa [show o+(j-o)=j by omega]at this
 have a:(if o<=j/\j<o+n then f (j-o)else v j)=v j:=aA h1;rw[a];exact h j d
def BK(x y f dd:aa):a6 aw:=#[ag x,ag y,ag 0,ag 0,I f,I 3,I 0,I 0,I 0,I dd]
def BL(x y f dd:aa){o:J}(b:ej o):∀ q,q<10->(BK x y f dd)[q]?=some (.int (dt (o+q)) (mO x y f dd q)):=λq a=>by
 rw[tA b q a]
 match q,a with
 | 0,_=>rfl
 | 1,_=>rfl
 | 2,_=>rfl
 | 3,_=>rfl
 | 4,_=>rfl
 | 5,_=>rfl
 | 6,_=>rfl
 | 7,_=>rfl
 | 8,_=>rfl
 | 9,_=>rfl
def d_.BJ{c:aa}{k:J}(h:d_ c k 0 v){o:J}(b:ej o)(x y f dd:aa)(d:bk x)(e:bk y)(l:0<=f/\f<=65535)(ax:0<=dd/\dd<=c):d_ c k 0 (dN o 10 (mO x y f dd) v):=h.row o 10 _ λq a=>by
 have i:=d.2;have j:=e.2;have g:(if o+q=k then(0:aa)else 0)=0:=by split<;>rfl
 rw[g,(kj b c 0 q a).1,(kj b c 0 q a).2]
 match q,a with
 | 0,_=>exact⟨d.1,i⟩
 | 1,_=>exact⟨e.1,j⟩
 | 2,_=>show(-2147483648:aa)<=0/\(0:aa)<=2147483647;decide
 | 3,_=>show(-2147483648:aa)<=0/\(0:aa)<=2147483647;decide
 | 4,_=>exact⟨by show -0<=f;omega,by show f<=65535+0;omega⟩
 | 5,_=>show(-100:aa)<=3/\(3:aa)<=1000;decide
 | 6,_=>show(0:aa)<=0/\(0:aa)<=1000;decide
 | 7,_=>show(0:aa)<=0/\(0:aa)<=1000;decide
 | 8,_=>show(0:aa)<=0/\(0:aa)<=1000;decide
 | 9,_=>exact ax
theorem SgI.row{c:aa}{bV:ai}(h:SgI w bm g bg fr c 0 0 v xs bV)(T:TypeId)(o n:J)(fa:a6 aw)(f:J->aa)(k:∀ w,(Go.sizeOf T).run prog w=.ok n w)(aq:fa.size=n)(d:o+n<=60)(i:∀ q,q<n->fa[q]?=some (.int (dt (o+q)) (f q)))(b:d_ c 0 0 (dN o n f v)):(Instr.storeAt T (.pointer (some (ad g o ab))) (.agg fa)).run prog bV=.ok () (bV.setRow g (gP (dN o n f v) bg))/\SgI w bm g bg fr c 0 0 (dN o n f v) xs (bV.setRow g (gP (dN o n f v) bg)):=by
 have⟨h1,h2,a⟩:=h.st.row T o n fa f k aq d i;exact⟨h1,h2,h.cv.trans (a.mono λj _ e=>by rw[e];exact h.st.oP),b⟩
def Wl{c:aa}{bV:ai}(h:SgI w bm g bg fr c 0 0 v xs bV)(i:J)(av:i<2)(hd:0<v (4+i*10+8)):az 346 #[g,I i] bV λe w'=>e=aV #[]/\SgI w bm g bg fr c 0 0 (qp i fr (v,xs)).1 (qp i fr (v,xs)).2 w':=by
 have f:=l6 i av;have Aw:=h.fK f 8 U;have f8:=h.st.free (4+i*10+8);have vH:0<=v (4+i*10+8)/\v (4+i*10+8)<=1000:=h.lim.num f 8 U;have l':=h.lim.num f 9 U;have a:=af (h.q1 f 8 U (v (4+i*10+8)-1) D2);unfold qp;by_cases aj:1<v (4+i*10+8)
 .simp only[aD aj];have T:0<v (4+i*10+8)-1:=U
  go_in
  exact Lm
 simp only[aA aj];have T:¬ 0<v (4+i*10+8)-1:=U;have D:bH v (4+i*10+8) (v (4+i*10+8)-1) 1=v 1:=aA U;have k:bH v (4+i*10+8) (v (4+i*10+8)-1) (4+i*10+9)=v (4+i*10+9):=aA U;have L:=af (O8 (v 1));have au:0<=iE (v 1)/\iE (v 1)<=4294967295:=by unfold iE;omega
 unfold mT;generalize gf:bH v (4+i*10+8) (v (4+i*10+8)-1)=y at *;have ps:=af gf;generalize iE (v 1)=N at *;have M:N / 65536*4 / 65536=0\/N / 65536*4 / 65536=1\/N / 65536*4 / 65536=2\/N / 65536*4 / 65536=3:=U;generalize N / 65536*4 / 65536=K at *;have Q:(if (K%2 == 1)=true then 2621440 else -2621440)=nD K:=by rcases M with rfl|rfl|rfl|rfl<;>decide
 have R:(if 2<=K then 2621440 else -2621440)=oI K:=rfl;have t:bk (nD K):=by unfold nD bk;split<;>omega
 have S:bk (oI K):=by unfold oI bk;split<;>omega
 generalize nD K=X at *;generalize oI K=Y at *;have q:=af Q;have r:=af R;have j:=b8 D k
 go_in
 go_upto_region 4 with fail
 have al:=a.o;generalize World.setCell _ _ _=an at *;have m':an.cell? (ad g 1 ab)=some (aK (v 1)):=by rw[<-j.o.1];exact al.st.cell 1 U .u32 rfl
 go_wp2_with fail;refine aT (L.o _) λaB V=>?_;have al:=al.keep (Keeps.bE V a7);have m':=al.st.cell 1 U .u32 rfl;have f1:=al.st.free 1;have a:=af (al.hc 1 U .u32 rfl N au);go_upto_region 5 with fail
 have al:=a.o;generalize World.setCell _ _ _=bn at *;have a:=af al;have b:=af (aW bn (ae #[ag (-2621440),ag (-2621440)] 91));have d:=af ((bY bn.heap.size bn).alloc bA (ae #[ag (-2621440),ag (-2621440)] 91));go_upto_if 42 with fail
 generalize bn.alloc (ae #[ag (-2621440),ag (-2621440)] 91)=v' at *;generalize Z:bn.heap.size=bS at *;have s:=af Z;go_cut [] (λga=>ga.heap[bS]?=some (ae #[ag X,ag (-2621440)] 91 (0,0))/\Below bS bn ga)
 case first=>
  have ca:=bJ b.o;have z0:=aP b.o;have l:=af (bW b.o 0 (ag 2621440));have n:=af (d.o.setCell (p:=ad bS 0 ab) (c9 bS) (ag 2621440));by_cases ar:(K%2 == 1)=true
  .obtain rfl:(2621440:aa)=X:=by rw[<-q.o,aD ar]
   go_wp2_with fail;go_meet;exact⟨l.o,n.o⟩
  obtain rfl:(-2621440:aa)=X:=by rw[<-q.o,aA ar]
  go_wp2_with fail;go_meet;exact⟨b.o,d.o⟩
 have⟨b,d⟩:=hcut;go_upto_if 45 with fail
 go_cut [] (λga=>ga.heap[bS]?=some (ae #[ag X,ag Y] 91 (0,0))/\Below bS bn ga)
 case first=>
  have bP:=bJ b;have CW:=aP b;have l:=af (bW b 1 (ag 2621440));have n:=af (d.setCell (p:=ad bS 1 ab) (c9 bS) (ag 2621440));have z:=af b;have j:=af d;by_cases ar:2<=K
  .obtain rfl:(2621440:aa)=Y:=by rw[<-r.o,aD ar]
   go_wp2_with fail;go_meet;exact⟨l.o,n.o⟩
  obtain rfl:(-2621440:aa)=Y:=by rw[<-r.o,aA ar]
  go_wp2_with fail;go_meet;exact⟨z.o,j.o⟩
 have⟨b,d⟩:=hcut;have al:=a.o.keep (Keeps.bE (show Below bn bn wc by rw[s.o];exact d) a7);have sd:=s.o;have s':=bR a.o.st.bc;have k:bH y 1 N (4+i*10+9)=v (4+i*10+9):=by rw[<-j.o.2];exact aA U
 generalize g':bH y 1 N=v2 at *;have C:=af g';have r':bk 0:=by unfold bk;omega
 obtain⟨u,O⟩:=(al.keep (Keeps.refl _ wc).drew).row 93 (4+i*10) 10 (BK X Y 0 (v (4+i*10+9))) _ sizeOf93 rfl U (BL X Y 0 (v (4+i*10+9)) f) (al.lim.BJ f X Y 0 (v (4+i*10+9)) t S U l');obtain⟨G,m⟩:=hj (F:=λW=>(SgI w bm g bg fr c 0 0 v2 xs W/\W.heap[bS]?=some (ae #[ag X,ag Y] 91 (0,0))));have vl:∀ x:bp G,x.to.cell? (ad g (4+i*10+9) ab)=some (I (v (4+i*10+9))):=λx=>by rw[<-k];exact((m _).1 x.held).1.fK f 9 U
 have ca:=λx:bp G=>aP (((m _).1 x.held).2);have h2:=(m wc.drew).2 ⟨al.keep (Keeps.refl _ wc).drew,(a_ wc).drew.heap b id⟩;have H:=(iB wc.drew g (gP (dN (4+i*10) 10 (mO X Y 0 (v (4+i*10+9))) v2) bg)).heap ((a_ wc).drew.heap b id) (show bS≠g by omega);have B:=af O;have A:=af H;go_wp2_with fail;unfold BK at u;generalize a':4+i*10=o at *;generalize World.setRow _ _ _=ys at *;refine cB 9 ?_;refine cC (G) (.range 8) 1 8 ?_;refine de (h2) (.range 8) 0 ?_;refine lq ?_;refine cC (λW=>0<=W.heap.size) [8] 0 1 ?_;refine oW 8 (c' _) (na rfl rfl rfl u) ?_;simp only[Act.put];have al:=B.o;have zp:=aP A.o;have P:=af (p0 al.st (i+1) 6 6 16384 9 0 X t);go_wp2_with fail;refine aT P.o ?_;rintro zd ⟨E,lb⟩;have a:=af (al.b2 E lb);go_wp2;go_end0;subst a';rw[C.out];exact⟨rfl,a.o⟩
theorem AL(v:J->aa):∀ k,k<=6->(∀ j,j<k->v (24+j*6+4)≠0)->qB v 0 6=qB v k (6-k)
 | 0,_,_=>rfl
 | k+1,hk,h=>by
  rw[AL v k U (λj a=>h j U),show 6-k=(6-(k+1))+1 by omega];show(if v (24+k*6+4)=0 then some k else qB v (k+1) (6-(k+1)))=_;rw[aA (h k U)]
def x6(k:J)(hk:k<6)(q:J)(a:q<6):dt (24+k*6+q)=if q<4 then .i32 else .i64:=by
 unfold dt;rw[aA U,aA U,aA U,show(24+k*6+q-24)%6=q by omega]
def oQ(c d:aa)(k:J)(hk:k<6)(q:J)(a:q<6):kk d (24+k*6+q)=(if q<4 then -2147483648 else 0)/\jE c d (24+k*6+q)=(if q<4 then 2147483647 else 1000):=by
 have h2:(24+k*6+q-24)%6=q:=U;constructor
 .unfold kk;rw[aA U,aA U,h2]
 unfold jE;rw[aA U,aA U,aA U,h2]
def JN(x y bV ga du b:aa)(k:J)(hk:k<6):∀ q,q<6->(#[ag x,ag y,ag bV,ag ga,I du,I b]:a6 aw)[q]?=some (.int (dt (24+k*6+q)) (r9 x y bV ga du b q)):=λq a=>by
 rw[x6 k hk q a]
 match q,a with
 | 0,_=>rfl
 | 1,_=>rfl
 | 2,_=>rfl
 | 3,_=>rfl
 | 4,_=>rfl
 | 5,_=>rfl
def d_.WG{c:aa}(h:d_ c 0 0 v)(k:J)(hk:k<6)(x y bV ga du b:aa)(i:bk x)(j:bk y)(f:bk bV)(g:bk ga)(e:0<=du/\du<=1000)(d:0<=b/\b<=1000):d_ c 0 0 (dN (24+k*6) 6 (r9 x y bV ga du b) v):=h.row _ 6 _ λq a=>by
 rw[aA U,(oQ c 0 k hk q a).1,(oQ c 0 k hk q a).2]
 match q,a with
 | 0,_=>exact i
 | 1,_=>exact j
 | 2,_=>exact f
 | 3,_=>exact g
 | 4,_=>exact e
 | 5,_=>exact d
def SgI.cellS{c:aa}{bV:ai}(h:SgI w bm g bg fr c 0 0 v xs bV)(k:J)(hk:k<6)(q:J)(a:q<6):bV.cell? (ad g (24+k*6+q) ab)=some (.int (if q<4 then .i32 else .i64) (v (24+k*6+q))):=h.st.cell _ U _ (x6 k hk q a)
def Rh(f l:aa):bk (ia f l)/\bk (ib f l):=⟨lr _ _,lr _ _⟩
def Wn{c:aa}{bV:ai}(h:SgI w bm g bg fr c 0 0 v xs bV)(i:J)(av:i<2):az 350 #[g,I i] bV λe w'=>e=aV #[]/\SgI w bm g bg fr c 0 0 (pD i fr (v,xs)).1 (pD i fr (v,xs)).2 w':=by
 have d:=l6 i av;have zd:=h.fK d 6 U;have a:=af h;by_cases aq:0<v (4+i*10+6)
 .rw[show pD i fr (v,xs)=(v,xs)from aD aq]
  go_in
  exact Lm
 obtain⟨R,b⟩:∃ R,pD i fr (v,xs)=R:=⟨_,rfl⟩;rw[b];rw[show pD i fr (v,xs)=_ from aA aq]at b;have B:=af b
 go_in
 go_wp2_with fail;go_loopg [17] 6 (λQ z wr=>∃ k:J,Q=6-k/\k<=6/\z=I k/\(∀ j,j<k->v (24+j*6+4)≠0)/\SgI w bm g bg fr c 0 0 v xs wr)
 case atStart=>exact⟨0,rfl,U,rfl,λj D=>absurd D (k7 j),a.o⟩
 obtain⟨k,a1,hk,rfl,A,aU⟩:=hrel;by_cases y:k<6
 .have zp:=aU.cellS k y 4 U;by_cases M:v (24+k*6+4)=0
  .have sd:qB v 0 6=some k:=by
    rw[AL v k U A,show 6-k=(6-(k+1))+1 by omega];exact aD M
   have b:=B.o;rw[sd]at b;dsimp only at b;have N:=af b;obtain⟨G,f⟩:=hj (F:=λW=>SgI w bm g bg fr c 0 0 v xs W);have St:∀ x:bp G,x.to.cell? (ad g (4+i*10) ab)=some (ag (v (4+i*10))):=λx=>((f _).1 x.held).eB d 0 U;have Tq:∀ x:bp G,x.to.cell? (ad g (4+i*10+1) ab)=some (ag (v (4+i*10+1))):=λx=>((f _).1 x.held).eB d 1 U;have TS:∀ x:bp G,x.to.cell? (ad g (4+i*10+4) ab)=some (I (v (4+i*10+4))):=λx=>((f _).1 x.held).fK d 4 U;have E:=(f _).2 (aU.keep (Keeps.refl _ _).drew);have t:=af (λ(W W':ai) (u:G W) (aj:Below W W W')=>(f W').2 (((f W).1 u).keep (Keeps.bE aj a7)));have a':=af (λ(W:ai) (u:G W)=>(f W).1 u);have p:=Rh (v (4+i*10+4));have r:=aU.lim.fix d 0 U;have v':=aU.lim.fix d 1 U;have T:=af (xU (v (4+i*10+4)) 262144 fS);have Z:=af (xU (v (4+i*10+4)) 196608 fS);have V:=af (t' (v (4+i*10)) (v (4+i*10+1)) (ia (v (4+i*10+4)) 262144) (ib (v (4+i*10+4)) 262144) r v' (p _).1 (p _).2);have lb:=(p 196608).1;have l':=(p 196608).2;have hd:=oF (v (4+i*10)) (ia (v (4+i*10+4)) 262144);have h2:=oF (v (4+i*10+1)) (ib (v (4+i*10+4)) 262144);generalize ds (v (4+i*10)) (ia (v (4+i*10+4)) 262144)=X at *;generalize ds (v (4+i*10+1)) (ib (v (4+i*10+4)) 262144)=Y at *;generalize ia (v (4+i*10+4)) 196608=m at *;generalize ib (v (4+i*10+4)) 196608=n at *;go_wp2_with fail;generalize Q':4+i*10=o at *;refine cB 25 ?_;refine cC (G) (.range 24) 1 24 ?_;refine de (E) [0,1,2,3,4,5,6,7,8,9,12,13,14,15,17,18,20,21,22] 5 ?_;generalize World.drew _=wd at *;refine dC 10 λK l=>?_;go_simp;refine aT (T.o _) λan m'=>?_;have H:=t.o _ _ E m';refine l _ _ (H) ?_;refine dC 11 λK l=>?_;go_simp;refine aT (V.o _) λaB ps=>?_;have L:=t.o _ _ H ps;refine l _ _ (L) ?_;refine dC 16 λK l=>?_;go_simp;refine aT (Z.o _) λbn r'=>?_;have q:=t.o _ _ L r';refine l _ _ (q) ?_;refine gZ 19 q ?_;refine jg 23 λK l=>?_;go_simp;refine l _ _ (q) ?_;have al:=a'.o _ q;obtain⟨s',gf⟩:=al.row 96 (24+k*6) 6 #[ag X,ag Y,ag m,ag n,I (i+1),I 40] _ sizeOf96 rfl U (JN X Y m n (i+1) 40 k y) (al.lim.WG k y X Y m n (i+1) 40 hd h2 lb l' U U);have O:=af gf;generalize World.setRow _ _ _=T' at *;refine cC (λW=>0<=W.heap.size) [24] 0 1 ?_;refine oW 24 (c' _) (na rfl rfl rfl s') ?_;simp only[Act.put];have al:=O.o;have CW:o+10<=24:=by unfold ej at d;omega
   have C:bH (dN (24+k*6) 6 (r9 X Y m n (i+1) 40) v) (o+6) 8 o=v o:=by rw[dX _ _ _ _ U,pW _ _ _ _ _ U]
   have zd:=al.fK d 6 U;have f6:=al.st.free (o+6);have a:=af (al.q1 d 6 U 8 (by show 0<=_/\_<=(1000:aa);omega));go_upto_region 8 with fail
   have al:=a.o;generalize World.setCell _ _ _=ys at *;generalize bH (dN (24+k*6) 6 (r9 X Y m n (i+1) 40) v) (o+6) 8=v2 at *;have Y2:ys.cell? (ad g o ab)=some (ag (v o)):=by rw[<-C];exact al.eB d 0 U
   have r:=al.lim.fix d 0 U;rw[re,C]at r;have g':=af (p0 al.st (i+1) 1 1 16384 5 0 (v o) r);have Aw:(i:aa)+1<=2:=U;go_wp2_with fail;refine aT g'.o ?_;rintro V' ⟨S,vl⟩;have a:=af (al.b2 S vl);go_wp2;refine cU (v:=aV #[]) jc rfl ?_;refine⟨rfl,?_⟩;rw[<-N.out];exact a.o
  have s:=af aU;have P:=af (show ∀ j,j<k+1->v (24+j*6+4)≠0 from λj D=>by
   by_cases e:j=k
   .subst e;exact M
   .exact A j U)
  go_wp2_with fail;go_roundg (6-(k+1))
  case rel=>exact⟨k+1,rfl,U,by go_num,P.o,s.o⟩
  omega
 obtain rfl:k=6:=U;have b:=B.out;rw[AL v 6 bA A]at b;change (v,xs)=R at b;subst b;have s:=af aU;go_wp2_with fail;go_end0;exact⟨rfl,s.o⟩
def JJ{c:aa}{bV:ai}(h:SgI w bm g bg fr c 0 0 v xs bV)(i:J)(av:i<2)(b6:aa):az 324 #[g,I i,aF b6] bV λe w'=>e=aV #[]/\SgI w bm g bg fr c 0 0 (jh i b6 fr (v,xs)).1 (jh i b6 fr (v,xs)).2 w':=by
 have m:=h.fK (l6 i av) 8 U;obtain⟨R,a⟩:∃ R,jh i b6 fr (v,xs)=R:=⟨_,rfl⟩;rw[a];unfold jh at a;by_cases hd:0<v (4+i*10+8)
 .have f:=af (Wl h i av hd);rw[aD hd]at a;subst a
  go_in
  go_wp2_with fail;refine aT f.o λan h1=>?_;go_wp2;refine cU (v:=aV #[]) jc rfl ?_;exact⟨rfl,h1⟩
 rw[aA hd]at a;have b:=af a
 go_in
 go_wp2_with fail;refine aT (Wr h.st h.lim i av b6) λan h1=>?_;have h1:SgI w bm g bg fr c 0 0 (j4 i b6 fr (v,xs)).1 (j4 i b6 fr (v,xs)).2 an:=⟨h1.st,h.cv.trans h1.cv,h1.lim⟩;generalize j4 i b6 fr (v,xs)=s1 at *;have⟨j,k⟩:=s1;go_wp2_with fail;refine aT (Wp h1 i av) λaB h2=>?_;generalize qJ i fr (j,k)=s2 at *;have⟨v2,l⟩:=s2;go_wp2_with fail;refine br (tt b6 16 _) ?_;cases ar:ek b6 16
 .go_wp2_with fail;go_end0;refine⟨rfl,?_⟩;rw[<-b.o,ar];exact h2
 go_wp2_with fail;refine aT (Wn h2 i av) λbn d=>?_;go_wp2;go_end0;refine⟨rfl,?_⟩;rw[<-b.o,ar];exact d
def d_.mono{c d:aa}{k:J}{e:aa}(h:d_ c k e v)(aq:c<=d):d_ d k e v:=λj a=>by
 have h1:=h j a;refine⟨h1.1,zc h1.2 ?_⟩;unfold jE
 repeat' split
 all_goals omega
theorem SgI.mono{c d:aa}{bV:ai}(h:SgI w bm g bg fr c 0 0 v xs bV)(aq:c<=d):SgI w bm g bg fr d 0 0 v xs bV:=⟨h.st,h.cv,h.lim.mono aq⟩
def JI{c:aa}{bV:ai}(h:SgI w bm g bg fr c 0 0 v xs bV)(i:J)(av:i<2)(aR:-50<=v (4+i*10+5))(aq:c<1000):az 355 #[g,I i] bV λe w'=>e=aV #[]/\SgI w bm g bg fr (c+1) 0 0 (nK i fr (v,xs)).1 (nK i fr (v,xs)).2 w':=by
 have b:=l6 i av;have k:=l6 (1-i) U;have q:=h.fK b 5 U;have E:=h.st.free (4+i*10+5);have N:-100<=v (4+i*10+5)/\v (4+i*10+5)<=1000:=h.lim.num b 5 U;have O:0<=v (4+(1-i)*10+9)/\v (4+(1-i)*10+9)<=c:=h.lim.num k 9 U;have a:=af (h.q1 b 5 U (v (4+i*10+5)-1) (by show -100<=_/\_<=1000;omega));have K:(i:aa)+1<=2:=U;obtain⟨R,m⟩:∃ R,nK i fr (v,xs)=R:=⟨_,rfl⟩;rw[m]
 go_in
 go_upto_region 2 with fail
 have al:=a.o;generalize World.setCell _ _ _=an at *;have p:an.cell? (ad g (4+i*10) ab)=some (ag (bH v (4+i*10+5) (v (4+i*10+5)-1) (4+i*10))):=al.eB b 0 U;have f:bH v (4+i*10+5) (v (4+i*10+5)-1) (4+i*10)=v (4+i*10):=aA U;have t:bH v (4+i*10+5) (v (4+i*10+5)-1) (4+i*10+5)=v (4+i*10+5)-1:=aD rfl;have u:bH v (4+i*10+5) (v (4+i*10+5)-1) (4+(1-i)*10+9)=v (4+(1-i)*10+9):=aA U;have n:bk (v (4+i*10)):=by rw[<-f];exact al.lim.fix b 0 U
 rw[f]at p;have j:=af (p0 al.st (i+1) 2 2 32768 8 0 (v (4+i*10)) n);go_wp2_with fail;refine aT j.o ?_;rintro aB ⟨h2,z⟩;have al:=al.b2 h2 z;have d:=m;unfold nK at d;dsimp only at d;generalize L:bH v (4+i*10+5) (v (4+i*10+5)-1)=l at *;generalize M:iv fr xs (kO (i+1) 2 2 32768 8 0 (v (4+i*10)))=S at *;have q:=al.fK b 5 U;rw[t]at q;by_cases aj:1<v (4+i*10+5)
 .rw[aD aj]at d;subst d;have y:0<v (4+i*10+5)-1:=U;have a:=af (al.mono (show c<=c+1 by omega));go_wp2_with fail;refine cU (v:=aV #[]) jc rfl ?_;exact⟨rfl,a.o⟩
 rw[aA aj]at d;have y:¬ 0<v (4+i*10+5)-1:=U;have F:=al.st.free (4+i*10+8);have T:=al.fK b 8 U;have a:=af ((al.q1 b 8 U 30 (by show 0<=_/\_<=(1000:aa);omega)).mono (show c<=c+1 by omega));go_upto_region 5 with fail
 have al:=a.o;generalize World.setCell _ _ _=bn at *;have s:bH l (4+i*10+8) 30 (4+(1-i)*10+9)=v (4+(1-i)*10+9):=by rw[<-u];exact aA U
 have r:bH l (4+i*10+8) 30 (4+i*10)=v (4+i*10):=by rw[<-f];exact aA U
 generalize bH l (4+i*10+8) 30=v2 at *;have C:=al.fK k 9 U;rw[s]at C;have G:=al.st.free (4+(1-i)*10+9);have a:=af (al.q1 k 9 U (v (4+(1-i)*10+9)+1) (by show 0<=_/\_<=c+1;omega));have D:(1:aa)-i=((1-i:J):aa):=U;have H:1-i<2:=U
 go_region
 have al:=a.o.keep (Keeps.refl _ _).drew;generalize World.drew _=B at *;have ca:bH v2 (4+(1-i)*10+9) (v (4+(1-i)*10+9)+1) (4+i*10)=v (4+i*10):=by rw[<-r];exact aA U
 generalize bH v2 (4+(1-i)*10+9) (v (4+(1-i)*10+9)+1)=P at *;have p:B.cell? (ad g (4+i*10) ab)=some (ag (v (4+i*10))):=by rw[<-ca];exact al.eB b 0 U
 have j:=af (p0 al.st (i+1) 5 5 32768 10 0 (v (4+i*10)) n);go_wp2_with fail;refine aT j.o ?_;rintro Q ⟨x,A⟩;have a:=af (al.b2 x A);go_wp2;go_end0;refine⟨rfl,?_⟩;rw[<-d];exact a.o
theorem SgI.drewN{c:aa}{bV:ai}(h:SgI w bm g bg fr c 0 0 v xs bV)(n:J):SgI w bm g bg fr c 0 0 v xs (bV.drewN n):=h.keep ((Keeps.refl _ bV).drewN n)
def Wm{c:aa}{bV:ai}(h:SgI w bm g bg fr c 0 0 v xs bV):az 325 #[g] bV λe w'=>e=aV #[]/\SgI w bm g bg fr c 0 0 (kc fr (v,xs)).1 (kc fr (v,xs)).2 w':=by
 have k:bV.cell? (ad g 12 ab)=some (I (v 12)):=h.st.cell 12 U .i64 rfl;have l:bV.cell? (ad g 22 ab)=some (I (v 22)):=h.st.cell 22 U .i64 rfl;obtain⟨R,d⟩:∃ R,kc fr (v,xs)=R:=⟨_,rfl⟩;rw[d];unfold kc Fx at d;dsimp only at d;by_cases n:0<v 12
 .rw[ed n,y6,aD rfl]at d;subst d
  go_in
  exact Mf
 rw[cZ n,wu]at d;have Y:decide (0<v 12)=false:=cZ n;by_cases p:0<v 22
 .rw[ed p,y6,aD rfl]at d;subst d
  go_in
  exact Mf
 rw[cZ p,wu]at d;have Z:decide (0<v 22)=false:=cZ p;have f:ej 4:=.inl rfl;have i:ej 14:=.inr rfl;have j:=af (Ce (v 4) (v 5) 262144 (v 14) (v 15) 262144 (h.lim.fix f 0 U) (h.lim.fix f 1 U) fS (h.lim.fix i 0 U) (h.lim.fix i 1 U) fS);generalize kp (fx (v 14) (v 4)) (fx (v 15) (v 5)) (ds 262144 262144)=t at *;have s:=af d;clear d
 go_in
 go_wp2_with fail;go_quiet (fail);have a:=af (h.drewN nq);generalize bV.drewN nq=an at *;clear h k l;have k:an.cell? (ad g 12 ab)=some (I (v 12)):=a.o.st.cell 12 U .i64 rfl;have l:an.cell? (ad g 22 ab)=some (I (v 22)):=a.o.st.cell 22 U .i64 rfl;go_wp2_with fail;obtain⟨G,b⟩:∃ G:ai->ak,∀ W,G W↔SgI w bm g bg fr c 0 0 v xs W:=⟨_,λ_=>Iff.rfl⟩;have L:∀ x:bp G,x.to.cell? (ad g 12 ab)=some (I (v 12)):=λx=>((b _).1 x.held).st.cell 12 U .i64 rfl;have O:∀ x:bp G,x.to.cell? (ad g 22 ab)=some (I (v 22)):=λx=>((b _).1 x.held).st.cell 22 U .i64 rfl;have P:∀ x:bp G,x.to.cell? (ad g 4 ab)=some (ag (v 4)):=λx=>((b _).1 x.held).st.cell 4 U .i32 rfl;have Q:∀ x:bp G,x.to.cell? (ad g 5 ab)=some (ag (v 5)):=λx=>((b _).1 x.held).st.cell 5 U .i32 rfl;have M:∀ x:bp G,x.to.cell? (ad g 14 ab)=some (ag (v 14)):=λx=>((b _).1 x.held).st.cell 14 U .i32 rfl;have N:∀ x:bp G,x.to.cell? (ad g 15 ab)=some (ag (v 15)):=λx=>((b _).1 x.held).st.cell 15 U .i32 rfl;have r:=(b _).2 (a.o.keep (Keeps.refl _ an).drew);have y:=af (λ(W W':ai) (q:G W) (aj:Below W W W')=>(b W').2 (((b W).1 q).keep (Keeps.bE aj a7)));have z:=af (λ(W:ai) (q:G W)=>(b W).1 q);clear b a k l f i;refine cB 24 ?_;refine cC (G) (.range 24) 0 24 ?_;refine de (r) (.range 21) 3 ?_;refine dC 21 λK A=>?_;go_simp;refine(j.o _).mono ?_;rintro e aB ⟨rfl,B⟩;have m:=y.out _ _ r B;refine A _ _ (m) ?_;clear A K;refine de (m) [22,23] 0 ?_;refine mL ?_;have al:=z.out _ m;clear L O P Q M N r m B y z j;cases t
 .have a:=af al;clear al;go_wp2;refine cU (v:=aV #[]) jc rfl ?_;refine⟨rfl,?_⟩;rw[<-s.out];exact a.o
 have f:ej 4:=.inl rfl;have i:ej 14:=.inr rfl;have V:aB.cell? (ad g 6 ab)=some (ag (v 6)):=al.st.cell 6 U .i32 rfl;have X:aB.cell? (ad g 7 ab)=some (ag (v 7)):=al.st.cell 7 U .i32 rfl;have S:aB.cell? (ad g 16 ab)=some (ag (v 16)):=al.st.cell 16 U .i32 rfl;have T:aB.cell? (ad g 17 ab)=some (ag (v 17)):=al.st.cell 17 U .i32 rfl;have F:=al.st.free 6;have H:=al.st.free 7;have D:=al.st.free 16;have E:=al.st.free 17;have a:=af ((((al.kt f 2 U (v 16) (al.lim.fix i 2 U)).kt f 3 U (v 17) (al.lim.fix i 3 U)).kt i 2 U (v 6) (al.lim.fix f 2 U)).kt i 3 U (v 7) (al.lim.fix f 3 U));clear al f i;go_wp2_with fail
 go_region
 have al:=a.o.keep (Keeps.refl _ _).drew;generalize World.drew _=a' at *;clear a V X S T F H D E;have j:=af (p0 al.st 0 4 4 16384 6 0 0 fS);go_wp2_with fail;refine j.o.mono ?_;rintro e gf ⟨rfl,u,C⟩;have a:=af (al.b2 u C);clear u C j al;go_wp2;go_end0;refine⟨rfl,?_⟩;rw[<-s.out];exact a.o
def Qm:∀ q,q<20->(fM (-2097152) 0++fM 2097152 32768)[q]?=some (.int (dt (4+q)) (mD q)):=λq a=>by
 unfold mD;by_cases h:q<10
 .rw[Array.getElem?_append_left (show q<(fM (-2097152) 0).size from h),aD h];exact BL (-2097152) 0 0 0 (o:=4) (.inl rfl) q h
 rw[Array.getElem?_append_right (show(fM (-2097152) 0).size<=q by show 10<=q;omega),aA h,show 4+q=14+(q-10)by omega];exact BL 2097152 0 32768 0 (o:=14) (.inr rfl) (q-10) U
def d_.fresh{c:aa}{v:J->aa}(h:d_ c 0 0 v)(aq:0<=c):d_ c 0 0 (dN 4 20 mD v):=by
 have e:dN 4 20 mD v=dN 14 10 (mO 2097152 0 32768 0) (dN 4 10 (mO (-2097152) 0 0 0) v):=by
  funext j
  unfold dN mD;by_cases h1:14<=j/\j<14+10
  .rw[aD h1,aD U,aA U,show j-4-10=j-14 by omega]
  rw[aA h1];by_cases h2:4<=j/\j<4+10
  .rw[aD h2,aD U,aD U]
  rw[aA h2,aA U]
 have f0:bk 0:=by unfold bk;omega
 rw[e];exact(h.BJ (.inl rfl) (-2097152) 0 0 0 fS f0 U U).BJ (.inr rfl) 2097152 0 32768 0 fS f0 U U
def d_.none{c:aa}{v:J->aa}(h:d_ c 0 0 v):d_ c 0 0 (dN 24 36 (λ_=>0) v):=h.row 24 36 _ λq a=>by
 rw[aA U];constructor
 .unfold kk;rw[aA U,aA U];split<;>omega
 unfold jE;rw[aA U,aA U,aA U];split<;>omega
def zA:a6 aw:=((range 36).map λq=>Value.int (dt (24+q)) 0).toArray
def YK:∀ q,q<36->zA[q]?=some (.int (dt (24+q)) 0):=λq a=>by simp[zA,a]
def Jb(w:ai):(Instr.build 97 #[]).run prog w=.ok (.agg zA) w:=aH
section
variable{P:Program}{o:Oper}{a:Act}{Q:Exit->Act->ai->ak}{ops:a6 Oper}{rest:ah Oper}{u:ai}{x:aw}
theorem CM{T:TypeId}(hrun:(Instr.build T #[]).run P w=.ok x u)(b:o.guard=none)(c:o.op=.build T #[])(h:wpList P ops Q rest (a.put o.dst x) u):wpList P ops Q (o :: rest) a w:=
 y1 hrun b c aI h
end
def Wq{c:aa}{bV:ai}(h:SgI w bm g bg fr c 0 0 v xs bV)(M:1<=v 3/\v 3<=600)(h2:0<=v 2/\v 2<=1073741824)(aq:0<=c):az 327 #[g] bV λe w'=>e=aV #[]/\SgI w bm g bg fr c 0 0 (kV fr (v,xs)).1 (kV fr (v,xs)).2 w':=by
 have n:bV.cell? (ad g 3 ab)=some (I (v 3)):=h.st.cell 3 U .i64 rfl;have G:bV.cell? (ad g 13 ab)=some (I (v 13)):=h.st.cell 13 U .i64 rfl;have K:bV.cell? (ad g 23 ab)=some (I (v 23)):=h.st.cell 23 U .i64 rfl;have f3:=h.st.free 3;have f:=af (h.hc 3 U .i64 rfl (v 3-1) (by show 0<=v 3-1/\v 3-1<=4294967295;omega));obtain⟨R,i⟩:∃ R,kV fr (v,xs)=R:=⟨_,rfl⟩;rw[i];unfold kV BA at i;dsimp only at i;by_cases l:1<v 3/\v 13<3/\v 23<3
 .have⟨a,b,d⟩:=l;have a':0<v 3-1:=U;rw[ed a,ed b,ed d]at i;have k:=af i;clear i h
  go_in
  go_wp2_with fail;refine cU (v:=aV #[]) jc rfl ?_;refine⟨rfl,?_⟩;rw[<-k.o];exact f.o
 have D:(¬ 1<v 3/\decide (1<v 3)=false)\/((1<v 3/\¬ v 13<3)/\decide (v 13<3)=false)\/((1<v 3/\v 13<3/\¬ v 23<3)/\decide (v 23<3)=false):=by
  simp only[sJ];omega
 have r:(dN 24 36 (λ_=>0) (dN 4 20 mD (bH (bH (bH v 3 (v 3-1)) 2 (v 2+1)) 3 600)),iv fr xs (kO 0 7 7 32768 12 0 0))=R:=by
  rw[<-i,aA];simp only[ee,gg];exact l
 have k:=af r;clear i h r l
 go_in
 rcases D with⟨a,b⟩|⟨⟨a,C⟩,b⟩|⟨⟨a,C,L⟩,b⟩
 focus
  have a':¬ 0<v 3-1:=U;go_upto_region 2 with fail
 rotate_left
 focus
  have a':0<v 3-1:=U;go_upto_region 2 with fail
 rotate_left
 focus
  have a':0<v 3-1:=U;go_upto_region 2 with fail
 all_goals
  have al:=f.out;generalize World.setCell _ _ _=an at *;clear f n G K f3;have p:bH v 3 (v 3-1) 2=v 2:=aA U;have H:an.cell? (ad g 2 ab)=some (I (v 2)):=by rw[<-p];exact al.st.cell 2 U .i64 rfl
  have f2:=al.st.free 2;have f:=af (al.hc 2 U .i64 rfl (v 2+1) (by show 0<=v 2+1/\v 2+1<=4294967295;omega));clear al;go_upto_region 3 with fail
  have al:=f.o;generalize World.setCell _ _ _=aB at *;clear f H f2 p;have n:aB.cell? (ad g 3 ab)=some (I (bH (bH v 3 (v 3-1)) 2 (v 2+1) 3)):=al.st.cell 3 U .i64 rfl;have f3:=al.st.free 3;have f:=af (al.hc 3 U .i64 rfl 600 (by show 0<=(600:aa)/\(600:aa)<=4294967295;omega));clear al;go_upto_region 4 with fail
  have al:=f.o;generalize World.setCell _ _ _=bn at *;clear f n f3;generalize bH (bH (bH v 3 (v 3-1)) 2 (v 2+1)) 3 600=N at *;go_wp2_with fail;refine(G0 _).mono ?_;rintro e O ⟨rfl,u⟩;go_wp2_with fail;refine(G1 _).mono ?_;rintro e E ⟨rfl,x⟩;have al:=(al.keep (Keeps.bE u a7)).keep (Keeps.bE x a7);obtain⟨y,m⟩:=al.row 94 4 20 _ mD sizeOf94 rfl U Qm (al.lim.fresh aq);obtain⟨z,s⟩:=m.row 97 24 36 _ _ sizeOf97 rfl U YK m.lim.none;have f:=af s;have j:=Jc;have t:=Jb;clear al m s u x;generalize fM (-2097152) 0++fM 2097152 32768=pl at *;generalize zA=S at *;go_upto_region 5 with(first|(refine su (j _) rfl rfl rfl rfl ?_)|(refine c8 y rfl rfl rfl rfl ?_)|fail)
  clear y j;generalize E.setRow _ _=F at *;go_upto_region 6 with(first|(refine CM (t _) rfl rfl ?_)|(refine c8 z rfl rfl rfl rfl ?_)|fail)
  clear z t;generalize F.setRow _ _=P at *;have j:=af (p0 f.o.st 0 7 7 32768 12 0 0 fS);go_wp2_with fail;refine j.o.mono ?_;rintro e Q ⟨rfl,q,A⟩;have B:=af (f.out.b2 q A);clear q A j f;go_wp2;go_end0;refine⟨rfl,?_⟩;rw[<-k.out];exact B.o
def SgI.XX{c:aa}{bV:ai}(h:SgI w bm g bg fr c 0 0 v xs bV)(k:J)(hk:k<6)(q:J)(a:4<=q/\q<6)(x:aa)(b:0<=x/\x<=1000):SgI w bm g bg fr c 0 0 (bH v (24+k*6+q) x) xs (bV.setCell (ad g (24+k*6+q) ab) (I x)):=by
 refine h.hc _ U _ (by rw[x6 k hk q a.2,aA U]) x ?_;rw[aA U,(oQ c 0 k hk q a.2).1,(oQ c 0 k hk q a.2).2,aA U,aA U];exact b
def SgI.Kl{c:aa}{bV:ai}(h:SgI w bm g bg fr c 0 0 v xs bV)(k:J)(hk:k<6)(q:J)(a:q<4)(x:aa)(b:bk x):SgI w bm g bg fr c 0 0 (bH v (24+k*6+q) x) xs (bV.setCell (ad g (24+k*6+q) ab) (ag x)):=by
 refine h.hc _ U _ (by rw[x6 k hk q U,aD a]) x ?_;rw[aA U,(oQ c 0 k hk q U).1,(oQ c 0 k hk q U).2,aD a,aD a];exact b
def d_.qA{c:aa}(h:d_ c 0 0 v)(k:J)(hk:k<6)(q:J)(a:q<4):bk (v (24+k*6+q)):=by
 have h1:=h (24+k*6+q) U;rw[aA U,(oQ c 0 k hk q U).1,(oQ c 0 k hk q U).2,aD a,aD a]at h1;exact h1
def Wo{c:aa}{bV:ai}(h:SgI w bm g bg fr c 0 0 v xs bV)(k:J)(hk:k<6)(TS:1<=v (24+k*6+5)/\v (24+k*6+5)<=1000)(hw:1<=v (24+k*6+4)/\v (24+k*6+4)<=2)(aR:∀ o,ej o->-50<=v (o+5))(aq:c<1000):az 326 #[g,.pointer (some (ad g (24+k*6) ab))] bV λe w'=>e=.returned (.bool (ke k fr (v,xs)).1)/\SgI w bm g bg fr (c+1) 0 0 (ke k fr (v,xs)).2.1 (ke k fr (v,xs)).2.2 w':=by
 have Y_:bV.cell? (ad g (24+k*6+5) ab)=some (I (v (24+k*6+5))):=h.cellS k hk 5 U;have f5:=h.st.free (24+k*6+5);have f:=af (h.XX k hk 5 U (v (24+k*6+5)-1) U);obtain⟨R,a⟩:∃ R,ke k fr (v,xs)=R:=⟨_,rfl⟩;rw[a];unfold ke at a;dsimp only at a;by_cases h1:v (24+k*6+5)=1
 .have T:v (24+k*6+5)-1=0:=U;rw[aD h1,T]at a;have Aw:=f.o.mono (show c<=c+1 by omega);rw[T]at Aw;subst a;have j:=af Aw
  go_in
  go_wp2_with fail;go_ret;exact⟨rfl,j.o⟩
 rw[aA h1]at a;have T:¬ v (24+k*6+5)-1=0:=U;have r:=af a;have T':=h.lim.qA k hk 0 U;have V':=h.lim.qA k hk 1 U;have Y2:=h.lim.qA k hk 2 U;have Y3:=h.lim.qA k hk 3 U;have zd:=af (t' (v (24+k*6)) (v (24+k*6+1)) (v (24+k*6+2)) (v (24+k*6+3)) T' V' Y2 Y3)
 go_in
 go_upto_region 4 with fail
 have al:=f.o;generalize World.setCell _ _ _=an at *;have⟨G,q⟩:=hj (F:=λW=>SgI w bm g bg fr c 0 0 (bH v (24+k*6+5) (v (24+k*6+5)-1)) xs W);have O:∀ x:bp G,x.to.cell? (ad g (24+k*6) ab)=some (ag (v (24+k*6))):=λx=>by
  have:=((q _).1 x.held).cellS k hk 0 U
  rwa [dX _ _ _ _ U]at this
 have P:∀ x:bp G,x.to.cell? (ad g (24+k*6+1) ab)=some (ag (v (24+k*6+1))):=λx=>by
  have:=((q _).1 x.held).cellS k hk 1 U
  rwa [dX _ _ _ _ U]at this
 have Y4:∀ x:bp G,x.to.cell? (ad g (24+k*6+2) ab)=some (ag (v (24+k*6+2))):=λx=>by
  have:=((q _).1 x.held).cellS k hk 2 U
  rwa [dX _ _ _ _ U]at this
 have Y5:∀ x:bp G,x.to.cell? (ad g (24+k*6+2+1) ab)=some (ag (v (24+k*6+3))):=λx=>by
  have:=((q _).1 x.held).cellS k hk 3 U
  rwa [dX _ _ _ _ U]at this
 have n:=(q _).2 (al.keep (Keeps.refl _ an).drew);have s:=af (λ(W W':ai) (m:G W) (aj:Below W W W')=>(q W').2 (((q W).1 m).keep (Keeps.bE aj a7)));have u:=af (λ(W:ai) (m:G W)=>(q W).1 m);go_wp2_with fail;refine cB 13 ?_;refine cC (G) (.range 10) 3 10 ?_;refine de (n) (.range 9) 1 ?_;generalize World.drew _=wd at *;refine jg 9 λK y=>?_;go_simp;refine aT (zd.o _) λaB CW=>?_;have gf:=s.o _ _ n CW;refine y _ _ (gf) ?_;have al:=u.o _ gf;clear O P Y4 Y5 n gf CW s u zd;have Y7:aB.cell? (ad g (24+k*6) ab)=_:=al.cellS k hk 0 U;have Y8:aB.cell? (ad g (24+k*6+1) ab)=_:=al.cellS k hk 1 U;have f0:=al.st.free (24+k*6);have f1:=al.st.free (24+k*6+1);have f:=af ((al.Kl k hk 0 U _ (oF (v (24+k*6)) (v (24+k*6+2)))).Kl k hk 1 U _ (oF (v (24+k*6+1)) (v (24+k*6+3))));clear al;refine cC (λW=>0<=W.heap.size) [10,11,12] 0 3 ?_;refine gZ 10 (c' _) ?_;refine gZ 11 (c' _) ?_;refine hX 12 (c' _) ?_;have al:SgI w bm g bg fr c 0 0 (gx (24+k*6) v) xs _:=f.o;generalize World.setCell (World.setCell _ _ _) _ _=bn at *;clear f Y7 Y8 f0 f1;have a1:=G3 (24+k*6) v;have g4:=a1.2.2.2 (24+k*6+4) U U U;have X:∀ o,ej o->-50<=gx (24+k*6) v (o+5):=λo d=>by
  rw[a1.2.2.2 (o+5) ov ov ov];exact aR o d
 clear a1 aR;generalize gx (24+k*6) v=V at *;have zp:=af (Cb (-4194304) (-4194304) 4194304 4194304 (V (24+k*6)) (V (24+k*6+1)));generalize iA (-4194304) (-4194304) 4194304 4194304 (V (24+k*6)) (V (24+k*6+1))=Tq at *;have⟨G,q⟩:=hj (F:=λW=>SgI w bm g bg fr c 0 0 V xs W);have O:∀ x:bp G,x.to.cell? (ad g (24+k*6) ab)=some (ag (V (24+k*6))):=λx=>((q _).1 x.held).cellS k hk 0 U;have P:∀ x:bp G,x.to.cell? (ad g (24+k*6+1) ab)=some (ag (V (24+k*6+1))):=λx=>((q _).1 x.held).cellS k hk 1 U;have n:=(q _).2 (al.keep (Keeps.refl _ bn).drew);have s:=af (λ(W W':ai) (m:G W) (aj:Below W W W')=>(q W').2 (((q W).1 m).keep (Keeps.bE aj a7)));have u:=af (λ(W:ai) (m:G W)=>(q W).1 m);clear al;go_wp2_with fail;refine cB 7 ?_;refine cC (G) (.range 7) 0 7 ?_;refine de (n) [1,2,3,4] 3 ?_;generalize World.drew _=wd at *;refine dC 0 λK y=>?_;go_simp;refine aT (A0 _) λY9 Q'=>?_;have g':=s.o _ _ n Q';refine y _ _ (g') ?_;clear y K;refine dC 5 λK y=>?_;go_simp;refine aT (zp.o _) λb St=>?_;have Y:=s.o _ _ g' St;refine y _ _ (Y) ?_;clear y K;refine hX 6 Y ?_;have al:=u.o _ Y;clear n g' Y Q' St zp s;cases Tq
 .have f:=af (al.mono (show c<=c+1 by omega));clear al O P;go_wp2_with fail;go_ret;refine⟨?_,?_⟩
  .rw[<-r.o];rfl
  rw[<-r.o];exact f.o
 have Q:b.cell? (ad g (24+k*6+4) ab)=some (I (V (24+k*6+4))):=al.cellS k hk 4 U;have a:=r.o;rw[aA (show ¬ true=false by decide)]at a;rw[g4]at Q;have D:v (24+k*6+4)=1\/v (24+k*6+4)=2:=U;clear r g4 hw TS h1 T;rcases D with D|D
 .rw[D]at Q;have au:(2-v (24+k*6+4)).toNat=1:=by rw[D];rfl
  simp only[au]at a;clear au;have ar:ej 14:=(.inr rfl);have h2:b.cell? (ad g 14 ab)=some (ag (V 14)):=al.eB ar 0 U;have lb:b.cell? (ad g (14+1) ab)=some (ag (V (14+1))):=al.eB ar 1 U;have l':b.cell? (ad g (14+2) ab)=some (ag (V (14+2))):=al.eB ar 2 U;have m':b.cell? (ad g (14+3) ab)=some (ag (V (14+3))):=al.eB ar 3 U;have ps:b.cell? (ad g (14+4) ab)=some (I (V (14+4))):=al.fK ar 4 U;have r':b.cell? (ad g (14+5) ab)=some (I (V (14+5))):=al.fK ar 5 U;have sd:b.cell? (ad g (14+6) ab)=some (I (V (14+6))):=al.fK ar 6 U;have s':b.cell? (ad g (14+7) ab)=some (I (V (14+7))):=al.fK ar 7 U;have vl:b.cell? (ad g (14+8) ab)=some (I (V (14+8))):=al.fK ar 8 U;have v':b.cell? (ad g (14+9) ab)=some (I (V (14+9))):=al.fK ar 9 U;change (if (decide (V (14+8)=0)&&kp (fx (V 14) (V (24+k*6))) (fx (V (14+1)) (V (24+k*6+1))) (ds 65536 262144))=true then(false,nK 1 fr (V,xs))else(true,V,xs))=R at a;have f:=af al;have r:=af a;clear al a;have aq:=aW b (ae #[ag (V 14),ag (V (14+1)),ag (V (14+2)),ag (V (14+3)),I (V (14+4)),I (V (14+5)),I (V (14+6)),I (V (14+7)),I (V (14+8)),I (V (14+9))] 93);have al:=f.o.keep ((a_ b).alloc (ae #[ag (V 14),ag (V (14+1)),ag (V (14+2)),ag (V (14+3)),I (V (14+4)),I (V (14+5)),I (V (14+6)),I (V (14+7)),I (V (14+8)),I (V (14+9))] 93));simp only[Nat.reduceAdd]at aq al;have H:=af aq;have j:=af al;have Z:=af X;clear aq al f X u O P;go_upto_region 9 with fail
  clear h2 lb l' m' ps r' sd s' vl v' Q;generalize b.alloc _=B at *;generalize b.heap.size=bS at *;obtain⟨l,i⟩:∃ G:ai->ak,∀ W,G W↔(SgI w bm g bg fr c 0 0 V xs W/\W.heap[bS]?=some (ae #[ag (V 14),ag (V (14+1)),ag (V (14+2)),ag (V (14+3)),I (V (14+4)),I (V (14+5)),I (V (14+6)),I (V (14+7)),I (V (14+8)),I (V (14+9))] 93 (0,0))):=⟨_,λ_=>Iff.rfl⟩;have eJ:∀ x:bp l,x.to.cell? (ad bS 0 ab)=some (ag (V 14)):=λx=>bb ((i _).1 x.held).2 rfl;have fm:∀ x:bp l,x.to.cell? (ad bS (0+1) ab)=some (ag (V (14+1))):=λx=>bb ((i _).1 x.held).2 rfl;have E:∀ x:bp l,x.to.cell? (ad bS 8 ab)=some (I (V (14+8))):=λx=>bb ((i _).1 x.held).2 rfl;have fo:∀ x:bp l,x.to.cell? (ad g (24+k*6) ab)=some (ag (V (24+k*6))):=λx=>((i _).1 x.held).1.cellS k hk 0 U;have s1:∀ x:bp l,x.to.cell? (ad g (24+k*6+1) ab)=some (ag (V (24+k*6+1))):=λx=>((i _).1 x.held).1.cellS k hk 1 U;have n:=(i B.drew).2 ⟨j.o.keep (Keeps.refl _ B).drew,(a_ B).drew.heap H.o id⟩;have s:=af (λ(W W':ai) (m:l W) (aj:Below W W W')=>(i W').2 ⟨((i W).1 m).1.keep (Keeps.bE aj a7),(Keeps.bE (S:=aG) aj a7).heap ((i W).1 m).2 id⟩);have u:=af (λ(W:ai) (m:l W)=>((i W).1 m).1);have C:=af (Ce (V (24+k*6)) (V (24+k*6+1)) 65536 (V 14) (V (14+1)) 262144 (j.o.lim.qA k hk 0 U) (j.o.lim.qA k hk 1 U) fS (j.o.lim.fix ar 0 U) (j.o.lim.fix ar 1 U) fS);generalize kp (fx (V 14) (V (24+k*6))) (fx (V (14+1)) (V (24+k*6+1))) (ds 65536 262144)=t at *;clear i;by_cases hd:V (14+8)=0
  focus
   have z:decide (V (14+8)=0)=true:=ed hd;have a:=r.o;rw[z,sz]at a;have p:=af a;clear r a;rw[hd]at E;go_wp2_with fail;refine cB 12 ?_;refine cC (l) (.range 12) 0 12 ?_;refine de (n) (.range 10) 2 ?_;generalize World.drew _=wd at *;refine dC 10 λK y=>?_;go_simp;refine aT (C.o _) λys N=>?_;have A:=s.o _ _ n N;refine y _ _ (A) ?_;clear y K;refine hX 11 A ?_;have al:=u.o _ A;clear n A N s u C eJ fm E fo s1 j;cases t
   focus
    have f:=af (al.mono (show c<=c+1 by omega));clear al;go_wp2_with fail;go_ret;refine⟨?_,?_⟩
    .rw[<-p.o];rfl
    rw[<-p.o];exact f.o
   focus
    have M:=af (show az 355 #[g,I 1] ys _ from JI al 1 U (Z.o 14 ar) aq);clear al;go_wp2_with fail;refine aT M.o λY6 L=>?_;have f:=af L;clear L M;go_wp2_with fail;go_ret;refine⟨?_,?_⟩
    .rw[<-p.o];rfl
    rw[<-p.o];exact f.o
  focus
   have z:decide (V (14+8)=0)=false:=cZ hd;have a:=r.o;rw[z,CZ]at a;have p:=af a;clear r a n C u s eJ fm E fo s1;have fv:B.cell? (ad bS 8 ab)=some (I (V (14+8))):=bb H.o rfl;have a':(V (14+8) == 0)=false:=by rw[er];exact hd
   simp only[Nat.reduceAdd]at a' fv z;go_wp2_with fail;go_quiet (fail);have f:=af ((j.o.drewN nq).mono (show c<=c+1 by omega));clear j fv;go_wp2_with fail;go_ret;refine⟨?_,?_⟩
   .rw[<-p.o];rfl
   rw[<-p.o];exact f.o
 rw[D]at Q;have au:(2-v (24+k*6+4)).toNat=0:=by rw[D];rfl
 simp only[au]at a;clear au;have ar:ej 4:=(.inl rfl);have h2:b.cell? (ad g 4 ab)=some (ag (V 4)):=al.eB ar 0 U;have lb:b.cell? (ad g (4+1) ab)=some (ag (V (4+1))):=al.eB ar 1 U;have l':b.cell? (ad g (4+2) ab)=some (ag (V (4+2))):=al.eB ar 2 U;have m':b.cell? (ad g (4+3) ab)=some (ag (V (4+3))):=al.eB ar 3 U;have ps:b.cell? (ad g (4+4) ab)=some (I (V (4+4))):=al.fK ar 4 U;have r':b.cell? (ad g (4+5) ab)=some (I (V (4+5))):=al.fK ar 5 U;have sd:b.cell? (ad g (4+6) ab)=some (I (V (4+6))):=al.fK ar 6 U;have s':b.cell? (ad g (4+7) ab)=some (I (V (4+7))):=al.fK ar 7 U;have vl:b.cell? (ad g (4+8) ab)=some (I (V (4+8))):=al.fK ar 8 U;have v':b.cell? (ad g (4+9) ab)=some (I (V (4+9))):=al.fK ar 9 U;change (if (decide (V (4+8)=0)&&kp (fx (V 4) (V (24+k*6))) (fx (V (4+1)) (V (24+k*6+1))) (ds 65536 262144))=true then(false,nK 0 fr (V,xs))else(true,V,xs))=R at a;have f:=af al;have r:=af a;clear al a;have aq:=aW b (ae #[ag (V 4),ag (V (4+1)),ag (V (4+2)),ag (V (4+3)),I (V (4+4)),I (V (4+5)),I (V (4+6)),I (V (4+7)),I (V (4+8)),I (V (4+9))] 93);have al:=f.o.keep ((a_ b).alloc (ae #[ag (V 4),ag (V (4+1)),ag (V (4+2)),ag (V (4+3)),I (V (4+4)),I (V (4+5)),I (V (4+6)),I (V (4+7)),I (V (4+8)),I (V (4+9))] 93));simp only[Nat.reduceAdd]at aq al;have H:=af aq;have j:=af al;have Z:=af X;clear aq al f X u O P;go_upto_region 9 with fail
 clear h2 lb l' m' ps r' sd s' vl v' Q;generalize b.alloc _=B at *;generalize b.heap.size=bS at *;obtain⟨l,i⟩:∃ G:ai->ak,∀ W,G W↔(SgI w bm g bg fr c 0 0 V xs W/\W.heap[bS]?=some (ae #[ag (V 4),ag (V (4+1)),ag (V (4+2)),ag (V (4+3)),I (V (4+4)),I (V (4+5)),I (V (4+6)),I (V (4+7)),I (V (4+8)),I (V (4+9))] 93 (0,0))):=⟨_,λ_=>Iff.rfl⟩;have eJ:∀ x:bp l,x.to.cell? (ad bS 0 ab)=some (ag (V 4)):=λx=>bb ((i _).1 x.held).2 rfl;have fm:∀ x:bp l,x.to.cell? (ad bS (0+1) ab)=some (ag (V (4+1))):=λx=>bb ((i _).1 x.held).2 rfl;have E:∀ x:bp l,x.to.cell? (ad bS 8 ab)=some (I (V (4+8))):=λx=>bb ((i _).1 x.held).2 rfl;have fo:∀ x:bp l,x.to.cell? (ad g (24+k*6) ab)=some (ag (V (24+k*6))):=λx=>((i _).1 x.held).1.cellS k hk 0 U;have s1:∀ x:bp l,x.to.cell? (ad g (24+k*6+1) ab)=some (ag (V (24+k*6+1))):=λx=>((i _).1 x.held).1.cellS k hk 1 U;have n:=(i B.drew).2 ⟨j.o.keep (Keeps.refl _ B).drew,(a_ B).drew.heap H.o id⟩;have s:=af (λ(W W':ai) (m:l W) (aj:Below W W W')=>(i W').2 ⟨((i W).1 m).1.keep (Keeps.bE aj a7),(Keeps.bE (S:=aG) aj a7).heap ((i W).1 m).2 id⟩);have u:=af (λ(W:ai) (m:l W)=>((i W).1 m).1);have C:=af (Ce (V (24+k*6)) (V (24+k*6+1)) 65536 (V 4) (V (4+1)) 262144 (j.o.lim.qA k hk 0 U) (j.o.lim.qA k hk 1 U) fS (j.o.lim.fix ar 0 U) (j.o.lim.fix ar 1 U) fS);generalize kp (fx (V 4) (V (24+k*6))) (fx (V (4+1)) (V (24+k*6+1))) (ds 65536 262144)=t at *;clear i;by_cases hd:V (4+8)=0
 focus
  have z:decide (V (4+8)=0)=true:=ed hd;have a:=r.o;rw[z,sz]at a;have p:=af a;clear r a;rw[hd]at E;go_wp2_with fail;refine cB 12 ?_;refine cC (l) (.range 12) 0 12 ?_;refine de (n) (.range 10) 2 ?_;generalize World.drew _=wd at *;refine dC 10 λK y=>?_;go_simp;refine aT (C.o _) λys N=>?_;have A:=s.o _ _ n N;refine y _ _ (A) ?_;clear y K;refine hX 11 A ?_;have al:=u.o _ A;clear n A N s u C eJ fm E fo s1 j;cases t
  focus
   have f:=af (al.mono (show c<=c+1 by omega));clear al;go_wp2_with fail;go_ret;refine⟨?_,?_⟩
   .rw[<-p.o];rfl
   rw[<-p.o];exact f.o
  focus
   have M:=af (show az 355 #[g,I 0] ys _ from JI al 0 U (Z.o 4 ar) aq);clear al;go_wp2_with fail;refine aT M.o λY6 L=>?_;have f:=af L;clear L M;go_wp2_with fail;go_ret;refine⟨?_,?_⟩
   .rw[<-p.o];rfl
   rw[<-p.o];exact f.o
 focus
  have z:decide (V (4+8)=0)=false:=cZ hd;have a:=r.o;rw[z,CZ]at a;have p:=af a;clear r a n C u s eJ fm E fo s1;have fv:B.cell? (ad bS 8 ab)=some (I (V (4+8))):=bb H.o rfl;have a':(V (4+8) == 0)=false:=by rw[er];exact hd
  simp only[Nat.reduceAdd]at a' fv z;go_wp2_with fail;go_quiet (fail);have f:=af ((j.o.drewN nq).mono (show c<=c+1 by omega));clear j fv;go_wp2_with fail;go_ret;refine⟨?_,?_⟩
  .rw[<-p.o];rfl
  rw[<-p.o];exact f.o
def eH(fr:aa)(xs:ah aC):ak:=fg xs/\xs.length<=64/\∀ e∈xs,fw e=true/\e.k.fr=fr
theorem Gx(xs:ah aC)(k:dp):∀ f o,nG xs k f o<o+f->l5 xs {k with cp:=nG xs k f o}=false
 | 0,o,h=>absurd h (qd _)
 | f+1,o,h=>by
  unfold nG at h⊢;split at h
  .rename_i h1;rw[aD h1];exact Gx xs k f (o+1) U
  rename_i h1;rw[aA h1];simpa using h1
def oG{fr:aa}{xs:ah aC}(h:eH fr xs)(e:aC):eH fr (iv fr xs e):=by
 have⟨h1,h2,a⟩:=h;unfold iv;split
 .exact⟨h1,h2,a⟩
 rename_i c;split
 .exact⟨h1,h2,a⟩
 rename_i au;refine⟨Hr h1 _ (Gx xs (rI fr e).k 17 0 (by show rL xs (rI fr e).k<0+17;omega)),?_,λx b=>?_⟩
 .unfold ln;rw[cx,dr,gw,gd];omega
 rcases H6 b with rfl|b
 .exact⟨I5 (by simpa using c) U,rfl⟩
 exact a x b
def Iv{fr:aa}(i:J)(b6:aa){s:(J->aa)×ah aC}(h:eH fr s.2):eH fr (jh i b6 fr s).2:=by
 have aj:eH fr (qp i fr s).2:=by
  unfold qp;dsimp only;split
  .exact h
  exact oG h _
 have h1:eH fr (j4 i b6 fr s).2:=by
  unfold j4;dsimp only;have h2:eH fr (mn i (4+i*10) fr (ek b6 4) (lK (4+i*10) b6 s.1,s.2)).2:=by
   unfold mn;split
   .show eH fr (if _ then _ else _);split
    .exact oG h _
    exact h
   exact h
  unfold oK;split
  .exact oG h2 _
  exact h2
 have a:eH fr (qJ i fr (j4 i b6 fr s)).2:=by
  show eH fr (if _ then _ else _);split
  .exact oG h1 _
  exact h1
 unfold jh;split
 .exact aj
 split
 .unfold pD;dsimp only;split
  .exact a
  split
  .exact a
  exact oG a _
 exact a
def TV{fr:aa}{s:(J->aa)×ah aC}(h:eH fr s.2):eH fr (kc fr s).2:=by
 unfold kc;split
 .exact h
 exact oG h _
def TW{fr:aa}(i:J){s:(J->aa)×ah aC}(h:eH fr s.2):eH fr (nK i fr s).2:=by
 unfold nK;dsimp only;split
 .exact oG h _
 exact oG (oG h _) _
def TX{fr:aa}(k:J){s:(J->aa)×ah aC}(h:eH fr s.2):eH fr (sa k fr s).2:=by
 have h1:eH fr (ke k fr s).2.2:=by
  unfold ke;dsimp only;split
  .exact h
  split
  .exact h
  split
  .exact TW _ h
  exact h
 unfold sa;split
 .exact h
 split
 .exact h1
 exact h1
theorem Iw{fr:aa}{s:(J->aa)×ah aC}(h:eH fr s.2):∀ k,eH fr (jj fr s k).2
 | 0=>h
 | k+1=>TX k (Iw h k)
def TY(a b:aa)(v:J->aa):eH (v 0) (mj a b v):=by
 have c:eH (v 0) ([]:ah aC):=⟨Pairwise.nil,aI,aI⟩;have h1:=Iw (TV (Iv 1 b (Iv 0 a (s:=(v,[])) c))) 6;unfold mj stepG kV;split
 .exact h1
 exact oG h1 _
def d_.tell{c:aa}{v:J->aa}(h:d_ c 0 0 v)(aq:c<=1000)(o:J)(a:o<60):(ug v o).length<=10:=by
 have h1:=h o a;have aj:-2147483648<=v o/\v o<=4294967295:=by
  have h2:-2147483648<=kk (if o=0 then 0 else 0) o:=by unfold kk;repeat' split<;>omega
  have b:jE c (if o=0 then 0 else 0) o<=4294967295:=by unfold jE;repeat' split<;>omega
  omega
 unfold ug;split
 .refine nR _ ?_;unfold fz fy;split<;>omega
 refine nR _ ?_;unfold fy;omega
theorem d_.b2{c:aa}{v:J->aa}(h:d_ c 0 0 v)(aq:c<=1000):∀ L:ah J,(∀ o∈L,o<60)->(b2 v L).length<=10*L.length
 | [],_=>by simp[Go.Proofs.YtalagblioepadaaGreatDoor.b2]
 | o :: L,a=>by
  have h1:=h.tell aq o (a o aI);have h2:=d_.b2 h aq L (λx b=>a x (by simp[b]));unfold Go.Proofs.YtalagblioepadaaGreatDoor.b2 at h2⊢;rw[iL,cx,dr];omega
def d_.pack{c:aa}{v:J->aa}(h:d_ c 0 0 v)(aq:c<=1000):(mc v).length<=100000:=by
 have h1:=h.b2 aq (kX 2) bq;have h2:=nR (fU v 6) (by have:=vg v 6;unfold fy;omega);have a:∀ j,j<=6->(qV v j).length<=60*j:=by
  intro j
  induction j with
  | zero=>intro _;simp[qV]
  | succ j f=>
   intro i;have b:=f U;have d:=h.b2 aq (r_ (24+6*j)) (by unfold r_;intro o e;simp only[e3,uz,or_false]at e;omega);have g:(r_ (24+6*j)).length=6:=rfl;unfold qV;rw[cx];split
   .simp;omega
   omega
 have b:=a 6 U;have d:(kX 2).length=24:=rfl;unfold mc;rw[cx,cx];omega
def Mid.Xk{r:aa}{f:J}{v:J->aa}(h:Mid 2 f r v)(i:f<=1000000)(k:0<=r/\r<=f):s7 v/\kZ v=true/\(mc v).length<=100000:=by
 have d:=h.lim U U;refine⟨λj g=>?_,H_ h U U,d.pack U⟩;have h1:=d j g;unfold kk jE at h1;simp only[ite_self]at h1;unfold dt;by_cases a:j=1
 .rw[aD a];subst a;exact h.f1
 rw[aA a];simp only[aA a]at h1;by_cases b:j<4
 .simp only[aD b]at h1;rw[aD b];show -9223372036854775808<=v j/\v j<=9223372036854775807;omega
 simp only[aA b]at h1;rw[aA b];by_cases c:j<24
 .simp only[aD c]at h1;rw[aD c];by_cases e:(j-4)%10<4
  .simp only[aD e]at h1;rw[aD e];exact h1
  simp only[aA e]at h1;rw[aA e];show -9223372036854775808<=v j/\v j<=9223372036854775807
  repeat' split at h1
  all_goals omega
 simp only[aA c]at h1;rw[aA c];by_cases e:(j-24)%6<4
 .simp only[aD e]at h1;rw[aD e];exact h1
 simp only[aA e]at h1;rw[aA e];show -9223372036854775808<=v j/\v j<=9223372036854775807;omega
end Go.Proofs.YtalagblioepadaaGreatDoor
