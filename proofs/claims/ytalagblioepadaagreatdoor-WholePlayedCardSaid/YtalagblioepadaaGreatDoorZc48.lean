/- The proof, part 48. -/
import Derived.Test.YtalagblioepadaaGreatDoorZc47
namespace Go.Proofs.YtalagblioepadaaGreatDoor
set_option linter.all false
open Proofs.Tryz List Go.RowKit Go.Maps
set_option maxRecDepth 100000
set_option maxHeartbeats 2000000
def LP{p:ak}(h:p:=by
 rw[Bn];unfold Go.Proofs.YtalagblioepadaaGreatDoor.fj;split
 .exact HO _ _ _
 split<;>rfl
 ):p:=h
def Md{p:ak}(h:p:=by
 rw[al]at this;exact this.mono λe w' aJ=>⟨aJ.1,PT g aJ.2⟩
 ):p:=h
def Mg{p:ak}(h:p:=by
 show cZ (p.2++kC _ _ _ _)=_;rw[vV,X6,e4]
 ):p:=h
variable{w w':ai}{k:J}{B:jE}{M:dX}{V T:J->ax}{mv:aa}{d:J->gq}{R:ah ay}
def Rg(h:cu w B M mv R)(hk:k<2)(i at' bH bz:aa)(bu bg:aa)(H:bu=6)(L:bg=k)(z:bJ)(cW:ah ca)(K:(M.st k).length+cW.length<=100000)(G:∀ W d R,ay.kinds B.o∈R->Sep W (bC (B.p k) (M.p k) d++R)->aA 38 #[.pointer (some (ad ((B.p k).p) 0 ab))] W (Fb (B.p k) z cW R)):aA 10 #[B.b,aQ #[I bu,I bg,I i,I at',aF bH,aF bz]] w (j0 B {M with p:=b2 M.p k z,st:=b2 M.st k (M.st k++cZ cW)} (wrap64 (mv+1)) cW 0 R):=by
 have r':(bu == 6)=true:=by rw[H];rfl
 have v':¬ bu<1:=U;have qY:¬ 6<bu:=U;have Q:=af G;have P:=af K;have l:=af hk;have S:=af L;clear G hk H L K;have q:(w.alloc (ae #[I bu,I bg,I i,I at',aF bH,aF bz] 40)).heap.size=w.heap.size+1:=aK;have h1:=h.push (r:=ay.bc w.heap.size (#[I bu,I bg,I i,I at',aF bH,aF bz],40)) ((ba w).alloc (ae #[I bu,I bg,I i,I at',aF bH,aF bz] 40)) (aX w _) (λj a=>gD (jT a));have h2:=h1.push (r:=ay.bc (w.heap.size+1) (cd,35)) ((ba (w.alloc (ae #[I bu,I bg,I i,I at',aF bH,aF bz] 40))).alloc (ae cd 35)) s3 (λj a=>s0);have⟨V,T,aj⟩:=h2.bc;have c5:=yi aj;have f7:=bI aj;have s':=bP aj;have s:=h2.y4 (wrap64 (mv+1));have C:=af s
 go_in
 go_upto_region 4 with fail
 generalize World.setCell (World.alloc (World.alloc w _) _) _ _=ao at *;have hd:=C.o.res (r:=ay.bc w.heap.size (#[I bu,I bg,I i,I at',aF bH,aF bz],40)) aK;have zd:=aS hd;have D:=af (tH B.b l.o ao);rw[<-S.o]at D;have hne:1-k≠k:=by have:=l.o;omega
 obtain⟨V,T,d,h1⟩:=C.o.view l.o;have ps:=pS (h1.at' 10 rfl) l.o;have gf:=af (Q.o _ _ _ (by simp[mb]) h1);go_wp2_with fail;refine bA D.o ?_;go_wp2_with fail;refine gf.o.mono ?_;rintro e bm ⟨y,rfl,Y,s⟩;obtain⟨c,g,f,rfl⟩:∃ c g f,y=aq c g f:=by
  exact NQ
 have l':=(ba bm).alloc (ae #[aq c g f,(aq none 0 0),false] 35);have Z:=(s.cons (r:=ay.none) (ba bm) (λ_ _ _ _=>id) trivial (λ_ e=>e.elim)).q1;have n:=(Z.cons (r:=ay.bc bm.heap.size (#[aq c g f,(aq none 0 0),false],35)) l' (λ_ _ _ _=>id) (aX bm _) (λj a=>gD (jT a))).iI;go_upto_region 11 with fail
 generalize vl:bm.alloc (ae #[aq c g f,(aq none 0 0),false] 35)=ys at *;generalize bm.heap.size=w' at *;have n:=n;have E:=n.perm (B4 _ _ _ _ _ _ _ _ _ _);have x:=E.at' 12 rfl;have m':=aS x;have g':=af (Cs (sd:=(aq none 0 0)) (m:=false) (yh l.out) E P.out);go_wp2_with fail;refine aU g'.o ?_;rintro N ⟨T',F⟩;rw[Bt l.out]at F;have t:=F.perm (B5 _ ([ay.row (V (1-k)) (M.bE (1-k)),ay.cR (T (1-k)) (M.st (1-k))]++bC (B.p (1-k)) (M.p (1-k)) (d (1-k))) _ _ _ _ _ _ _ _ _ _);have x:=t.at' 0 rfl;have u:=t.at' 2 rfl;have m':=aS x;have g0:=bI u;have z0:=aS u;have O:=af (jH u (aq c g f) (aq none 0 0) (.bool false));have a':=Sep.drop1 (A:=[]) t.tail.tail (jP N (w.heap.size+1) (aq c g f) (aq none 0 0) (.bool false))
 have fr:cu (((N.setCell (ad (w+1) 0 ab) (aq c g f)).setCell (ad (w+1) 1 ab) (aq none 0 0)).setCell (ad (w+1) 2 ab) (.bool false)) B {M with p:=b2 M.p k z,st:=b2 M.st k (M.st k++cZ cW)} (wrap64 (mv+1)) ([ay.cR (aq c g f) cW]++ay.bc w.heap.size (#[I bu,I bg,I i,I at',aF bH,aF bz],40) :: R):=cu.of (k:=k) (V:=V) (T:=b2 T k T') (d:=b2 d k Y) l.out (by
  unfold lv mb;simp only[je,ie _ _ hne];exact a')
 have X:=af (fr.drop (Keeps.refl (λj=>j=w) _));go_wp2_with fail;have lb:=dx _ _ _ _ O.o 3 rfl;refine dq (v:=aV #[aQ #[aq c g f,(aq none 0 0),false],I 0]) lb ?_;exact⟨_,_,_,_,_,rfl,X.o⟩
theorem fM.set{n:J}{L:ah ay}{T:J->ak}(h:fM n w L)(i:J){r r':ay}(aw:L[i]?=some r)(hk:Keeps T w w')(e:∀ b,T b->r.S b)(d:r'.P w')(an:∀ b,r'.S b->r.S b):fM n w' (L.set i r'):=
 ⟨Sep.set h.sep i aw hk (λb _=>e b) d (λb aj=>.inl (an b aj)),λx a j c=>by
  rcases w3 a with a|rfl
  .exact h.bl x a j c
  .exact h.bl r (kH aw) j (an j c)⟩
theorem fM.append{n:J}{L d:ah ay}(h:fM n w L)(hk:Keeps aI w w')(h2:fM w.heap.size w' d)(ar:n<=w.heap.size):fM n w' (d++L):=
 ⟨⟨λr c=>by
  rcases e5.1 c with c|c
  .exact h2.sep.all r c
  .exact(h.sep.keep hk).all r c,pq.2 ⟨h2.sep.apart,h.sep.apart,λa bd b aj j f g=>by
  have:=h2.bl a bd j f
  have:=h.sep.lt aj g
  omega⟩⟩,λr c j e=>by
  rcases e5.1 c with c|c
  .exact b7 ar (h2.bl r c j e)
  .exact h.bl r c j e⟩
def n_(aG:aa)(d n:J)(pat bZ:aa)(k:J):bJ:=we ⟨aG,d,n,k,λ_=>im d,0,[(0,lg aG 0)],0⟩ (b9.new ((k:aa)+1) pat d) bZ
def h5(c:J)(a b:b5 Addr):a6 ax:=#[.pointer a,aq none 0 0,aq none 0 0,.pointer b,aq none 0 0,aq none 0 0,c,I 0]
structure vo(w:ai)(aG d n pat bZ b':aa)(b:J)(L:ah ay)(W:ai):ak where
 ss:∃ aL yD,W.heap[w.heap.size]?=some (ae #[aP aG,I d,I n,aL,yD,I pat,I bZ,I b'] 26 (0,0))
 sep:fM (w.heap.size+1) W L
 jG:Below w w W
def Ri(aG d n pat bZ b' h k:aa)(B:¬ vQ d n pat bZ b')(w:ai):aA 33 #[aQ #[aP aG,I d,I n,I h,aP k,I pat,I bZ,I b']] w λe w'=>e=aV #[.pointer none,I 1]/\Below w w w':=by
 have an:=aX w (ae #[aP aG,I d,I n,I h,aP k,I pat,I bZ,I b'] 26);have E:(w.alloc (ae #[aP aG,I d,I n,I h,aP k,I pat,I bZ,I b'] 26)).heap.size=w.heap.size+1:=aK;have cb:=(b3 w.heap.size w).alloc bs (ae #[aP aG,I d,I n,I h,aP k,I pat,I bZ,I b'] 26)
 go_in
 go_wp2_with fail;generalize World.alloc w _=bk at *;refine aU (FV 64 U U bk) ?_;rintro ao ⟨al,a⟩;have q:Keeps aI bk ao:=Keeps.bD a a7;have v:=q.heap an id;have C:=a.size;have⟨c,l⟩:=cO bk.heap.size;rw[<-l]at al;have h1:fM (w.heap.size+1) ao [ay.hc c ⟨[],[],0⟩]:=(fM.nil _ bk).cons q al (λj m=>by have G:c<=j:=m.1;omega) U;have r:=(ba ao).alloc (ae (h5 c none none) 82);have h2:fM (w.heap.size+1) (ao.alloc (ae (h5 c none none) 82)) [ay.bc ao.heap.size (h5 c none none,82),ay.hc c ⟨[],[],0⟩]:=h1.cons r (aX _ _) (λj m=>gD m.symm) U
 have u:vo w aG d n pat bZ b' ao.heap.size [ay.bc ao.heap.size (h5 c none none,82),ay.hc c ⟨[],[],0⟩] (ao.alloc (ae (h5 c none none) 82)):=
  ⟨⟨_,_,r.heap v id⟩,h2,(cb.trans (a.mono U)).alloc U _⟩
 have s:=af u;clear u h2 r h1 C v q al a cb E an;rw[<-l];clear l;unfold h5 at s;go_upto_region 5 with fail
 generalize World.alloc ao _=aC at *;generalize ao.heap.size=b at *;go_wp2_with fail;go_loopg [7,8,9,20] 2 (λg _ _ _ i wr=>i=I 0/\aC=wr)
 case atStart=>exact⟨rfl,rfl⟩
 obtain⟨rfl,rfl⟩:=hrel;obtain⟨⟨aL,yD,f⟩,D,x⟩:=s.o;have gS:=aS f;have f3:=bI f;have H:=bP f;have eN:=((Keeps.refl (λj=>j=w) aC).setCell (p:=ad w 3 ab) rfl (I 0)).setCell (p:=ad w 4 ab) rfl (aP 1);have y:=bV (bV f 3 (I 0)) 4 (aP 1);simp only[c7]at y;have F:=af (D.keeps eN a7);have t:=af (x.trans (eN.below x.size a7));go_upto_region 9 with fail
 generalize World.setCell (World.setCell _ (ad w 3 ab) _) _ _=K at *;have fF:=aS y;go_wp2_with fail;refine aU ((UC aG d n 1 pat bZ b' 0 U B) _) λv2 A=>?_;have z:=af (t.o.trans (A.mono t.o.size));go_wp2_with fail;go_ret2;exact⟨rfl,z.o⟩
def t'(b c:J)(s:J->bJ)(d:gq):ah ga->ah ay
 | []=>[ay.bc b (h5 c none none,82),ay.hc c ⟨[],[],0⟩]
 | [a]=>bC a (s 0) d++[ay.bc b (h5 c (some ⟨a.p,0,none⟩) none,82),ay.hc c ⟨[],[],0⟩]
 | a :: e :: _=>bC e (s 1) d++(bC a (s 0) d++[ay.bc b (h5 c (some ⟨a.p,0,none⟩) (some ⟨e.p,0,none⟩),82),ay.hc c ⟨[],[],0⟩])
def mZ(aG:aa)(d n:J)(pat bZ:aa):dX:=⟨n_ aG d n pat bZ,λ_=>[],λ_=>[],⟨[],[],0⟩⟩
def UF(A C R:ah ay)(b e z r t r' a:ay):(r :: t :: r' :: a :: ((C++(A++[b,e]))++z :: R)).Perm (A++((z :: b :: e :: r :: t :: r' :: a :: C)++R)):=by
 have h1:((C++(A++[b,e]))++z :: R).Perm ([b,e,z]++(A++(C++R))):=by
  have c:((C++(A++[b,e]))++z :: R)=C++(A++([b,e,z]++R)):=aK;rw[c];exact(oE C A _).trans (((oE C [b,e,z] R).append_left A).trans (oE A [b,e,z] _))
 have h2:(A++((z :: b :: e :: r :: t :: r' :: a :: C)++R)).Perm ([z,b,e,r,t,r',a]++(A++(C++R))):=oE A [z,b,e,r,t,r',a] _;exact((((h1.cons a).cons r').cons t).cons r).trans ((((show([0,1,2,3,4,5,6]:ah J).Perm [6,4,5,0,1,2,3]by decide).map λi=>[r,t,r',a,b,e,z].getD i r).append_right (A++(C++R))).trans h2.symm)
def Hg{R:ah ay}{eC:Old}(v':Sep w (ay.kinds eC :: R))(aG:aa)(d n:J)(pat bZ b' K M:aa)(hd:d<=8)(ar:1<=n/\n<=16)(au:1<=pat/\pat<=10000)(he:1<=bZ/\bZ<=256)(aW:1<=b'/\b'<=16):aA 33 #[aQ #[aP aG,I d,I n,I K,aP M,I pat,I bZ,I b']] w λe w'=>
  ∃ B:jE,e=aV #[B.b,I 0]/\cu w' B (mZ aG d n pat bZ) 0 R/\B.o=eC:=by
 have P:=af v';have an:=aX w (ae #[aP aG,I d,I n,I K,aP M,I pat,I bZ,I b'] 26);have V':(w.alloc (ae #[aP aG,I d,I n,I K,aP M,I pat,I bZ,I b'] 26)).heap.size=w.heap.size+1:=aK;have cb:=(b3 w.heap.size w).alloc bs (ae #[aP aG,I d,I n,I K,aP M,I pat,I bZ,I b'] 26)
 go_in
 go_wp2_with fail;generalize World.alloc w _=bk at *;refine aU (FV 64 U U bk) ?_;rintro ao ⟨al,X⟩;have ps:Keeps aI bk ao:=Keeps.bD X a7;have ys:=ps.heap an id;have T':=X.size;have⟨c,fr⟩:=cO bk.heap.size;rw[<-fr]at al;have h1:fM (w.heap.size+1) ao [ay.hc c ⟨[],[],0⟩]:=(fM.nil _ bk).cons ps al (λj v=>by have TS:c<=j:=v.1;omega) U;have sd:=(ba ao).alloc (ae (h5 c none none) 82);have h2:fM (w.heap.size+1) (ao.alloc (ae (h5 c none none) 82)) [ay.bc ao.heap.size (h5 c none none,82),ay.hc c ⟨[],[],0⟩]:=h1.cons sd (aX _ _) (λj v=>gD v.symm) U
 have vl:vo w aG d n pat bZ b' ao.heap.size [ay.bc ao.heap.size (h5 c none none,82),ay.hc c ⟨[],[],0⟩] (ao.alloc (ae (h5 c none none) 82)):=
  ⟨⟨_,_,sd.heap ys id⟩,h2,(cb.trans (X.mono U)).alloc U _⟩
 have mv:=af vl;rw[<-fr];clear fr;unfold h5 at mv;go_upto_region 5 with fail
 generalize World.alloc ao _=aC at *;generalize ao.heap.size=b at *;go_wp2_with fail;go_loopg [7,8,9,20] 2 (λg _ _ _ i wr=>(g=2/\i=I 0/\vo w aG d n pat bZ b' b (t' b c (n_ aG d n pat bZ) (o8 b') []) wr)\/(g=1/\i=I 1/\∃ f,vo w aG d n pat bZ b' b (t' b c (n_ aG d n pat bZ) (o8 b') [f]) wr)\/(g=0/\i=I 2/\∃ f N,vo w aG d n pat bZ b' b (t' b c (n_ aG d n pat bZ) (o8 b') [f,N]) wr))
 case atStart=>exact .inl ⟨rfl,rfl,mv.o⟩
 rcases hrel with⟨rfl,rfl,z⟩|⟨rfl,rfl,f,z⟩|⟨rfl,rfl,f,N,z⟩
 .obtain⟨⟨aL,yD,t⟩,gf,C⟩:=z;have gS:=aS t;have f3:=bI t;have St:=bP t;have eN:=((Keeps.refl (λj=>j=w) wr).setCell (p:=ad w 3 ab) rfl (I 0)).setCell (p:=ad w 4 ab) rfl (aP 1);have F:=bV (bV t 3 (I 0)) 4 (aP 1);have g':=gf.keeps eN a7;have Y:=C.trans (eN.below C.size a7);simp only[c7]at F;have u:=af F;have T:=af g';have y:=af Y;go_upto_region 9 with fail
  generalize World.setCell (World.setCell _ (ad w 3 ab) _) _ _=v1 at *;have fF:=aS u.o;go_wp2_with fail;refine((Hz aG d n 0 1 pat bZ b' U hd ar au he aW) _).mono ?_;rintro e v2 ⟨l,rfl,au,A⟩;have G:Keeps aI v1 v2:=Keeps.bD A a7;have Tq:=bP u.out;have m:fM (w.heap.size+1) v2 (bC l (n_ aG d n pat bZ 0) (o8 b')++t' b c (n_ aG d n pat bZ) (o8 b') []):=T.out.append G au U;have s:v2.heap[b]?=some (ae (h5 c none none) 82 (0,0)):=m.sep.at' (9) rfl;have Aw:w.heap.size+1<=b:=m.bl (ay.bc b (h5 c none none,82)) (kH (i:=9) rfl) b rfl;have lb:=G.heap u.out id;have D:=y.out.trans (A.mono y.out.size);have bt:=aS s;have f0:=bI s;have zp:=bP s;have x:=(Keeps.refl (λj=>j=b) v2).setCell (p:=ad b 0 ab) rfl l.p;have l':=x.heap lb U;have Z:=D.trans (x.below D.size a7);have a':=bV s 0 l.p;have O:=af m;have V:=af l';have Q:=af Z;have W:=af x;have S:=af a';go_wp2_with fail;go_roundg 1
  case rel=>exact .inr (.inl ⟨rfl,by go_num,l,⟨⟨_,_,V.o⟩,O.o.set 9 (r':=ay.bc b (h5 c (some (ad l.p 0 ab)) none,82)) rfl W.o (λ_ e=>e) (by simpa[h5,ay.bc]using S.o) (λ_ e=>e),Q.o⟩⟩)
  omega
 .obtain⟨⟨aL,yD,t⟩,gf,C⟩:=z;have gS:=aS t;have f3:=bI t;have St:=bP t;have eN:=((Keeps.refl (λj=>j=w) wr).setCell (p:=ad w 3 ab) rfl (I 1)).setCell (p:=ad w 4 ab) rfl (aP 2);have F:=bV (bV t 3 (I 1)) 4 (aP 2);have g':=gf.keeps eN a7;have Y:=C.trans (eN.below C.size a7);simp only[c7]at F;have u:=af F;have T:=af g';have y:=af Y;go_upto_region 9 with fail
  generalize World.setCell (World.setCell _ (ad w 3 ab) _) _ _=v1 at *;have fF:=aS u.o;go_wp2_with fail;refine((Hz aG d n 1 2 pat bZ b' U hd ar au he aW) _).mono ?_;rintro e v2 ⟨l,rfl,au,A⟩;have G:Keeps aI v1 v2:=Keeps.bD A a7;have Tq:=bP u.out;have m:fM (w.heap.size+1) v2 (bC l (n_ aG d n pat bZ 1) (o8 b')++t' b c (n_ aG d n pat bZ) (o8 b') [f]):=T.out.append G au U;have s:v2.heap[b]?=some (ae (h5 c (some (ad f.p 0 ab)) none) 82 (0,0)):=m.sep.at' (18) rfl;have Aw:w.heap.size+1<=b:=m.bl (ay.bc b (h5 c (some (ad f.p 0 ab)) none,82)) (kH (i:=18) rfl) b rfl;have lb:=G.heap u.out id;have D:=y.out.trans (A.mono y.out.size);have bt:=aS s;have f0:=bI s;have zp:=bP s;have x:=(Keeps.refl (λj=>j=b) v2).setCell (p:=ad b 3 ab) rfl l.p;have l':=x.heap lb U;have Z:=D.trans (x.below D.size a7);have a':=bV s 3 l.p;have O:=af m;have V:=af l';have Q:=af Z;have W:=af x;have S:=af a';go_wp2_with fail;go_roundg 0
  case rel=>exact .inr (.inr ⟨rfl,by go_num,f,l,⟨⟨_,_,V.o⟩,O.o.set 18 (r':=ay.bc b (h5 c (some (ad f.p 0 ab)) (some (ad l.p 0 ab)),82)) rfl W.o (λ_ e=>e) (by simpa[h5,ay.bc]using S.o) (λ_ e=>e),Q.o⟩⟩)
  omega
 have H:=af z;go_wp2_with fail;go_ret2;have zd:=H.o.jG;have Q':Sep wr (t' b c (n_ aG d n pat bZ) (o8 b') [f,N]++ay.kinds eC :: R):=⟨λr E=>by
  rcases e5.1 E with E|E
  .exact H.out.sep.sep.all r E
  .exact(P.out.below zd).all r E,pq.2 ⟨H.out.sep.sep.apart,P.out.apart,λa bd q CW j m s'=>by
  have:=H.out.sep.bl a bd j m
  have:=P.out.lt CW s'
  omega⟩⟩
 have m':∀ {L:ah ay},Sep wr L->Sep wr (ay.row (aq none 0 0) [] :: ay.cR (aq none 0 0) [] :: L):=λh=>
  (h.cons (r:=ay.cR (aq none 0 0) []) (ba wr) (λ_ _ _ _ e=>e) (gI wr 0 _ _) (λj v=>by cases v)).cons (r:=ay.row (aq none 0 0) []) (ba wr) (λ_ _ _ _ e=>e) (gI wr 0 _ _) (λj v=>by cases v)
 exact⟨⟨eC,b,c,λk=>if k=0 then f else N⟩,rfl,⟨λ_=>(aq none 0 0),λ_=>(aq none 0 0),λ_=>o8 b',(m' (m' Q')).perm (UF _ _ _ _ _ _ _ _ _ _)⟩,rfl⟩
def Hh(h:cu w B M mv R)(hk:k<2):aA 15 #[B.b,I k] w λe w'=>e=.returned (.pointer (some (ad ((B.p k).p) 0 ab)))/\w=w':=by
 have⟨V,T,aj⟩:=h.bc;have al:=pS aj hk
 go_in
 go_wp2_with fail;refine bA (tH B.b hk w) ?_;go_wp2;go_ret;exact⟨rfl,rfl⟩
def Rh(h:cu w B M mv R)(bg:aa):aA 30 #[B.b,I bg] w λe w'=>e=.returned (I (vY M.cs bg))/\w=w':=by
 obtain⟨V,T,d,h⟩:=h;have eb:=tJ (h.at' 10 rfl)
 go_in
 go_wp2_with fail;refine bA ((OX (h.at' 11 rfl) bg)) ?_;go_wp2;go_ret;exact⟨rfl,rfl⟩
def Rj(h:cu w B M mv R)(aJ:(M.p 0).b1=false):aA 59 #[B.b] w λe w'=>e=.returned (.bool false)/\∃ q,w'=w.drewN q:=by
 obtain⟨V,T,d,h⟩:=h;have bt:=aS (h.at' 10 rfl);have a:=af (Rw h);rw[aJ]at a
 go_in
 go_wp2_with fail;go_loopg [3,4,5,6] 0 (λg _ _ _ i wr=>i=I 0/\wr=w)
 case atStart=>exact⟨rfl,rfl⟩
 obtain⟨rfl,rfl⟩:=hrel;go_wp2_with fail;refine aU a.o ?_;rintro _ ⟨q,rfl⟩;go_wp2;go_ret;exact⟨rfl,q,rfl⟩
def Yh(w:ai):aA 34 #[] w λe w'=>e=.returned (aQ #[aP 5,I 1,I 4,I 0,aP 0,I 100,I 100,I 8])/\Below w w w':=by
 go_in
 go_wp2;refine dq (v:=aQ #[aP 5,I 1,I 4,I 0,aP 0,I 100,I 100,I 8]) (dx _ _ _ _ (aX w (ae #[aP 5,I 1,I 4,I 0,aP 0,I 100,I 100,I 8] 26)) 8 rfl) ?_;exact⟨rfl,(b3 _ w).alloc bs _⟩
def Yj(aG d n pat bZ b' a b:aa)(c:¬ vQ d n pat bZ b')(w:ai):aA 9 #[aQ #[aP aG,I d,I n,I a,aP b,I pat,I bZ,I b']] w λe w'=>e=aV #[.pointer none,false]/\Below w w w':=by
 have cb:=(b3 w.heap.size w).alloc bs (ae #[aP aG,I d,I n,I a,aP b,I pat,I bZ,I b'] 26)
 go_in
 go_wp2_with fail;generalize World.alloc w _=bk at *;refine aU ((Ri aG d n pat bZ b' a b c) _) λao aj=>?_;go_wp2;go_ret2;exact⟨rfl,(cb.trans (aj.mono cb.size))⟩
def Yi{eC:Old}(g:Sep w (ay.kinds eC :: R))(aG:aa)(d n:J)(pat bZ b' a c:aa)(hd:d<=8)(ar:1<=n/\n<=16)(au:1<=pat/\pat<=10000)(i:1<=bZ/\bZ<=256)(aW:1<=b'/\b'<=16):aA 9 #[aQ #[aP aG,I d,I n,I a,aP c,I pat,I bZ,I b']] w λe w'=>
  ∃ B:jE,e=aV #[B.b,true]/\cu w' B (mZ aG d n pat bZ) 0 R/\B.o=eC:=by
 have f:=af (Hg (g.alloc (ae #[aP aG,I d,I n,I a,aP c,I pat,I bZ,I b'] 26)) aG d n pat bZ b' a c hd ar au i aW)
 go_in
 go_wp2_with fail;generalize World.alloc w _=bk at *;refine f.o.mono ?_;rintro e ao ⟨B,rfl,h,aj⟩;go_wp2;go_ret2;exact⟨B,rfl,h,aj⟩
def vV(a b:ah ca):cZ (a++b)=cZ a++cZ b:=rr ..
def H6{l:ah ca}(h:∀ c∈l,c.bL≠4):cZ l=[]:=filter_eq_nil_iff.2 λc al=>by simpa using h c al
def H4{l:ah ca}(h:∀ c∈l,c.bL=4):cZ l=l:=nA.2 λc al=>by simpa using h c al
def O2(xs L:ah aB):∀ c∈iE xs L,c.bL≠4:=λc al=>by
 obtain⟨e,_,rfl⟩:=e3.1 al;show(3:aa)≠4;omega
def X6(s:cD)(fr:aa)(xs:ah aB)(now:aa):cZ (kC s fr xs now)=[]:=H6 λc al=>by
 rcases e5.1 al with al|al
 .exact O2 _ _ c al
 obtain⟨e,_,rfl|rfl⟩:=Ks _ _ _ _ c al
 .show(2:aa)≠4;omega
 show(1:aa)≠4;omega
def R6(s:cD):cZ (kp s)=[]:=H6 λc al=>by
 unfold kp at al;split at al
 .cases al
 obtain⟨e,_,rfl⟩:=e3.1 al;show(3:aa)≠4;omega
def Bv(r:aa)(p:cl):cZ (fT r p).2=cZ p.2:=by
 unfold fT;split
 .rfl
 rw[vV,R6,e4]
def Bn(p:cl):cZ (eX p).2=cZ p.2:=by
 unfold eX;split
 .exact Bv _ _
 rfl
def HO(f v:aa)(p:cl):cZ (hB f v p).2=cZ p.2:=by
 unfold hB;split
 .split
  .rfl
  exact Bv _ _
 split<;>rfl
def Jt(f:J)(p:cl):cZ (iM f p).2=cZ p.2:=by
 unfold iM;split
 .exact HO _ _ _
 rfl
def AB(L xs:ah aB):(∀ c∈(gE L xs).2,c.bL=4)/\(gE L xs).2.map ca.cn=xs:=by
 rw[<-kI xs]
 induction xs.reverse with
 | nil=>exact⟨(λc al=>nomatch al),rfl⟩
 | cons e l a=>
  rw[l4,qM];refine⟨λc al=>?_,?_⟩
  .rcases e5.1 al with al|al
   .exact a.1 c al
   rw[fL.1 al]
  rw[jy,a.2];rfl
def jK(us:J->J->aa)(aG:aa)(n:J):ah aB:=(range n).flatMap (eM us aG)
def xW(us:J->J->aa)(aG:aa)(n:J):jK us aG (n+1)=jK us aG n++eM us aG n:=by
 unfold jK;rw[qs,ry,flatMap_singleton]
def AT{us cr:J->J->aa}(aG:aa)(n:J)(h:∀ k,k<2->∀ j,j<n->us k j=cr k j):jK us aG n=jK cr aG n:=by
 induction n with
 | zero=>simp[jK]
 | succ n b=>
  have h2:=AU aG n λk hk j a=>h k hk j U;exact(xW us aG n).trans ((congr (cV HAppend.hAppend (b λk hk j a=>h k hk j U)) h2).trans (xW cr aG n).symm)
def P8(us:J->J->aa){aG:aa}(av:0<=aG/\aG<=4294967295)(n:J):(jK us aG n).length<=64*n:=by
 induction n with
 | zero=>simp[jK]
 | succ n a=>
  rw[xW,cx]
  have:=(nX us av n).2.1
  omega
def pO(l:ah ca):ah aB:=(cZ l).map ca.cn
def Jq(s:bJ):cZ (cM s).2=[]:=by
 unfold cM;split
 .rfl
 rename_i g _;have key:∀ (L:ah (J×ah aB)) (p:cl),cZ (L.foldl (ib s.x.now) p).2=cZ p.2:=by
  intro L
  induction L with
  | nil=>intro p;rfl
  | cons e l a=>
   intro p;show cZ (l.foldl (ib s.x.now) (ib s.x.now p e)).2=_;rw[a];exact Mg
 exact key _ _
def Ky(v:aR)(p:cl):cZ (ei v p).2=cZ p.2:=by
 unfold ei;split
 .exact Mg
 rfl
theorem J8{F:J}{a_ us:J->J->aa}:∀ (n:J) {p:cl},b8 p.1 F a_ us->ha p.1 a_ us->∃ Y,pO (eA n p).2=pO p.2++Y/\jK us p.1.x.aG ((eA n p).1.ld.aN+1).toNat=jK us p.1.x.aG (p.1.ld.aN+1).toNat++Y
 | 0,p,_,_=>⟨[],by simp[eA],by simp[eA]⟩
 | n+1,p,h,ar=>by
  unfold eA;split
  .exact⟨[],aK,aK⟩
  rename_i al;have f:p.1.ld.aN<cY p.1.x:=U;obtain⟨h1,h2,b,i,j⟩:=h.eH ar f p.2;have g:ha (Go.Proofs.YtalagblioepadaaGreatDoor.eH p).1 a_ us:=by
   unfold ha bN at *;rw[h2];exact ar
  obtain⟨Y,d,a⟩:=J8 n h1 g;have au:((p.1,p.2):cl)=p:=rfl;rw[au]at h2 b;rw[au]at d a;have k:=h.aN;have l:=(h.oj ar).2;have c:=h.bW (p.1.ld.aN+1);rw[aD ⟨U,U⟩]at c;have hk:pO (Go.Proofs.YtalagblioepadaaGreatDoor.eH p).2=pO p.2++eM us p.1.x.aG (p.1.ld.aN+1).toNat:=by
   have e:cZ (Go.Proofs.YtalagblioepadaaGreatDoor.eH p).2=cZ p.2++hL p.1.ld (p.1.ld.aN+1):=by
    unfold Go.Proofs.YtalagblioepadaaGreatDoor.eH;simp only[];split
    .rw[Jt,vV];unfold hL;rw[H4 (AB _ _).1]
    rw[vV];unfold hL;rw[H4 (AB _ _).1]
   unfold pO;rw[e,jy];unfold hL;rw[(AB _ _).2,c]
  refine⟨eM us p.1.x.aG (p.1.ld.aN+1).toNat++Y,by rw[d,hk,dD],?_⟩;rw[h2]at a;rw[a,b,show(p.1.ld.aN+1+1).toNat=(p.1.ld.aN+1).toNat+1 by omega,xW,dD]
def b8.GA{s:bJ}{F:J}{a_ us:J->J->aa}(h:b8 s F a_ us)(aG:aa):jK us aG (s.ld.aN+1).toNat=jK a_ aG (s.ld.aN+1).toNat:=AT aG _ λk hk j a=>by
 have al:=h.aN;have hm:=h.aL
 have:k=s.x.aL\/k=1-s.x.aL:=U
 rcases this with rfl|rfl
 .exact h.C0 j U
 exact h.sC j (.inr U)
def Ye{s:bJ}{F:J}{a_ us:J->J->aa}(h:b8 s F a_ us)(aJ:s.b1=false)(w:s.x.now<=F+s.x.dv+1)(A:s.x.now<=100000)(v:aR)(aW:v.toNat<=63):jK a_ s.x.aG (s.ld.aN+1).toNat++pO (cA v s).2=jK (if dN s then jo s a_ v.toNat else a_) s.x.aG ((cA v s).1.ld.aN+1).toNat/\(cA v s).1.ct=s.ct/\((cA v s).1.b1=false->((cA v s).1.x.eQ:aa)<=(cA v s).1.ld.aN+1):=by
 obtain⟨cr,c,K,_,B⟩:=t_ h aJ w A v aW;have n:=c.cK;obtain⟨Y,d,l⟩:=J8 (cY (ei v (cM s)).1.x-(ei v (cM s)).1.ld.aN).toNat n c.gH;have an:=b8.settle (cY (ei v (cM s)).1.x-(ei v (cM s)).1.ld.aN).toNat n c.gH U;have m:=c.settle;have em:eA (cY (ei v (cM s)).1.x-(ei v (cM s)).1.ld.aN).toNat (ei v (cM s))=da v s:=rfl;rw[em]at d l an;have q:jr (ei v (cM s))=da v s:=rfl;rw[q]at m;obtain⟨f,a⟩:=m;have e:cA v s=kZ (da v s):=by unfold cA;rw[aJ];rfl
 have p:pO (cA v s).2=Y:=by
  rw[e];unfold pO kZ;rw[Bn];have d:=d;unfold pO at d;rw[Ky,Jq]at d;simpa using d
 obtain⟨b,g⟩:∃ b:cl,b=({(da v s).1 with x:=dV (da v s).1.x,aE:=(c1 (da v s).1.aE (h8 {(da v s).1 with x:=dV (da v s).1.x})).2},(da v s).2):=⟨_,rfl⟩;have k:cA v s=eX b:=by rw[e,g];rfl
 have⟨g1,C,r,D,E,t⟩:=rZ b;have y:(eX b).1.ct=b.1.ct:=by
  unfold eX;split
  .exact(pT 12 b).2.2.2.1
  rfl
 have⟨_,_,_,_,_,_,_,_,_,_,_,_,_,o,_⟩:=(q5 h);have z:(ei v (cM s)).1.ct=s.ct:=by
  unfold ei;split
  .exact o
  exact o
 refine⟨?_,?_,?_⟩
 .rw[p,k,r,g];rw[c.fix.aG,B]at l;rw[<-(f.cK.GA s.x.aG),l,<-h.GA]
  congr 1
  exact AT _ _ λi aw j H=>(c.IN i j (.inl (by have:=h.aN;omega))).symm
 .rw[k,y,g];exact an.2.2.2.2.1.trans z
 intro al;rw[k]at al⊢;have⟨_,u⟩:=t al;rw[u]at al⊢;rw[g]at al⊢;have a:cY (da v s).1.x=(da v s).1.ld.aN:=by
  rcases a with a|a
  .rw[al]at a;cases a
  exact a
 have gw:=f.cK.oj f.gH;have G:=f.cK.vk;show((dV (da v s).1.x).eQ:aa)<=(da v s).1.ld.aN+1;unfold dV;split
 .rw[f.cK.hy.eQ];omega
 show((cY (da v s).1.x).toNat:aa)<=_;omega
structure gY(cy:aa)(M:dX):ak where
 gF:∀ k,k<2->(M.p k).b1=false->((M.p k).x.eQ:aa)<=(M.p k).ld.aN+1
 ct:∀ k,k<2->-1000<=(M.p k).ct/\(M.p k).ct<=1000
 bL:∀ k,k<2->∀ c∈M.st k,c.bL=4
 st:∀ k,k<2->(M.st k).map ca.cn=jK (fE M.bE) cy ((M.p k).ld.aN+1).toNat
section
variable{n d w:J}{cy:aa}{M:dX}{k:J}
def gY.fQ(x:gY cy M)(h:fm n d w cy M)(ar:n<=400)(hk:k<2):(M.st k).length<=30000:=by
 have⟨F,us,A,aw⟩:=h.ps k hk;have h2:=cV length (x.st k hk);rw[gV]at h2;have av:=aw.cK.aG;rw[aw.sd]at av;have a:=P8 (fE M.bE) av ((M.p k).ld.aN+1).toNat;have b:=aw.cK.aN;have c:=aw.tZ;omega
def gY.still(x:gY cy M){s':bJ}{cW:ah ca}{g:cT}(e:s'.ld.aN=(M.p k).ld.aN)(h:s'.b1=false->(M.p k).b1=false)(i:s'.x.eQ=(M.p k).x.eQ)(l:-1000<=s'.ct/\s'.ct<=1000)(m:cZ cW=[]):gY cy {p:=b2 M.p k s',bE:=M.bE,st:=b2 M.st k (M.st k++cZ cW),cs:=g}:=by
 rw[m,e4];have f:∀ j,b2 M.st k (M.st k) j=M.st j:=λj=>by unfold b2;split;subst j;rfl;rfl
 have au:∀ j,j<2->∀ P:bJ->ak,P s'->P (M.p j)->P (b2 M.p k s' j):=λj _ P a b=>by unfold b2;split;exact a;exact b
 refine⟨λj d=>?_,λj d=>au j d (λs=>-1000<=s.ct/\s.ct<=1000) l (x.ct j d),λj d=>?_,λj d=>?_⟩
 .show(b2 M.p k s' j).b1=false->((b2 M.p k s' j).x.eQ:aa)<=(b2 M.p k s' j).ld.aN+1;unfold b2;split
  .subst j;intro c;rw[i,e];exact x.gF k d (h c)
  exact x.gF j d
 .show ∀ c∈b2 M.st k (M.st k) j,c.bL=4;rw[f];exact x.bL j d
 show(b2 M.st k (M.st k) j).map ca.cn=jK (fE M.bE) cy ((b2 M.p k s' j).ld.aN+1).toNat;rw[f,x.st j d];unfold b2;split
 .subst j;rw[e]
 rfl
def gY.tick(x:gY cy M)(h:fm n d w cy M)(ar:n<=400)(hk:k<2)(v:aR)(aW:v.toNat<=63):gY cy (gJ k v M):=by
 have⟨F,us,A,aw⟩:=h.ps k hk;have⟨z,B,N,O⟩:=two hk;by_cases aJ:(M.p k).b1=true
 .have g:cA v (M.p k)=({M.p k with aE:=(c1 (M.p k).aE 0).2},[]):=by unfold cA;rw[aD aJ]
  have s:(if dN (M.p k)then b2 M.bE k (M.bE k++[v])else M.bE)=M.bE:=by unfold dN;rw[aJ];rfl
  unfold gJ;rw[s,g];exact x.still rfl (λc=>c) rfl (x.ct k hk) rfl
 have aJ:(M.p k).b1=false:=by simpa using aJ
 have⟨f,C,D⟩:=Ye aw.cK aJ (by rw[aw.wn];exact aw.E) (by have:=aw.tZ;omega) v aW;have u:(if dN (M.p k)then jo (M.p k) (fE M.bE) v.toNat else fE M.bE)=fE (gJ k v M).bE:=by
  show _=fE (if dN (M.p k)then b2 M.bE k (M.bE k++[v])else M.bE);split
  .rw[H_];unfold jo;rw[aw.aL,aw.r7]
  rfl
 rw[u,aw.sd]at f;refine⟨λj a=>?_,λj a=>?_,λj a c al=>?_,λj a=>?_⟩
 .show(b2 M.p k _ j).b1=false->((b2 M.p k _ j).x.eQ:aa)<=(b2 M.p k _ j).ld.aN+1;unfold b2;split
  .exact D
  exact x.gF j a
 .show -1000<=(b2 M.p k _ j).ct/\(b2 M.p k _ j).ct<=1000;unfold b2;split
  .rw[C];exact x.ct k hk
  exact x.ct j a
 .have al:c∈b2 M.st k (M.st k++cZ (cA v (M.p k)).2) j:=al;unfold b2 at al;split at al
  .rcases e5.1 al with al|al
   .exact x.bL k hk c al
   unfold cZ at al;simpa using(eR.1 al).2
  exact x.bL j a c al
 show(b2 M.st k (M.st k++cZ (cA v (M.p k)).2) j).map ca.cn=jK (fE (gJ k v M).bE) cy ((b2 M.p k (cA v (M.p k)).1 j).ld.aN+1).toNat;by_cases e:j=k
 .subst j;rw[je,je,jy,x.st k hk];exact f
 rw[ie _ _ e,ie _ _ e,x.st j a];have t:j=1-k:=U;subst t;have⟨H,P,G,b⟩:=h.ps (1-k) z;refine AT cy _ λi K q L=>?_;have al:=b.cK.aN;have y:=b.uB;have o:=b.cK.ab;rw[b.r7]at o;rw[B]at y;have l:q<(M.bE i).length:=by
  have:i=k\/i=1-k:=U
  rcases this with rfl|rfl<;>omega
 have⟨r,m⟩:=A3 M k v i;unfold fE;exact LZ
def Ym(t:cc)(x:aa)(h:ic x t.data.toList.length<t.data.toList.length):ph t x 0=t:=by
 have e:sB t.data.toList x 0=t.data.toList:=by
  unfold sB;have a:∀ y:aR,lY y 0=y:=λy=>by unfold lY;simp
  rw[a,oD,gl h];exact set_getElem_self h
 unfold ph;rw[e]
def wG(s:cT)(g i:aa)(j:J):(∀ t∈(fH s g i).get j,t∈s.get j)/\((fH s g i).get j).length<=(s.get j).length:=by
 unfold fH;split
 .unfold cT.put cT.get
  split<;>split<;>first
   | exact⟨λt aO=>mem_of_mem_eraseIdx aO,length_eraseIdx_le _ _⟩
   | exact⟨λ_ h=>h,c9 _⟩
   | (rename_i a b;exact⟨λt aO=>mem_of_mem_eraseIdx aO,length_eraseIdx_le _ _⟩)
 exact⟨λ_ h=>h,c9 _⟩
def R4(h:fm n d w cy M)(ar:n<=400)(hk:k<2){t:cc}(W:t.size<=256)(aO:(∃ m,t.data.toList=dn m/\iV (w+d) (M.bE (1-k)) (bN (M.p (1-k))) m)\/(fw t.data.toList).2≠0)(aJ:(M.p k).b1=false):xq (M.p k).aE t/\((cJ (M.p k).aE t.data.toList).2.1=0->∃ F us,E8 (M.p k) t F (fE M.bE) us):=by
 have⟨F,us,A,e,H,a,o,q,K,L,r,f,bO,N,O,P⟩:=h.ps k hk;have⟨C,D,a',fr⟩:=two hk;have S:d<=8/\w<=16:=by have:=e.lB;rw[f,bO]at this;omega
 have s:=e.ab;have v:=e.p2;rw[f,o]at s;rw[bO]at v;have⟨G,mv,E,bY,bo,eo,dM,fN,eb,c5,fy,fa,d1,d2,Q,R⟩:=h.ps (1-k) C;have u:=bY.ab;have y:=bY.p2;rw[fa,dM]at u;rw[d1]at y;rw[D]at fN eb;have l:xq (M.p k).aE t:=by
  have gf:=a.dG;have g':=a.ac;have hd:=a.eY;have h2:=a.bad;have lb:=a.e8;have l':=a.dw;exact⟨U,U,U,U,U,U⟩
 refine⟨l,λz=>?_⟩;have⟨⟨T',cB,X,Y,Z,i4,i5,i6,i7,j,B⟩,V⟩:=(a.tL U (M.bE (1-k)) q U (Tq:=bN (M.p (1-k))) (c:=w+d) fN aO);have T:(cJ (M.p k).aE t.data.toList).1.a8.length=T'-bN (M.p k):=by rw[j];simp;omega
 have g:∀ i x,(cJ (M.p k).aE t.data.toList).1.a8[i]?=some x->(M.bE (1-k))[bN (M.p k)+i]?=some x:=λi x b=>by
  exact L4
 exact⟨F,us,e,aJ,l,z,λx b=>by
  obtain⟨i,aw,rfl⟩:=sQ.1 b;exact h.oa (1-k) _ (kH (g i _ (gl aw))),λi x b=>by
  rw[r];unfold fE;rw[oD,g i x b];rfl,B,U,U⟩
def HJ(s:bJ)(t:ah aR)(h:(∃ m,t=dn m/\m.wf/\di m)\/(fw t).2≠0)(d:-1000<=s.ct/\s.ct<=1000):(df t s).1.ld.aN=s.ld.aN/\((df t s).1.b1=false->s.b1=false)/\(df t s).1.x.eQ=s.x.eQ/\(-1000<=(df t s).1.ct/\(df t s).1.ct<=1000)/\cZ (df t s).2=[]:=by
 unfold df;split
 .rename_i aJ;exact⟨rfl,λc=>c,rfl,d,rfl⟩
 split
 .exact⟨rfl,λc=>c,rfl,d,rfl⟩
 rename_i aJ _;have aJ:s.b1=false:=by simpa using aJ
 obtain⟨s1,b⟩:∃ s1:bJ,s1={s with x:=fk s.x (cJ s.aE t).1.a8,aE:=(cJ s.aE t).2.2}:=⟨_,rfl⟩;rw[<-b];obtain⟨k,u,n,v⟩:=HG (cJ s.aE t).1 s1;obtain⟨g1,o,e,p,q,r⟩:=rZ (fj (cJ s.aE t).1 s1);have i:∀ (l:ah aR) (x:ck),(fk x l).eQ=x.eQ:=by
  intro l
  induction l with
  | nil=>intro x;rfl
  | cons a l j=>intro x;exact j _
 have f:-1000<=(fj (cJ s.aE t).1 s1).1.ct/\(fj (cJ s.aE t).1 s1).1.ct<=1000:=by
  unfold Go.Proofs.YtalagblioepadaaGreatDoor.fj;split
  .rw[(BA _ _ _).2.2.2.1,b];exact d
  split
  .exact R2 s.aE t h
  rw[b];exact d
 have g:(eX (fj (cJ s.aE t).1 s1)).1.ct=(fj (cJ s.aE t).1 s1).1.ct:=by
  unfold eX;split
  .exact(pT 12 _).2.2.2.1
  rfl
 refine⟨by rw[e,n,b],λ_=>aJ,by rw[g1,k,b];exact i _ _,by rw[g];exact f,?_⟩;exact LP
def Ia(s:bJ)(a:-1000<=s.ct/\s.ct<=1000):(fV s).1.ld.aN=s.ld.aN/\((fV s).1.b1=false->s.b1=false)/\(fV s).1.x.eQ=s.x.eQ/\(-1000<=(fV s).1.ct/\(fV s).1.ct<=1000)/\cZ (fV s).2=[]:=by
 unfold fV;split
 .exact⟨rfl,λc=>c,rfl,a,rfl⟩
 have⟨g1,f,b,d,g,e,h,i,j⟩:=pT 12 ({s with aE:=mc s.aE},[]);exact⟨b,λc=>absurd (e.symm.trans c) aK,by rw[g1],by rw[d];exact a,Bv _ _⟩
end
variable{W:ai}{n d w:J}{cy:aa}
inductive oN(s:bJ):bJ->ah ca->ak
 | tick (v:aR) (aW:v.toNat<=63):oN s (cA v s).1 (cA v s).2
 | tL (t:ah aR):oN s (df t s).1 (df t s).2
 | leave:oN s (fV s).1 (fV s).2
 | none:oN s s []
structure xt(M eK:dX)(bg:aa)(cW:ah ca)(b0:aa):ak where
 ex:∃ k:J,k<2/\(b0=0->bg=(k:aa))/\oN (M.p k) (eK.p k) cW/\(∀ j:J,j≠k->eK.p j=M.p j)/\(b0≠0->cW=[])/\∀ j,∀ c∈eK.st j,c∈M.st j\/j=k/\c∈cZ cW
def CY{f:J->ah ca}{j:J}{X:ah ca}:∀ c∈b2 f k (f k++X) j,c∈f j\/j=k/\c∈X:=λc h=>by
 unfold b2 at h;split at h
 .rename_i e;subst e;exact(e5.1 h).imp id λh=>⟨rfl,h⟩
 exact .inl h
def fm.hc(h:fm n d w cy M)(a:cT)(al:∀ j:J,(∀ t∈a.get j,t∈M.cs.get j)/\(a.get j).length<=(M.cs.get j).length)(b:M.cs.lost<=a.lost/\a.lost<=M.cs.lost+1):fm (n+1) d w cy {M with cs:=a}:=by
 refine⟨λk hk=>?_,h.oa,λk hk t aO=>h.vK k hk t ((al k).1 t aO),λk=>b7 (al k).2 (h.tS k),?_⟩
 .obtain⟨F,us,A,aw⟩:=h.ps k hk;exact⟨F,us,A,aw.ct hk (uQ n) rfl rfl h.oa (w4 _) bs⟩
 have:=h.lost
 show 0<=a.lost/\a.lost<=10*((n+1:J):aa);omega
def fm.up(h:fm n d w cy M):fm (n+1) d w cy M:=h.hc M.cs (λ_=>⟨λ_ h=>h,c9 _⟩) U
def gY.hc(x:gY cy M)(a:cT):gY cy {M with cs:=a}:=⟨x.gF,x.ct,x.bL,x.st⟩
def BF{s:bJ}{F:J}{a_ us:J->J->aa}(h:b8 s F a_ us):s.ld.bf.length<=256:=by
 have:=h.k5
 have:=h.most
 omega
def yj{p:cl}(h:p.1.ld.bf.length<=256)(r:aa):(fT r p).2.length<=p.2.length+256:=by
 unfold fT;split
 .omega
 rw[cx];unfold kp;split
 .simp
 rw[gV];omega
def KK(h:fm n d w cy M)(x:gY cy M)(ar:n<=400)(hk:k<2)(v:aR)(aW:v.toNat<=63)(aJ:(M.p k).b1=false):∃ F us,Ao (M.p k) v F (fE M.bE) us:=by
 have⟨F,us,A,aw⟩:=h.ps k hk;have h1:=aw.aE.ot;have h2:=aw.aE.ac;have a:=aw.aE.dw;have b:=aw.r7;have c:=aw.cK.ab;have e:=aw.cK.lB;have f:=aw.tZ;have g:=x.gF k hk aJ;have i:=aw.cK.hy.eQ;exact⟨F,us,aw.cK,aJ,by rw[aw.wn];exact aw.E,U,U,aW,x.ct k hk,U,U,(wI h ar hk v aW).bl aJ⟩
def Yd{s:bJ}{v:aR}{F:J}{a_ us:J->J->aa}(hk:Ao s v F a_ us):(cA v s).2.length<=60256:=by
 have⟨o,g,m,_,fu,h,_,_,_,n,_⟩:=q5 hk.cK;have l:bN (cM s).1=bN s:=by unfold bN fv;rw[n,h]
 have cp:ha (cM s).1 a_ o:=λj d c=>by rw[h];rw[fu]at d;rw[l]at c;exact m j d c
 have r:=hk.cK.Jp;obtain⟨y,a,_,_,t⟩:=t_ hk.cK hk.lK hk.E (b7 hk.top bq) v hk.dH;have b:=a.cK;have gw:=b.oj a.gH;have w:=Kx v g (λal=>((g.Kw cp (by rw[fu];exact hk.top) Mt v hk.dH (cM s).2) al).2.2.2.2.1);have hm:=hv.AZ (cY (ei v (cM s)).1.x-(ei v (cM s)).1.ld.aN).toNat b.y';have em:eA (cY (ei v (cM s)).1.x-(ei v (cM s)).1.ld.aN).toNat (ei v (cM s))=da v s:=rfl;rw[em]at hm;have q:=b.jk;have u:=hk.gF;have f:=(a.settle).1;have i:jr (ei v (cM s))=da v s:=rfl;rw[i]at f;have k:=BF f.cK;have e:cA v s=kZ (da v s):=by unfold cA;rw[hk.lK];rfl
 rw[e];unfold kZ eX;split
 .refine b7 (yj (p:=(_,_)) ?_ 12) ?_
  .exact k
  show(da v s).2.length+256<=_;omega
 show(da v s).2.length<=_;omega
def R0{s:bJ}{F:J}{a_ us:J->J->aa}(h:b8 s F a_ us)(t:ah aR):(df t s).2.length<=1000:=by
 unfold df;split
 .simp
 split
 .simp
 obtain⟨s1,b⟩:∃ s1:bJ,s1={s with x:=fk s.x (cJ s.aE t).1.a8,aE:=(cJ s.aE t).2.2}:=⟨_,rfl⟩;rw[<-b];have a:s1.ld.bf.length<=256:=by have:=BF h;rw[b];exact this
 have h2:(fj (cJ s.aE t).1 s1).2.length<=256/\(fj (cJ s.aE t).1 s1).1.ld.bf.length<=256:=by
  have aJ:∀ r,(fT r (s1,[])).2.length<=256/\(fT r (s1,[])).1.ld.bf.length<=256:=λr=>⟨by have:=yj (p:=(s1,[])) a r;simpa using this,by
   unfold fT;split
   .exact a
   .show(gO s1.ld).bf.length<=256;unfold gO;split
    .exact a
    .simp⟩
  unfold Go.Proofs.YtalagblioepadaaGreatDoor.fj;split
  .unfold hB;split
   .split
    .exact⟨aK,a⟩
    exact aJ _
   split<;>exact⟨aK,a⟩
  split<;>exact⟨aK,a⟩
 unfold eX;split
 .have:=yj h2.2 12
  omega
 omega
def SL{s:bJ}{F:J}{a_ us:J->J->aa}(h:b8 s F a_ us):(fV s).2.length<=256:=by
 unfold fV;split
 .simp
 have a:=BF h
 have:=yj (p:=({s with aE:=mc s.aE},[])) a 12
 simpa using this
def RE(h:fm n d w cy M)(x:gY cy M)(ar:n<=400)(hk:k<2)(v:aR)(aW:v.toNat<=63):∀ W d R,ay.kinds B.o∈R->Sep W (bC (B.p k) (M.p k) d++R)->aA 60 #[.pointer (some (ad ((B.p k).p) 0 ab)),aF v.toNat] W (xv (B.p k) (cA v (M.p k)).1 (cA v (M.p k)).2 (ff v (M.p k)) (dN (M.p k)) R):=λW d R a an=>by
 cases aJ:(M.p k).b1 with
 | true=>exact RG an aJ v aW ((wI h ar hk v aW).Ih aJ)
 | false=>
  have⟨F,us,aO⟩:=KK h x ar hk v aW aJ;exact RD a an v aO
def Rx(h:fm n d w cy M)(ar:n<=400)(hk:k<2){t:cc}(e:t.size<=256)(aO:(∃ m,t.data.toList=dn m/\iV (w+d) (M.bE (1-k)) (bN (M.p (1-k))) m)\/(fw t.data.toList).2≠0):∀ W d R,ay.kinds B.o∈R->Sep W (bC (B.p k) (M.p k) d++R)->aA 65 #[.pointer (some (ad ((B.p k).p) 0 ab)),.string t] W (vp (B.p k) (df t.data.toList (M.p k)).1 (df t.data.toList (M.p k)).2 (i' t.data.toList (M.p k)) R):=λW d R b an=>by
 cases aJ:(M.p k).b1 with
 | true=>exact Rz an aJ t
 | false=>
  have⟨h1,h2⟩:=R4 h ar hk e aO aJ;by_cases a:(cJ (M.p k).aE t.data.toList).2.1=0
  .have⟨F,us,c⟩:=h2 a;exact RA b an t c
  exact Ry an aJ t h1 _ rfl a
def HH(t:ah aR)(s:bJ)(h:i' t s≠0):(df t s).2=[]:=by
 unfold i' at h;unfold df;split
 .rfl
 rename_i aJ;rw[az aJ]at h;rw[aD h]
def pad(d:J)(M:dX):dX:={M with bE:=λk=>replicate d 0++M.bE k}
def yH(d k:J)(v:aR)(M:dX):gJ k v (pad d M)=pad d (gJ k v M):=by
 have h:(gJ k v (pad d M)).bE=(pad d (gJ k v M)).bE:=by
  funext j
  show(if dN (M.p k)then b2 (pad d M).bE k ((pad d M).bE k++[v])else(pad d M).bE) j=replicate d 0++(if dN (M.p k)then b2 M.bE k (M.bE k++[v])else M.bE) j;split
  .unfold b2;split
   .show(replicate d 0++M.bE k)++[v]=_;rw[dD]
   rfl
  rfl
 have e:pad d (gJ k v M)={gJ k v (pad d M)with bE:=(pad d (gJ k v M)).bE}:=rfl;rw[e,<-h]
def td(B:jE)(n d w:J)(cy:aa)(M:dX)(bg mv:aa)(R:ah ay)(e:Ending)(w':ai):ak:=
 ∃ eK cW b0,fm (n+1) d w cy (pad d eK)/\gY cy (pad d eK)/\xt M eK bg cW b0/\j0 B eK mv cW b0 R e w'
def Yl(m:a1)(x:aa)(a:di m):ic x (dh m).data.toList.length<(dh m).data.toList.length:=by
 have av:=rj a;have b:(dn m).length=(dh m).size:=by simp[dh,ByteArray.size]
 have⟨r,_,au⟩:=CV x (dn m).length U U;have aw:ic x (dn m).length<(dn m).length:=by
  rcases au with h|h<;>exact h.2.2
 exact aw
def PG{s:cT}{g i:aa}{v:cc}(h:fP s g i=some v):(g=0\/g=1)/\v∈s.get g:=by
 unfold fP at h;split at h
 .rename_i al;exact⟨al.1,kH h⟩
 cases h
theorem BR{W':ai}{e:Ending}(aj:fm n d w cy (pad d M))(b:gY cy (pad d M)){bg:aa}{b0:aa}(a:b0≠0\/bg=0\/bg=1)(h:j0 B M mv [] b0 R e W'):td B n d w cy M bg mv R e W':=
 ⟨M,[],b0,aj.up,b,⟨by
  rcases a with a|a|a
  .exact⟨0,U,λe=>absurd e a,.none,λ_ _=>rfl,λ_=>rfl,λ_ _=>.inl⟩
  .exact⟨0,U,λ_=>a,.none,λ_ _=>rfl,λ_=>rfl,λ_ _=>.inl⟩
  .exact⟨1,U,λ_=>a,.none,λ_ _=>rfl,λ_=>rfl,λ_ _=>.inl⟩⟩,h⟩
def Hl(h:cu W B M mv R)(aj:fm n d w cy (pad d M))(a:gY cy (pad d M))(ar:n<=400)(bu bg i at':aa)(bH:J)(bz:aR)(f:bu=1)(hk:k<2)(c:bg=k)(aW:bz.toNat<=63):aA 10 #[B.b,aQ #[I bu,I bg,I i,I at',aF bH,aF bz.toNat]] W (j0 B (gJ k bz M) (wrap64 (mv+1)) (cA bz (M.p k)).2 0 R):=by
 have aO:=wI aj ar hk bz aW;have⟨F,us,A,aw⟩:=aj.ps k hk;have t:(cA bz (M.p k)).2.length<=60256:=by
  cases aJ:(M.p k).b1 with
  | true=>unfold cA;rw[aJ];simp
  | false=>
   have⟨F,us,e⟩:=KK aj a ar hk bz aW aJ;exact Yd e
 have j:c_ (cA bz (M.p k)).1=c_ (M.p k)+if dN (M.p k)then 1 else 0:=by
  cases aJ:(M.p k).b1 with
  | true=>unfold cA dN;rw[aJ];rfl
  | false=>
   have⟨_,_,_,_,_,_,l,_⟩:=aw.cK.tick aJ (by rw[aw.wn];exact aw.E) (by have:=aw.tZ;omega) bz aW;exact l
 have g:0<=M.cs.lost/\M.cs.lost<=10*n:=aj.lost;have y:(M.st k).length<=30000:=a.fQ aj ar hk;have hm:c_ (M.p k)=(replicate d (0:aR)++M.bE k).length:=aw.r7;rw[cx]at hm;have r:(M.p k).x.now<=c_ (M.p k)/\c_ (M.p k)<=(M.p k).x.now+(M.p k).x.eF:=aw.cK.ab;have s:(M.p k).x.eF<=8/\_:=aw.cK.lB;have u:(M.p k).x.now<=n:=aw.tZ;have v:(ff bz (M.p k)).length<=10:=aO.fQ;refine Hf h hk i at' bH bz.toNat (gJ k bz M) (cA bz (M.p k)).2 0 bu bg f c λq o h2=>?_;rw[c];refine Rr h2 hk bz (RE aj a ar hk bz aW) j U U (λm hm=>?_) U U
 have:=rj (aO.snd m hm).2.1
 have g:(dn m).length=(dh m).size:=by simp[dh,ByteArray.size]
 omega
def Rp(h:cu W B M mv R)(aj:fm n d w cy (pad d M))(f:gY cy (pad d M))(ar:n<=400)(bu bg i at':aa)(bH:J)(bz:aR)(g:bu=1)(hk:k<2)(a:bg=k):aA 10 #[B.b,aQ #[I bu,I bg,I i,I at',aF bH,aF bz.toNat]] W (td B n d w cy M bg (wrap64 (mv+1)) R):=by
 by_cases aW:bz.toNat<=63
 .refine(Hl h aj f ar bu bg i at' bH bz g hk a aW).mono λe w' au=>⟨_,_,0,yH d k bz M▸aj.tick ar hk bz aW,yH d k bz M▸f.tick aj ar hk bz aW,⟨k,hk,λ_=>a,?_,λj l=>ie _ _ l,λc=>absurd rfl c,λ_=>CY⟩,au⟩;show oN (M.p k) (b2 M.p k (cA bz (M.p k)).1 k) _;rw[je];exact .tick bz aW
 refine(Hf h hk i at' bH bz.toNat M [] 1 bu bg g a λo m h2=>?_).mono λe w' au=>BR aj f (.inl U) au;rw[a];exact Rs h2 hk _ U
def Ro(h:cu W B M mv R)(aj:fm n d w cy (pad d M))(a:gY cy (pad d M))(ar:n<=400)(bu bg i at':aa)(bH:J)(bz:aR)(m:bu=6)(hk:k<2)(f:bg=k):aA 10 #[B.b,aQ #[I bu,I bg,I i,I at',aF bH,aF bz.toNat]] W (td B n d w cy M bg (wrap64 (mv+1)) R):=by
 obtain⟨F,us,A,aw⟩:=aj.ps k hk;have y:(M.st k).length<=30000:=a.fQ aj ar hk;have x:(fV (M.p k)).2.length<=256:=SL aw.cK;obtain⟨o,q,r,s,t⟩:=Ia (M.p k) (a.ct k hk);refine(Rg h hk i at' bH bz.toNat bu bg m f (fV (M.p k)).1 (fV (M.p k)).2 U λv d2 u g an=>RB g an aw.cK).mono λe w' au=>⟨{M with p:=b2 M.p k (fV (M.p k)).1,st:=b2 M.st k (M.st k++cZ (fV (M.p k)).2)},_,0,aj.goes hk (SM aj hk) _ M.cs (λ_=>⟨λ_ h=>h,c9 _⟩) ⟨jw _,by show M.cs.lost<=M.cs.lost+1;omega⟩,a.still o q r s t,⟨k,hk,λ_=>f,?_,λj l=>ie _ _ l,λc=>absurd rfl c,λ_=>CY⟩,au⟩;show oN (M.p k) (b2 M.p k (fV (M.p k)).1 k) _;rw[je];exact .leave
def Hm(h:cu W B M mv R)(aj:fm n d w cy (pad d M))(g:gY cy (pad d M))(ar:n<=400)(bu bg i at':aa)(bH:J)(bz:aR)(e:2<=bu/\bu<=5/\bu≠4)(hk:k<2)(a:bg=k)(x:cc)(cs:cT)(f:x.size<=256)(aO:(∃ m,x.data.toList=dn m/\iV (w+d) ((pad d M).bE (1-k)) (bN (M.p (1-k))) m)\/(fw x.data.toList).2≠0)(c:∀ W R,cu W B M (wrap64 (mv+1)) R->aA 64 #[B.b,aQ #[I bu,I bg,I i,I at',aF bH,aF bz.toNat]] W (nO B M (wrap64 (mv+1)) R x true cs)):aA 10 #[B.b,aQ #[I bu,I bg,I i,I at',aF bH,aF bz.toNat]] W (j0 B (yk k x cs M) (wrap64 (mv+1)) (df x.data.toList (M.p k)).2 (i' x.data.toList (M.p k)) R):=by
 have⟨F,us,A,aw⟩:=aj.ps k hk;have q:(M.st k).length<=30000:=g.fQ aj ar hk;have o:(df x.data.toList (M.p k)).2.length<=1000:=R0 aw.cK x.data.toList;exact Bi h hk i at' bH bz.toNat (yk k x cs M) (df x.data.toList (M.p k)).2 (i' x.data.toList (M.p k)) bu bg U a λl j h2=>Rm h2 hk bu i at' bH bz.toNat x cs e.2.2 _ _ _ (HH _ _) U bg a c (Rx aj ar hk f aO)
def yb(h:cu W B M mv R)(aj:fm n d w cy (pad d M))(c:gY cy (pad d M))(ar:n<=400)(bu bg i at':aa)(bH:J)(bz:aR)(q:2<=bu/\bu<=5/\bu≠4)(hk:k<2)(f:bg=k)(x:cc)(cs:cT)(l:∀ j:J,(∀ t∈cs.get j,t∈M.cs.get j)/\(cs.get j).length<=(M.cs.get j).length)(r:M.cs.lost<=cs.lost/\cs.lost<=M.cs.lost+1)(u:x.size<=256)(aO:(∃ m,x.data.toList=dn m/\iV (w+d) ((pad d M).bE (1-k)) (bN (M.p (1-k))) m)\/(fw x.data.toList).2≠0)(g:∀ W R,cu W B M (wrap64 (mv+1)) R->aA 64 #[B.b,aQ #[I bu,I bg,I i,I at',aF bH,aF bz.toNat]] W (nO B M (wrap64 (mv+1)) R x true cs)):aA 10 #[B.b,aQ #[I bu,I bg,I i,I at',aF bH,aF bz.toNat]] W (td B n d w cy M bg (wrap64 (mv+1)) R):=by
 have s:(∃ m,x.data.toList=dn m/\m.wf/\di m)\/(fw x.data.toList).2≠0:=aO.imp (λ⟨m,a,b⟩=>⟨m,a,b.1,b.2.1⟩) id;have⟨v,y,z,A,C⟩:=HJ (M.p k) x.data.toList s (c.ct k hk);refine(Hm h aj c ar bu bg i at' bH bz q hk f x cs u aO g).mono λe w' au=>⟨yk k x cs M,_,_,aj.goes hk (HK aj ar hk aO) _ cs l r,c.still v y z A C,⟨k,hk,λ_=>f,?_,λj o=>ie _ _ o,HH _ _,λ_=>CY⟩,au⟩;show oN (M.p k) (b2 M.p k (df x.data.toList (M.p k)).1 k) _;rw[je];exact .tL _
theorem ya(h:cu W B M mv R)(aj:fm n d w cy (pad d M))(f:gY cy (pad d M))(bu bg i at':aa)(bH:J)(bz:aR)(c:2<=bu/\bu<=5)(hk:k<2)(e:bg=k)(x:cc)(a:∀ W R,cu W B M (wrap64 (mv+1)) R->aA 64 #[B.b,aQ #[I bu,I bg,I i,I at',aF bH,aF bz.toNat]] W (nO B M (wrap64 (mv+1)) R x false M.cs)):aA 10 #[B.b,aQ #[I bu,I bg,I i,I at',aF bH,aF bz.toNat]] W (td B n d w cy M bg (wrap64 (mv+1)) R):=
 (Bi h hk i at' bH bz.toNat M [] 6 bu bg c e λ_ _ h2=>Rl h2 bu bg i at' bH bz.toNat x M.cs a).mono λ_ _ au=>BR aj f (.inl U) au
def PT{w w':ai}{c:J}{s:cT}(h:eS w c 64 s)(a:∃ q,w'=w.drewN q):eS w' c 64 s/\Keeps (hh c) w w':=by
 obtain⟨q,rfl⟩:=a;exact⟨h.keeps ((ba w).drewN q) (λ_ _ e=>e),((Keeps.refl (hh c) w).drewN q)⟩
def Rn(h:cu W B M mv R)(aj:fm n d w cy (pad d M))(f:gY cy (pad d M))(ar:n<=400)(bu bg i at':aa)(bH:J)(bz:aR)(t:bH<256):aA 10 #[B.b,aQ #[I bu,I bg,I i,I at',aF bH,aF bz.toNat]] W (td B n d w cy M bg (wrap64 (mv+1)) R):=by
 by_cases y:¬ (0<=bg/\bg<2)\/bu<1\/6<bu
 .exact(Rf h bu bg i at' bH bz.toNat y).mono λe w' au=>BR aj f (.inl U) au
 have⟨k,hk⟩:=l2 (show 0<=bg by omega);have c:k<2:=U;have r:∀ v,fP M.cs bg i=some v->∃ m,v=dh m/\iV (w+d) ((pad d M).bE (1-k)) (bN (M.p (1-k))) m:=λv aW=>by
  have hm:=(PG aW).2;rw[hk]at hm;exact aj.vK k c v hm
 have D:0<=M.cs.lost/\M.cs.lost<=10*n:=aj.lost;have z:bu=1\/bu=2\/bu=3\/bu=4\/bu=5\/bu=6:=U;have E:=CM M.cs bg i;rcases z with a|a|a|a|a|a
 .exact Rp h aj f ar bu bg i at' bH bz a c hk
 .cases al:fP M.cs bg i with
  | none=>
   refine ya h aj f bu bg i at' bH bz U c hk ByteArray.empty λo l h2=>?_;rw[a];refine Bj h2 bg i at' bH bz.toNat ByteArray.empty false M.cs λW g=>?_
   have:=ts g bg i
   rw[al,CN al]at this;exact this
  | some v=>
   obtain⟨m,rfl,hm⟩:=r v al;refine yb h aj f ar bu bg i at' bH bz U c hk (dh m) (fH M.cs bg i) (wG _ _ _) U (rj hm.2.1).2 (.inl ⟨m,rfl,hm⟩) λo l h2=>?_;rw[a];refine Bj h2 bg i at' bH bz.toNat (dh m) true (fH M.cs bg i) λW g=>?_
   have:=ts g bg i
   rw[al]at this;exact this
 .cases al:fP M.cs bg i with
  | none=>
   refine ya h aj f bu bg i at' bH bz U c hk ByteArray.empty λo l h2=>?_;rw[a];refine Hi h2 bg i at' bH bz.toNat ByteArray.empty false M.cs λW g=>?_
   have:=FU g bg i
   exact Md
  | some v=>
   obtain⟨m,rfl,hm⟩:=r v al;refine yb h aj f ar bu bg i at' bH bz U c hk (dh m) M.cs (λ_=>⟨λ_ h=>h,c9 _⟩) U (rj hm.2.1).2 (.inl ⟨m,rfl,hm⟩) λo l h2=>?_;rw[a];refine Hi h2 bg i at' bH bz.toNat (dh m) true M.cs λW g=>?_
   have:=FU g bg i
   exact Md
 .cases al:fP M.cs bg i with
  | none=>
   refine ya h aj f bu bg i at' bH bz U c hk ByteArray.empty λo l h2=>?_;rw[a]
   have:=Hj h2 bg i at' bH bz.toNat U
   rw[al,show lA M.cs bg i=M.cs by unfold lA;rw[al];rfl]at this;exact this
  | some v=>
   have hd:lA M.cs bg i={fH M.cs bg i with lost:=M.cs.lost+1}:=by unfold lA;rw[al];rfl
   have aZ:∀ j:J,((lA M.cs bg i).get j)=(fH M.cs bg i).get j:=λj=>by rw[hd];rfl
   refine(Bi h c i at' bH bz.toNat {M with cs:=lA M.cs bg i} [] 0 bu bg U hk λo l h2=>Rk h2 bu bg i at' bH bz.toNat ByteArray.empty (lA M.cs bg i) a λC A x=>?_).mono λe w' au=>?_
   .rw[a]
    have:=Hj x bg i at' bH bz.toNat U
    rw[al]at this;exact this
   refine⟨{M with cs:=lA M.cs bg i},[],0,aj.hc (lA M.cs bg i) (λj=>by rw[aZ];exact wG _ _ _ j) (by rw[hd];show M.cs.lost<=M.cs.lost+1/\M.cs.lost+1<=M.cs.lost+1;omega),f.hc _,⟨k,c,λ_=>hk,.none,λ_ _=>rfl,λ_=>rfl,λ_ _=>.inl⟩,au⟩
 .cases al:fP M.cs bg i with
  | none=>
   refine ya h aj f bu bg i at' bH bz U c hk ByteArray.empty λo l h2=>?_;rw[a];exact Hk h2 bg i at' bH bz.toNat ByteArray.empty false M.cs λW g=>O0 g bg i at' bH al
  | some v=>
   obtain⟨m,rfl,hm⟩:=r v al;have av:=rj hm.2.1;have q:∀ W R,cu W B M (wrap64 (mv+1)) R->aA 64 #[B.b,aQ #[I bu,I bg,I i,I at',aF bH,aF bz.toNat]] W (nO B M (wrap64 (mv+1)) R (ph (dh m) at' bH) true (fH M.cs bg i)):=λo l h2=>by
    rw[a];exact Hk h2 bg i at' bH bz.toNat _ true _ λW g=>OZ g bg i at' bH t (dh m) al av.1 av.2
   by_cases s:bH=0
   .have aO:ph (dh m) at' bH=dh m:=by rw[s];exact Ym _ _ (Yl m at' hm.2.1)
    rw[aO]at q;exact yb h aj f ar bu bg i at' bH bz U c hk (dh m) (fH M.cs bg i) (wG _ _ _) U av.2 (.inl ⟨m,rfl,hm⟩) q
   have u:=Xv m at' bH t s hm.2.1;exact yb h aj f ar bu bg i at' bH bz U c hk _ (fH M.cs bg i) (wG _ _ _) U u.2 (.inr (by rw[u.1];omega)) q
 exact Ro h aj f ar bu bg i at' bH bz a c hk
def SD(d k j:J)(M:dX)(h:∀ k,M.bE k=[]):fE (pad d M).bE k j=0:=by
 show(((replicate d 0++M.bE k).getD j 0).toNat:aa)=0;rw[h,e4,oD,DN];split<;>rfl
def II(aG:aa)(d n:J)(pat bZ:aa)(av:0<=aG/\aG<=4294967295)(hd:d<=8)(ar:1<=n/\n<=16)(au:1<=pat/\pat<=10000)(o:1<=bZ/\bZ<=256):fm 0 d n aG (pad d (mZ aG d n pat bZ))/\gY aG (pad d (mZ aG d n pat bZ)):=by
 have g:∀ k j,fE (pad d (mZ aG d n pat bZ)).bE k j=0:=λk j=>SD d k j _ λ_=>rfl;have b:∀ k,(pad d (mZ aG d n pat bZ)).bE k=replicate d 0:=λk=>e4 _;refine⟨⟨λk hk=>⟨0,λ_ _=>0,d,?_⟩,λk x l=>?_,λk _ t aO=>?_,λk=>?_,by show(0:aa)<=0/\(0:aa)<=10*((0:J):aa);omega⟩,⟨λk _ _=>by show((0:J):aa)<=-1+1;omega,λk _=>Ee,(λk _ c al=>nomatch al),λk _=>by simp[jK,pad,mZ,n_,we,cD.new]⟩⟩
 .have p:b8 (n_ aG d n pat bZ k) 0 (fE (pad d (mZ aG d n pat bZ)).bE) λ_ _=>0:=by
   refine⟨⟨rfl,?_,λj f=>?_⟩,av,hk,⟨hd,ar.1,ar.2⟩,λk j=>by rw[g];omega,λ_ _=>U,⟨c' _,by show d<=0+d;omega⟩,c' _,⟨c9 _,c' _,c' _,by show d<=0+64;omega⟩,.inl rfl,λj f=>absurd f (lp _),λj f=>?_,⟨by show(-1:aa)<=-1;omega,by show(-1:aa)<((0:J):aa);omega,by show(-1:aa)<(d:aa);omega⟩,rfl,o,Pairwise.nil,by show((0:J):aa)<=bZ;omega,λj=>?_,(λe h=>nomatch h)⟩
   .rfl
   .show im d=nY 0 0 d (fE (pad d (mZ aG d n pat bZ)).bE j) λ_=>0;have e:fE (pad d (mZ aG d n pat bZ)).bE j=λ_=>0:=by funext i;exact g j i
    rw[e];unfold im nY pX fW;rw[sl _ (c9 0)];split<;>rfl
   .have:j<0\/(j:aa)<=-1:=f
    omega
   show []=if (-1:aa)<j/\j<((0:J):aa)then _ else []
   rw[az U]
  refine⟨p,by show 0<=0+n+1;omega,?_,by rw[b,uN];rfl,by rw[b,uN];exact c9 _,c9 d,by show d<=d+(n+d);omega,rfl,rfl,rfl,rfl,λ_=>by show(0:aa)≠2;omega,c9 _⟩;rw[b];have a:(0:aa)<=0/\(0:aa)<=((0:J):aa):=U;exact⟨rfl,au,.inl rfl,a,a,a,a,a,rfl,by rw[drop_replicate,DY];rfl,by rw[uN];exact c9 _,rfl,by rw[uN];omega,(λm h=>nomatch h),c' _⟩
 .rw[b]at l;rw[eq_of_mem_replicate l];decide
 .have aO:=aO;unfold cT.get at aO;split at aO<;>cases aO
 show((⟨[],[],0⟩:cT).get (k:aa)).length<=64;unfold cT.get;split<;>simp
section
def kq{α:Type}(f:J->α->Option α):J->α->Option α
 | 0,s=>some s
 | n+1,s=>(kq f n s).bind (f n)
theorem yp{α:Type}{f:J->α->Option α}{s x:α}:∀ {n:J},kq f n s=some x->∀ i,i<n->∃ y c,kq f i s=some y/\f i y=some c/\kq f (i+1) s=some c
 | 0,_,i,aw=>by omega
 | n+1,h,i,aw=>by
  have a:(kq f n s).bind (f n)=some x:=h;cases b:kq f n s with
  | none=>rw[b]at a;cases a
  | some y=>
   by_cases e:i=n
   .subst e;rw[b]at a;exact⟨y,x,b,a,h⟩
   exact yp b i U
structure Nm where
 now:J
 dO:J
 cp:J
 fst:J
 aN:aa
 aE:b9
 rep:aY
 ct:aa
def sf(aN:aa):aY:=decide ((aN+1)%16=0)
def An(a:Nm):ak:=¬ (4<(a.now:aa)-a.cp-a.ct/\a.aE.b_%2=1)/\a.dO=a.now+1/\(a.now:aa)-(min a.dO a.cp:J)<4/\a.aN+1=(min a.cp (a.now+1):J)-1/\1<=a.cp/\(a.fst:aa)<=a.aN+1/\a.dO+2<a.fst+60/\(sf (a.aN+1)=true->a.aN=14/\a.rep=false)
instance (a:Nm):Decidable (An a):=by unfold An;infer_instance
def k4(r:aa)(a:Nm):b9:=if sf (a.aN+1)then lT (j' a.aE a.dO 0) (a.aN+2) r else j' a.aE a.dO 0
def KJ(r:aa)(a:Nm):Nm:=⟨a.now+1,a.dO+1,a.cp,(a.aN+1).toNat,a.aN+1,(c1 (k4 r a) ((a.now:aa)+1-a.cp)).2,a.rep || sf (a.aN+1),a.ct⟩
def CR(r:aa)(a:Nm):b5 (ah a1×Nm):=
 if a.aE.state=1/\An a/\(c1 (k4 r a) ((a.now:aa)+1-a.cp)).2.state=1 then some ((c1 (k4 r a) ((a.now:aa)+1-a.cp)).1,KJ r a)
 else if a.aE.state=0/\a.now=0/\a.dO=1/\a.cp=1/\a.fst=0/\a.aN=-1/\(c1 a.aE (-1)).2.state=0 then some ((c1 a.aE (-1)).1,{a with aE:=(c1 a.aE (-1)).2})
 else none
def pV(l:b9)(m:a1):bG×aa×b9:=
 if (cP {l with heard:=l.b_} m).2.1 then((cP {l with heard:=l.b_} m).1,0,{(cP {l with heard:=l.b_} m).2.2 with eY:=(cP {l with heard:=l.b_} m).2.2.eY+1})
 else(bG.zero,0,{(cP {l with heard:=l.b_} m).2.2 with e8:=(cP {l with heard:=l.b_} m).2.2.e8+1})
def R3(l:b9)(m:a1)(av:l.state≠2)(hm:m.wf/\di m):cJ l (dn m)=pV l m:=by
 unfold cJ;rw[az av,CX m hm.2 hm.1];rfl
def r0(a:Nm)(m:a1):b5 Nm:=
 let r:=pV a.aE m
 if a.aE.state≠2/\r.2.2.state≠2/\r.1.a8.all (· == 0)=true/\a.cp+r.1.a8.length<=a.fst+60/\(r.1.kind=4->a.rep=true/\r.1.frame=16)then
  some {a with aE:=r.2.2,cp:=a.cp+r.1.a8.length,ct:=if r.1.kind=6 then r.1.lead else a.ct}
 else none
structure Aw where
 p:Nm
 q:Nm
 f:ah a1
 g:ah a1
 n:J
namespace Aw
def P(s:Aw)(k:J):Nm:=if k=0 then s.p else s.q
def F(s:Aw)(k:J):ah a1:=if k=0 then s.f else s.g
def lS(s:Aw)(k:J)(a:Nm):Aw:=if k=0 then {s with p:=a}else {s with q:=a}
def lQ(s:Aw)(k:J)(l:ah a1):Aw:=if k=0 then {s with f:=l}else {s with g:=l}
def up(s:Aw)(n:J):Aw:={s with n:=n}
end Aw
def rk(r:aa)(k:J)(s:Aw):b5 Aw:=match CR r (s.P k)with
 | some (b,a)=>if s.n<400/\(s.F (1-k)).length+b.length<=60 then some (((s.lS k a).lQ (1-k) (s.F (1-k)++b)).up (s.n+1))else none
 | none=>none
def r1:J->Nm->ah a1->b5 (J×Nm)
 | n,a,[]=>some (n,a)
 | n,a,m :: l=>match r0 a m with
  | some a'=>if n<400 then r1 (n+1) a' l else none
  | none=>none
def wF(k:J)(s:Aw):b5 Aw:=match r1 s.n (s.P k) (s.F k)with
 | some (n,a)=>some (((s.lS k a).lQ k []).up n)
 | none=>none
def VI(r:aa)(s:Aw):b5 Aw:=(kq (rk r) 2 s).bind (kq wF 2)
def runN(r:aa)(n:J)(s:Aw):b5 Aw:=kq (λ_=>VI r) n s
def Nm.new(k:J):Nm:=⟨0,1,1,0,-1,b9.new ((k:aa)+1) 100 1,false,0⟩
def tm:Aw:=⟨Nm.new 0,Nm.new 1,[],[],0⟩
def VQ(r:aa):∃ s,runN r 20 tm=some s/\3<s.p.now/\1<s.q.aN:=by
 have h:(λr=>match runN r 20 tm with|some s=>decide (3<s.p.now/\1<s.q.aN)|none=>false)=λ_=>true:=by kernel_rfl
 have h:=congrFun h r;cases a:runN r 20 tm with
 | none=>
  rw[a]at h;cases h
 | some s=>
  rw[a]at h;exact⟨s,rfl,rG h⟩
def R5{n:J}{a:Nm}{x:J×Nm}{m:a1}{l:ah a1}(h:r1 n a (m :: l)=some x):∃ a',r0 a m=some a'/\n<400/\r1 (n+1) a' l=some x:=by
 have b:(match r0 a m with|some a'=>if n<400 then r1 (n+1) a' l else none|none=>none)=some x:=h;split at b
 .rename_i a' e;split at b
  .rename_i ar;exact⟨a',e,ar,b⟩
  cases b
 cases b
def lZ:J->J->aa:=hj (λ_ _=>0) 5
def pQ(f dG now:J):Fd:=⟨f,dG,0,fW f dG,fW f now⟩
def fi(k:J)(a:Nm):ck:=⟨5,1,4,k,λj=>if j<2 then pQ a.fst (if j=k then a.dO else a.cp) a.now else im 1,a.fst,ez lZ a.fst (a.now+1),a.now⟩
def xP{x y:ck}(g:x.f=y.f)(e:x.L=y.L)(h1:x.aG=y.aG)(h2:x.eF=y.eF)(a:x.dv=y.dv)(b:x.aL=y.aL)(c:x.eQ=y.eQ)(d:x.now=y.now):x=y:=by
 obtain⟨h,i,j,k,l,m,n,o⟩:=x;obtain⟨bO,p,q,r,s,t,u,v⟩:=y;subst g e h1 h2 a b c d;rfl
section
variable{k:J}(hk:k<2)(a:Nm)
theorem qN{j:J}(b:j<2):(fi k a).f j=pQ a.fst (if j=k then a.dO else a.cp) a.now:=aD b
include hk
theorem Pk:(fi k a).f k=pQ a.fst a.dO a.now:=by rw[qN a hk,aD rfl]
theorem AE:(fi k a).f (1-k)=pQ a.fst a.cp a.now:=by rw[qN a U,az U]
theorem Gd:kW (fi k a)=min a.dO a.cp:=by
 unfold kW;rw[qN a U,qN a U]
 have:k=0\/k=1:=U
 rcases this with rfl|rfl
 .rw[aD rfl,az U];rfl
 rw[az U,aD rfl];exact Nat.min_comm _ _
theorem Ln:fJ (fi k a)=none:=by
 unfold fJ fv;rw[show(fi k a).aL=k from rfl,AE hk a];exact Di _ _ _ _
theorem Cy:cY (fi k a)=((min (min a.dO a.cp) a.now:J):aa)-1:=by
 unfold cY;rw[Ln hk a,Gd hk a];rfl
omit hk in
theorem IK(f n j:J):oq (fW f n) j 0=0:=by
 unfold oq fW;rw[qb];split<;>rfl
theorem I_{j:J}(d:j<2)(a':Nm)(e:a'=if j=k then {a with dO:=a.dO+1}else {a with cp:=a.cp+1})(h:a.fst<=if j=k then a.dO else a.cp):gx (fi k a) j 0=fi k a':=by
 subst e;have h2:(if j=k then {a with dO:=a.dO+1}else {a with cp:=a.cp+1}:Nm).fst=a.fst/\(if j=k then {a with dO:=a.dO+1}else {a with cp:=a.cp+1}:Nm).now=a.now:=by split<;>exact⟨rfl,rfl⟩
 refine xP ?_ (by show ez lZ a.fst (a.now+1)=ez lZ _ (_+1);rw[h2.1,h2.2]) rfl rfl rfl rfl h2.1.symm h2.2.symm
 funext i
 show eP (fi k a).f j _ i=if i<2 then pQ _ _ _ else im 1
 rw[h2.1,h2.2];unfold eP;by_cases e:i=j
 .subst e;rw[aD rfl,aD d,qN a d];show(⟨a.fst,(if i=k then a.dO else a.cp)+1,0,e7 (fW a.fst (if i=k then a.dO else a.cp)) (if i=k then a.dO else a.cp) 0,fW a.fst a.now⟩:Fd)=_;rw[show e7 (fW a.fst (if i=k then a.dO else a.cp)) (if i=k then a.dO else a.cp) 0=fW a.fst ((if i=k then a.dO else a.cp)+1)from wz (λ_=>(0:aa)) h];split<;>rfl
 rw[az e];show(if i<2 then pQ a.fst (if i=k then a.dO else a.cp) a.now else im 1)=_;by_cases b:i<2
 .rw[aD b,aD b]
  congr 1
  by_cases c:j=k
  .rw[aD c,az U,az U]
  rw[az c,aD U,aD U]
 rw[az b,az b]
theorem HU:∀ (l:ah aR) (a:Nm),a.fst<=a.cp->(∀ x∈l,x=0)->fk (fi k a) l=fi k {a with cp:=a.cp+l.length}
 | [],a,_,_=>rfl
 | x :: l,a,h,b=>by
  have e:=b x mI;subst e;show fk (gx (fi k a) (1-k) 0) l=_;rw[I_ hk a U {a with cp:=a.cp+1} (by rw[az U]) (by rw[az U];exact h),HU l {a with cp:=a.cp+1} (by show a.fst<=a.cp+1;omega) λy c=>b y (kg _ c)];rw[Nat.add_right_comm];rfl
omit hk in
theorem Ko{n:J}(h:a.fst<=n)(ar:n<=a.now):gU (fi k a) n=lZ n:=by
 show(gQ (ez lZ a.fst (a.now+1)) (n:aa)).getD cf=_;rw[JY,aD U];rfl
omit hk in
theorem XL(h:a.fst<=a.now)(e:a.now<a.fst+64):{jd (fi k a) a.now with now:=a.now+1}=fi k {a with now:=a.now+1}:=by
 have c:∀ j,j<2->dA (fi k a) a.now j=0:=λj d=>by
  unfold dA;rw[qN a d];exact IK _ _ _
 refine xP ?_ ?_ rfl rfl rfl rfl rfl rfl
 .funext j
  show(if j<2 then pg ((fi k a).f j) a.now else(fi k a).f j)=(if j<2 then pQ a.fst (if j=k then a.dO else a.cp) (a.now+1)else im 1);by_cases b:j<2
  .rw[aD b,aD b,qN a b];generalize (if j=k then a.dO else a.cp)=n;show(⟨a.fst,n,0,fW a.fst n,sw a.fst (fW a.fst a.now) a.now (oq (fW a.fst n) a.now 0)⟩:Fd)=⟨a.fst,n,0,fW a.fst n,fW a.fst (a.now+1)⟩;rw[IK];unfold sw;rw[aD e,show e7 (fW a.fst a.now) a.now 0=fW a.fst (a.now+1)from wz (λ_=>(0:aa)) h]
  rw[az b,az b];exact az b
 show e7 (ez lZ a.fst (a.now+1)) (a.now+1) (ix (dA (fi k a) a.now 0) (dA (fi k a) a.now 1) (gU (fi k a) a.now))=ez lZ a.fst (a.now+1+1);rw[c 0 U,c 1 U,Ko a h bs];exact wz lZ U
omit hk in
theorem PI(m:J)(h:a.fst<=m)(d:m<=a.dO)(h1:m<=a.cp)(ar:m<=a.now):rU (fi k a) m=fi k {a with fst:=m}:=by
 refine xP ?_ ?_ rfl rfl rfl rfl rfl rfl
 .funext j
  show(if j<2 then oX ((fi k a).f j) m else(fi k a).f j)=(if j<2 then pQ m (if j=k then a.dO else a.cp) a.now else im 1);by_cases b:j<2
  .rw[aD b,aD b,qN a b];have c:m<=(if j=k then a.dO else a.cp):=by split<;>assumption
   generalize (if j=k then a.dO else a.cp)=n at *;show(⟨m,n,0,me m (fW a.fst n),me m (fW a.fst a.now)⟩:Fd)=⟨m,n,0,fW m n,fW m a.now⟩;rw[show me m (fW a.fst n)=fW m n from uq _ h c,show me m (fW a.fst a.now)=fW m a.now from uq _ h ar]
  rw[az b,az b];exact az b
 exact uq _ h U
end
end
end Go.Proofs.YtalagblioepadaaGreatDoor
