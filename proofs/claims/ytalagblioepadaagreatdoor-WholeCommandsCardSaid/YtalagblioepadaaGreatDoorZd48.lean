/- The proof, part 48. -/
import Derived.Test.YtalagblioepadaaGreatDoorZd47
namespace Go.Proofs.YtalagblioepadaaGreatDoor
set_option linter.all false
open Proofs.Tryz List Go.RowKit Go.Maps
set_option maxRecDepth 100000
set_option maxHeartbeats 2000000
def MT{p:al}(h:p:=by
 rw[an]at this;exact this.mono λe w' aS=>⟨aS.1,QA g aS.2⟩
 ):p:=h
def MW{p:al}(h:p:=by
 show dm (p.2++kS _ _ _ _)=_;rw[yH,YQ,eB]
 ):p:=h
variable{w w':aj}{k:J}{B:jB}{M:dV}{V T:J->ay}{bk:aa}{d:J->gG}{R:ah az}
def R0(h:cl w B M bk R)(hk:k<2)(i at' bO bF:aa)(bA bj:aa)(H:bA=6)(L:bj=k)(z:bM)(c0:ah bI)(K:(M.st k).length+c0.length<=100000)(G:∀ W d R,az.kinds B.o∈R->Sep W (bH (B.p k) (M.p k) d++R)->aA 38 #[.pointer (some (ae ((B.p k).p) 0 ad))] W (FM (B.p k) z c0 R)):aA 10 #[B.b,aL #[I bA,I bj,I i,I at',aH bO,aH bF]] w (kf B {M with p:=bZ M.p k z,st:=bZ M.st k (M.st k++dm c0)} (wrap64 (bk+1)) c0 0 R):=by
 have ps:(bA == 6)=true:=by rw[H];rfl
 have vl:¬ bA<1:=U;have rf:¬ 6<bA:=U;have Q:=ag G;have P:=ag K;have l:=ag hk;have S:=ag L;clear G hk H L K;have q:(w.alloc (af #[I bA,I bj,I i,I at',aH bO,aH bF] 40)).heap.size=w.heap.size+1:=aM;have h1:=h.push (r:=az.bd w.heap.size (#[I bA,I bj,I i,I at',aH bO,aH bF],40)) ((bb w).alloc (af #[I bA,I bj,I i,I at',aH bO,aH bF] 40)) (aX w _) (λj a=>gD (jM a));have h2:=h1.push (r:=az.bd (w.heap.size+1) (cj,35)) ((bb (w.alloc (af #[I bA,I bj,I i,I at',aH bO,aH bF] 40))).alloc (af cj 35)) tj (λj a=>ti);have⟨V,T,ak⟩:=h2.bd;have c2:=yA ak;have f7:=bP ak;have r':=bT ak;have s:=h2.zm (wrap64 (bk+1));have C:=ag s
 go_in
 go_upto_region 4 with fail
 generalize World.setCell (World.alloc (World.alloc w _) _) _ _=ao at *;have g':=C.o.res (r:=az.bd w.heap.size (#[I bA,I bj,I i,I at',aH bO,aH bF],40)) aM;have ys:=aO g';have D:=ag (wa B.b l.o ao);rw[<-S.o]at D;have hne:1-k≠k:=by have:=l.o;omega
 obtain⟨V,T,d,h1⟩:=C.o.view l.o;have m':=qa (h1.at' 10 rfl) l.o;have fr:=ag (Q.o _ _ _ (by simp[lN]) h1);go_wp2_with fail;refine bE D.o ?_;go_wp2_with fail;refine fr.o.mono ?_;rintro e bq ⟨y,rfl,Y,s⟩;obtain⟨c,g,f,rfl⟩:∃ c g f,y=aq c g f:=by
  exact OB
 have lb:=(bb bq).alloc (af #[aq c g f,(aq none 0 0),false] 35);have Z:=(s.cons (r:=az.none) (bb bq) (λ_ _ _ _=>id) trivial (λ_ e=>e.elim)).rj;have n:=(Z.cons (r:=az.bd bq.heap.size (#[aq c g f,(aq none 0 0),false],35)) lb (λ_ _ _ _=>id) (aX bq _) (λj a=>gD (jM a))).iY;go_upto_region 11 with fail
 generalize s':bq.alloc (af #[aq c g f,(aq none 0 0),false] 35)=w' at *;generalize bq.heap.size=v' at *;have n:=n;have E:=n.perm (Cy _ _ _ _ _ _ _ _ _ _);have x:=E.at' 12 rfl;have l':=aO x;have gf:=ag (CZ (sd:=(aq none 0 0)) (m:=false) (BY l.out) E P.out);go_wp2_with fail;refine aW gf.o ?_;rintro N ⟨T',F⟩;rw[BZ l.out]at F;have t:=F.perm (Cz _ ([az.row (V (1-k)) (M.bG (1-k)),az.cF (T (1-k)) (M.st (1-k))]++bH (B.p (1-k)) (M.p (1-k)) (d (1-k))) _ _ _ _ _ _ _ _ _ _);have x:=t.at' 0 rfl;have u:=t.at' 2 rfl;have l':=aO x;have g0:=bP u;have z0:=aO u;have O:=ag (jV u (aq c g f) (aq none 0 0) (.bool false));have ab:=Sep.drop1 (A:=[]) t.tail.tail (j5 N (w.heap.size+1) (aq c g f) (aq none 0 0) (.bool false))
 have a':cl (((N.setCell (ae (w+1) 0 ad) (aq c g f)).setCell (ae (w+1) 1 ad) (aq none 0 0)).setCell (ae (w+1) 2 ad) (.bool false)) B {M with p:=bZ M.p k z,st:=bZ M.st k (M.st k++dm c0)} (wrap64 (bk+1)) ([az.cF (aq c g f) c0]++az.bd w.heap.size (#[I bA,I bj,I i,I at',aH bO,aH bF],40) :: R):=cl.of (k:=k) (V:=V) (T:=bZ T k T') (d:=bZ d k Y) l.out (by
  unfold lO lN;simp only[iB,hB _ _ hne];exact ab)
 have X:=ag (a'.drop (Keeps.refl (λj=>j=w) _));go_wp2_with fail;have hd:=dF _ _ _ _ O.o 3 rfl;refine dx (v:=aY #[aL #[aq c g f,(aq none 0 0),false],I 0]) hd ?_;exact⟨_,_,_,_,_,rfl,X.o⟩
theorem fU.set{n:J}{L:ah az}{T:J->al}(h:fU n w L)(i:J){r r':az}(ax:L[i]?=some r)(hk:Keeps T w w')(e:∀ b,T b->r.S b)(d:r'.P w')(ar:∀ b,r'.S b->r.S b):fU n w' (L.set i r'):=
 ⟨Sep.set h.sep i ax hk (λb _=>e b) d (λb ak=>.inl (ar b ak)),λx a j c=>by
  rcases xk a with a|rfl
  .exact h.bo x a j c
  .exact h.bo r (kX ax) j (ar j c)⟩
theorem fU.append{n:J}{L d:ah az}(h:fU n w L)(hk:Keeps aG w w')(h2:fU w.heap.size w' d)(av:n<=w.heap.size):fU n w' (d++L):=
 ⟨⟨λr c=>by
  rcases eJ.1 c with c|c
  .exact h2.sep.all r c
  .exact(h.sep.keep hk).all r c,pJ.2 ⟨h2.sep.apart,h.sep.apart,λa bh b ak j f g=>by
  have:=h2.bo a bh j f
  have:=h.sep.lt ak g
  omega⟩⟩,λr c j e=>by
  rcases eJ.1 c with c|c
  .exact ca av (h2.bo r c j e)
  .exact h.bo r c j e⟩
def oz(aJ:aa)(d n:J)(pat bU:aa)(k:J):bM:=wB ⟨aJ,d,n,k,λ_=>iF d,0,[(0,lz aJ 0)],0⟩ (cd.new ((k:aa)+1) pat d) bU
def il(c:J)(a b:b_ Addr):a7 ay:=#[.pointer a,aq none 0 0,aq none 0 0,.pointer b,aq none 0 0,aq none 0 0,c,I 0]
structure vE(w:aj)(aJ d n pat bU cb:aa)(b:J)(L:ah az)(W:aj):al where
 kt:∃ aN yV,W.heap[w.heap.size]?=some (af #[aR aJ,I d,I n,aN,yV,I pat,I bU,I cb] 26 (0,0))
 sep:fU (w.heap.size+1) W L
 cZ:Below w w W
def R2(aJ d n pat bU cb h k:aa)(B:¬ we d n pat bU cb)(w:aj):aA 33 #[aL #[aR aJ,I d,I n,I h,aR k,I pat,I bU,I cb]] w λe w'=>e=aY #[.pointer none,I 1]/\Below w w w':=by
 have ar:=aX w (af #[aR aJ,I d,I n,I h,aR k,I pat,I bU,I cb] 26);have E:(w.alloc (af #[aR aJ,I d,I n,I h,aR k,I pat,I bU,I cb] 26)).heap.size=w.heap.size+1:=aM;have b':=(b7 w.heap.size w).alloc bx (af #[aR aJ,I d,I n,I h,aR k,I pat,I bU,I cb] 26)
 go_in
 go_wp2_with fail;generalize World.alloc w _=bn at *;refine aW (Gv 64 U U bn) ?_;rintro ao ⟨an,a⟩;have q:Keeps aG bn ao:=Keeps.bJ a a8;have v:=q.heap ar id;have C:=a.size;have⟨c,l⟩:=cT bn.heap.size;rw[<-l]at an;have h1:fU (w.heap.size+1) ao [az.hp c ⟨[],[],0⟩]:=(fU.nil _ bn).cons q an (λj m=>by have G:c<=j:=m.1;omega) U;have r:=(bb ao).alloc (af (il c none none) 82);have h2:fU (w.heap.size+1) (ao.alloc (af (il c none none) 82)) [az.bd ao.heap.size (il c none none,82),az.hp c ⟨[],[],0⟩]:=h1.cons r (aX _ _) (λj m=>gD m.symm) U
 have u:vE w aJ d n pat bU cb ao.heap.size [az.bd ao.heap.size (il c none none,82),az.hp c ⟨[],[],0⟩] (ao.alloc (af (il c none none) 82)):=
  ⟨⟨_,_,r.heap v id⟩,h2,(b'.trans (a.mono U)).alloc U _⟩
 have s:=ag u;clear u h2 r h1 C v q an a b' E ar;rw[<-l];clear l;unfold il at s;go_upto_region 5 with fail
 generalize World.alloc ao _=aD at *;generalize ao.heap.size=b at *;go_wp2_with fail;go_loopg [7,8,9,20] 2 (λg _ _ _ i wr=>i=I 0/\aD=wr)
 case atStart=>exact⟨rfl,rfl⟩
 obtain⟨rfl,rfl⟩:=hrel;obtain⟨⟨aN,yV,f⟩,D,x⟩:=s.o;have gy:=aO f;have f3:=bP f;have H:=bT f;have eU:=((Keeps.refl (λj=>j=w) aD).setCell (p:=ae w 3 ad) rfl (I 0)).setCell (p:=ae w 4 ad) rfl (aR 1);have y:=b3 (b3 f 3 (I 0)) 4 (aR 1);simp only[c8]at y;have F:=ag (D.keeps eU a8);have t:=ag (x.trans (eU.below x.size a8));go_upto_region 9 with fail
 generalize World.setCell (World.setCell _ (ae w 3 ad) _) _ _=K at *;have fF:=aO y;go_wp2_with fail;refine aW ((Vf aJ d n 1 pat bU cb 0 U B) _) λv2 A=>?_;have z:=ag (t.o.trans (A.mono t.o.size));go_wp2_with fail;go_ret2;exact⟨rfl,z.o⟩
def uq(b c:J)(s:J->bM)(d:gG):ah gk->ah az
 | []=>[az.bd b (il c none none,82),az.hp c ⟨[],[],0⟩]
 | [a]=>bH a (s 0) d++[az.bd b (il c (some ⟨a.p,0,none⟩) none,82),az.hp c ⟨[],[],0⟩]
 | a :: e :: _=>bH e (s 1) d++(bH a (s 0) d++[az.bd b (il c (some ⟨a.p,0,none⟩) (some ⟨e.p,0,none⟩),82),az.hp c ⟨[],[],0⟩])
def nu(aJ:aa)(d n:J)(pat bU:aa):dV:=⟨oz aJ d n pat bU,λ_=>[],λ_=>[],⟨[],[],0⟩⟩
def Vj(A C R:ah az)(b e z r t r' a:az):(r :: t :: r' :: a :: ((C++(A++[b,e]))++z :: R)).Perm (A++((z :: b :: e :: r :: t :: r' :: a :: C)++R)):=by
 have h1:((C++(A++[b,e]))++z :: R).Perm ([b,e,z]++(A++(C++R))):=by
  have c:((C++(A++[b,e]))++z :: R)=C++(A++([b,e,z]++R)):=aM;rw[c];exact(oW C A _).trans (((oW C [b,e,z] R).append_left A).trans (oW A [b,e,z] _))
 have h2:(A++((z :: b :: e :: r :: t :: r' :: a :: C)++R)).Perm ([z,b,e,r,t,r',a]++(A++(C++R))):=oW A [z,b,e,r,t,r',a] _;exact((((h1.cons a).cons r').cons t).cons r).trans ((((show([0,1,2,3,4,5,6]:ah J).Perm [6,4,5,0,1,2,3]by decide).map λi=>[r,t,r',a,b,e,z].getD i r).append_right (A++(C++R))).trans h2.symm)
def HV{R:ah az}{eK:Old}(v':Sep w (az.kinds eK :: R))(aJ:aa)(d n:J)(pat bU cb K M:aa)(hd:d<=8)(av:1<=n/\n<=16)(au:1<=pat/\pat<=10000)(he:1<=bU/\bU<=256)(aU:1<=cb/\cb<=16):aA 33 #[aL #[aR aJ,I d,I n,I K,aR M,I pat,I bU,I cb]] w λe w'=>
  ∃ B:jB,e=aY #[B.b,I 0]/\cl w' B (nu aJ d n pat bU) 0 R/\B.o=eK:=by
 have P:=ag v';have ar:=aX w (af #[aR aJ,I d,I n,I K,aR M,I pat,I bU,I cb] 26);have V':(w.alloc (af #[aR aJ,I d,I n,I K,aR M,I pat,I bU,I cb] 26)).heap.size=w.heap.size+1:=aM;have b':=(b7 w.heap.size w).alloc bx (af #[aR aJ,I d,I n,I K,aR M,I pat,I bU,I cb] 26)
 go_in
 go_wp2_with fail;generalize World.alloc w _=bn at *;refine aW (Gv 64 U U bn) ?_;rintro ao ⟨an,X⟩;have ps:Keeps aG bn ao:=Keeps.bJ X a8;have ys:=ps.heap ar id;have T':=X.size;have⟨c,a'⟩:=cT bn.heap.size;rw[<-a']at an;have h1:fU (w.heap.size+1) ao [az.hp c ⟨[],[],0⟩]:=(fU.nil _ bn).cons ps an (λj v=>by have TS:c<=j:=v.1;omega) U;have sd:=(bb ao).alloc (af (il c none none) 82);have h2:fU (w.heap.size+1) (ao.alloc (af (il c none none) 82)) [az.bd ao.heap.size (il c none none,82),az.hp c ⟨[],[],0⟩]:=h1.cons sd (aX _ _) (λj v=>gD v.symm) U
 have vl:vE w aJ d n pat bU cb ao.heap.size [az.bd ao.heap.size (il c none none,82),az.hp c ⟨[],[],0⟩] (ao.alloc (af (il c none none) 82)):=
  ⟨⟨_,_,sd.heap ys id⟩,h2,(b'.trans (X.mono U)).alloc U _⟩
 have l':=ag vl;rw[<-a'];clear a';unfold il at l';go_upto_region 5 with fail
 generalize World.alloc ao _=aD at *;generalize ao.heap.size=b at *;go_wp2_with fail;go_loopg [7,8,9,20] 2 (λg _ _ _ i wr=>(g=2/\i=I 0/\vE w aJ d n pat bU cb b (uq b c (oz aJ d n pat bU) (pr cb) []) wr)\/(g=1/\i=I 1/\∃ f,vE w aJ d n pat bU cb b (uq b c (oz aJ d n pat bU) (pr cb) [f]) wr)\/(g=0/\i=I 2/\∃ f N,vE w aJ d n pat bU cb b (uq b c (oz aJ d n pat bU) (pr cb) [f,N]) wr))
 case atStart=>exact .inl ⟨rfl,rfl,l'.o⟩
 rcases hrel with⟨rfl,rfl,z⟩|⟨rfl,rfl,f,z⟩|⟨rfl,rfl,f,N,z⟩
 .obtain⟨⟨aN,yV,t⟩,fr,C⟩:=z;have gy:=aO t;have f3:=bP t;have St:=bT t;have eU:=((Keeps.refl (λj=>j=w) wr).setCell (p:=ae w 3 ad) rfl (I 0)).setCell (p:=ae w 4 ad) rfl (aR 1);have F:=b3 (b3 t 3 (I 0)) 4 (aR 1);have gf:=fr.keeps eU a8;have Y:=C.trans (eU.below C.size a8);simp only[c8]at F;have u:=ag F;have T:=ag gf;have y:=ag Y;go_upto_region 9 with fail
  generalize World.setCell (World.setCell _ (ae w 3 ad) _) _ _=v1 at *;have fF:=aO u.o;go_wp2_with fail;refine((Ib aJ d n 0 1 pat bU cb U hd av au he aU) _).mono ?_;rintro e v2 ⟨l,rfl,au,A⟩;have G:Keeps aG v1 v2:=Keeps.bJ A a8;have Tq:=bT u.out;have m:fU (w.heap.size+1) v2 (bH l (oz aJ d n pat bU 0) (pr cb)++uq b c (oz aJ d n pat bU) (pr cb) []):=T.out.append G au U;have s:v2.heap[b]?=some (af (il c none none) 82 (0,0)):=m.sep.at' (9) rfl;have Aw:w.heap.size+1<=b:=m.bo (az.bd b (il c none none,82)) (kX (i:=9) rfl) b rfl;have g':=G.heap u.out id;have D:=y.out.trans (A.mono y.out.size);have bz:=aO s;have f0:=bP s;have zp:=bT s;have x:=(Keeps.refl (λj=>j=b) v2).setCell (p:=ae b 0 ad) rfl l.p;have lb:=x.heap g' U;have Z:=D.trans (x.below D.size a8);have ab:=b3 s 0 l.p;have O:=ag m;have V:=ag lb;have Q:=ag Z;have W:=ag x;have S:=ag ab;go_wp2_with fail;go_roundg 1
  case rel=>exact .inr (.inl ⟨rfl,by go_num,l,⟨⟨_,_,V.o⟩,O.o.set 9 (r':=az.bd b (il c (some (ae l.p 0 ad)) none,82)) rfl W.o (λ_ e=>e) (by simpa[il,az.bd]using S.o) (λ_ e=>e),Q.o⟩⟩)
  omega
 .obtain⟨⟨aN,yV,t⟩,fr,C⟩:=z;have gy:=aO t;have f3:=bP t;have St:=bT t;have eU:=((Keeps.refl (λj=>j=w) wr).setCell (p:=ae w 3 ad) rfl (I 1)).setCell (p:=ae w 4 ad) rfl (aR 2);have F:=b3 (b3 t 3 (I 1)) 4 (aR 2);have gf:=fr.keeps eU a8;have Y:=C.trans (eU.below C.size a8);simp only[c8]at F;have u:=ag F;have T:=ag gf;have y:=ag Y;go_upto_region 9 with fail
  generalize World.setCell (World.setCell _ (ae w 3 ad) _) _ _=v1 at *;have fF:=aO u.o;go_wp2_with fail;refine((Ib aJ d n 1 2 pat bU cb U hd av au he aU) _).mono ?_;rintro e v2 ⟨l,rfl,au,A⟩;have G:Keeps aG v1 v2:=Keeps.bJ A a8;have Tq:=bT u.out;have m:fU (w.heap.size+1) v2 (bH l (oz aJ d n pat bU 1) (pr cb)++uq b c (oz aJ d n pat bU) (pr cb) [f]):=T.out.append G au U;have s:v2.heap[b]?=some (af (il c (some (ae f.p 0 ad)) none) 82 (0,0)):=m.sep.at' (18) rfl;have Aw:w.heap.size+1<=b:=m.bo (az.bd b (il c (some (ae f.p 0 ad)) none,82)) (kX (i:=18) rfl) b rfl;have g':=G.heap u.out id;have D:=y.out.trans (A.mono y.out.size);have bz:=aO s;have f0:=bP s;have zp:=bT s;have x:=(Keeps.refl (λj=>j=b) v2).setCell (p:=ae b 3 ad) rfl l.p;have lb:=x.heap g' U;have Z:=D.trans (x.below D.size a8);have ab:=b3 s 3 l.p;have O:=ag m;have V:=ag lb;have Q:=ag Z;have W:=ag x;have S:=ag ab;go_wp2_with fail;go_roundg 0
  case rel=>exact .inr (.inr ⟨rfl,by go_num,f,l,⟨⟨_,_,V.o⟩,O.o.set 18 (r':=az.bd b (il c (some (ae f.p 0 ad)) (some (ae l.p 0 ad)),82)) rfl W.o (λ_ e=>e) (by simpa[il,az.bd]using S.o) (λ_ e=>e),Q.o⟩⟩)
  omega
 have H:=ag z;go_wp2_with fail;go_ret2;have zd:=H.o.cZ;have Q':Sep wr (uq b c (oz aJ d n pat bU) (pr cb) [f,N]++az.kinds eK :: R):=⟨λr E=>by
  rcases eJ.1 E with E|E
  .exact H.out.sep.sep.all r E
  .exact(P.out.below zd).all r E,pJ.2 ⟨H.out.sep.sep.apart,P.out.apart,λa bh q CW j m s'=>by
  have:=H.out.sep.bo a bh j m
  have:=P.out.lt CW s'
  omega⟩⟩
 have m':∀ {L:ah az},Sep wr L->Sep wr (az.row (aq none 0 0) [] :: az.cF (aq none 0 0) [] :: L):=λh=>
  (h.cons (r:=az.cF (aq none 0 0) []) (bb wr) (λ_ _ _ _ e=>e) (gx wr 0 _ _) (λj v=>by cases v)).cons (r:=az.row (aq none 0 0) []) (bb wr) (λ_ _ _ _ e=>e) (gx wr 0 _ _) (λj v=>by cases v)
 exact⟨⟨eK,b,c,λk=>if k=0 then f else N⟩,rfl,⟨λ_=>(aq none 0 0),λ_=>(aq none 0 0),λ_=>pr cb,(m' (m' Q')).perm (Vj _ _ _ _ _ _ _ _ _ _)⟩,rfl⟩
def BO(h:cl w B M bk R)(hk:k<2):aA 15 #[B.b,I k] w λe w'=>e=.returned (.pointer (some (ae ((B.p k).p) 0 ad)))/\w=w':=by
 have⟨V,T,ak⟩:=h.bd;have an:=qa ak hk
 go_in
 go_wp2_with fail;refine bE (wa B.b hk w) ?_;go_wp2;go_ret;exact⟨rfl,rfl⟩
def R1(h:cl w B M bk R)(bj:aa):aA 30 #[B.b,I bj] w λe w'=>e=.returned (I (wq M.cs bj))/\w=w':=by
 obtain⟨V,T,d,h⟩:=h;have ek:=tY (h.at' 10 rfl)
 go_in
 go_wp2_with fail;refine bE ((PK (h.at' 11 rfl) bj)) ?_;go_wp2;go_ret;exact⟨rfl,rfl⟩
def R3(h:cl w B M bk R)(aS:(M.p 0).cc=false):aA 59 #[B.b] w λe w'=>e=.returned (.bool false)/\∃ q,w'=w.drewN q:=by
 obtain⟨V,T,d,h⟩:=h;have bz:=aO (h.at' 10 rfl);have a:=ag (Se h);rw[aS]at a
 go_in
 go_wp2_with fail;go_loopg [3,4,5,6] 0 (λg _ _ _ i wr=>i=I 0/\wr=w)
 case atStart=>exact⟨rfl,rfl⟩
 obtain⟨rfl,rfl⟩:=hrel;go_wp2_with fail;refine aW a.o ?_;rintro _ ⟨q,rfl⟩;go_wp2;go_ret;exact⟨rfl,q,rfl⟩
def Y1(w:aj):aA 34 #[] w λe w'=>e=.returned (aL #[aR 5,I 1,I 4,I 0,aR 0,I 100,I 100,I 8])/\Below w w w':=by
 go_in
 go_wp2;refine dx (v:=aL #[aR 5,I 1,I 4,I 0,aR 0,I 100,I 100,I 8]) (dF _ _ _ _ (aX w (af #[aR 5,I 1,I 4,I 0,aR 0,I 100,I 100,I 8] 26)) 8 rfl) ?_;exact⟨rfl,(b7 _ w).alloc bx _⟩
def Y3(aJ d n pat bU cb a b:aa)(c:¬ we d n pat bU cb)(w:aj):aA 9 #[aL #[aR aJ,I d,I n,I a,aR b,I pat,I bU,I cb]] w λe w'=>e=aY #[.pointer none,false]/\Below w w w':=by
 have b':=(b7 w.heap.size w).alloc bx (af #[aR aJ,I d,I n,I a,aR b,I pat,I bU,I cb] 26)
 go_in
 go_wp2_with fail;generalize World.alloc w _=bn at *;refine aW ((R2 aJ d n pat bU cb a b c) _) λao ak=>?_;go_wp2;go_ret2;exact⟨rfl,(b'.trans (ak.mono b'.size))⟩
def Y2{eK:Old}(g:Sep w (az.kinds eK :: R))(aJ:aa)(d n:J)(pat bU cb a c:aa)(hd:d<=8)(av:1<=n/\n<=16)(au:1<=pat/\pat<=10000)(i:1<=bU/\bU<=256)(aU:1<=cb/\cb<=16):aA 9 #[aL #[aR aJ,I d,I n,I a,aR c,I pat,I bU,I cb]] w λe w'=>
  ∃ B:jB,e=aY #[B.b,true]/\cl w' B (nu aJ d n pat bU) 0 R/\B.o=eK:=by
 have f:=ag (HV (g.alloc (af #[aR aJ,I d,I n,I a,aR c,I pat,I bU,I cb] 26)) aJ d n pat bU cb a c hd av au i aU)
 go_in
 go_wp2_with fail;generalize World.alloc w _=bn at *;refine f.o.mono ?_;rintro e ao ⟨B,rfl,h,ak⟩;go_wp2;go_ret2;exact⟨B,rfl,h,ak⟩
def yH(a b:ah bI):dm (a++b)=dm a++dm b:=rO ..
def IK{l:ah bI}(h:∀ c∈l,c.bp≠4):dm l=[]:=Eg.2 λc an=>by simpa using h c an
def II{l:ah bI}(h:∀ c∈l,c.bp=4):dm l=l:=mW.2 λc an=>by simpa using h c an
def PQ(xs L:ah aC):∀ c∈im xs L,c.bp≠4:=λc an=>by
 obtain⟨e,_,rfl⟩:=e9.1 an;show(3:aa)≠4;omega
def YQ(s:cO)(fr:aa)(xs:ah aC)(now:aa):dm (kS s fr xs now)=[]:=IK λc an=>by
 rcases eJ.1 an with an|an
 .exact PQ _ _ c an
 obtain⟨e,_,rfl|rfl⟩:=K5 _ _ _ _ c an
 .show(2:aa)≠4;omega
 show(1:aa)≠4;omega
def SO(s:cO):dm (j4 s)=[]:=IK λc an=>by
 unfold j4 at an;split at an
 .cases an
 obtain⟨e,_,rfl⟩:=e9.1 an;show(3:aa)≠4;omega
def B1(r:aa)(p:cq):dm (fQ r p).2=dm p.2:=by
 unfold fQ;split
 .rfl
 rw[yH,SO,eB]
def H'(p:cq):dm (fj p).2=dm p.2:=by
 unfold fj;split
 .exact B1 _ _
 rfl
def It(f v:aa)(p:cq):dm (iu f v p).2=dm p.2:=by
 unfold iu;split
 .split
  .rfl
  exact B1 _ _
 split<;>rfl
def V_(f:J)(p:cq):dm (js f p).2=dm p.2:=by
 unfold js;split
 .exact It _ _ _
 rfl
def A5(L xs:ah aC):(∀ c∈(gZ L xs).2,c.bp=4)/\(gZ L xs).2.map bI.bg=xs:=by
 rw[<-mn xs]
 induction xs.reverse with
 | nil=>exact⟨(λc an=>nomatch an),rfl⟩
 | cons e l a=>
  rw[mm,q4];refine⟨λc an=>?_,?_⟩
  .rcases eJ.1 an with an|an
   .exact a.1 c an
   rw[gC.1 an]
  rw[jx,a.2];rfl
def jY(us:J->J->aa)(aJ:aa)(n:J):ah aC:=(range n).flatMap (fJ us aJ)
def yc(us:J->J->aa)(aJ:aa)(n:J):jY us aJ (n+1)=jY us aJ n++fJ us aJ n:=by
 unfold jY;rw[qK,rR,flatMap_singleton]
def Bm{us cB:J->J->aa}(aJ:aa)(n:J)(h:∀ k,k<2->∀ j,j<n->us k j=cB k j):jY us aJ n=jY cB aJ n:=by
 induction n with
 | zero=>simp[jY]
 | succ n b=>
  have h2:=Bn aJ n λk hk j a=>h k hk j U;exact(yc us aJ n).trans ((congr (c5 HAppend.hAppend (b λk hk j a=>h k hk j U)) h2).trans (yc cB aJ n).symm)
def QP(us:J->J->aa){aJ:aa}(aw:0<=aJ/\aJ<=4294967295)(n:J):(jY us aJ n).length<=64*n:=by
 induction n with
 | zero=>simp[jY]
 | succ n a=>
  rw[yc,cx]
  have:=(oi us aw n).2.1
  omega
def p8(l:ah bI):ah aC:=(dm l).map bI.bg
def V5(s:bM):dm (cL s).2=[]:=by
 unfold cL;split
 .rfl
 rename_i g _;have key:∀ (L:ah (J×ah aC)) (p:cq),dm (L.foldl (jt s.x.now) p).2=dm p.2:=by
  intro L
  induction L with
  | nil=>intro p;rfl
  | cons e l a=>
   intro p;show dm (l.foldl (jt s.x.now) (jt s.x.now p e)).2=_;rw[a];exact MW
 exact key _ _
def Yw(v:aT)(p:cq):dm (eF v p).2=dm p.2:=by
 unfold eF;split
 .exact MW
 rfl
theorem KK{F:J}{ba us:J->J->aa}:∀ (n:J) {p:cq},b8 p.1 F ba us->hn p.1 ba us->∃ Y,p8 (fc n p).2=p8 p.2++Y/\jY us p.1.x.aJ ((fc n p).1.ld.aP+1).toNat=jY us p.1.x.aJ (p.1.ld.aP+1).toNat++Y
 | 0,p,_,_=>⟨[],by simp[fc],by simp[fc]⟩
 | n+1,p,h,av=>by
  unfold fc;split
  .exact⟨[],aM,aM⟩
  rename_i an;have f:p.1.ld.aP<c3 p.1.x:=U;obtain⟨h1,h2,b,i,j⟩:=h.eR av f p.2;have g:hn (Go.Proofs.YtalagblioepadaaGreatDoor.eR p).1 ba us:=by
   unfold hn bS at *;rw[h2];exact av
  obtain⟨Y,d,a⟩:=KK n h1 g;have au:((p.1,p.2):cq)=p:=rfl;rw[au]at h2 b;rw[au]at d a;have k:=h.aP;have l:=(h.oI av).2;have c:=h.b9 (p.1.ld.aP+1);rw[aE ⟨U,U⟩]at c;have hk:p8 (Go.Proofs.YtalagblioepadaaGreatDoor.eR p).2=p8 p.2++fJ us p.1.x.aJ (p.1.ld.aP+1).toNat:=by
   have e:dm (Go.Proofs.YtalagblioepadaaGreatDoor.eR p).2=dm p.2++h4 p.1.ld (p.1.ld.aP+1):=by
    unfold Go.Proofs.YtalagblioepadaaGreatDoor.eR;simp only[];split
    .rw[V_,yH];unfold h4;rw[II (A5 _ _).1]
    rw[yH];unfold h4;rw[II (A5 _ _).1]
   unfold p8;rw[e,jx];unfold h4;rw[(A5 _ _).2,c]
  refine⟨fJ us p.1.x.aJ (p.1.ld.aP+1).toNat++Y,by rw[d,hk,dL],?_⟩;rw[h2]at a;rw[a,b,show(p.1.ld.aP+1+1).toNat=(p.1.ld.aP+1).toNat+1 by omega,yc,dL]
def b8.He{s:bM}{F:J}{ba us:J->J->aa}(h:b8 s F ba us)(aJ:aa):jY us aJ (s.ld.aP+1).toNat=jY ba aJ (s.ld.aP+1).toNat:=Bm aJ _ λk hk j a=>by
 have an:=h.aP;have hm:=h.aN
 have:k=s.x.aN\/k=1-s.x.aN:=U
 rcases this with rfl|rfl
 .exact h.Dv j U
 exact h.sW j (.inr U)
def YX{s:bM}{F:J}{ba us:J->J->aa}(h:b8 s F ba us)(aS:s.cc=false)(w:s.x.now<=F+s.x.dE+1)(A:s.x.now<=100000)(v:aT)(aU:v.toNat<=63):jY ba s.x.aJ (s.ld.aP+1).toNat++p8 (cH v s).2=jY (if d_ s then jF s ba v.toNat else ba) s.x.aJ ((cH v s).1.ld.aP+1).toNat/\(cH v s).1.cz=s.cz/\((cH v s).1.cc=false->((cH v s).1.x.e4:aa)<=(cH v s).1.ld.aP+1):=by
 obtain⟨cB,c,K,_,B⟩:=uo h aS w A v aU;have n:=c.cC;obtain⟨Y,d,l⟩:=KK (c3 (eF v (cL s)).1.x-(eF v (cL s)).1.ld.aP).toNat n c.gS;have ar:=b8.settle (c3 (eF v (cL s)).1.x-(eF v (cL s)).1.ld.aP).toNat n c.gS U;have m:=c.settle;have em:fc (c3 (eF v (cL s)).1.x-(eF v (cL s)).1.ld.aP).toNat (eF v (cL s))=dj v s:=rfl;rw[em]at d l ar;have q:j9 (eF v (cL s))=dj v s:=rfl;rw[q]at m;obtain⟨f,a⟩:=m;have e:cH v s=lT (dj v s):=by unfold cH;rw[aS];rfl
 have p:p8 (cH v s).2=Y:=by
  rw[e];unfold p8 lT;rw[H'];have d:=d;unfold p8 at d;rw[Yw,V5]at d;simpa using d
 obtain⟨b,g⟩:∃ b:cq,b=({(dj v s).1 with x:=dZ (dj v s).1.x,aF:=(c9 (dj v s).1.aF (iw {(dj v s).1 with x:=dZ (dj v s).1.x})).2},(dj v s).2):=⟨_,rfl⟩;have k:cH v s=fj b:=by rw[e,g];rfl
 have⟨g1,C,r,D,E,t⟩:=yy b;have y:(fj b).1.cz=b.1.cz:=by
  unfold fj;split
  .exact(sk 12 b).2.2.2.1
  rfl
 have⟨_,_,_,_,_,_,_,_,_,_,_,_,_,o,_⟩:=(rp h);have z:(eF v (cL s)).1.cz=s.cz:=by
  unfold eF;split
  .exact o
  exact o
 refine⟨?_,?_,?_⟩
 .rw[p,k,r,g];rw[c.fix.aJ,B]at l;rw[<-(f.cC.He s.x.aJ),l,<-h.He]
  congr 1
  exact Bm _ _ λi ax j H=>(c.Js i j (.inl (by have:=h.aP;omega))).symm
 .rw[k,y,g];exact ar.2.2.2.2.1.trans z
 intro an;rw[k]at an⊢;have⟨_,u⟩:=t an;rw[u]at an⊢;rw[g]at an⊢;have a:c3 (dj v s).1.x=(dj v s).1.ld.aP:=by
  rcases a with a|a
  .rw[an]at a;cases a
  exact a
 have gK:=f.cC.oI f.gS;have G:=f.cC.vA;show((dZ (dj v s).1.x).e4:aa)<=(dj v s).1.ld.aP+1;unfold dZ;split
 .rw[f.cC.hN.e4];omega
 show((c3 (dj v s).1.x).toNat:aa)<=_;omega
structure gV(cm:aa)(M:dV):al where
 g_:∀ k,k<2->(M.p k).cc=false->((M.p k).x.e4:aa)<=(M.p k).ld.aP+1
 cz:∀ k,k<2->-1000<=(M.p k).cz/\(M.p k).cz<=1000
 bp:∀ k,k<2->∀ c∈M.st k,c.bp=4
 st:∀ k,k<2->(M.st k).map bI.bg=jY (fC M.bG) cm ((M.p k).ld.aP+1).toNat
section
variable{n d w:J}{cm:aa}{M:dV}{k:J}
def gV.gn(x:gV cm M)(h:eX n d w cm M)(av:n<=400)(hk:k<2):(M.st k).length<=30000:=by
 have⟨F,us,A,ax⟩:=h.ps k hk;have h2:=c5 length (x.st k hk);rw[hG]at h2;have aw:=ax.cC.aJ;rw[ax.sd]at aw;have a:=QP (fC M.bG) aw ((M.p k).ld.aP+1).toNat;have b:=ax.cC.aP;have c:=ax.jH;omega
def gV.still(x:gV cm M){s':bM}{c0:ah bI}{g:cY}(e:s'.ld.aP=(M.p k).ld.aP)(h:s'.cc=false->(M.p k).cc=false)(i:s'.x.e4=(M.p k).x.e4)(l:-1000<=s'.cz/\s'.cz<=1000)(m:dm c0=[]):gV cm {p:=bZ M.p k s',bG:=M.bG,st:=bZ M.st k (M.st k++dm c0),cs:=g}:=by
 rw[m,eB];have f:∀ j,bZ M.st k (M.st k) j=M.st j:=λj=>by unfold bZ;split;subst j;rfl;rfl
 have au:∀ j,j<2->∀ P:bM->al,P s'->P (M.p j)->P (bZ M.p k s' j):=λj _ P a b=>by unfold bZ;split;exact a;exact b
 refine⟨λj d=>?_,λj d=>au j d (λs=>-1000<=s.cz/\s.cz<=1000) l (x.cz j d),λj d=>?_,λj d=>?_⟩
 .show(bZ M.p k s' j).cc=false->((bZ M.p k s' j).x.e4:aa)<=(bZ M.p k s' j).ld.aP+1;unfold bZ;split
  .subst j;intro c;rw[i,e];exact x.g_ k d (h c)
  exact x.g_ j d
 .show ∀ c∈bZ M.st k (M.st k) j,c.bp=4;rw[f];exact x.bp j d
 show(bZ M.st k (M.st k) j).map bI.bg=jY (fC M.bG) cm ((bZ M.p k s' j).ld.aP+1).toNat;rw[f,x.st j d];unfold bZ;split
 .subst j;rw[e]
 rfl
def gV.tick(x:gV cm M)(h:eX n d w cm M)(av:n<=400)(hk:k<2)(v:aT)(aU:v.toNat<=63):gV cm (gT k v M):=by
 have⟨F,us,A,ax⟩:=h.ps k hk;have⟨z,B,N,cP⟩:=two hk;by_cases aS:(M.p k).cc=true
 .have g:cH v (M.p k)=({M.p k with aF:=(c9 (M.p k).aF 0).2},[]):=by unfold cH;rw[aE aS]
  have s:(if d_ (M.p k)then bZ M.bG k (M.bG k++[v])else M.bG)=M.bG:=by unfold d_;rw[aS];rfl
  unfold gT;rw[s,g];exact x.still rfl (λc=>c) rfl (x.cz k hk) rfl
 have aS:(M.p k).cc=false:=by simpa using aS
 have⟨f,C,D⟩:=YX ax.cC aS (by rw[ax.wn];exact ax.E) (by have:=ax.jH;omega) v aU;have u:(if d_ (M.p k)then jF (M.p k) (fC M.bG) v.toNat else fC M.bG)=fC (gT k v M).bG:=by
  show _=fC (if d_ (M.p k)then bZ M.bG k (M.bG k++[v])else M.bG);split
  .rw[IN];unfold jF;rw[ax.aN,ax.rk]
  rfl
 rw[u,ax.sd]at f;refine⟨λj a=>?_,λj a=>?_,λj a c an=>?_,λj a=>?_⟩
 .show(bZ M.p k _ j).cc=false->((bZ M.p k _ j).x.e4:aa)<=(bZ M.p k _ j).ld.aP+1;unfold bZ;split
  .exact D
  exact x.g_ j a
 .show -1000<=(bZ M.p k _ j).cz/\(bZ M.p k _ j).cz<=1000;unfold bZ;split
  .rw[C];exact x.cz k hk
  exact x.cz j a
 .have an:c∈bZ M.st k (M.st k++dm (cH v (M.p k)).2) j:=an;unfold bZ at an;split at an
  .rcases eJ.1 an with an|an
   .exact x.bp k hk c an
   unfold dm at an;simpa using(fx.1 an).2
  exact x.bp j a c an
 show(bZ M.st k (M.st k++dm (cH v (M.p k)).2) j).map bI.bg=jY (fC (gT k v M).bG) cm ((bZ M.p k (cH v (M.p k)).1 j).ld.aP+1).toNat;by_cases e:j=k
 .subst j;rw[iB,iB,jx,x.st k hk];exact f
 rw[hB _ _ e,hB _ _ e,x.st j a];have t:j=1-k:=U;subst t;have⟨H,O,G,b⟩:=h.ps (1-k) z;refine Bm cm _ λi K q L=>?_;have an:=b.cC.aP;have y:=b.uQ;have o:=b.cC.ad;rw[b.rk]at o;rw[B]at y;have l:q<(M.bG i).length:=by
  have:i=k\/i=1-k:=U
  rcases this with rfl|rfl<;>omega
 have⟨r,m⟩:=Bw M k v i;unfold fC;exact MC
def Y6(t:ch)(x:aa)(h:iA x t.data.toList.length<t.data.toList.length):pD t x 0=t:=by
 have e:sV t.data.toList x 0=t.data.toList:=by
  unfold sV;have a:∀ y:aT,me y 0=y:=λy=>by unfold me;simp
  rw[a,oV,gA h];exact set_getElem_self h
 unfold pD;rw[e]
def wV(s:cY)(g i:aa)(j:J):(∀ t∈(fS s g i).get j,t∈s.get j)/\((fS s g i).get j).length<=(s.get j).length:=by
 unfold fS;split
 .unfold cY.put cY.get
  split<;>split<;>first
   | exact⟨λt aK=>mem_of_mem_eraseIdx aK,length_eraseIdx_le _ _⟩
   | exact⟨λ_ h=>h,df _⟩
   | (rename_i a b;exact⟨λt aK=>mem_of_mem_eraseIdx aK,length_eraseIdx_le _ _⟩)
 exact⟨λ_ h=>h,df _⟩
def SL(h:eX n d w cm M)(av:n<=400)(hk:k<2){t:ch}(W:t.size<=256)(aK:(∃ m,t.data.toList=dv m/\jg (w+d) (M.bG (1-k)) (bS (M.p (1-k))) m)\/(fG t.data.toList).2≠0)(aS:(M.p k).cc=false):xI (M.p k).aF t/\((cD (M.p k).aF t.data.toList).2.1=0->∃ F us,FG (M.p k) t F (fC M.bG) us):=by
 have⟨F,us,A,e,H,a,o,q,K,L,r,f,bR,N,O,P⟩:=h.ps k hk;have⟨C,D,ab,cP⟩:=two hk;have S:d<=8/\w<=16:=by have:=e.my;rw[f,bR]at this;omega
 have s:=e.ad;have v:=e.pq;rw[f,o]at s;rw[bR]at v;have⟨G,lb,E,b6,bw,eC,dY,fV,ek,c2,fI,fq,d1,d2,Q,R⟩:=h.ps (1-k) C;have u:=b6.ad;have y:=b6.pq;rw[fq,dY]at u;rw[d1]at y;rw[D]at fV ek;have l:xI (M.p k).aF t:=by
  have a':=a.dO;have fr:=a.ac;have gf:=a.e2;have g':=a.bad;have hd:=a.fe;have h2:=a.dp;exact⟨U,U,U,U,U,U⟩
 refine⟨l,λz=>?_⟩;have⟨⟨T',cG,X,Y,Z,i4,i5,i6,i7,j,B⟩,V⟩:=(a.t_ U (M.bG (1-k)) q U (Tq:=bS (M.p (1-k))) (c:=w+d) fV aK);have T:(cD (M.p k).aF t.data.toList).1.a_.length=T'-bS (M.p k):=by rw[j];simp;omega
 have g:∀ i x,(cD (M.p k).aF t.data.toList).1.a_[i]?=some x->(M.bG (1-k))[bS (M.p k)+i]?=some x:=λi x b=>by
  exact MH
 exact⟨F,us,e,aS,l,z,λx b=>by
  obtain⟨i,ax,rfl⟩:=s_.1 b;exact h.oB (1-k) _ (kX (g i _ (gA ax))),λi x b=>by
  rw[r];unfold fC;rw[oV,g i x b];rfl,B,U,U⟩
def Ip(s:bM)(t:ah aT)(h:(∃ m,t=dv m/\m.wf/\ds m)\/(fG t).2≠0)(d:-1000<=s.cz/\s.cz<=1000):(dG t s).1.ld.aP=s.ld.aP/\((dG t s).1.cc=false->s.cc=false)/\(dG t s).1.x.e4=s.x.e4/\(-1000<=(dG t s).1.cz/\(dG t s).1.cz<=1000)/\dm (dG t s).2=[]:=by
 unfold dG;split
 .rename_i aS;exact⟨rfl,λc=>c,rfl,d,rfl⟩
 split
 .exact⟨rfl,λc=>c,rfl,d,rfl⟩
 rename_i aS _;have aS:s.cc=false:=by simpa using aS
 obtain⟨s1,b⟩:∃ s1:bM,s1={s with x:=e' s.x (cD s.aF t).1.a_,aF:=(cD s.aF t).2.2}:=⟨_,rfl⟩;rw[<-b];obtain⟨k,u,n,v⟩:=Ik (cD s.aF t).1 s1;obtain⟨g1,o,e,p,q,r⟩:=yy (fB (cD s.aF t).1 s1);have i:∀ (l:ah aT) (x:ct),(e' x l).e4=x.e4:=by
  intro l
  induction l with
  | nil=>intro x;rfl
  | cons a l j=>intro x;exact j _
 have f:-1000<=(fB (cD s.aF t).1 s1).1.cz/\(fB (cD s.aF t).1 s1).1.cz<=1000:=by
  unfold Go.Proofs.YtalagblioepadaaGreatDoor.fB;split
  .rw[(B6 _ _ _).2.2.2.1,b];exact d
  split
  .exact SJ s.aF t h
  rw[b];exact d
 have g:(fj (fB (cD s.aF t).1 s1)).1.cz=(fB (cD s.aF t).1 s1).1.cz:=by
  unfold fj;split
  .exact(sk 12 _).2.2.2.1
  rfl
 refine⟨by rw[e,n,b],λ_=>aS,by rw[g1,k,b];exact i _ _,by rw[g];exact f,?_⟩;rw[H'];unfold Go.Proofs.YtalagblioepadaaGreatDoor.fB;split
 .exact It _ _ _
 split<;>rfl
def Tt(s:bM)(a:-1000<=s.cz/\s.cz<=1000):(f' s).1.ld.aP=s.ld.aP/\((f' s).1.cc=false->s.cc=false)/\(f' s).1.x.e4=s.x.e4/\(-1000<=(f' s).1.cz/\(f' s).1.cz<=1000)/\dm (f' s).2=[]:=by
 unfold f';split
 .exact⟨rfl,λc=>c,rfl,a,rfl⟩
 have⟨g1,f,b,d,g,e,h,i,j⟩:=sk 12 ({s with aF:=nd s.aF},[]);exact⟨b,λc=>absurd (e.symm.trans c) aM,by rw[g1],by rw[d];exact a,B1 _ _⟩
end
variable{W:aj}{n d w:J}{cm:aa}
inductive qU(s:bM):bM->ah bI->al
 | tick (v:aT) (aU:v.toNat<=63):qU s (cH v s).1 (cH v s).2
 | t_ (t:ah aT):qU s (dG t s).1 (dG t s).2
 | leave:qU s (f' s).1 (f' s).2
 | none:qU s s []
structure FJ(M fp:dV)(bj:aa)(c0:ah bI)(b0:aa):al where
 ex:∃ k:J,k<2/\(b0=0->bj=(k:aa))/\qU (M.p k) (fp.p k) c0/\(∀ j:J,j≠k->fp.p j=M.p j)/\(b0≠0->c0=[])/\∀ j,∀ c∈fp.st j,c∈M.st j\/j=k/\c∈dm c0
def Dt{f:J->ah bI}{j:J}{X:ah bI}:∀ c∈bZ f k (f k++X) j,c∈f j\/j=k/\c∈X:=λc h=>by
 unfold bZ at h;split at h
 .rename_i e;subst e;exact(eJ.1 h).imp id λh=>⟨rfl,h⟩
 exact .inl h
def eX.hp(h:eX n d w cm M)(a:cY)(an:∀ j:J,(∀ t∈a.get j,t∈M.cs.get j)/\(a.get j).length<=(M.cs.get j).length)(b:M.cs.lost<=a.lost/\a.lost<=M.cs.lost+1):eX (n+1) d w cm {M with cs:=a}:=by
 refine⟨λk hk=>?_,h.oB,λk hk t aK=>h.vZ k hk t ((an k).1 t aK),λk=>ca (an k).2 (h.ss k),?_⟩
 .obtain⟨F,us,A,ax⟩:=h.ps k hk;exact⟨F,us,A,ax.cz hk (vd n) rfl rfl h.oB (xl _) bx⟩
 have:=h.lost
 show 0<=a.lost/\a.lost<=10*((n+1:J):aa);omega
def eX.up(h:eX n d w cm M):eX (n+1) d w cm M:=h.hp M.cs (λ_=>⟨λ_ h=>h,df _⟩) U
def gV.hp(x:gV cm M)(a:cY):gV cm {M with cs:=a}:=⟨x.g_,x.cz,x.bp,x.st⟩
def yN{s:bM}{F:J}{ba us:J->J->aa}(h:b8 s F ba us):s.ld.bc.length<=256:=by
 have:=h.ll
 have:=h.most
 omega
def yB{p:cq}(h:p.1.ld.bc.length<=256)(r:aa):(fQ r p).2.length<=p.2.length+256:=by
 unfold fQ;split
 .omega
 rw[cx];unfold j4;split
 .simp
 rw[hG];omega
def Dn(h:eX n d w cm M)(x:gV cm M)(av:n<=400)(hk:k<2)(v:aT)(aU:v.toNat<=63)(aS:(M.p k).cc=false):∃ F us,AS (M.p k) v F (fC M.bG) us:=by
 have⟨F,us,A,ax⟩:=h.ps k hk;have h1:=ax.aF.oM;have h2:=ax.aF.ac;have a:=ax.aF.dp;have b:=ax.rk;have c:=ax.cC.ad;have e:=ax.cC.my;have f:=ax.jH;have g:=x.g_ k hk aS;have i:=ax.cC.hN.e4;exact⟨F,us,ax.cC,aS,by rw[ax.wn];exact ax.E,U,U,aU,x.cz k hk,U,U,(wX h av hk v aU).bo aS⟩
def Ll{s:bM}{v:aT}{F:J}{ba us:J->J->aa}(hk:AS s v F ba us):(cH v s).2.length<=60256:=by
 have⟨o,g,m,_,fE,h,_,_,_,n,_⟩:=rp hk.cC;have l:bS (cL s).1=bS s:=by unfold bS fv;rw[n,h]
 have cv:hn (cL s).1 ba o:=λj d c=>by rw[h];rw[fE]at d;rw[l]at c;exact m j d c
 have r:=hk.cC.J5;obtain⟨y,a,_,_,t⟩:=uo hk.cC hk.l1 hk.E (ca hk.top bt) v hk.dR;have b:=a.cC;have gK:=b.oI a.gS;have w:=K' v g (λan=>((g.K_ cv (by rw[fE];exact hk.top) M_ v hk.dR (cL s).2) an).2.2.2.2.1);have hm:=hM.Bs (c3 (eF v (cL s)).1.x-(eF v (cL s)).1.ld.aP).toNat b.zv;have em:fc (c3 (eF v (cL s)).1.x-(eF v (cL s)).1.ld.aP).toNat (eF v (cL s))=dj v s:=rfl;rw[em]at hm;have q:=b.jf;have u:=hk.g_;have f:=(a.settle).1;have i:j9 (eF v (cL s))=dj v s:=rfl;rw[i]at f;have k:=yN f.cC;have e:cH v s=lT (dj v s):=by unfold cH;rw[hk.l1];rfl
 rw[e];unfold lT fj;split
 .refine ca (yB (p:=(_,_)) ?_ 12) ?_
  .exact k
  show(dj v s).2.length+256<=_;omega
 show(dj v s).2.length<=_;omega
def Io{s:bM}{F:J}{ba us:J->J->aa}(h:b8 s F ba us)(t:ah aT):(dG t s).2.length<=1000:=by
 unfold dG;split
 .simp
 split
 .simp
 obtain⟨s1,b⟩:∃ s1:bM,s1={s with x:=e' s.x (cD s.aF t).1.a_,aF:=(cD s.aF t).2.2}:=⟨_,rfl⟩;rw[<-b];have a:s1.ld.bc.length<=256:=by have:=yN h;rw[b];exact this
 have h2:(fB (cD s.aF t).1 s1).2.length<=256/\(fB (cD s.aF t).1 s1).1.ld.bc.length<=256:=by
  have aS:∀ r,(fQ r (s1,[])).2.length<=256/\(fQ r (s1,[])).1.ld.bc.length<=256:=λr=>⟨by have:=yB (p:=(s1,[])) a r;simpa using this,by
   unfold fQ;split
   .exact a
   .show(gq s1.ld).bc.length<=256;unfold gq;split
    .exact a
    .simp⟩
  unfold Go.Proofs.YtalagblioepadaaGreatDoor.fB;split
  .unfold iu;split
   .split
    .exact⟨aM,a⟩
    exact aS _
   split<;>exact⟨aM,a⟩
  split<;>exact⟨aM,a⟩
 unfold fj;split
 .have:=yB h2.2 12
  omega
 omega
def IQ{s:bM}{F:J}{ba us:J->J->aa}(h:b8 s F ba us):(f' s).2.length<=256:=by
 unfold f';split
 .simp
 have a:=yN h
 have:=yB (p:=({s with aF:=nd s.aF},[])) a 12
 simpa using this
def Sl(h:eX n d w cm M)(x:gV cm M)(av:n<=400)(hk:k<2)(v:aT)(aU:v.toNat<=63):∀ W d R,az.kinds B.o∈R->Sep W (bH (B.p k) (M.p k) d++R)->aA 60 #[.pointer (some (ae ((B.p k).p) 0 ad)),aH v.toNat] W (xK (B.p k) (cH v (M.p k)).1 (cH v (M.p k)).2 (fo v (M.p k)) (d_ (M.p k)) R):=λW d R a ar=>by
 cases aS:(M.p k).cc with
 | true=>exact Sn ar aS v aU ((wX h av hk v aU).IW aS)
 | false=>
  have⟨F,us,aK⟩:=Dn h x av hk v aU aS;exact Sk a ar v aK
def Sf(h:eX n d w cm M)(av:n<=400)(hk:k<2){t:ch}(e:t.size<=256)(aK:(∃ m,t.data.toList=dv m/\jg (w+d) (M.bG (1-k)) (bS (M.p (1-k))) m)\/(fG t.data.toList).2≠0):∀ W d R,az.kinds B.o∈R->Sep W (bH (B.p k) (M.p k) d++R)->aA 65 #[.pointer (some (ae ((B.p k).p) 0 ad)),.string t] W (vF (B.p k) (dG t.data.toList (M.p k)).1 (dG t.data.toList (M.p k)).2 (jl t.data.toList (M.p k)) R):=λW d R b ar=>by
 cases aS:(M.p k).cc with
 | true=>exact Sh ar aS t
 | false=>
  have⟨h1,h2⟩:=SL h av hk e aK aS;by_cases a:(cD (M.p k).aF t.data.toList).2.1=0
  .have⟨F,us,c⟩:=h2 a;exact Si b ar t c
  exact Sg ar aS t h1 _ rfl a
def Il(t:ah aT)(s:bM)(h:jl t s≠0):(dG t s).2=[]:=by
 unfold jl at h;unfold dG;split
 .rfl
 rename_i aS;rw[aB aS]at h;rw[aE h]
def pad(d:J)(M:dV):dV:={M with bG:=λk=>replicate d 0++M.bG k}
def yZ(d k:J)(v:aT)(M:dV):gT k v (pad d M)=pad d (gT k v M):=by
 have h:(gT k v (pad d M)).bG=(pad d (gT k v M)).bG:=by
  funext j
  show(if d_ (M.p k)then bZ (pad d M).bG k ((pad d M).bG k++[v])else(pad d M).bG) j=replicate d 0++(if d_ (M.p k)then bZ M.bG k (M.bG k++[v])else M.bG) j;split
  .unfold bZ;split
   .show(replicate d 0++M.bG k)++[v]=_;rw[dL]
   rfl
  rfl
 have e:pad d (gT k v M)={gT k v (pad d M)with bG:=(pad d (gT k v M)).bG}:=rfl;rw[e,<-h]
def ts(B:jB)(n d w:J)(cm:aa)(M:dV)(bj bk:aa)(R:ah az)(e:Ending)(w':aj):al:=
 ∃ fp c0 b0,eX (n+1) d w cm (pad d fp)/\gV cm (pad d fp)/\FJ M fp bj c0 b0/\kf B fp bk c0 b0 R e w'
def Y5(m:a6)(x:aa)(a:ds m):iA x (dr m).data.toList.length<(dr m).data.toList.length:=by
 have aw:=rH a;have b:(dv m).length=(dr m).size:=by simp[dr,ByteArray.size]
 have⟨r,_,au⟩:=Dr x (dv m).length U U;have ax:iA x (dv m).length<(dv m).length:=by
  rcases au with h|h<;>exact h.2.2
 exact ax
def Qq{s:cY}{g i:aa}{v:ch}(h:fX s g i=some v):(g=0\/g=1)/\v∈s.get g:=by
 unfold fX at h;split at h
 .rename_i an;exact⟨an.1,kX h⟩
 cases h
theorem Cl{W':aj}{e:Ending}(ak:eX n d w cm (pad d M))(b:gV cm (pad d M)){bj:aa}{b0:aa}(a:b0≠0\/bj=0\/bj=1)(h:kf B M bk [] b0 R e W'):ts B n d w cm M bj bk R e W':=
 ⟨M,[],b0,ak.up,b,⟨by
  rcases a with a|a|a
  .exact⟨0,U,λe=>absurd e a,.none,λ_ _=>rfl,λ_=>rfl,λ_ _=>.inl⟩
  .exact⟨0,U,λ_=>a,.none,λ_ _=>rfl,λ_=>rfl,λ_ _=>.inl⟩
  .exact⟨1,U,λ_=>a,.none,λ_ _=>rfl,λ_=>rfl,λ_ _=>.inl⟩⟩,h⟩
def HZ(h:cl W B M bk R)(ak:eX n d w cm (pad d M))(a:gV cm (pad d M))(av:n<=400)(bA bj i at':aa)(bO:J)(bF:aT)(f:bA=1)(hk:k<2)(c:bj=k)(aU:bF.toNat<=63):aA 10 #[B.b,aL #[I bA,I bj,I i,I at',aH bO,aH bF.toNat]] W (kf B (gT k bF M) (wrap64 (bk+1)) (cH bF (M.p k)).2 0 R):=by
 have aK:=wX ak av hk bF aU;have⟨F,us,A,ax⟩:=ak.ps k hk;have t:(cH bF (M.p k)).2.length<=60256:=by
  cases aS:(M.p k).cc with
  | true=>unfold cH;rw[aS];simp
  | false=>
   have⟨F,us,e⟩:=Dn ak a av hk bF aU aS;exact Ll e
 have j:dc (cH bF (M.p k)).1=dc (M.p k)+if d_ (M.p k)then 1 else 0:=by
  cases aS:(M.p k).cc with
  | true=>unfold cH d_;rw[aS];rfl
  | false=>
   have⟨_,_,_,_,_,_,l,_⟩:=ax.cC.tick aS (by rw[ax.wn];exact ax.E) (by have:=ax.jH;omega) bF aU;exact l
 have g:0<=M.cs.lost/\M.cs.lost<=10*n:=ak.lost;have y:(M.st k).length<=30000:=a.gn ak av hk;have hm:dc (M.p k)=(replicate d (0:aT)++M.bG k).length:=ax.rk;rw[cx]at hm;have r:(M.p k).x.now<=dc (M.p k)/\dc (M.p k)<=(M.p k).x.now+(M.p k).x.eO:=ax.cC.ad;have s:(M.p k).x.eO<=8/\_:=ax.cC.my;have u:(M.p k).x.now<=n:=ax.jH;have v:(fo bF (M.p k)).length<=10:=aK.gn;refine HU h hk i at' bO bF.toNat (gT k bF M) (cH bF (M.p k)).2 0 bA bj f c λq o h2=>?_;rw[c];refine R' h2 hk bF (Sl ak a av hk bF aU) j U U (λm hm=>?_) U U
 have:=rH (aK.snd m hm).2.1
 have g:(dv m).length=(dr m).size:=by simp[dr,ByteArray.size]
 omega
def R9(h:cl W B M bk R)(ak:eX n d w cm (pad d M))(f:gV cm (pad d M))(av:n<=400)(bA bj i at':aa)(bO:J)(bF:aT)(g:bA=1)(hk:k<2)(a:bj=k):aA 10 #[B.b,aL #[I bA,I bj,I i,I at',aH bO,aH bF.toNat]] W (ts B n d w cm M bj (wrap64 (bk+1)) R):=by
 by_cases aU:bF.toNat<=63
 .refine(HZ h ak f av bA bj i at' bO bF g hk a aU).mono λe w' au=>⟨_,_,0,yZ d k bF M▸ak.tick av hk bF aU,yZ d k bF M▸f.tick ak av hk bF aU,⟨k,hk,λ_=>a,?_,λj l=>hB _ _ l,λc=>absurd rfl c,λ_=>Dt⟩,au⟩;show qU (M.p k) (bZ M.p k (cH bF (M.p k)).1 k) _;rw[iB];exact .tick bF aU
 refine(HU h hk i at' bO bF.toNat M [] 1 bA bj g a λo m h2=>?_).mono λe w' au=>Cl ak f (.inl U) au;rw[a];exact Sa h2 hk _ U
def R8(h:cl W B M bk R)(ak:eX n d w cm (pad d M))(a:gV cm (pad d M))(av:n<=400)(bA bj i at':aa)(bO:J)(bF:aT)(m:bA=6)(hk:k<2)(f:bj=k):aA 10 #[B.b,aL #[I bA,I bj,I i,I at',aH bO,aH bF.toNat]] W (ts B n d w cm M bj (wrap64 (bk+1)) R):=by
 obtain⟨F,us,A,ax⟩:=ak.ps k hk;have y:(M.st k).length<=30000:=a.gn ak av hk;have x:(f' (M.p k)).2.length<=256:=IQ ax.cC;obtain⟨o,q,r,s,t⟩:=Tt (M.p k) (a.cz k hk);refine(R0 h hk i at' bO bF.toNat bA bj m f (f' (M.p k)).1 (f' (M.p k)).2 U λv d2 u g ar=>Sj g ar ax.cC).mono λe w' au=>⟨{M with p:=bZ M.p k (f' (M.p k)).1,st:=bZ M.st k (M.st k++dm (f' (M.p k)).2)},_,0,ak.goes hk (Tv ak hk) _ M.cs (λ_=>⟨λ_ h=>h,df _⟩) ⟨jw _,by show M.cs.lost<=M.cs.lost+1;omega⟩,a.still o q r s t,⟨k,hk,λ_=>f,?_,λj l=>hB _ _ l,λc=>absurd rfl c,λ_=>Dt⟩,au⟩;show qU (M.p k) (bZ M.p k (f' (M.p k)).1 k) _;rw[iB];exact .leave
def H0(h:cl W B M bk R)(ak:eX n d w cm (pad d M))(g:gV cm (pad d M))(av:n<=400)(bA bj i at':aa)(bO:J)(bF:aT)(e:2<=bA/\bA<=5/\bA≠4)(hk:k<2)(a:bj=k)(x:ch)(cs:cY)(f:x.size<=256)(aK:(∃ m,x.data.toList=dv m/\jg (w+d) ((pad d M).bG (1-k)) (bS (M.p (1-k))) m)\/(fG x.data.toList).2≠0)(c:∀ W R,cl W B M (wrap64 (bk+1)) R->aA 64 #[B.b,aL #[I bA,I bj,I i,I at',aH bO,aH bF.toNat]] W (n_ B M (wrap64 (bk+1)) R x true cs)):aA 10 #[B.b,aL #[I bA,I bj,I i,I at',aH bO,aH bF.toNat]] W (kf B (yC k x cs M) (wrap64 (bk+1)) (dG x.data.toList (M.p k)).2 (jl x.data.toList (M.p k)) R):=by
 have⟨F,us,A,ax⟩:=ak.ps k hk;have q:(M.st k).length<=30000:=g.gn ak av hk;have o:(dG x.data.toList (M.p k)).2.length<=1000:=Io ax.cC x.data.toList;exact BN h hk i at' bO bF.toNat (yC k x cs M) (dG x.data.toList (M.p k)).2 (jl x.data.toList (M.p k)) bA bj U a λl j h2=>R6 h2 hk bA i at' bO bF.toNat x cs e.2.2 _ _ _ (Il _ _) U bj a c (Sf ak av hk f aK)
def yu(h:cl W B M bk R)(ak:eX n d w cm (pad d M))(c:gV cm (pad d M))(av:n<=400)(bA bj i at':aa)(bO:J)(bF:aT)(q:2<=bA/\bA<=5/\bA≠4)(hk:k<2)(f:bj=k)(x:ch)(cs:cY)(l:∀ j:J,(∀ t∈cs.get j,t∈M.cs.get j)/\(cs.get j).length<=(M.cs.get j).length)(r:M.cs.lost<=cs.lost/\cs.lost<=M.cs.lost+1)(u:x.size<=256)(aK:(∃ m,x.data.toList=dv m/\jg (w+d) ((pad d M).bG (1-k)) (bS (M.p (1-k))) m)\/(fG x.data.toList).2≠0)(g:∀ W R,cl W B M (wrap64 (bk+1)) R->aA 64 #[B.b,aL #[I bA,I bj,I i,I at',aH bO,aH bF.toNat]] W (n_ B M (wrap64 (bk+1)) R x true cs)):aA 10 #[B.b,aL #[I bA,I bj,I i,I at',aH bO,aH bF.toNat]] W (ts B n d w cm M bj (wrap64 (bk+1)) R):=by
 have s:(∃ m,x.data.toList=dv m/\m.wf/\ds m)\/(fG x.data.toList).2≠0:=aK.imp (λ⟨m,a,b⟩=>⟨m,a,b.1,b.2.1⟩) id;have⟨v,y,z,A,C⟩:=Ip (M.p k) x.data.toList s (c.cz k hk);refine(H0 h ak c av bA bj i at' bO bF q hk f x cs u aK g).mono λe w' au=>⟨yC k x cs M,_,_,ak.goes hk (Iq ak av hk aK) _ cs l r,c.still v y z A C,⟨k,hk,λ_=>f,?_,λj o=>hB _ _ o,Il _ _,λ_=>Dt⟩,au⟩;show qU (M.p k) (bZ M.p k (dG x.data.toList (M.p k)).1 k) _;rw[iB];exact .t_ _
theorem yt(h:cl W B M bk R)(ak:eX n d w cm (pad d M))(f:gV cm (pad d M))(bA bj i at':aa)(bO:J)(bF:aT)(c:2<=bA/\bA<=5)(hk:k<2)(e:bj=k)(x:ch)(a:∀ W R,cl W B M (wrap64 (bk+1)) R->aA 64 #[B.b,aL #[I bA,I bj,I i,I at',aH bO,aH bF.toNat]] W (n_ B M (wrap64 (bk+1)) R x false M.cs)):aA 10 #[B.b,aL #[I bA,I bj,I i,I at',aH bO,aH bF.toNat]] W (ts B n d w cm M bj (wrap64 (bk+1)) R):=
 (BN h hk i at' bO bF.toNat M [] 6 bA bj c e λ_ _ h2=>R5 h2 bA bj i at' bO bF.toNat x M.cs a).mono λ_ _ au=>Cl ak f (.inl U) au
def QA{w w':aj}{c:J}{s:cY}(h:eY w c 64 s)(a:∃ q,w'=w.drewN q):eY w' c 64 s/\Keeps (ht c) w w':=by
 obtain⟨q,rfl⟩:=a;exact⟨h.keeps ((bb w).drewN q) (λ_ _ e=>e),((Keeps.refl (ht c) w).drewN q)⟩
def R7(h:cl W B M bk R)(ak:eX n d w cm (pad d M))(f:gV cm (pad d M))(av:n<=400)(bA bj i at':aa)(bO:J)(bF:aT)(t:bO<256):aA 10 #[B.b,aL #[I bA,I bj,I i,I at',aH bO,aH bF.toNat]] W (ts B n d w cm M bj (wrap64 (bk+1)) R):=by
 by_cases y:¬ (0<=bj/\bj<2)\/bA<1\/6<bA
 .exact(RZ h bA bj i at' bO bF.toNat y).mono λe w' au=>Cl ak f (.inl U) au
 have⟨k,hk⟩:=mj (show 0<=bj by omega);have c:k<2:=U;have r:∀ v,fX M.cs bj i=some v->∃ m,v=dr m/\jg (w+d) ((pad d M).bG (1-k)) (bS (M.p (1-k))) m:=λv aU=>by
  have hm:=(Qq aU).2;rw[hk]at hm;exact ak.vZ k c v hm
 have D:0<=M.cs.lost/\M.cs.lost<=10*n:=ak.lost;have z:bA=1\/bA=2\/bA=3\/bA=4\/bA=5\/bA=6:=U;have E:=Dh M.cs bj i;rcases z with a|a|a|a|a|a
 .exact R9 h ak f av bA bj i at' bO bF a c hk
 .cases an:fX M.cs bj i with
  | none=>
   refine yt h ak f bA bj i at' bO bF U c hk ByteArray.empty λo l h2=>?_;rw[a];refine BP h2 bj i at' bO bF.toNat ByteArray.empty false M.cs λW g=>?_
   have:=tH g bj i
   rw[an,Di an]at this;exact this
  | some v=>
   obtain⟨m,rfl,hm⟩:=r v an;refine yu h ak f av bA bj i at' bO bF U c hk (dr m) (fS M.cs bj i) (wV _ _ _) U (rH hm.2.1).2 (.inl ⟨m,rfl,hm⟩) λo l h2=>?_;rw[a];refine BP h2 bj i at' bO bF.toNat (dr m) true (fS M.cs bj i) λW g=>?_
   have:=tH g bj i
   rw[an]at this;exact this
 .cases an:fX M.cs bj i with
  | none=>
   refine yt h ak f bA bj i at' bO bF U c hk ByteArray.empty λo l h2=>?_;rw[a];refine HW h2 bj i at' bO bF.toNat ByteArray.empty false M.cs λW g=>?_
   have:=Gu g bj i
   exact MT
  | some v=>
   obtain⟨m,rfl,hm⟩:=r v an;refine yu h ak f av bA bj i at' bO bF U c hk (dr m) M.cs (λ_=>⟨λ_ h=>h,df _⟩) U (rH hm.2.1).2 (.inl ⟨m,rfl,hm⟩) λo l h2=>?_;rw[a];refine HW h2 bj i at' bO bF.toNat (dr m) true M.cs λW g=>?_
   have:=Gu g bj i
   exact MT
 .cases an:fX M.cs bj i with
  | none=>
   refine yt h ak f bA bj i at' bO bF U c hk ByteArray.empty λo l h2=>?_;rw[a]
   have:=HX h2 bj i at' bO bF.toNat U
   rw[an,show lS M.cs bj i=M.cs by unfold lS;rw[an];rfl]at this;exact this
  | some v=>
   have hd:lS M.cs bj i={fS M.cs bj i with lost:=M.cs.lost+1}:=by unfold lS;rw[an];rfl
   have aZ:∀ j:J,((lS M.cs bj i).get j)=(fS M.cs bj i).get j:=λj=>by rw[hd];rfl
   refine(BN h c i at' bO bF.toNat {M with cs:=lS M.cs bj i} [] 0 bA bj U hk λo l h2=>R4 h2 bA bj i at' bO bF.toNat ByteArray.empty (lS M.cs bj i) a λC A x=>?_).mono λe w' au=>?_
   .rw[a]
    have:=HX x bj i at' bO bF.toNat U
    rw[an]at this;exact this
   refine⟨{M with cs:=lS M.cs bj i},[],0,ak.hp (lS M.cs bj i) (λj=>by rw[aZ];exact wV _ _ _ j) (by rw[hd];show M.cs.lost<=M.cs.lost+1/\M.cs.lost+1<=M.cs.lost+1;omega),f.hp _,⟨k,c,λ_=>hk,.none,λ_ _=>rfl,λ_=>rfl,λ_ _=>.inl⟩,au⟩
 .cases an:fX M.cs bj i with
  | none=>
   refine yt h ak f bA bj i at' bO bF U c hk ByteArray.empty λo l h2=>?_;rw[a];exact HY h2 bj i at' bO bF.toNat ByteArray.empty false M.cs λW g=>PN g bj i at' bO an
  | some v=>
   obtain⟨m,rfl,hm⟩:=r v an;have aw:=rH hm.2.1;have q:∀ W R,cl W B M (wrap64 (bk+1)) R->aA 64 #[B.b,aL #[I bA,I bj,I i,I at',aH bO,aH bF.toNat]] W (n_ B M (wrap64 (bk+1)) R (pD (dr m) at' bO) true (fS M.cs bj i)):=λo l h2=>by
    rw[a];exact HY h2 bj i at' bO bF.toNat _ true _ λW g=>PM g bj i at' bO t (dr m) an aw.1 aw.2
   by_cases s:bO=0
   .have aK:pD (dr m) at' bO=dr m:=by rw[s];exact Y6 _ _ (Y5 m at' hm.2.1)
    rw[aK]at q;exact yu h ak f av bA bj i at' bO bF U c hk (dr m) (fS M.cs bj i) (wV _ _ _) U aw.2 (.inl ⟨m,rfl,hm⟩) q
   have u:=Yh m at' bO t s hm.2.1;exact yu h ak f av bA bj i at' bO bF U c hk _ (fS M.cs bj i) (wV _ _ _) U u.2 (.inr (by rw[u.1];omega)) q
 exact R8 h ak f av bA bj i at' bO bF a c hk
def Tk(d k j:J)(M:dV)(h:∀ k,M.bG k=[]):fC (pad d M).bG k j=0:=by
 show(((replicate d 0++M.bG k).getD j 0).toNat:aa)=0;rw[h,eB,oV,Eh];split<;>rfl
def Jn(aJ:aa)(d n:J)(pat bU:aa)(aw:0<=aJ/\aJ<=4294967295)(hd:d<=8)(av:1<=n/\n<=16)(au:1<=pat/\pat<=10000)(o:1<=bU/\bU<=256):eX 0 d n aJ (pad d (nu aJ d n pat bU))/\gV aJ (pad d (nu aJ d n pat bU)):=by
 have g:∀ k j,fC (pad d (nu aJ d n pat bU)).bG k j=0:=λk j=>Tk d k j _ λ_=>rfl;have b:∀ k,(pad d (nu aJ d n pat bU)).bG k=replicate d 0:=λk=>eB _;refine⟨⟨λk hk=>⟨0,λ_ _=>0,d,?_⟩,λk x l=>?_,λk _ t aK=>?_,λk=>?_,by show(0:aa)<=0/\(0:aa)<=10*((0:J):aa);omega⟩,⟨λk _ _=>by show((0:J):aa)<=-1+1;omega,λk _=>EM,(λk _ c an=>nomatch an),λk _=>by simp[jY,pad,nu,oz,wB,cO.new]⟩⟩
 .have p:b8 (oz aJ d n pat bU k) 0 (fC (pad d (nu aJ d n pat bU)).bG) λ_ _=>0:=by
   refine⟨⟨rfl,?_,λj f=>?_⟩,aw,hk,⟨hd,av.1,av.2⟩,λk j=>by rw[g];omega,λ_ _=>U,⟨de _,by show d<=0+d;omega⟩,de _,⟨df _,de _,de _,by show d<=0+64;omega⟩,.inl rfl,λj f=>absurd f (kZ _),λj f=>?_,⟨by show(-1:aa)<=-1;omega,by show(-1:aa)<((0:J):aa);omega,by show(-1:aa)<(d:aa);omega⟩,rfl,o,Pairwise.nil,by show((0:J):aa)<=bU;omega,λj=>?_,(λe h=>nomatch h)⟩
   .rfl
   .show iF d=oj 0 0 d (fC (pad d (nu aJ d n pat bU)).bG j) λ_=>0;have e:fC (pad d (nu aJ d n pat bU)).bG j=λ_=>0:=by funext i;exact g j i
    rw[e];unfold iF oj qe ga;rw[sJ _ (df 0)];split<;>rfl
   .have:j<0\/(j:aa)<=-1:=f
    omega
   show []=if (-1:aa)<j/\j<((0:J):aa)then _ else []
   rw[aB U]
  refine⟨p,by show 0<=0+n+1;omega,?_,by rw[b,va];rfl,by rw[b,va];exact df _,df d,by show d<=d+(n+d);omega,rfl,rfl,rfl,rfl,λ_=>by show(0:aa)≠2;omega,df _⟩;rw[b];have a:(0:aa)<=0/\(0:aa)<=((0:J):aa):=U;exact⟨rfl,au,.inl rfl,a,a,a,a,a,rfl,by rw[drop_replicate,Al];rfl,by rw[va];exact df _,rfl,by rw[va];omega,(λm h=>nomatch h),de _⟩
 .rw[b]at l;rw[eq_of_mem_replicate l];decide
 .have aK:=aK;unfold cY.get at aK;split at aK<;>cases aK
 show((⟨[],[],0⟩:cY).get (k:aa)).length<=64;unfold cY.get;split<;>simp
section
def kH{α:Type}(f:J->α->Option α):J->α->Option α
 | 0,s=>some s
 | n+1,s=>(kH f n s).bind (f n)
theorem yG{α:Type}{f:J->α->Option α}{s x:α}:∀ {n:J},kH f n s=some x->∀ i,i<n->∃ y c,kH f i s=some y/\f i y=some c/\kH f (i+1) s=some c
 | 0,_,i,ax=>by omega
 | n+1,h,i,ax=>by
  have a:(kH f n s).bind (f n)=some x:=h;cases b:kH f n s with
  | none=>rw[b]at a;cases a
  | some y=>
   by_cases e:i=n
   .subst e;rw[b]at a;exact⟨y,x,b,a,h⟩
   exact yG b i U
structure Nm where
 now:J
 d':J
 cv:J
 fst:J
 aP:aa
 aF:cd
 rep:a1
 cz:aa
def sE(aP:aa):a1:=decide ((aP+1)%16=0)
def AR(a:Nm):al:=¬ (4<(a.now:aa)-a.cv-a.cz/\a.aF.cf%2=1)/\a.d'=a.now+1/\(a.now:aa)-(min a.d' a.cv:J)<4/\a.aP+1=(min a.cv (a.now+1):J)-1/\1<=a.cv/\(a.fst:aa)<=a.aP+1/\a.d'+2<a.fst+60/\(sE (a.aP+1)=true->a.aP=14/\a.rep=false)
instance (a:Nm):Decidable (AR a):=by unfold AR;infer_instance
def lk(r:aa)(a:Nm):cd:=if sE (a.aP+1)then l9 (kq a.aF a.d' 0) (a.aP+2) r else kq a.aF a.d' 0
def Lk(r:aa)(a:Nm):Nm:=⟨a.now+1,a.d'+1,a.cv,(a.aP+1).toNat,a.aP+1,(c9 (lk r a) ((a.now:aa)+1-a.cv)).2,a.rep || sE (a.aP+1),a.cz⟩
def Dm(r:aa)(a:Nm):b_ (ah a6×Nm):=
 if a.aF.state=1/\AR a/\(c9 (lk r a) ((a.now:aa)+1-a.cv)).2.state=1 then some ((c9 (lk r a) ((a.now:aa)+1-a.cv)).1,Lk r a)
 else if a.aF.state=0/\a.now=0/\a.d'=1/\a.cv=1/\a.fst=0/\a.aP=-1/\(c9 a.aF (-1)).2.state=0 then some ((c9 a.aF (-1)).1,{a with aF:=(c9 a.aF (-1)).2})
 else none
def qc(l:cd)(m:a6):bL×aa×cd:=
 if (cW {l with heard:=l.cf} m).2.1 then((cW {l with heard:=l.cf} m).1,0,{(cW {l with heard:=l.cf} m).2.2 with e2:=(cW {l with heard:=l.cf} m).2.2.e2+1})
 else(bL.zero,0,{(cW {l with heard:=l.cf} m).2.2 with fe:=(cW {l with heard:=l.cf} m).2.2.fe+1})
def SK(l:cd)(m:a6)(aw:l.state≠2)(hm:m.wf/\ds m):cD l (dv m)=qc l m:=by
 unfold cD;rw[aB aw,Ds m hm.2 hm.1];rfl
def sl(a:Nm)(m:a6):b_ Nm:=
 let r:=qc a.aF m
 if a.aF.state≠2/\r.2.2.state≠2/\r.1.a_.all (· == 0)=true/\a.cv+r.1.a_.length<=a.fst+60/\(r.1.kind=4->a.rep=true/\r.1.frame=16)then
  some {a with aF:=r.2.2,cv:=a.cv+r.1.a_.length,cz:=if r.1.kind=6 then r.1.lead else a.cz}
 else none
structure Aw where
 p:Nm
 q:Nm
 f:ah a6
 g:ah a6
 n:J
namespace Aw
def P(s:Aw)(k:J):Nm:=if k=0 then s.p else s.q
def F(s:Aw)(k:J):ah a6:=if k=0 then s.f else s.g
def l8(s:Aw)(k:J)(a:Nm):Aw:=if k=0 then {s with p:=a}else {s with q:=a}
def l7(s:Aw)(k:J)(l:ah a6):Aw:=if k=0 then {s with f:=l}else {s with g:=l}
def up(s:Aw)(n:J):Aw:={s with n:=n}
end Aw
def rI(r:aa)(k:J)(s:Aw):b_ Aw:=match Dm r (s.P k)with
 | some (b,a)=>if s.n<400/\(s.F (1-k)).length+b.length<=60 then some (((s.l8 k a).l7 (1-k) (s.F (1-k)++b)).up (s.n+1))else none
 | none=>none
def sm:J->Nm->ah a6->b_ (J×Nm)
 | n,a,[]=>some (n,a)
 | n,a,m :: l=>match sl a m with
  | some a'=>if n<400 then sm (n+1) a' l else none
  | none=>none
def wU(k:J)(s:Aw):b_ Aw:=match sm s.n (s.P k) (s.F k)with
 | some (n,a)=>some (((s.l8 k a).l7 k []).up n)
 | none=>none
def Wp(r:aa)(s:Aw):b_ Aw:=(kH (rI r) 2 s).bind (kH wU 2)
def runN(r:aa)(n:J)(s:Aw):b_ Aw:=kH (λ_=>Wp r) n s
def Nm.new(k:J):Nm:=⟨0,1,1,0,-1,cd.new ((k:aa)+1) 100 1,false,0⟩
def tD:Aw:=⟨Nm.new 0,Nm.new 1,[],[],0⟩
def Wy(r:aa):∃ s,runN r 20 tD=some s/\3<s.p.now/\1<s.q.aP:=by
 have h:(λr=>match runN r 20 tD with|some s=>decide (3<s.p.now/\1<s.q.aP)|none=>false)=λ_=>true:=by kernel_rfl
 have h:=congrFun h r;cases a:runN r 20 tD with
 | none=>
  rw[a]at h;cases h
 | some s=>
  rw[a]at h;exact⟨s,rfl,rZ h⟩
def SN{n:J}{a:Nm}{x:J×Nm}{m:a6}{l:ah a6}(h:sm n a (m :: l)=some x):∃ a',sl a m=some a'/\n<400/\sm (n+1) a' l=some x:=by
 have b:(match sl a m with|some a'=>if n<400 then sm (n+1) a' l else none|none=>none)=some x:=h;split at b
 .rename_i a' e;split at b
  .rename_i av;exact⟨a',e,av,b⟩
  cases b
 cases b
def mf:J->J->aa:=hx (λ_ _=>0) 5
def p_(f dO now:J):Fd:=⟨f,dO,0,ga f dO,ga f now⟩
def ft(k:J)(a:Nm):ct:=⟨5,1,4,k,λj=>if j<2 then p_ a.fst (if j=k then a.d' else a.cv) a.now else iF 1,a.fst,eE mf a.fst (a.now+1),a.now⟩
def x6{x y:ct}(g:x.f=y.f)(e:x.L=y.L)(h1:x.aJ=y.aJ)(h2:x.eO=y.eO)(a:x.dE=y.dE)(b:x.aN=y.aN)(c:x.e4=y.e4)(d:x.now=y.now):x=y:=by
 obtain⟨h,i,j,k,l,m,n,o⟩:=x;obtain⟨bR,p,q,r,s,t,u,v⟩:=y;subst g e h1 h2 a b c d;rfl
section
variable{k:J}(hk:k<2)(a:Nm)
theorem q5{j:J}(b:j<2):(ft k a).f j=p_ a.fst (if j=k then a.d' else a.cv) a.now:=aE b
include hk
theorem P6:(ft k a).f k=p_ a.fst a.d' a.now:=by rw[q5 a hk,aE rfl]
theorem A8:(ft k a).f (1-k)=p_ a.fst a.cv a.now:=by rw[q5 a U,aB U]
theorem GR:iU (ft k a)=min a.d' a.cv:=by
 unfold iU;rw[q5 a U,q5 a U]
 have:k=0\/k=1:=U
 rcases this with rfl|rfl
 .rw[aE rfl,aB U];rfl
 rw[aB U,aE rfl];exact Nat.min_comm _ _
theorem L2:fM (ft k a)=none:=by
 unfold fM fv;rw[show(ft k a).aN=k from rfl,A8 hk a];exact DO _ _ _ _
theorem C5:c3 (ft k a)=((min (min a.d' a.cv) a.now:J):aa)-1:=by
 unfold c3;rw[L2 hk a,GR hk a];rfl
omit hk in
theorem Jp(f n j:J):oL (ga f n) j 0=0:=by
 unfold oL ga;rw[qu];split<;>rfl
theorem JN{j:J}(d:j<2)(a':Nm)(e:a'=if j=k then {a with d':=a.d'+1}else {a with cv:=a.cv+1})(h:a.fst<=if j=k then a.d' else a.cv):gL (ft k a) j 0=ft k a':=by
 subst e;have h2:(if j=k then {a with d':=a.d'+1}else {a with cv:=a.cv+1}:Nm).fst=a.fst/\(if j=k then {a with d':=a.d'+1}else {a with cv:=a.cv+1}:Nm).now=a.now:=by split<;>exact⟨rfl,rfl⟩
 refine x6 ?_ (by show eE mf a.fst (a.now+1)=eE mf _ (_+1);rw[h2.1,h2.2]) rfl rfl rfl rfl h2.1.symm h2.2.symm
 funext i
 show eW (ft k a).f j _ i=if i<2 then p_ _ _ _ else iF 1
 rw[h2.1,h2.2];unfold eW;by_cases e:i=j
 .subst e;rw[aE rfl,aE d,q5 a d];show(⟨a.fst,(if i=k then a.d' else a.cv)+1,0,fa (ga a.fst (if i=k then a.d' else a.cv)) (if i=k then a.d' else a.cv) 0,ga a.fst a.now⟩:Fd)=_;rw[show fa (ga a.fst (if i=k then a.d' else a.cv)) (if i=k then a.d' else a.cv) 0=ga a.fst ((if i=k then a.d' else a.cv)+1)from wP (λ_=>(0:aa)) h];split<;>rfl
 rw[aB e];show(if i<2 then p_ a.fst (if i=k then a.d' else a.cv) a.now else iF 1)=_;by_cases b:i<2
 .rw[aE b,aE b]
  congr 1
  by_cases c:j=k
  .rw[aE c,aB U,aB U]
  rw[aB c,aE U,aE U]
 rw[aB b,aB b]
theorem IA:∀ (l:ah aT) (a:Nm),a.fst<=a.cv->(∀ x∈l,x=0)->e' (ft k a) l=ft k {a with cv:=a.cv+l.length}
 | [],a,_,_=>rfl
 | x :: l,a,h,b=>by
  have e:=b x nS;subst e;show e' (gL (ft k a) (1-k) 0) l=_;rw[JN hk a U {a with cv:=a.cv+1} (by rw[aB U]) (by rw[aB U];exact h),IA l {a with cv:=a.cv+1} (by show a.fst<=a.cv+1;omega) λy c=>b y (kx _ c)];rw[Nat.add_right_comm];rfl
omit hk in
theorem K1{n:J}(h:a.fst<=n)(av:n<=a.now):hg (ft k a) n=mf n:=by
 show(hb (eE mf a.fst (a.now+1)) (n:aa)).getD ck=_;rw[KB,aE U];rfl
omit hk in
theorem Yu(h:a.fst<=a.now)(e:a.now<a.fst+64):{jr (ft k a) a.now with now:=a.now+1}=ft k {a with now:=a.now+1}:=by
 have c:∀ j,j<2->dJ (ft k a) a.now j=0:=λj d=>by
  unfold dJ;rw[q5 a d];exact Jp _ _ _
 refine x6 ?_ ?_ rfl rfl rfl rfl rfl rfl
 .funext j
  show(if j<2 then pB ((ft k a).f j) a.now else(ft k a).f j)=(if j<2 then p_ a.fst (if j=k then a.d' else a.cv) (a.now+1)else iF 1);by_cases b:j<2
  .rw[aE b,aE b,q5 a b];generalize (if j=k then a.d' else a.cv)=n;show(⟨a.fst,n,0,ga a.fst n,sQ a.fst (ga a.fst a.now) a.now (oL (ga a.fst n) a.now 0)⟩:Fd)=⟨a.fst,n,0,ga a.fst n,ga a.fst (a.now+1)⟩;rw[Jp];unfold sQ;rw[aE e,show fa (ga a.fst a.now) a.now 0=ga a.fst (a.now+1)from wP (λ_=>(0:aa)) h]
  rw[aB b,aB b];exact aB b
 show fa (eE mf a.fst (a.now+1)) (a.now+1) (iL (dJ (ft k a) a.now 0) (dJ (ft k a) a.now 1) (hg (ft k a) a.now))=eE mf a.fst (a.now+1+1);rw[c 0 U,c 1 U,K1 a h bx];exact wP mf U
omit hk in
theorem Qs(m:J)(h:a.fst<=m)(d:m<=a.d')(h1:m<=a.cv)(av:m<=a.now):se (ft k a) m=ft k {a with fst:=m}:=by
 refine x6 ?_ ?_ rfl rfl rfl rfl rfl rfl
 .funext j
  show(if j<2 then pc ((ft k a).f j) m else(ft k a).f j)=(if j<2 then p_ m (if j=k then a.d' else a.cv) a.now else iF 1);by_cases b:j<2
  .rw[aE b,aE b,q5 a b];have c:m<=(if j=k then a.d' else a.cv):=by split<;>assumption
   generalize (if j=k then a.d' else a.cv)=n at *;show(⟨m,n,0,mw m (ga a.fst n),mw m (ga a.fst a.now)⟩:Fd)=⟨m,n,0,ga m n,ga m a.now⟩;rw[show mw m (ga a.fst n)=ga m n from uG _ h c,show mw m (ga a.fst a.now)=ga m a.now from uG _ h av]
  rw[aB b,aB b];exact aB b
 exact uG _ h U
end
end
end Go.Proofs.YtalagblioepadaaGreatDoor
