/- The proof, part 48. -/
import Derived.Test.YtalagblioepadaaGreatDoorZb47
namespace Go.Proofs.YtalagblioepadaaGreatDoor
set_option linter.all false
open Proofs.Tryz List Go.RowKit Go.Maps
set_option maxRecDepth 100000
set_option maxHeartbeats 2000000
def LF{p:ak}(h:p:=by
 rw[aq]at this;exact this.mono λe w' aR=>⟨aR.1,Pf g aR.2⟩
 ):p:=h
def LJ{p:ak}(h:p:=by
 show da (p.2++ks _ _ _ _)=_;rw[x5,Xt,eX]
 ):p:=h
variable{w w':ai}{k:J}{B:jt}{M:dZ}{V T:J->aw}{bh:aa}{d:J->gi}{R:ah ay}
def QF(h:cq w B M bh R)(hk:k<2)(i at' bI bB:aa)(bw bf:aa)(H:bw=6)(L:bf=k)(z:bO)(c3:ah cg)(K:(M.st k).length+c3.length<=100000)(G:∀ W d R,ay.kinds B.o∈R->Sep W (bC (B.p k) (M.p k) d++R)->az 38 #[.pointer (some (ad ((B.p k).p) 0 ab))] W (EL (B.p k) z c3 R)):az 10 #[B.b,aM #[I bw,I bf,I i,I at',aF bI,aF bB]] w (jT B {M with p:=b1 M.p k z,st:=b1 M.st k (M.st k++da c3)} (wrap64 (bh+1)) c3 0 R):=by
 have r':(bw == 6)=true:=by rw[H];rfl
 have v':¬ bw<1:=U;have qF:¬ 6<bw:=U;have Q:=af G;have P:=af K;have l:=af hk;have S:=af L;clear G hk H L K;have q:(w.alloc (ae #[I bw,I bf,I i,I at',aF bI,aF bB] 40)).heap.size=w.heap.size+1:=aI;have h1:=h.push (r:=ay.bc w.heap.size (#[I bw,I bf,I i,I at',aF bI,aF bB],40)) ((a_ w).alloc (ae #[I bw,I bf,I i,I at',aF bI,aF bB] 40)) (aW w _) (λj a=>gE (jK a));have h2:=h1.push (r:=ay.bc (w.heap.size+1) (cd,35)) ((a_ (w.alloc (ae #[I bw,I bf,I i,I at',aF bI,aF bB] 40))).alloc (ae cd 35)) sP (λj a=>sO);have⟨V,T,aj⟩:=h2.bc;have c6:=xX aj;have f7:=bJ aj;have s':=bR aj;have s:=h2.yI (wrap64 (bh+1));have C:=af s
 go_in
 go_upto_region 4 with fail
 generalize World.setCell (World.alloc (World.alloc w _) _) _ _=an at *;have hd:=C.o.res (r:=ay.bc w.heap.size (#[I bw,I bf,I i,I at',aF bI,aF bB],40)) aI;have zd:=aP hd;have D:=af (vy B.b l.o an);rw[<-S.o]at D;have hne:1-k≠k:=by have:=l.o;omega
 obtain⟨V,T,d,h1⟩:=C.o.view l.o;have ps:=pF (h1.at' 10 rfl) l.o;have gf:=af (Q.o _ _ _ (by simp[lZ]) h1);go_wp2_with fail;refine br D.o ?_;go_wp2_with fail;refine gf.o.mono ?_;rintro e bn ⟨y,rfl,Y,s⟩;obtain⟨c,g,f,rfl⟩:∃ c g f,y=ao c g f:=by
  exact Ng
 have l':=(a_ bn).alloc (ae #[ao c g f,(ao none 0 0),false] 35);have Z:=(s.cons (r:=ay.none) (a_ bn) (λ_ _ _ _=>id) trivial (λ_ e=>e.elim)).qI;have n:=(Z.cons (r:=ay.bc bn.heap.size (#[ao c g f,(ao none 0 0),false],35)) l' (λ_ _ _ _=>id) (aW bn _) (λj a=>gE (jK a))).iD;go_upto_region 11 with fail
 generalize vl:bn.alloc (ae #[ao c g f,(ao none 0 0),false] 35)=ys at *;generalize bn.heap.size=w' at *;have n:=n;have E:=n.perm (BG _ _ _ _ _ _ _ _ _ _);have x:=E.at' 12 rfl;have m':=aP x;have g':=af (B6 (sd:=(ao none 0 0)) (m:=false) (A7 l.out) E P.out);go_wp2_with fail;refine aT g'.o ?_;rintro N ⟨T',F⟩;rw[A8 l.out]at F;have t:=F.perm (BH _ ([ay.row (V (1-k)) (M.bF (1-k)),ay.cS (T (1-k)) (M.st (1-k))]++bC (B.p (1-k)) (M.p (1-k)) (d (1-k))) _ _ _ _ _ _ _ _ _ _);have x:=t.at' 0 rfl;have u:=t.at' 2 rfl;have m':=aP x;have g0:=bJ u;have z0:=aP u;have O:=af (jx u (ao c g f) (ao none 0 0) (.bool false));have a':=Sep.drop1 (A:=[]) t.tail.tail (jF N (w.heap.size+1) (ao c g f) (ao none 0 0) (.bool false))
 have fr:cq (((N.setCell (ad (w+1) 0 ab) (ao c g f)).setCell (ad (w+1) 1 ab) (ao none 0 0)).setCell (ad (w+1) 2 ab) (.bool false)) B {M with p:=b1 M.p k z,st:=b1 M.st k (M.st k++da c3)} (wrap64 (bh+1)) ([ay.cS (ao c g f) c3]++ay.bc w.heap.size (#[I bw,I bf,I i,I at',aF bI,aF bB],40) :: R):=cq.of (k:=k) (V:=V) (T:=b1 T k T') (d:=b1 d k Y) l.out (by
  unfold k' lZ;simp only[i_,h3 _ _ hne];exact a')
 have X:=af (fr.drop (Keeps.refl (λj=>j=w) _));go_wp2_with fail;have lb:=dv _ _ _ _ O.o 3 rfl;refine dn (v:=aV #[aM #[ao c g f,(ao none 0 0),false],I 0]) lb ?_;exact⟨_,_,_,_,_,rfl,X.o⟩
theorem fI.set{n:J}{L:ah ay}{T:J->ak}(h:fI n w L)(i:J){r r':ay}(av:L[i]?=some r)(hk:Keeps T w w')(e:∀ b,T b->r.S b)(d:r'.P w')(al:∀ b,r'.S b->r.S b):fI n w' (L.set i r'):=
 ⟨Sep.set h.sep i av hk (λb _=>e b) d (λb aj=>.inl (al b aj)),λx a j c=>by
  rcases wJ a with a|rfl
  .exact h.bm x a j c
  .exact h.bm r (ky av) j (al j c)⟩
theorem fI.append{n:J}{L d:ah ay}(h:fI n w L)(hk:Keeps aG w w')(h2:fI w.heap.size w' d)(au:n<=w.heap.size):fI n w' (d++L):=
 ⟨⟨λr c=>by
  rcases ft.1 c with c|c
  .exact h2.sep.all r c
  .exact(h.sep.keep hk).all r c,q_.2 ⟨h2.sep.apart,h.sep.apart,λa bj b aj j f g=>by
  have:=h2.bm a bj j f
  have:=h.sep.lt aj g
  omega⟩⟩,λr c j e=>by
  rcases ft.1 c with c|c
  .exact b7 au (h2.bm r c j e)
  .exact h.bm r c j e⟩
def nQ(aO:aa)(d n:J)(pat bK:aa)(k:J):bO:=vO ⟨aO,d,n,k,λ_=>h' d,0,[(0,k2 aO 0)],0⟩ (b9.new ((k:aa)+1) pat d) bK
def hP(c:J)(a b:b4 Addr):a6 aw:=#[.pointer a,ao none 0 0,ao none 0 0,.pointer b,ao none 0 0,ao none 0 0,c,I 0]
structure u_(w:ai)(aO d n pat bK b5:aa)(b:J)(L:ah ay)(W:ai):ak where
 o4:∃ aJ yh,W.heap[w.heap.size]?=some (ae #[aK aO,I d,I n,aJ,yh,I pat,I bK,I b5] 26 (0,0))
 sep:fI (w.heap.size+1) W L
 jw:Below w w W
def QG(aO d n pat bK b5 h k:aa)(B:¬ vA d n pat bK b5)(w:ai):az 33 #[aM #[aK aO,I d,I n,I h,aK k,I pat,I bK,I b5]] w λe w'=>e=aV #[.pointer none,I 1]/\Below w w w':=by
 have al:=aW w (ae #[aK aO,I d,I n,I h,aK k,I pat,I bK,I b5] 26);have E:(w.alloc (ae #[aK aO,I d,I n,I h,aK k,I pat,I bK,I b5] 26)).heap.size=w.heap.size+1:=aI;have ca:=(bY w.heap.size w).alloc bA (ae #[aK aO,I d,I n,I h,aK k,I pat,I bK,I b5] 26)
 go_in
 go_wp2_with fail;generalize World.alloc w _=bl at *;refine aT (Ft 64 U U bl) ?_;rintro an ⟨aq,a⟩;have q:Keeps aG bl an:=Keeps.bE a a7;have v:=q.heap al id;have C:=a.size;have⟨c,l⟩:=cQ bl.heap.size;rw[<-l]at aq;have h1:fI (w.heap.size+1) an [ay.gW c ⟨[],[],0⟩]:=(fI.nil _ bl).cons q aq (λj m=>by have G:c<=j:=m.1;omega) U;have r:=(a_ an).alloc (ae (hP c none none) 82);have h2:fI (w.heap.size+1) (an.alloc (ae (hP c none none) 82)) [ay.bc an.heap.size (hP c none none,82),ay.gW c ⟨[],[],0⟩]:=h1.cons r (aW _ _) (λj m=>gE m.symm) U
 have u:u_ w aO d n pat bK b5 an.heap.size [ay.bc an.heap.size (hP c none none,82),ay.gW c ⟨[],[],0⟩] (an.alloc (ae (hP c none none) 82)):=
  ⟨⟨_,_,r.heap v id⟩,h2,(ca.trans (a.mono U)).alloc U _⟩
 have s:=af u;clear u h2 r h1 C v q aq a ca E al;rw[<-l];clear l;unfold hP at s;go_upto_region 5 with fail
 generalize World.alloc an _=aB at *;generalize an.heap.size=b at *;go_wp2_with fail;go_loopg [7,8,9,20] 2 (λg _ _ _ i wr=>i=I 0/\aB=wr)
 case atStart=>exact⟨rfl,rfl⟩
 obtain⟨rfl,rfl⟩:=hrel;obtain⟨⟨aJ,yh,f⟩,D,x⟩:=s.o;have gO:=aP f;have f3:=bJ f;have H:=bR f;have eI:=((Keeps.refl (λj=>j=w) aB).setCell (p:=ad w 3 ab) rfl (I 0)).setCell (p:=ad w 4 ab) rfl (aK 1);have y:=bW (bW f 3 (I 0)) 4 (aK 1);simp only[c_]at y;have F:=af (D.keeps eI a7);have t:=af (x.trans (eI.below x.size a7));go_upto_region 9 with fail
 generalize World.setCell (World.setCell _ (ad w 3 ab) _) _ _=K at *;have fo:=aP y;go_wp2_with fail;refine aT ((T1 aO d n 1 pat bK b5 0 U B) _) λv2 A=>?_;have z:=af (t.o.trans (A.mono t.o.size));go_wp2_with fail;go_ret2;exact⟨rfl,z.o⟩
def tJ(b c:J)(s:J->bO)(d:gi):ah fT->ah ay
 | []=>[ay.bc b (hP c none none,82),ay.gW c ⟨[],[],0⟩]
 | [a]=>bC a (s 0) d++[ay.bc b (hP c (some ⟨a.p,0,none⟩) none,82),ay.gW c ⟨[],[],0⟩]
 | a :: e :: _=>bC e (s 1) d++(bC a (s 0) d++[ay.bc b (hP c (some ⟨a.p,0,none⟩) (some ⟨e.p,0,none⟩),82),ay.gW c ⟨[],[],0⟩])
def nP(aO:aa)(d n:J)(pat bK:aa):dZ:=⟨nQ aO d n pat bK,λ_=>[],λ_=>[],⟨[],[],0⟩⟩
def T4(A C R:ah ay)(b e z r t r' a:ay):(r :: t :: r' :: a :: ((C++(A++[b,e]))++z :: R)).Perm (A++((z :: b :: e :: r :: t :: r' :: a :: C)++R)):=by
 have h1:((C++(A++[b,e]))++z :: R).Perm ([b,e,z]++(A++(C++R))):=by
  have c:((C++(A++[b,e]))++z :: R)=C++(A++([b,e,z]++R)):=aI;rw[c];exact(oj C A _).trans (((oj C [b,e,z] R).append_left A).trans (oj A [b,e,z] _))
 have h2:(A++((z :: b :: e :: r :: t :: r' :: a :: C)++R)).Perm ([z,b,e,r,t,r',a]++(A++(C++R))):=oj A [z,b,e,r,t,r',a] _;exact((((h1.cons a).cons r').cons t).cons r).trans ((((show([0,1,2,3,4,5,6]:ah J).Perm [6,4,5,0,1,2,3]by decide).map λi=>[r,t,r',a,b,e,z].getD i r).append_right (A++(C++R))).trans h2.symm)
def GO{R:ah ay}{ey:Old}(ys:Sep w (ay.kinds ey :: R))(aO:aa)(d n:J)(pat bK b5 K M:aa)(hd:d<=8)(au:1<=n/\n<=16)(ar:1<=pat/\pat<=10000)(he:1<=bK/\bK<=256)(aX:1<=b5/\b5<=16):az 33 #[aM #[aK aO,I d,I n,I K,aK M,I pat,I bK,I b5]] w λe w'=>
  ∃ B:jt,e=aV #[B.b,I 0]/\cq w' B (nP aO d n pat bK) 0 R/\B.o=ey:=by
 have P:=af ys;have al:=aW w (ae #[aK aO,I d,I n,I K,aK M,I pat,I bK,I b5] 26);have W':(w.alloc (ae #[aK aO,I d,I n,I K,aK M,I pat,I bK,I b5] 26)).heap.size=w.heap.size+1:=aI;have ca:=(bY w.heap.size w).alloc bA (ae #[aK aO,I d,I n,I K,aK M,I pat,I bK,I b5] 26)
 go_in
 go_wp2_with fail;generalize World.alloc w _=bl at *;refine aT (Ft 64 U U bl) ?_;rintro an ⟨aq,X⟩;have sd:Keeps aG bl an:=Keeps.bE X a7;have zd:=sd.heap al id;have V':=X.size;have⟨c,fr⟩:=cQ bl.heap.size;rw[<-fr]at aq;have h1:fI (w.heap.size+1) an [ay.gW c ⟨[],[],0⟩]:=(fI.nil _ bl).cons sd aq (λj v=>by have T':c<=j:=v.1;omega) U;have s':=(a_ an).alloc (ae (hP c none none) 82);have h2:fI (w.heap.size+1) (an.alloc (ae (hP c none none) 82)) [ay.bc an.heap.size (hP c none none,82),ay.gW c ⟨[],[],0⟩]:=h1.cons s' (aW _ _) (λj v=>gE v.symm) U
 have v':u_ w aO d n pat bK b5 an.heap.size [ay.bc an.heap.size (hP c none none,82),ay.gW c ⟨[],[],0⟩] (an.alloc (ae (hP c none none) 82)):=
  ⟨⟨_,_,s'.heap zd id⟩,h2,(ca.trans (X.mono U)).alloc U _⟩
 have m':=af v';rw[<-fr];clear fr;unfold hP at m';go_upto_region 5 with fail
 generalize World.alloc an _=aB at *;generalize an.heap.size=b at *;go_wp2_with fail;go_loopg [7,8,9,20] 2 (λg _ _ _ i wr=>(g=2/\i=I 0/\u_ w aO d n pat bK b5 b (tJ b c (nQ aO d n pat bK) (oU b5) []) wr)\/(g=1/\i=I 1/\∃ f,u_ w aO d n pat bK b5 b (tJ b c (nQ aO d n pat bK) (oU b5) [f]) wr)\/(g=0/\i=I 2/\∃ f N,u_ w aO d n pat bK b5 b (tJ b c (nQ aO d n pat bK) (oU b5) [f,N]) wr))
 case atStart=>exact .inl ⟨rfl,rfl,m'.o⟩
 rcases hrel with⟨rfl,rfl,z⟩|⟨rfl,rfl,f,z⟩|⟨rfl,rfl,f,N,z⟩
 .obtain⟨⟨aJ,yh,t⟩,gf,C⟩:=z;have gO:=aP t;have f3:=bJ t;have Tq:=bR t;have eI:=((Keeps.refl (λj=>j=w) wr).setCell (p:=ad w 3 ab) rfl (I 0)).setCell (p:=ad w 4 ab) rfl (aK 1);have F:=bW (bW t 3 (I 0)) 4 (aK 1);have g':=gf.keeps eI a7;have Y:=C.trans (eI.below C.size a7);simp only[c_]at F;have u:=af F;have T:=af g';have y:=af Y;go_upto_region 9 with fail
  generalize World.setCell (World.setCell _ (ad w 3 ab) _) _ _=v1 at *;have fo:=aP u.o;go_wp2_with fail;refine((G9 aO d n 0 1 pat bK b5 U hd au ar he aX) _).mono ?_;rintro e v2 ⟨l,rfl,ar,A⟩;have G:Keeps aG v1 v2:=Keeps.bE A a7;have TS:=bR u.out;have m:fI (w.heap.size+1) v2 (bC l (nQ aO d n pat bK 0) (oU b5)++tJ b c (nQ aO d n pat bK) (oU b5) []):=T.out.append G ar U;have s:v2.heap[b]?=some (ae (hP c none none) 82 (0,0)):=m.sep.at' (9) rfl;have CW:w.heap.size+1<=b:=m.bm (ay.bc b (hP c none none,82)) (ky (i:=9) rfl) b rfl;have lb:=G.heap u.out id;have D:=y.out.trans (A.mono y.out.size);have bu:=aP s;have f0:=bJ s;have Aw:=bR s;have x:=(Keeps.refl (λj=>j=b) v2).setCell (p:=ad b 0 ab) rfl l.p;have l':=x.heap lb U;have Z:=D.trans (x.below D.size a7);have a':=bW s 0 l.p;have O:=af m;have V:=af l';have Q:=af Z;have W:=af x;have S:=af a';go_wp2_with fail;go_roundg 1
  case rel=>exact .inr (.inl ⟨rfl,by go_num,l,⟨⟨_,_,V.o⟩,O.o.set 9 (r':=ay.bc b (hP c (some (ad l.p 0 ab)) none,82)) rfl W.o (λ_ e=>e) (by simpa[hP,ay.bc]using S.o) (λ_ e=>e),Q.o⟩⟩)
  omega
 .obtain⟨⟨aJ,yh,t⟩,gf,C⟩:=z;have gO:=aP t;have f3:=bJ t;have Tq:=bR t;have eI:=((Keeps.refl (λj=>j=w) wr).setCell (p:=ad w 3 ab) rfl (I 1)).setCell (p:=ad w 4 ab) rfl (aK 2);have F:=bW (bW t 3 (I 1)) 4 (aK 2);have g':=gf.keeps eI a7;have Y:=C.trans (eI.below C.size a7);simp only[c_]at F;have u:=af F;have T:=af g';have y:=af Y;go_upto_region 9 with fail
  generalize World.setCell (World.setCell _ (ad w 3 ab) _) _ _=v1 at *;have fo:=aP u.o;go_wp2_with fail;refine((G9 aO d n 1 2 pat bK b5 U hd au ar he aX) _).mono ?_;rintro e v2 ⟨l,rfl,ar,A⟩;have G:Keeps aG v1 v2:=Keeps.bE A a7;have TS:=bR u.out;have m:fI (w.heap.size+1) v2 (bC l (nQ aO d n pat bK 1) (oU b5)++tJ b c (nQ aO d n pat bK) (oU b5) [f]):=T.out.append G ar U;have s:v2.heap[b]?=some (ae (hP c (some (ad f.p 0 ab)) none) 82 (0,0)):=m.sep.at' (18) rfl;have CW:w.heap.size+1<=b:=m.bm (ay.bc b (hP c (some (ad f.p 0 ab)) none,82)) (ky (i:=18) rfl) b rfl;have lb:=G.heap u.out id;have D:=y.out.trans (A.mono y.out.size);have bu:=aP s;have f0:=bJ s;have Aw:=bR s;have x:=(Keeps.refl (λj=>j=b) v2).setCell (p:=ad b 3 ab) rfl l.p;have l':=x.heap lb U;have Z:=D.trans (x.below D.size a7);have a':=bW s 3 l.p;have O:=af m;have V:=af l';have Q:=af Z;have W:=af x;have S:=af a';go_wp2_with fail;go_roundg 0
  case rel=>exact .inr (.inr ⟨rfl,by go_num,f,l,⟨⟨_,_,V.o⟩,O.o.set 18 (r':=ay.bc b (hP c (some (ad f.p 0 ab)) (some (ad l.p 0 ab)),82)) rfl W.o (λ_ e=>e) (by simpa[hP,ay.bc]using S.o) (λ_ e=>e),Q.o⟩⟩)
  omega
 have H:=af z;go_wp2_with fail;go_ret2;have zp:=H.o.jw;have St:Sep wr (tJ b c (nQ aO d n pat bK) (oU b5) [f,N]++ay.kinds ey :: R):=⟨λr E=>by
  rcases ft.1 E with E|E
  .exact H.out.sep.sep.all r E
  .exact(P.out.below zp).all r E,q_.2 ⟨H.out.sep.sep.apart,P.out.apart,λa bj q Q' j m vl=>by
  have:=H.out.sep.bm a bj j m
  have:=P.out.lt Q' vl
  omega⟩⟩
 have ps:∀ {L:ah ay},Sep wr L->Sep wr (ay.row (ao none 0 0) [] :: ay.cS (ao none 0 0) [] :: L):=λh=>
  (h.cons (r:=ay.cS (ao none 0 0) []) (a_ wr) (λ_ _ _ _ e=>e) (gB wr 0 _ _) (λj v=>by cases v)).cons (r:=ay.row (ao none 0 0) []) (a_ wr) (λ_ _ _ _ e=>e) (gB wr 0 _ _) (λj v=>by cases v)
 exact⟨⟨ey,b,c,λk=>if k=0 then f else N⟩,rfl,⟨λ_=>(ao none 0 0),λ_=>(ao none 0 0),λ_=>oU b5,(ps (ps St)).perm (T4 _ _ _ _ _ _ _ _ _ _)⟩,rfl⟩
def OM{b:fG}{x:ck}(h:IsCore w b x):az 28 #[b.c] w λe w'=>e=.returned (I x.L.length)/\Below w w w':=by
 have dS:=h.dS
 go_in
 go_wp2_with fail;refine(Jj h.st).mono ?_;rintro e an ⟨v,rfl,a,aj⟩;obtain⟨A,cap,rfl,_,_⟩:=cP a;rw[hh];go_wp2_with fail;go_ret;exact⟨rfl,aj⟩
def AY(h:cq w B M bh R)(hk:k<2):az 15 #[B.b,I k] w λe w'=>e=.returned (.pointer (some (ad ((B.p k).p) 0 ab)))/\w=w':=by
 have⟨V,T,aj⟩:=h.bc;have aq:=pF aj hk
 go_in
 go_wp2_with fail;refine br (vy B.b hk w) ?_;go_wp2;go_ret;exact⟨rfl,rfl⟩
def GN(h:cq w B M bh R)(bf:aa):az 30 #[B.b,I bf] w λe w'=>e=.returned (I (rT M.cs bf))/\w=w':=by
 obtain⟨V,T,d,h⟩:=h;have dS:=tu (h.at' 10 rfl)
 go_in
 go_wp2_with fail;refine br ((Ou (h.at' 11 rfl) bf)) ?_;go_wp2;go_ret;exact⟨rfl,rfl⟩
def QH(h:cq w B M bh R)(aR:(M.p 0).b'=false):az 59 #[B.b] w λe w'=>e=.returned (.bool false)/\∃ q,w'=w.drewN q:=by
 obtain⟨V,T,d,h⟩:=h;have bu:=aP (h.at' 10 rfl);have a:=af (G7 h);rw[aR]at a
 go_in
 go_wp2_with fail;go_loopg [3,4,5,6] 0 (λg _ _ _ i wr=>i=I 0/\wr=w)
 case atStart=>exact⟨rfl,rfl⟩
 obtain⟨rfl,rfl⟩:=hrel;go_wp2_with fail;refine aT a.o ?_;rintro _ ⟨q,rfl⟩;go_wp2;go_ret;exact⟨rfl,q,rfl⟩
def XF(w:ai):az 34 #[] w λe w'=>e=.returned (aM #[aK 5,I 1,I 4,I 0,aK 0,I 100,I 100,I 8])/\Below w w w':=by
 go_in
 go_wp2;refine dn (v:=aM #[aK 5,I 1,I 4,I 0,aK 0,I 100,I 100,I 8]) (dv _ _ _ _ (aW w (ae #[aK 5,I 1,I 4,I 0,aK 0,I 100,I 100,I 8] 26)) 8 rfl) ?_;exact⟨rfl,(bY _ w).alloc bA _⟩
def XH(aO d n pat bK b5 a b:aa)(c:¬ vA d n pat bK b5)(w:ai):az 9 #[aM #[aK aO,I d,I n,I a,aK b,I pat,I bK,I b5]] w λe w'=>e=aV #[.pointer none,false]/\Below w w w':=by
 have ca:=(bY w.heap.size w).alloc bA (ae #[aK aO,I d,I n,I a,aK b,I pat,I bK,I b5] 26)
 go_in
 go_wp2_with fail;generalize World.alloc w _=bl at *;refine aT ((QG aO d n pat bK b5 a b c) _) λan aj=>?_;go_wp2;go_ret2;exact⟨rfl,(ca.trans (aj.mono ca.size))⟩
def XG{ey:Old}(g:Sep w (ay.kinds ey :: R))(aO:aa)(d n:J)(pat bK b5 a c:aa)(hd:d<=8)(au:1<=n/\n<=16)(ar:1<=pat/\pat<=10000)(i:1<=bK/\bK<=256)(aX:1<=b5/\b5<=16):az 9 #[aM #[aK aO,I d,I n,I a,aK c,I pat,I bK,I b5]] w λe w'=>
  ∃ B:jt,e=aV #[B.b,true]/\cq w' B (nP aO d n pat bK) 0 R/\B.o=ey:=by
 have f:=af (GO (g.alloc (ae #[aK aO,I d,I n,I a,aK c,I pat,I bK,I b5] 26)) aO d n pat bK b5 a c hd au ar i aX)
 go_in
 go_wp2_with fail;generalize World.alloc w _=bl at *;refine f.o.mono ?_;rintro e an ⟨B,rfl,h,aj⟩;go_wp2;go_ret2;exact⟨B,rfl,h,aj⟩
def x5(a b:ah cg):da (a++b)=da a++da b:=q5 ..
def HE{l:ah cg}(h:∀ c∈l,c.bN≠4):da l=[]:=filter_eq_nil_iff.2 λc aq=>by simpa using h c aq
def HC{l:ah cg}(h:∀ c∈l,c.bN=4):da l=l:=ni.2 λc aq=>by simpa using h c aq
def Oz(xs L:ah aC):∀ c∈ix xs L,c.bN≠4:=λc aq=>by
 obtain⟨e,_,rfl⟩:=fu.1 aq;show(3:aa)≠4;omega
def Xt(s:cH)(fr:aa)(xs:ah aC)(now:aa):da (ks s fr xs now)=[]:=HE λc aq=>by
 rcases ft.1 aq with aq|aq
 .exact Oz _ _ c aq
 obtain⟨e,_,rfl|rfl⟩:=J0 _ _ _ _ c aq
 .show(2:aa)≠4;omega
 show(1:aa)≠4;omega
def Rt(s:cH):da (kg s)=[]:=HE λc aq=>by
 unfold kg at aq;split at aq
 .cases aq
 obtain⟨e,_,rfl⟩:=fu.1 aq;show(3:aa)≠4;omega
def A_(r:aa)(p:ct):da (fN r p).2=da p.2:=by
 unfold fN;split
 .rfl
 rw[x5,Rt,eX]
def G6(p:ct):da (e7 p).2=da p.2:=by
 unfold e7;split
 .exact A_ _ _
 rfl
def Hl(f v:aa)(p:ct):da (ic f v p).2=da p.2:=by
 unfold ic;split
 .split
  .rfl
  exact A_ _ _
 split<;>rfl
def UT(f:J)(p:ct):da (iY f p).2=da p.2:=by
 unfold iY;split
 .exact Hl _ _ _
 rfl
def Af(L xs:ah aC):(∀ c∈(hr L xs).2,c.bN=4)/\(hr L xs).2.map cg.cn=xs:=by
 rw[<-oo xs]
 induction xs.reverse with
 | nil=>exact⟨(λc aq=>nomatch aq),rfl⟩
 | cons e l a=>
  rw[om,rA];refine⟨λc aq=>?_,?_⟩
  .rcases ft.1 aq with aq|aq
   .exact a.1 c aq
   rw[h6.1 aq]
  rw[jO,a.2];rfl
def jz(us:J->J->aa)(aO:aa)(n:J):ah aC:=(range n).flatMap (hT us aO)
def xz(us:J->J->aa)(aO:aa)(n:J):jz us aO (n+1)=jz us aO n++hT us aO n:=by
 unfold jz;rw[q',q8,flatMap_singleton]
def Ay{us cN:J->J->aa}(aO:aa)(n:J)(h:∀ k,k<2->∀ j,j<n->us k j=cN k j):jz us aO n=jz cN aO n:=by
 induction n with
 | zero=>simp[jz]
 | succ n b=>
  have h2:=Az aO n λk hk j a=>h k hk j U;exact(xz us aO n).trans ((congr (cV HAppend.hAppend (b λk hk j a=>h k hk j U)) h2).trans (xz cN aO n).symm)
def Pv(us:J->J->aa){aO:aa}(ax:0<=aO/\aO<=4294967295)(n:J):(jz us aO n).length<=64*n:=by
 induction n with
 | zero=>simp[jz]
 | succ n a=>
  rw[xz,cx]
  have:=(rJ us ax n).2.1
  omega
def pA(l:ah cg):ah aC:=(da l).map cg.cn
def UQ(s:bO):da (cW s).2=[]:=by
 unfold cW;split
 .rfl
 rename_i g _;have key:∀ (L:ah (J×ah aC)) (p:ct),da (L.foldl (jk s.x.now) p).2=da p.2:=by
  intro L
  induction L with
  | nil=>intro p;rfl
  | cons e l a=>
   intro p;show da (l.foldl (jk s.x.now) (jk s.x.now p e)).2=_;rw[a];exact LJ
 exact key _ _
def Xa(v:aQ)(p:ct):da (eL v p).2=da p.2:=by
 unfold eL;split
 .exact LJ
 rfl
theorem JF{F:J}{ba us:J->J->aa}:∀ (n:J) {p:ct},cb p.1 F ba us->h9 p.1 ba us->∃ Y,pA (e0 n p).2=pA p.2++Y/\jz us p.1.x.aO ((e0 n p).1.ld.aS+1).toNat=jz us p.1.x.aO (p.1.ld.aS+1).toNat++Y
 | 0,p,_,_=>⟨[],by simp[e0],by simp[e0]⟩
 | n+1,p,h,au=>by
  unfold e0;split
  .exact⟨[],aI,aI⟩
  rename_i aq;have f:p.1.ld.aS<cY p.1.x:=U;obtain⟨h1,h2,b,i,j⟩:=h.eZ au f p.2;have g:h9 (Go.Proofs.YtalagblioepadaaGreatDoor.eZ p).1 ba us:=by
   unfold h9 bT at *;rw[h2];exact au
  obtain⟨Y,d,a⟩:=JF n h1 g;have ar:((p.1,p.2):ct)=p:=rfl;rw[ar]at h2 b;rw[ar]at d a;have k:=h.aS;have l:=(h.n0 au).2;have c:=h.b2 (p.1.ld.aS+1);rw[aD ⟨U,U⟩]at c;have hk:pA (Go.Proofs.YtalagblioepadaaGreatDoor.eZ p).2=pA p.2++hT us p.1.x.aO (p.1.ld.aS+1).toNat:=by
   have e:da (Go.Proofs.YtalagblioepadaaGreatDoor.eZ p).2=da p.2++hQ p.1.ld (p.1.ld.aS+1):=by
    unfold Go.Proofs.YtalagblioepadaaGreatDoor.eZ;simp only[];split
    .rw[UT,x5];unfold hQ;rw[HC (Af _ _).1]
    rw[x5];unfold hQ;rw[HC (Af _ _).1]
   unfold pA;rw[e,jO];unfold hQ;rw[(Af _ _).2,c]
  refine⟨hT us p.1.x.aO (p.1.ld.aS+1).toNat++Y,by rw[d,hk,dD],?_⟩;rw[h2]at a;rw[a,b,show(p.1.ld.aS+1+1).toNat=(p.1.ld.aS+1).toNat+1 by omega,xz,dD]
def cb.F6{s:bO}{F:J}{ba us:J->J->aa}(h:cb s F ba us)(aO:aa):jz us aO (s.ld.aS+1).toNat=jz ba aO (s.ld.aS+1).toNat:=Ay aO _ λk hk j a=>by
 have aq:=h.aS;have hm:=h.aJ
 have:k=s.x.aJ\/k=1-s.x.aJ:=U
 rcases this with rfl|rfl
 .exact h.Cy j U
 exact h.sn j (.inr U)
def XC{s:bO}{F:J}{ba us:J->J->aa}(h:cb s F ba us)(aR:s.b'=false)(w:s.x.now<=F+s.x.dA+1)(A:s.x.now<=100000)(v:aQ)(aX:v.toNat<=63):jz ba s.x.aO (s.ld.aS+1).toNat++pA (cJ v s).2=jz (if dL s then jf s ba v.toNat else ba) s.x.aO ((cJ v s).1.ld.aS+1).toNat/\(cJ v s).1.cu=s.cu/\((cJ v s).1.b'=false->((cJ v s).1.x.eT:aa)<=(cJ v s).1.ld.aS+1):=by
 obtain⟨cN,c,K,_,B⟩:=vQ h aR w A v aX;have n:=c.cG;obtain⟨Y,d,l⟩:=JF (cY (eL v (cW s)).1.x-(eL v (cW s)).1.ld.aS).toNat n c.gM;have al:=cb.settle (cY (eL v (cW s)).1.x-(eL v (cW s)).1.ld.aS).toNat n c.gM U;have m:=c.settle;have em:e0 (cY (eL v (cW s)).1.x-(eL v (cW s)).1.ld.aS).toNat (eL v (cW s))=dc v s:=rfl;rw[em]at d l al;have q:ji (eL v (cW s))=dc v s:=rfl;rw[q]at m;obtain⟨f,a⟩:=m;have e:cJ v s=l2 (dc v s):=by unfold cJ;rw[aR];rfl
 have p:pA (cJ v s).2=Y:=by
  rw[e];unfold pA l2;rw[G6];have d:=d;unfold pA at d;rw[Xa,UQ]at d;simpa using d
 obtain⟨b,g⟩:∃ b:ct,b=({(dc v s).1 with x:=dW (dc v s).1.x,aE:=(c5 (dc v s).1.aE (hV {(dc v s).1 with x:=dW (dc v s).1.x})).2},(dc v s).2):=⟨_,rfl⟩;have k:cJ v s=e7 b:=by rw[e,g];rfl
 have⟨g1,C,r,D,E,t⟩:=xV b;have y:(e7 b).1.cu=b.1.cu:=by
  unfold e7;split
  .exact(rM 12 b).2.2.2.1
  rfl
 have⟨_,_,_,_,_,_,_,_,_,_,_,_,_,o,_⟩:=(r0 h);have z:(eL v (cW s)).1.cu=s.cu:=by
  unfold eL;split
  .exact o
  exact o
 refine⟨?_,?_,?_⟩
 .rw[p,k,r,g];rw[c.fix.aO,B]at l;rw[<-(f.cG.F6 s.x.aO),l,<-h.F6]
  congr 1
  exact Ay _ _ λi av j H=>(c.Im i j (.inl (by have:=h.aS;omega))).symm
 .rw[k,y,g];exact al.2.2.2.2.1.trans z
 intro aq;rw[k]at aq⊢;have⟨_,u⟩:=t aq;rw[u]at aq⊢;rw[g]at aq⊢;have a:cY (dc v s).1.x=(dc v s).1.ld.aS:=by
  rcases a with a|a
  .rw[aq]at a;cases a
  exact a
 have gm:=f.cG.n0 f.gM;have G:=f.cG.uW;show((dW (dc v s).1.x).eT:aa)<=(dc v s).1.ld.aS+1;unfold dW;split
 .rw[f.cG.hR.eT];omega
 show((cY (dc v s).1.x).toNat:aa)<=_;omega
structure hl(cr:aa)(M:dZ):ak where
 gI:∀ k,k<2->(M.p k).b'=false->((M.p k).x.eT:aa)<=(M.p k).ld.aS+1
 cu:∀ k,k<2->-1000<=(M.p k).cu/\(M.p k).cu<=1000
 bN:∀ k,k<2->∀ c∈M.st k,c.bN=4
 st:∀ k,k<2->(M.st k).map cg.cn=jz (fB M.bF) cr ((M.p k).ld.aS+1).toNat
section
variable{n d w:J}{cr:aa}{M:dZ}{k:J}
def hl.fX(x:hl cr M)(h:e' n d w cr M)(au:n<=400)(hk:k<2):(M.st k).length<=30000:=by
 have⟨F,us,A,av⟩:=h.ps k hk;have h2:=cV length (x.st k hk);rw[hh]at h2;have ax:=av.cG.aO;rw[av.sd]at ax;have a:=Pv (fB M.bF) ax ((M.p k).ld.aS+1).toNat;have b:=av.cG.aS;have c:=av.tI;omega
def hl.still(x:hl cr M){s':bO}{c3:ah cg}{g:cT}(e:s'.ld.aS=(M.p k).ld.aS)(h:s'.b'=false->(M.p k).b'=false)(i:s'.x.eT=(M.p k).x.eT)(l:-1000<=s'.cu/\s'.cu<=1000)(m:da c3=[]):hl cr {p:=b1 M.p k s',bF:=M.bF,st:=b1 M.st k (M.st k++da c3),cs:=g}:=by
 rw[m,eX];have f:∀ j,b1 M.st k (M.st k) j=M.st j:=λj=>by unfold b1;split;subst j;rfl;rfl
 have ar:∀ j,j<2->∀ P:bO->ak,P s'->P (M.p j)->P (b1 M.p k s' j):=λj _ P a b=>by unfold b1;split;exact a;exact b
 refine⟨λj d=>?_,λj d=>ar j d (λs=>-1000<=s.cu/\s.cu<=1000) l (x.cu j d),λj d=>?_,λj d=>?_⟩
 .show(b1 M.p k s' j).b'=false->((b1 M.p k s' j).x.eT:aa)<=(b1 M.p k s' j).ld.aS+1;unfold b1;split
  .subst j;intro c;rw[i,e];exact x.gI k d (h c)
  exact x.gI j d
 .show ∀ c∈b1 M.st k (M.st k) j,c.bN=4;rw[f];exact x.bN j d
 show(b1 M.st k (M.st k) j).map cg.cn=jz (fB M.bF) cr ((b1 M.p k s' j).ld.aS+1).toNat;rw[f,x.st j d];unfold b1;split
 .subst j;rw[e]
 rfl
def hl.tick(x:hl cr M)(h:e' n d w cr M)(au:n<=400)(hk:k<2)(v:aQ)(aX:v.toNat<=63):hl cr (gC k v M):=by
 have⟨F,us,A,av⟩:=h.ps k hk;have⟨z,B,N,O⟩:=two hk;by_cases aR:(M.p k).b'=true
 .have g:cJ v (M.p k)=({M.p k with aE:=(c5 (M.p k).aE 0).2},[]):=by unfold cJ;rw[aD aR]
  have s:(if dL (M.p k)then b1 M.bF k (M.bF k++[v])else M.bF)=M.bF:=by unfold dL;rw[aR];rfl
  unfold gC;rw[s,g];exact x.still rfl (λc=>c) rfl (x.cu k hk) rfl
 have aR:(M.p k).b'=false:=by simpa using aR
 have⟨f,C,D⟩:=XC av.cG aR (by rw[av.wn];exact av.E) (by have:=av.tI;omega) v aX;have u:(if dL (M.p k)then jf (M.p k) (fB M.bF) v.toNat else fB M.bF)=fB (gC k v M).bF:=by
  show _=fB (if dL (M.p k)then b1 M.bF k (M.bF k++[v])else M.bF);split
  .rw[HI];unfold jf;rw[av.aJ,av.qK]
  rfl
 rw[u,av.sd]at f;refine⟨λj a=>?_,λj a=>?_,λj a c aq=>?_,λj a=>?_⟩
 .show(b1 M.p k _ j).b'=false->((b1 M.p k _ j).x.eT:aa)<=(b1 M.p k _ j).ld.aS+1;unfold b1;split
  .exact D
  exact x.gI j a
 .show -1000<=(b1 M.p k _ j).cu/\(b1 M.p k _ j).cu<=1000;unfold b1;split
  .rw[C];exact x.cu k hk
  exact x.cu j a
 .have aq:c∈b1 M.st k (M.st k++da (cJ v (M.p k)).2) j:=aq;unfold b1 at aq;split at aq
  .rcases ft.1 aq with aq|aq
   .exact x.bN k hk c aq
   unfold da at aq;simpa using(fR.1 aq).2
  exact x.bN j a c aq
 show(b1 M.st k (M.st k++da (cJ v (M.p k)).2) j).map cg.cn=jz (fB (gC k v M).bF) cr ((b1 M.p k (cJ v (M.p k)).1 j).ld.aS+1).toNat;by_cases e:j=k
 .subst j;rw[i_,i_,jO,x.st k hk];exact f
 rw[h3 _ _ e,h3 _ _ e,x.st j a];have t:j=1-k:=U;subst t;have⟨H,P,G,b⟩:=h.ps (1-k) z;refine Ay cr _ λi K q L=>?_;have aq:=b.cG.aS;have y:=b.uh;have o:=b.cG.ab;rw[b.qK]at o;rw[B]at y;have l:q<(M.bF i).length:=by
  have:i=k\/i=1-k:=U
  rcases this with rfl|rfl<;>omega
 have⟨r,m⟩:=AJ M k v i;unfold fB;exact Lq
def XK(t:cc)(x:aa)(h:h0 x t.data.toList.length<t.data.toList.length):o7 t x 0=t:=by
 have e:sm t.data.toList x 0=t.data.toList:=by
  unfold sm;have a:∀ y:aQ,lM y 0=y:=λy=>by unfold lM;simp
  rw[a,oe,gb h];exact set_getElem_self h
 unfold o7;rw[e]
def wh(s:cT)(g i:aa)(j:J):(∀ t∈(fD s g i).get j,t∈s.get j)/\((fD s g i).get j).length<=(s.get j).length:=by
 unfold fD;split
 .unfold cT.put cT.get
  split<;>split<;>first
   | exact⟨λt aN=>mem_of_mem_eraseIdx aN,length_eraseIdx_le _ _⟩
   | exact⟨λ_ h=>h,c9 _⟩
   | (rename_i a b;exact⟨λt aN=>mem_of_mem_eraseIdx aN,length_eraseIdx_le _ _⟩)
 exact⟨λ_ h=>h,c9 _⟩
def Rr(h:e' n d w cr M)(au:n<=400)(hk:k<2){t:cc}(W:t.size<=256)(aN:(∃ m,t.data.toList=dk m/\iP (w+d) (M.bF (1-k)) (bT (M.p (1-k))) m)\/(fs t.data.toList).2≠0)(aR:(M.p k).b'=false):w7 (M.p k).aE t/\((cI (M.p k).aE t.data.toList).2.1=0->∃ F us,EG (M.p k) t F (fB M.bF) us):=by
 have⟨F,us,A,e,H,a,o,q,K,L,r,f,bP,N,O,P⟩:=h.ps k hk;have⟨C,D,a',fr⟩:=two hk;have S:d<=8/\w<=16:=by have:=e.mB;rw[f,bP]at this;omega
 have s:=e.ab;have v:=e.oT;rw[f,o]at s;rw[bP]at v;have⟨G,m',E,b0,bs,ez,dR,fV,dS,c6,fv,e5,d1,d2,Q,R⟩:=h.ps (1-k) C;have u:=b0.ab;have y:=b0.oT;rw[e5,dR]at u;rw[d1]at y;rw[D]at fV dS;have l:w7 (M.p k).aE t:=by
  have gf:=a.dG;have g':=a.ac;have hd:=a.eR;have h2:=a.bad;have lb:=a.e1;have l':=a.dF;exact⟨U,U,U,U,U,U⟩
 refine⟨l,λz=>?_⟩;have⟨⟨T',cA,X,Y,Z,i4,i5,i6,i7,j,B⟩,V⟩:=(a.vD U (M.bF (1-k)) q U (Tq:=bT (M.p (1-k))) (c:=w+d) fV aN);have T:(cI (M.p k).aE t.data.toList).1.a8.length=T'-bT (M.p k):=by rw[j];simp;omega
 have g:∀ i x,(cI (M.p k).aE t.data.toList).1.a8[i]?=some x->(M.bF (1-k))[bT (M.p k)+i]?=some x:=λi x b=>by
  exact Lv
 exact⟨F,us,e,aR,l,z,λx b=>by
  obtain⟨i,av,rfl⟩:=sD.1 b;exact h.nS (1-k) _ (ky (g i _ (gb av))),λi x b=>by
  rw[r];unfold fB;rw[oe,g i x b];rfl,B,U,U⟩
def Hh(s:bO)(t:ah aQ)(h:(∃ m,t=dk m/\m.wf/\dh m)\/(fs t).2≠0)(d:-1000<=s.cu/\s.cu<=1000):(dx t s).1.ld.aS=s.ld.aS/\((dx t s).1.b'=false->s.b'=false)/\(dx t s).1.x.eT=s.x.eT/\(-1000<=(dx t s).1.cu/\(dx t s).1.cu<=1000)/\da (dx t s).2=[]:=by
 unfold dx;split
 .rename_i aR;exact⟨rfl,λc=>c,rfl,d,rfl⟩
 split
 .exact⟨rfl,λc=>c,rfl,d,rfl⟩
 rename_i aR _;have aR:s.b'=false:=by simpa using aR
 obtain⟨s1,b⟩:∃ s1:bO,s1={s with x:=fc s.x (cI s.aE t).1.a8,aE:=(cI s.aE t).2.2}:=⟨_,rfl⟩;rw[<-b];obtain⟨k,u,n,v⟩:=He (cI s.aE t).1 s1;obtain⟨g1,o,e,p,q,r⟩:=xV (fj (cI s.aE t).1 s1);have i:∀ (l:ah aQ) (x:ck),(fc x l).eT=x.eT:=by
  intro l
  induction l with
  | nil=>intro x;rfl
  | cons a l j=>intro x;exact j _
 have f:-1000<=(fj (cI s.aE t).1 s1).1.cu/\(fj (cI s.aE t).1 s1).1.cu<=1000:=by
  unfold Go.Proofs.YtalagblioepadaaGreatDoor.fj;split
  .rw[(Bd _ _ _).2.2.2.1,b];exact d
  split
  .exact Rp s.aE t h
  rw[b];exact d
 have g:(e7 (fj (cI s.aE t).1 s1)).1.cu=(fj (cI s.aE t).1 s1).1.cu:=by
  unfold e7;split
  .exact(rM 12 _).2.2.2.1
  rfl
 refine⟨by rw[e,n,b],λ_=>aR,by rw[g1,k,b];exact i _ _,by rw[g];exact f,?_⟩;rw[G6];unfold Go.Proofs.YtalagblioepadaaGreatDoor.fj;split
 .exact Hl _ _ _
 split<;>rfl
def R_(s:bO)(a:-1000<=s.cu/\s.cu<=1000):(fY s).1.ld.aS=s.ld.aS/\((fY s).1.b'=false->s.b'=false)/\(fY s).1.x.eT=s.x.eT/\(-1000<=(fY s).1.cu/\(fY s).1.cu<=1000)/\da (fY s).2=[]:=by
 unfold fY;split
 .exact⟨rfl,λc=>c,rfl,a,rfl⟩
 have⟨g1,f,b,d,g,e,h,i,j⟩:=rM 12 ({s with aE:=mA s.aE},[]);exact⟨b,λc=>absurd (e.symm.trans c) aI,by rw[g1],by rw[d];exact a,A_ _ _⟩
end
variable{W:ai}{n d w:J}{cr:aa}
inductive oA(s:bO):bO->ah cg->ak
 | tick (v:aQ) (aX:v.toNat<=63):oA s (cJ v s).1 (cJ v s).2
 | vD (t:ah aQ):oA s (dx t s).1 (dx t s).2
 | leave:oA s (fY s).1 (fY s).2
 | none:oA s s []
structure zV(M fH:dZ)(bf:aa)(c3:ah cg)(bZ:aa):ak where
 ex:∃ k:J,k<2/\(bZ=0->bf=(k:aa))/\oA (M.p k) (fH.p k) c3/\(∀ j:J,j≠k->fH.p j=M.p j)/\(bZ≠0->c3=[])
def e'.gW(h:e' n d w cr M)(a:cT)(aq:∀ j:J,(∀ t∈a.get j,t∈M.cs.get j)/\(a.get j).length<=(M.cs.get j).length)(b:M.cs.lost<=a.lost/\a.lost<=M.cs.lost+1):e' (n+1) d w cr {M with cs:=a}:=by
 refine⟨λk hk=>?_,h.nS,λk hk t aN=>h.vv k hk t ((aq k).1 t aN),λk=>b7 (aq k).2 (h.rU k),?_⟩
 .obtain⟨F,us,A,av⟩:=h.ps k hk;exact⟨F,us,A,av.cu hk (uB n) rfl rfl h.nS (wK _) bA⟩
 have:=h.lost
 show 0<=a.lost/\a.lost<=10*((n+1:J):aa);omega
def e'.up(h:e' n d w cr M):e' (n+1) d w cr M:=h.gW M.cs (λ_=>⟨λ_ h=>h,c9 _⟩) U
def hl.gW(x:hl cr M)(a:cT):hl cr {M with cs:=a}:=⟨x.gI,x.cu,x.bN,x.st⟩
def Bh{s:bO}{F:J}{ba us:J->J->aa}(h:cb s F ba us):s.ld.bd.length<=256:=by
 have:=h.lp
 have:=h.most
 omega
def xY{p:ct}(h:p.1.ld.bd.length<=256)(r:aa):(fN r p).2.length<=p.2.length+256:=by
 unfold fN;split
 .omega
 rw[cx];unfold kg;split
 .simp
 rw[hh];omega
def Ke(h:e' n d w cr M)(x:hl cr M)(au:n<=400)(hk:k<2)(v:aQ)(aX:v.toNat<=63)(aR:(M.p k).b'=false):∃ F us,z1 (M.p k) v F (fB M.bF) us:=by
 have⟨F,us,A,av⟩:=h.ps k hk;have h1:=av.aE.n4;have h2:=av.aE.ac;have a:=av.aE.dF;have b:=av.qK;have c:=av.cG.ab;have e:=av.cG.mB;have f:=av.tI;have g:=x.gI k hk aR;have i:=av.cG.hR.eT;exact⟨F,us,av.cG,aR,by rw[av.wn];exact av.E,U,U,aX,x.cu k hk,U,U,(wj h au hk v aX).bm aR⟩
def XB{s:bO}{v:aQ}{F:J}{ba us:J->J->aa}(hk:z1 s v F ba us):(cJ v s).2.length<=60256:=by
 have⟨o,g,m,_,fm,h,_,_,_,n,_⟩:=r0 hk.cG;have l:bT (cW s).1=bT s:=by unfold bT fq;rw[n,h]
 have cy:h9 (cW s).1 ba o:=λj d c=>by rw[h];rw[fm]at d;rw[l]at c;exact m j d c
 have r:=hk.cG.I1;obtain⟨y,a,_,_,t⟩:=vQ hk.cG hk.lu hk.E (b7 hk.top bq) v hk.dH;have b:=a.cG;have gm:=b.n0 a.gM;have w:=J4 v g (λaq=>((g.J3 cy (by rw[fm];exact hk.top) LW v hk.dH (cW s).2) aq).2.2.2.2.1);have hm:=hp.AF (cY (eL v (cW s)).1.x-(eL v (cW s)).1.ld.aS).toNat b.yQ;have em:e0 (cY (eL v (cW s)).1.x-(eL v (cW s)).1.ld.aS).toNat (eL v (cW s))=dc v s:=rfl;rw[em]at hm;have q:=b.ju;have u:=hk.gI;have f:=(a.settle).1;have i:ji (eL v (cW s))=dc v s:=rfl;rw[i]at f;have k:=Bh f.cG;have e:cJ v s=l2 (dc v s):=by unfold cJ;rw[hk.lu];rfl
 rw[e];unfold l2 e7;split
 .refine b7 (xY (p:=(_,_)) ?_ 12) ?_
  .exact k
  show(dc v s).2.length+256<=_;omega
 show(dc v s).2.length<=_;omega
def Rn{s:bO}{F:J}{ba us:J->J->aa}(h:cb s F ba us)(t:ah aQ):(dx t s).2.length<=1000:=by
 unfold dx;split
 .simp
 split
 .simp
 obtain⟨s1,b⟩:∃ s1:bO,s1={s with x:=fc s.x (cI s.aE t).1.a8,aE:=(cI s.aE t).2.2}:=⟨_,rfl⟩;rw[<-b];have a:s1.ld.bd.length<=256:=by have:=Bh h;rw[b];exact this
 have h2:(fj (cI s.aE t).1 s1).2.length<=256/\(fj (cI s.aE t).1 s1).1.ld.bd.length<=256:=by
  have aR:∀ r,(fN r (s1,[])).2.length<=256/\(fN r (s1,[])).1.ld.bd.length<=256:=λr=>⟨by have:=xY (p:=(s1,[])) a r;simpa using this,by
   unfold fN;split
   .exact a
   .show(gJ s1.ld).bd.length<=256;unfold gJ;split
    .exact a
    .simp⟩
  unfold Go.Proofs.YtalagblioepadaaGreatDoor.fj;split
  .unfold ic;split
   .split
    .exact⟨aI,a⟩
    exact aR _
   split<;>exact⟨aI,a⟩
  split<;>exact⟨aI,a⟩
 unfold e7;split
 .have:=xY h2.2 12
  omega
 omega
def R9{s:bO}{F:J}{ba us:J->J->aa}(h:cb s F ba us):(fY s).2.length<=256:=by
 unfold fY;split
 .simp
 have a:=Bh h
 have:=xY (p:=({s with aE:=mA s.aE},[])) a 12
 simpa using this
def Q1(h:e' n d w cr M)(x:hl cr M)(au:n<=400)(hk:k<2)(v:aQ)(aX:v.toNat<=63):∀ W d R,ay.kinds B.o∈R->Sep W (bC (B.p k) (M.p k) d++R)->az 60 #[.pointer (some (ad ((B.p k).p) 0 ab)),aF v.toNat] W (w_ (B.p k) (cJ v (M.p k)).1 (cJ v (M.p k)).2 (e_ v (M.p k)) (dL (M.p k)) R):=λW d R a al=>by
 cases aR:(M.p k).b' with
 | true=>exact Q3 al aR v aX ((wj h au hk v aX).HO aR)
 | false=>
  have⟨F,us,aN⟩:=Ke h x au hk v aX aR;exact Q0 a al v aN
def QU(h:e' n d w cr M)(au:n<=400)(hk:k<2){t:cc}(e:t.size<=256)(aN:(∃ m,t.data.toList=dk m/\iP (w+d) (M.bF (1-k)) (bT (M.p (1-k))) m)\/(fs t.data.toList).2≠0):∀ W d R,ay.kinds B.o∈R->Sep W (bC (B.p k) (M.p k) d++R)->az 65 #[.pointer (some (ad ((B.p k).p) 0 ab)),.string t] W (u' (B.p k) (dx t.data.toList (M.p k)).1 (dx t.data.toList (M.p k)).2 (iT t.data.toList (M.p k)) R):=λW d R b al=>by
 cases aR:(M.p k).b' with
 | true=>exact QW al aR t
 | false=>
  have⟨h1,h2⟩:=Rr h au hk e aN aR;by_cases a:(cI (M.p k).aE t.data.toList).2.1=0
  .have⟨F,us,c⟩:=h2 a;exact QX b al t c
  exact QV al aR t h1 _ rfl a
def Hf(t:ah aQ)(s:bO)(h:iT t s≠0):(dx t s).2=[]:=by
 unfold iT at h;unfold dx;split
 .rfl
 rename_i aR;rw[aA aR]at h;rw[aD h]
def pad(d:J)(M:dZ):dZ:={M with bF:=λk=>replicate d 0++M.bF k}
def yl(d k:J)(v:aQ)(M:dZ):gC k v (pad d M)=pad d (gC k v M):=by
 have h:(gC k v (pad d M)).bF=(pad d (gC k v M)).bF:=by
  funext j
  show(if dL (M.p k)then b1 (pad d M).bF k ((pad d M).bF k++[v])else(pad d M).bF) j=replicate d 0++(if dL (M.p k)then b1 M.bF k (M.bF k++[v])else M.bF) j;split
  .unfold b1;split
   .show(replicate d 0++M.bF k)++[v]=_;rw[dD]
   rfl
  rfl
 have e:pad d (gC k v M)={gC k v (pad d M)with bF:=(pad d (gC k v M)).bF}:=rfl;rw[e,<-h]
def sY(B:jt)(n d w:J)(cr:aa)(M:dZ)(bf bh:aa)(R:ah ay)(e:Ending)(w':ai):ak:=
 ∃ fH c3 bZ,e' (n+1) d w cr (pad d fH)/\hl cr (pad d fH)/\zV M fH bf c3 bZ/\jT B fH bh c3 bZ R e w'
def XJ(m:aZ)(x:aa)(a:dh m):h0 x (dg m).data.toList.length<(dg m).data.toList.length:=by
 have ax:=qY a;have b:(dk m).length=(dg m).size:=by simp[dg,ByteArray.size]
 have⟨r,_,ar⟩:=Cv x (dk m).length U U;have av:h0 x (dk m).length<(dk m).length:=by
  rcases ar with h|h<;>exact h.2.2
 exact av
def O4{s:cT}{g i:aa}{v:cc}(h:fL s g i=some v):(g=0\/g=1)/\v∈s.get g:=by
 unfold fL at h;split at h
 .rename_i aq;exact⟨aq.1,ky h⟩
 cases h
theorem Bs{W':ai}{e:Ending}(aj:e' n d w cr (pad d M))(b:hl cr (pad d M)){bf:aa}{bZ:aa}(a:bZ≠0\/bf=0\/bf=1)(h:jT B M bh [] bZ R e W'):sY B n d w cr M bf bh R e W':=
 ⟨M,[],bZ,aj.up,b,⟨by
  rcases a with a|a|a
  .exact⟨0,U,λe=>absurd e a,.none,λ_ _=>rfl,λ_=>rfl⟩
  .exact⟨0,U,λ_=>a,.none,λ_ _=>rfl,λ_=>rfl⟩
  .exact⟨1,U,λ_=>a,.none,λ_ _=>rfl,λ_=>rfl⟩⟩,h⟩
def GS(h:cq W B M bh R)(aj:e' n d w cr (pad d M))(a:hl cr (pad d M))(au:n<=400)(bw bf i at':aa)(bI:J)(bB:aQ)(f:bw=1)(hk:k<2)(c:bf=k)(aX:bB.toNat<=63):az 10 #[B.b,aM #[I bw,I bf,I i,I at',aF bI,aF bB.toNat]] W (jT B (gC k bB M) (wrap64 (bh+1)) (cJ bB (M.p k)).2 0 R):=by
 have aN:=wj aj au hk bB aX;have⟨F,us,A,av⟩:=aj.ps k hk;have t:(cJ bB (M.p k)).2.length<=60256:=by
  cases aR:(M.p k).b' with
  | true=>unfold cJ;rw[aR];simp
  | false=>
   have⟨F,us,e⟩:=Ke aj a au hk bB aX aR;exact XB e
 have j:c4 (cJ bB (M.p k)).1=c4 (M.p k)+if dL (M.p k)then 1 else 0:=by
  cases aR:(M.p k).b' with
  | true=>unfold cJ dL;rw[aR];rfl
  | false=>
   have⟨_,_,_,_,_,_,l,_⟩:=av.cG.tick aR (by rw[av.wn];exact av.E) (by have:=av.tI;omega) bB aX;exact l
 have g:0<=M.cs.lost/\M.cs.lost<=10*n:=aj.lost;have y:(M.st k).length<=30000:=a.fX aj au hk;have hm:c4 (M.p k)=(replicate d (0:aQ)++M.bF k).length:=av.qK;rw[cx]at hm;have r:(M.p k).x.now<=c4 (M.p k)/\c4 (M.p k)<=(M.p k).x.now+(M.p k).x.eD:=av.cG.ab;have s:(M.p k).x.eD<=8/\_:=av.cG.mB;have u:(M.p k).x.now<=n:=av.tI;have v:(e_ bB (M.p k)).length<=10:=aN.fX;refine GM h hk i at' bI bB.toNat (gC k bB M) (cJ bB (M.p k)).2 0 bw bf f c λq o h2=>?_;rw[c];refine QP h2 hk bB (Q1 aj a au hk bB aX) j U U (λm hm=>?_) U U
 have:=qY (aN.snd m hm).2.1
 have g:(dk m).length=(dg m).size:=by simp[dg,ByteArray.size]
 omega
def QN(h:cq W B M bh R)(aj:e' n d w cr (pad d M))(f:hl cr (pad d M))(au:n<=400)(bw bf i at':aa)(bI:J)(bB:aQ)(g:bw=1)(hk:k<2)(a:bf=k):az 10 #[B.b,aM #[I bw,I bf,I i,I at',aF bI,aF bB.toNat]] W (sY B n d w cr M bf (wrap64 (bh+1)) R):=by
 by_cases aX:bB.toNat<=63
 .refine(GS h aj f au bw bf i at' bI bB g hk a aX).mono λe w' ar=>⟨_,_,0,yl d k bB M▸aj.tick au hk bB aX,yl d k bB M▸f.tick aj au hk bB aX,⟨k,hk,λ_=>a,?_,λj l=>h3 _ _ l,λc=>absurd rfl c⟩,ar⟩;show oA (M.p k) (b1 M.p k (cJ bB (M.p k)).1 k) _;rw[i_];exact .tick bB aX
 refine(GM h hk i at' bI bB.toNat M [] 1 bw bf g a λo m h2=>?_).mono λe w' ar=>Bs aj f (.inl U) ar;rw[a];exact QQ h2 hk _ U
def QM(h:cq W B M bh R)(aj:e' n d w cr (pad d M))(a:hl cr (pad d M))(au:n<=400)(bw bf i at':aa)(bI:J)(bB:aQ)(m:bw=6)(hk:k<2)(f:bf=k):az 10 #[B.b,aM #[I bw,I bf,I i,I at',aF bI,aF bB.toNat]] W (sY B n d w cr M bf (wrap64 (bh+1)) R):=by
 obtain⟨F,us,A,av⟩:=aj.ps k hk;have y:(M.st k).length<=30000:=a.fX aj au hk;have x:(fY (M.p k)).2.length<=256:=R9 av.cG;obtain⟨o,q,r,s,t⟩:=R_ (M.p k) (a.cu k hk);refine(QF h hk i at' bI bB.toNat bw bf m f (fY (M.p k)).1 (fY (M.p k)).2 U λv d2 u g al=>QY g al av.cG).mono λe w' ar=>⟨{M with p:=b1 M.p k (fY (M.p k)).1,st:=b1 M.st k (M.st k++da (fY (M.p k)).2)},_,0,aj.goes hk (R' aj hk) _ M.cs (λ_=>⟨λ_ h=>h,c9 _⟩) ⟨jm _,by show M.cs.lost<=M.cs.lost+1;omega⟩,a.still o q r s t,⟨k,hk,λ_=>f,?_,λj l=>h3 _ _ l,λc=>absurd rfl c⟩,ar⟩;show oA (M.p k) (b1 M.p k (fY (M.p k)).1 k) _;rw[i_];exact .leave
def GU(h:cq W B M bh R)(aj:e' n d w cr (pad d M))(g:hl cr (pad d M))(au:n<=400)(bw bf i at':aa)(bI:J)(bB:aQ)(e:2<=bw/\bw<=5/\bw≠4)(hk:k<2)(a:bf=k)(x:cc)(cs:cT)(f:x.size<=256)(aN:(∃ m,x.data.toList=dk m/\iP (w+d) ((pad d M).bF (1-k)) (bT (M.p (1-k))) m)\/(fs x.data.toList).2≠0)(c:∀ W R,cq W B M (wrap64 (bh+1)) R->az 64 #[B.b,aM #[I bw,I bf,I i,I at',aF bI,aF bB.toNat]] W (nx B M (wrap64 (bh+1)) R x true cs)):az 10 #[B.b,aM #[I bw,I bf,I i,I at',aF bI,aF bB.toNat]] W (jT B (xZ k x cs M) (wrap64 (bh+1)) (dx x.data.toList (M.p k)).2 (iT x.data.toList (M.p k)) R):=by
 have⟨F,us,A,av⟩:=aj.ps k hk;have q:(M.st k).length<=30000:=g.fX aj au hk;have o:(dx x.data.toList (M.p k)).2.length<=1000:=Rn av.cG x.data.toList;exact AX h hk i at' bI bB.toNat (xZ k x cs M) (dx x.data.toList (M.p k)).2 (iT x.data.toList (M.p k)) bw bf U a λl j h2=>QK h2 hk bw i at' bI bB.toNat x cs e.2.2 _ _ _ (Hf _ _) U bf a c (QU aj au hk f aN)
def xR(h:cq W B M bh R)(aj:e' n d w cr (pad d M))(c:hl cr (pad d M))(au:n<=400)(bw bf i at':aa)(bI:J)(bB:aQ)(q:2<=bw/\bw<=5/\bw≠4)(hk:k<2)(f:bf=k)(x:cc)(cs:cT)(l:∀ j:J,(∀ t∈cs.get j,t∈M.cs.get j)/\(cs.get j).length<=(M.cs.get j).length)(r:M.cs.lost<=cs.lost/\cs.lost<=M.cs.lost+1)(u:x.size<=256)(aN:(∃ m,x.data.toList=dk m/\iP (w+d) ((pad d M).bF (1-k)) (bT (M.p (1-k))) m)\/(fs x.data.toList).2≠0)(g:∀ W R,cq W B M (wrap64 (bh+1)) R->az 64 #[B.b,aM #[I bw,I bf,I i,I at',aF bI,aF bB.toNat]] W (nx B M (wrap64 (bh+1)) R x true cs)):az 10 #[B.b,aM #[I bw,I bf,I i,I at',aF bI,aF bB.toNat]] W (sY B n d w cr M bf (wrap64 (bh+1)) R):=by
 have s:(∃ m,x.data.toList=dk m/\m.wf/\dh m)\/(fs x.data.toList).2≠0:=aN.imp (λ⟨m,a,b⟩=>⟨m,a,b.1,b.2.1⟩) id;have⟨v,y,z,A,C⟩:=Hh (M.p k) x.data.toList s (c.cu k hk);refine(GU h aj c au bw bf i at' bI bB q hk f x cs u aN g).mono λe w' ar=>⟨xZ k x cs M,_,_,aj.goes hk (Hi aj au hk aN) _ cs l r,c.still v y z A C,⟨k,hk,λ_=>f,?_,λj o=>h3 _ _ o,Hf _ _⟩,ar⟩;show oA (M.p k) (b1 M.p k (dx x.data.toList (M.p k)).1 k) _;rw[i_];exact .vD _
theorem xQ(h:cq W B M bh R)(aj:e' n d w cr (pad d M))(f:hl cr (pad d M))(bw bf i at':aa)(bI:J)(bB:aQ)(c:2<=bw/\bw<=5)(hk:k<2)(e:bf=k)(x:cc)(a:∀ W R,cq W B M (wrap64 (bh+1)) R->az 64 #[B.b,aM #[I bw,I bf,I i,I at',aF bI,aF bB.toNat]] W (nx B M (wrap64 (bh+1)) R x false M.cs)):az 10 #[B.b,aM #[I bw,I bf,I i,I at',aF bI,aF bB.toNat]] W (sY B n d w cr M bf (wrap64 (bh+1)) R):=
 (AX h hk i at' bI bB.toNat M [] 6 bw bf c e λ_ _ h2=>QJ h2 bw bf i at' bI bB.toNat x M.cs a).mono λ_ _ ar=>Bs aj f (.inl U) ar
def Pf{w w':ai}{c:J}{s:cT}(h:eM w c 64 s)(a:∃ q,w'=w.drewN q):eM w' c 64 s/\Keeps (g_ c) w w':=by
 obtain⟨q,rfl⟩:=a;exact⟨h.keeps ((a_ w).drewN q) (λ_ _ e=>e),((Keeps.refl (g_ c) w).drewN q)⟩
def QL(h:cq W B M bh R)(aj:e' n d w cr (pad d M))(f:hl cr (pad d M))(au:n<=400)(bw bf i at':aa)(bI:J)(bB:aQ)(t:bI<256):az 10 #[B.b,aM #[I bw,I bf,I i,I at',aF bI,aF bB.toNat]] W (sY B n d w cr M bf (wrap64 (bh+1)) R):=by
 by_cases y:¬ (0<=bf/\bf<2)\/bw<1\/6<bw
 .exact(QE h bw bf i at' bI bB.toNat y).mono λe w' ar=>Bs aj f (.inl U) ar
 have⟨k,hk⟩:=lQ (show 0<=bf by omega);have c:k<2:=U;have r:∀ v,fL M.cs bf i=some v->∃ m,v=dg m/\iP (w+d) ((pad d M).bF (1-k)) (bT (M.p (1-k))) m:=λv aX=>by
  have hm:=(O4 aX).2;rw[hk]at hm;exact aj.vv k c v hm
 have D:0<=M.cs.lost/\M.cs.lost<=10*n:=aj.lost;have z:bw=1\/bw=2\/bw=3\/bw=4\/bw=5\/bw=6:=U;have E:=Cn M.cs bf i;rcases z with a|a|a|a|a|a
 .exact QN h aj f au bw bf i at' bI bB a c hk
 .cases aq:fL M.cs bf i with
  | none=>
   refine xQ h aj f bw bf i at' bI bB U c hk ByteArray.empty λo l h2=>?_;rw[a];refine AZ h2 bf i at' bI bB.toNat ByteArray.empty false M.cs λW g=>?_
   have:=te g bf i
   rw[aq,Co aq]at this;exact this
  | some v=>
   obtain⟨m,rfl,hm⟩:=r v aq;refine xR h aj f au bw bf i at' bI bB U c hk (dg m) (fD M.cs bf i) (wh _ _ _) U (qY hm.2.1).2 (.inl ⟨m,rfl,hm⟩) λo l h2=>?_;rw[a];refine AZ h2 bf i at' bI bB.toNat (dg m) true (fD M.cs bf i) λW g=>?_
   have:=te g bf i
   rw[aq]at this;exact this
 .cases aq:fL M.cs bf i with
  | none=>
   refine xQ h aj f bw bf i at' bI bB U c hk ByteArray.empty λo l h2=>?_;rw[a];refine GP h2 bf i at' bI bB.toNat ByteArray.empty false M.cs λW g=>?_
   have:=Fs g bf i
   exact LF
  | some v=>
   obtain⟨m,rfl,hm⟩:=r v aq;refine xR h aj f au bw bf i at' bI bB U c hk (dg m) M.cs (λ_=>⟨λ_ h=>h,c9 _⟩) U (qY hm.2.1).2 (.inl ⟨m,rfl,hm⟩) λo l h2=>?_;rw[a];refine GP h2 bf i at' bI bB.toNat (dg m) true M.cs λW g=>?_
   have:=Fs g bf i
   exact LF
 .cases aq:fL M.cs bf i with
  | none=>
   refine xQ h aj f bw bf i at' bI bB U c hk ByteArray.empty λo l h2=>?_;rw[a]
   have:=GQ h2 bf i at' bI bB.toNat U
   rw[aq,show lh M.cs bf i=M.cs by unfold lh;rw[aq];rfl]at this;exact this
  | some v=>
   have hd:lh M.cs bf i={fD M.cs bf i with lost:=M.cs.lost+1}:=by unfold lh;rw[aq];rfl
   have a1:∀ j:J,((lh M.cs bf i).get j)=(fD M.cs bf i).get j:=λj=>by rw[hd];rfl
   refine(AX h c i at' bI bB.toNat {M with cs:=lh M.cs bf i} [] 0 bw bf U hk λo l h2=>QI h2 bw bf i at' bI bB.toNat ByteArray.empty (lh M.cs bf i) a λC A x=>?_).mono λe w' ar=>?_
   .rw[a]
    have:=GQ x bf i at' bI bB.toNat U
    rw[aq]at this;exact this
   refine⟨{M with cs:=lh M.cs bf i},[],0,aj.gW (lh M.cs bf i) (λj=>by rw[a1];exact wh _ _ _ j) (by rw[hd];show M.cs.lost<=M.cs.lost+1/\M.cs.lost+1<=M.cs.lost+1;omega),f.gW _,⟨k,c,λ_=>hk,.none,λ_ _=>rfl,λ_=>rfl⟩,ar⟩
 .cases aq:fL M.cs bf i with
  | none=>
   refine xQ h aj f bw bf i at' bI bB U c hk ByteArray.empty λo l h2=>?_;rw[a];exact GR h2 bf i at' bI bB.toNat ByteArray.empty false M.cs λW g=>Ox g bf i at' bI aq
  | some v=>
   obtain⟨m,rfl,hm⟩:=r v aq;have ax:=qY hm.2.1;have q:∀ W R,cq W B M (wrap64 (bh+1)) R->az 64 #[B.b,aM #[I bw,I bf,I i,I at',aF bI,aF bB.toNat]] W (nx B M (wrap64 (bh+1)) R (o7 (dg m) at' bI) true (fD M.cs bf i)):=λo l h2=>by
    rw[a];exact GR h2 bf i at' bI bB.toNat _ true _ λW g=>Ow g bf i at' bI t (dg m) aq ax.1 ax.2
   by_cases s:bI=0
   .have aN:o7 (dg m) at' bI=dg m:=by rw[s];exact XK _ _ (XJ m at' hm.2.1)
    rw[aN]at q;exact xR h aj f au bw bf i at' bI bB U c hk (dg m) (fD M.cs bf i) (wh _ _ _) U ax.2 (.inl ⟨m,rfl,hm⟩) q
   have u:=WV m at' bI t s hm.2.1;exact xR h aj f au bw bf i at' bI bB U c hk _ (fD M.cs bf i) (wh _ _ _) U u.2 (.inr (by rw[u.1];omega)) q
 exact QM h aj f au bw bf i at' bI bB a c hk
def R0(d k j:J)(M:dZ)(h:∀ k,M.bF k=[]):fB (pad d M).bF k j=0:=by
 show(((replicate d 0++M.bF k).getD j 0).toNat:aa)=0;rw[h,eX,oe,Dm];split<;>rfl
def Ih(aO:aa)(d n:J)(pat bK:aa)(ax:0<=aO/\aO<=4294967295)(hd:d<=8)(au:1<=n/\n<=16)(ar:1<=pat/\pat<=10000)(o:1<=bK/\bK<=256):e' 0 d n aO (pad d (nP aO d n pat bK))/\hl aO (pad d (nP aO d n pat bK)):=by
 have g:∀ k j,fB (pad d (nP aO d n pat bK)).bF k j=0:=λk j=>R0 d k j _ λ_=>rfl;have b:∀ k,(pad d (nP aO d n pat bK)).bF k=replicate d 0:=λk=>eX _;refine⟨⟨λk hk=>⟨0,λ_ _=>0,d,?_⟩,λk x l=>?_,λk _ t aN=>?_,λk=>?_,by show(0:aa)<=0/\(0:aa)<=10*((0:J):aa);omega⟩,⟨λk _ _=>by show((0:J):aa)<=-1+1;omega,λk _=>DQ,(λk _ c aq=>nomatch aq),λk _=>by simp[jz,pad,nP,nQ,vO,cH.new]⟩⟩
 .have p:cb (nQ aO d n pat bK k) 0 (fB (pad d (nP aO d n pat bK)).bF) λ_ _=>0:=by
   refine⟨⟨rfl,?_,λj f=>?_⟩,ax,hk,⟨hd,au.1,au.2⟩,λk j=>by rw[g];omega,λ_ _=>U,⟨c' _,by show d<=0+d;omega⟩,c' _,⟨c9 _,c' _,c' _,by show d<=0+64;omega⟩,.inl rfl,λj f=>absurd f (k7 _),λj f=>?_,⟨by show(-1:aa)<=-1;omega,by show(-1:aa)<((0:J):aa);omega,by show(-1:aa)<(d:aa);omega⟩,rfl,o,Pairwise.nil,by show((0:J):aa)<=bK;omega,λj=>?_,(λe h=>nomatch h)⟩
   .rfl
   .show h' d=nF 0 0 d (fB (pad d (nP aO d n pat bK)).bF j) λ_=>0;have e:fB (pad d (nP aO d n pat bK)).bF j=λ_=>0:=by funext i;exact g j i
    rw[e];unfold h' nF pJ fP;rw[r7 _ (c9 0)];split<;>rfl
   .have:j<0\/(j:aa)<=-1:=f
    omega
   show []=if (-1:aa)<j/\j<((0:J):aa)then _ else []
   rw[aA U]
  refine⟨p,by show 0<=0+n+1;omega,?_,by rw[b,uy];rfl,by rw[b,uy];exact c9 _,c9 d,by show d<=d+(n+d);omega,rfl,rfl,rfl,rfl,λ_=>by show(0:aa)≠2;omega,c9 _⟩;rw[b];have a:(0:aa)<=0/\(0:aa)<=((0:J):aa):=U;exact⟨rfl,ar,.inl rfl,a,a,a,a,a,rfl,by rw[drop_replicate,Dy];rfl,by rw[uy];exact c9 _,rfl,by rw[uy];omega,(λm h=>nomatch h),c' _⟩
 .rw[b]at l;rw[eq_of_mem_replicate l];decide
 .have aN:=aN;unfold cT.get at aN;split at aN<;>cases aN
 show((⟨[],[],0⟩:cT).get (k:aa)).length<=64;unfold cT.get;split<;>simp
section
def kh{α:Type}(f:J->α->Option α):J->α->Option α
 | 0,s=>some s
 | n+1,s=>(kh f n s).bind (f n)
theorem x4{α:Type}{f:J->α->Option α}{s x:α}:∀ {n:J},kh f n s=some x->∀ i,i<n->∃ y c,kh f i s=some y/\f i y=some c/\kh f (i+1) s=some c
 | 0,_,i,av=>by omega
 | n+1,h,i,av=>by
  have a:(kh f n s).bind (f n)=some x:=h;cases b:kh f n s with
  | none=>rw[b]at a;cases a
  | some y=>
   by_cases e:i=n
   .subst e;rw[b]at a;exact⟨y,x,b,a,h⟩
   exact x4 b i U
structure Nm where
 now:J
 dM:J
 cy:J
 fst:J
 aS:aa
 aE:b9
 rep:aY
 cu:aa
def r2(aS:aa):aY:=decide ((aS+1)%16=0)
def zZ(a:Nm):ak:=¬ (4<(a.now:aa)-a.cy-a.cu/\a.aE.b_%2=1)/\a.dM=a.now+1/\(a.now:aa)-(min a.dM a.cy:J)<4/\a.aS+1=(min a.cy (a.now+1):J)-1/\1<=a.cy/\(a.fst:aa)<=a.aS+1/\a.dM+2<a.fst+60/\(r2 (a.aS+1)=true->a.aS=14/\a.rep=false)
instance (a:Nm):Decidable (zZ a):=by unfold zZ;infer_instance
def kS(r:aa)(a:Nm):b9:=if r2 (a.aS+1)then lE (j2 a.aE a.dM 0) (a.aS+2) r else j2 a.aE a.dM 0
def Kd(r:aa)(a:Nm):Nm:=⟨a.now+1,a.dM+1,a.cy,(a.aS+1).toNat,a.aS+1,(c5 (kS r a) ((a.now:aa)+1-a.cy)).2,a.rep || r2 (a.aS+1),a.cu⟩
def Cr(r:aa)(a:Nm):b4 (ah aZ×Nm):=
 if a.aE.state=1/\zZ a/\(c5 (kS r a) ((a.now:aa)+1-a.cy)).2.state=1 then some ((c5 (kS r a) ((a.now:aa)+1-a.cy)).1,Kd r a)
 else if a.aE.state=0/\a.now=0/\a.dM=1/\a.cy=1/\a.fst=0/\a.aS=-1/\(c5 a.aE (-1)).2.state=0 then some ((c5 a.aE (-1)).1,{a with aE:=(c5 a.aE (-1)).2})
 else none
def pH(l:b9)(m:aZ):bG×aa×b9:=
 if (cO {l with heard:=l.b_} m).2.1 then((cO {l with heard:=l.b_} m).1,0,{(cO {l with heard:=l.b_} m).2.2 with eR:=(cO {l with heard:=l.b_} m).2.2.eR+1})
 else(bG.zero,0,{(cO {l with heard:=l.b_} m).2.2 with e1:=(cO {l with heard:=l.b_} m).2.2.e1+1})
def Rq(l:b9)(m:aZ)(ax:l.state≠2)(hm:m.wf/\dh m):cI l (dk m)=pH l m:=by
 unfold cI;rw[aA ax,Cw m hm.2 hm.1];rfl
def rN(a:Nm)(m:aZ):b4 Nm:=
 let r:=pH a.aE m
 if a.aE.state≠2/\r.2.2.state≠2/\r.1.a8.all (· == 0)=true/\a.cy+r.1.a8.length<=a.fst+60/\(r.1.kind=4->a.rep=true/\r.1.frame=16)then
  some {a with aE:=r.2.2,cy:=a.cy+r.1.a8.length,cu:=if r.1.kind=6 then r.1.lead else a.cu}
 else none
structure Aw where
 p:Nm
 q:Nm
 f:ah aZ
 g:ah aZ
 n:J
namespace Aw
def P(s:Aw)(k:J):Nm:=if k=0 then s.p else s.q
def F(s:Aw)(k:J):ah aZ:=if k=0 then s.f else s.g
def lD(s:Aw)(k:J)(a:Nm):Aw:=if k=0 then {s with p:=a}else {s with q:=a}
def lB(s:Aw)(k:J)(l:ah aZ):Aw:=if k=0 then {s with f:=l}else {s with g:=l}
def up(s:Aw)(n:J):Aw:={s with n:=n}
end Aw
def qZ(r:aa)(k:J)(s:Aw):b4 Aw:=match Cr r (s.P k)with
 | some (b,a)=>if s.n<400/\(s.F (1-k)).length+b.length<=60 then some (((s.lD k a).lB (1-k) (s.F (1-k)++b)).up (s.n+1))else none
 | none=>none
def rO:J->Nm->ah aZ->b4 (J×Nm)
 | n,a,[]=>some (n,a)
 | n,a,m :: l=>match rN a m with
  | some a'=>if n<400 then rO (n+1) a' l else none
  | none=>none
def wg(k:J)(s:Aw):b4 Aw:=match rO s.n (s.P k) (s.F k)with
 | some (n,a)=>some (((s.lD k a).lB k []).up n)
 | none=>none
def U9(r:aa)(s:Aw):b4 Aw:=(kh (qZ r) 2 s).bind (kh wg 2)
def runN(r:aa)(n:J)(s:Aw):b4 Aw:=kh (λ_=>U9 r) n s
def Nm.new(k:J):Nm:=⟨0,1,1,0,-1,b9.new ((k:aa)+1) 100 1,false,0⟩
def s9:Aw:=⟨Nm.new 0,Nm.new 1,[],[],0⟩
def Vg(r:aa):∃ s,runN r 20 s9=some s/\3<s.p.now/\1<s.q.aS:=by
 have h:(λr=>match runN r 20 s9 with|some s=>decide (3<s.p.now/\1<s.q.aS)|none=>false)=λ_=>true:=by kernel_rfl
 have h:=congrFun h r;cases a:runN r 20 s9 with
 | none=>
  rw[a]at h;cases h
 | some s=>
  rw[a]at h;exact⟨s,rfl,ri h⟩
def Rs{n:J}{a:Nm}{x:J×Nm}{m:aZ}{l:ah aZ}(h:rO n a (m :: l)=some x):∃ a',rN a m=some a'/\n<400/\rO (n+1) a' l=some x:=by
 have b:(match rN a m with|some a'=>if n<400 then rO (n+1) a' l else none|none=>none)=some x:=h;split at b
 .rename_i a' e;split at b
  .rename_i au;exact⟨a',e,au,b⟩
  cases b
 cases b
def lN:J->J->aa:=iZ (λ_ _=>0) 5
def pC(f dG now:J):Fd:=⟨f,dG,0,fP f dG,fP f now⟩
def fb(k:J)(a:Nm):ck:=⟨5,1,4,k,λj=>if j<2 then pC a.fst (if j=k then a.dM else a.cy) a.now else h' 1,a.fst,ep lN a.fst (a.now+1),a.now⟩
def xr{x y:ck}(g:x.f=y.f)(e:x.L=y.L)(h1:x.aO=y.aO)(h2:x.eD=y.eD)(a:x.dA=y.dA)(b:x.aJ=y.aJ)(c:x.eT=y.eT)(d:x.now=y.now):x=y:=by
 obtain⟨h,i,j,k,l,m,n,o⟩:=x;obtain⟨bP,p,q,r,s,t,u,v⟩:=y;subst g e h1 h2 a b c d;rfl
section
variable{k:J}(hk:k<2)(a:Nm)
theorem qv{j:J}(b:j<2):(fb k a).f j=pC a.fst (if j=k then a.dM else a.cy) a.now:=aD b
include hk
theorem OH:(fb k a).f k=pC a.fst a.dM a.now:=by rw[qv a hk,aD rfl]
theorem Ah:(fb k a).f (1-k)=pC a.fst a.cy a.now:=by rw[qv a U,aA U]
theorem FJ:iy (fb k a)=min a.dM a.cy:=by
 unfold iy;rw[qv a U,qv a U]
 have:k=0\/k=1:=U
 rcases this with rfl|rfl
 .rw[aD rfl,aA U];rfl
 rw[aA U,aD rfl];exact Nat.min_comm _ _
theorem KT:fQ (fb k a)=none:=by
 unfold fQ fq;rw[show(fb k a).aJ=k from rfl,Ah hk a];exact CT _ _ _ _
theorem Ca:cY (fb k a)=((min (min a.dM a.cy) a.now:J):aa)-1:=by
 unfold cY;rw[KT hk a,FJ hk a];rfl
omit hk in
theorem Ij(f n j:J):n3 (fP f n) j 0=0:=by
 unfold n3 fP;rw[pZ];split<;>rfl
theorem II{j:J}(d:j<2)(a':Nm)(e:a'=if j=k then {a with dM:=a.dM+1}else {a with cy:=a.cy+1})(h:a.fst<=if j=k then a.dM else a.cy):gn (fb k a) j 0=fb k a':=by
 subst e;have h2:(if j=k then {a with dM:=a.dM+1}else {a with cy:=a.cy+1}:Nm).fst=a.fst/\(if j=k then {a with dM:=a.dM+1}else {a with cy:=a.cy+1}:Nm).now=a.now:=by split<;>exact⟨rfl,rfl⟩
 refine xr ?_ (by show ep lN a.fst (a.now+1)=ep lN _ (_+1);rw[h2.1,h2.2]) rfl rfl rfl rfl h2.1.symm h2.2.symm
 funext i
 show eK (fb k a).f j _ i=if i<2 then pC _ _ _ else h' 1
 rw[h2.1,h2.2];unfold eK;by_cases e:i=j
 .subst e;rw[aD rfl,aD d,qv a d];show(⟨a.fst,(if i=k then a.dM else a.cy)+1,0,eY (fP a.fst (if i=k then a.dM else a.cy)) (if i=k then a.dM else a.cy) 0,fP a.fst a.now⟩:Fd)=_;rw[show eY (fP a.fst (if i=k then a.dM else a.cy)) (if i=k then a.dM else a.cy) 0=fP a.fst ((if i=k then a.dM else a.cy)+1)from v_ (λ_=>(0:aa)) h];split<;>rfl
 rw[aA e];show(if i<2 then pC a.fst (if i=k then a.dM else a.cy) a.now else h' 1)=_;by_cases b:i<2
 .rw[aD b,aD b]
  congr 1
  by_cases c:j=k
  .rw[aD c,aA U,aA U]
  rw[aA c,aD U,aD U]
 rw[aA b,aA b]
theorem Hs:∀ (l:ah aQ) (a:Nm),a.fst<=a.cy->(∀ x∈l,x=0)->fc (fb k a) l=fb k {a with cy:=a.cy+l.length}
 | [],a,_,_=>rfl
 | x :: l,a,h,b=>by
  have e:=b x oh;subst e;show fc (gn (fb k a) (1-k) 0) l=_;rw[II hk a U {a with cy:=a.cy+1} (by rw[aA U]) (by rw[aA U];exact h),Hs l {a with cy:=a.cy+1} (by show a.fst<=a.cy+1;omega) λy c=>b y (kx _ c)];rw[Nat.add_right_comm];rfl
omit hk in
theorem JW{n:J}(h:a.fst<=n)(au:n<=a.now):gQ (fb k a) n=lN n:=by
 show(gL (ep lN a.fst (a.now+1)) (n:aa)).getD cf=_;rw[Jw,aD U];rfl
omit hk in
theorem W9(h:a.fst<=a.now)(e:a.now<a.fst+64):{iX (fb k a) a.now with now:=a.now+1}=fb k {a with now:=a.now+1}:=by
 have c:∀ j,j<2->dy (fb k a) a.now j=0:=λj d=>by
  unfold dy;rw[qv a d];exact Ij _ _ _
 refine xr ?_ ?_ rfl rfl rfl rfl rfl rfl
 .funext j
  show(if j<2 then o5 ((fb k a).f j) a.now else(fb k a).f j)=(if j<2 then pC a.fst (if j=k then a.dM else a.cy) (a.now+1)else h' 1);by_cases b:j<2
  .rw[aD b,aD b,qv a b];generalize (if j=k then a.dM else a.cy)=n;show(⟨a.fst,n,0,fP a.fst n,sh a.fst (fP a.fst a.now) a.now (n3 (fP a.fst n) a.now 0)⟩:Fd)=⟨a.fst,n,0,fP a.fst n,fP a.fst (a.now+1)⟩;rw[Ij];unfold sh;rw[aD e,show eY (fP a.fst a.now) a.now 0=fP a.fst (a.now+1)from v_ (λ_=>(0:aa)) h]
  rw[aA b,aA b];exact aA b
 show eY (ep lN a.fst (a.now+1)) (a.now+1) (jI (dy (fb k a) a.now 0) (dy (fb k a) a.now 1) (gQ (fb k a) a.now))=ep lN a.fst (a.now+1+1);rw[c 0 U,c 1 U,JW a h bA];exact v_ lN U
omit hk in
theorem O6(m:J)(h:a.fst<=m)(d:m<=a.dM)(h1:m<=a.cy)(au:m<=a.now):rF (fb k a) m=fb k {a with fst:=m}:=by
 refine xr ?_ ?_ rfl rfl rfl rfl rfl rfl
 .funext j
  show(if j<2 then oJ ((fb k a).f j) m else(fb k a).f j)=(if j<2 then pC m (if j=k then a.dM else a.cy) a.now else h' 1);by_cases b:j<2
  .rw[aD b,aD b,qv a b];have c:m<=(if j=k then a.dM else a.cy):=by split<;>assumption
   generalize (if j=k then a.dM else a.cy)=n at *;show(⟨m,n,0,l0 m (fP a.fst n),l0 m (fP a.fst a.now)⟩:Fd)=⟨m,n,0,fP m n,fP m a.now⟩;rw[show l0 m (fP a.fst n)=fP m n from tZ _ h c,show l0 m (fP a.fst a.now)=fP m a.now from tZ _ h au]
  rw[aA b,aA b];exact aA b
 exact tZ _ h U
end
end
end Go.Proofs.YtalagblioepadaaGreatDoor
