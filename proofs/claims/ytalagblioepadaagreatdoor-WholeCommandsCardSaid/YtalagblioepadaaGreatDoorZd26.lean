/- The proof, part 26. -/
import Derived.Test.YtalagblioepadaaGreatDoorZd11
import Derived.Test.YtalagblioepadaaGreatDoorZd22
namespace Go.Proofs.YtalagblioepadaaGreatDoor
set_option linter.all false
open Proofs.Tryz List Go.RowKit
set_option maxRecDepth 100000
set_option maxHeartbeats 1000000
def Nt{p:al}(h:p:=by show w.heap.size<=w.heap.size+1+1+1+1;omega):p:=h
def Nn{p:al}(h:p:=by intro u f;simp at f;rcases f with rfl|rfl|rfl<;>rfl):p:=h
def Ni{p:al}(h:p:=by intro u f;simp at f;rcases f with rfl|rfl|rfl|rfl<;>rfl):p:=h
variable{w w':aj}
def XX(a b s:aa)(bh:bm a)(ak:bm b)(aw:bm s)(w:aj):aA 374 #[aL #[ai a,ai b],ai s] w λe w'=>e=.returned (aL #[ai (sS a b s),ai (sT a b s)])/\Below w w w':=by
 have d:=ag (YV a b s bh ak aw);generalize sS a b s=x at *;generalize sT a b s=y at *;have c:=aX (w.alloc (af #[ai a,ai b] 91)) (af c_ 91);rw[fH]at c;have f:=(((b7 w.heap.size w).alloc bx (af #[ai a,ai b] 91)).alloc aM (af c_ 91))
 go_in
 go_wp2_with fail;generalize (w.alloc (af #[ai a,ai b] 91)).alloc (af c_ 91)=bn at *;refine bE (d.o _) ?_;have g0:=bP c;have eV:=aO c;go_wp2;refine dx (v:=aL #[ai x,ai y]) (k' (kC c (ai x) (ai y))) ?_;exact⟨rfl,(f.setCell r0 _).setCell r0 _⟩
def rE(a b k m:aa):aa×aa:=
 if m<ph (eu a k) (eu b k)then(sS (eu a k) (eu b k) m,sT (eu a k) (eu b k) m)else(eu a k,eu b k)
def XQ(a b k m:aa)(bh:bm a)(ak:bm b)(E:bm k)(hm:bm m)(w:aj):aA 363 #[aL #[ai a,ai b],ai k,ai m] w λe w'=>e=.returned (aL #[ai (rE a b k m).1,ai (rE a b k m).2])/\Below w w w':=by
 have u:=ag (C8 a b k bh ak E);have z:bm (eu a k):=hz _;have A:bm (eu b k):=hz _;have t:=ag (zx (eu a k) (eu b k) z A);have C:=ag (XX (eu a k) (eu b k) m z A hm);unfold rE;generalize sS (eu a k) (eu b k) m=B at *;generalize sT (eu a k) (eu b k) m=ty at *;generalize ph (eu a k) (eu b k)=l at *;generalize eu a k=x at *;generalize eu b k=y at *;have ar:=cw (aX w (af #[ai a,ai b] 91)) (af c_ 91);have j:=aX (w.alloc (af #[ai a,ai b] 91)) (af c_ 91);rw[fH]at j;have h:=(((b7 w.heap.size w).alloc bx (af #[ai a,ai b] 91)).alloc aM (af c_ 91));by_cases an:m<l
 .rw[aE an]
  go_in
  go_wp2_with fail;generalize (w.alloc (af #[ai a,ai b] 91)).alloc (af c_ 91)=bn at *;refine aW (u.o _) λao h1=>?_;have f:=(bb bn).fT h1;have c:=f.heap ar id;have n:=f.heap j id;have i:=kC c (ai x) (ai y);have d:=e0 (e0 n (p:=ae w 0 ad) aM (ai x)) (p:=ae w 1 ad) aM (ai y);have g:=((h.trans (h1.mono h.size)).setCell (p:=ae w 0 ad) bx (ai x)).setCell (p:=ae w 1 ad) bx (ai y);have F:=aO c;have G:=bP c;have bz:=aO i;have g0:=bP d;have eV:=aO d;go_wp2_with fail;generalize (ao.setCell (ae w 0 ad) (ai x)).setCell (ae w 1 ad) (ai y)=aD at *;refine bE (t.o _) ?_;go_wp2_with fail;refine aW (C.o _) λbq s=>?_;have q:=((bb aD).fT s).heap d id;have D:=g.trans (s.mono g.size);have g0:=bP q;have eV:=aO q;go_wp2;have r:=k' (kC q (ai B) (ai ty));refine dx (v:=aL #[ai B,ai ty]) r ?_;exact⟨rfl,(D.setCell r0 _).setCell r0 _⟩
 rw[aB an]
 go_in
 go_wp2_with fail;generalize (w.alloc (af #[ai a,ai b] 91)).alloc (af c_ 91)=bn at *;refine aW (u.o _) λao h1=>?_;have f:=(bb bn).fT h1;have c:=f.heap ar id;have n:=f.heap j id;have i:=kC c (ai x) (ai y);have d:=e0 (e0 n (p:=ae w 0 ad) aM (ai x)) (p:=ae w 1 ad) aM (ai y);have g:=((h.trans (h1.mono h.size)).setCell (p:=ae w 0 ad) bx (ai x)).setCell (p:=ae w 1 ad) bx (ai y);have F:=aO c;have G:=bP c;have bz:=aO i;have g0:=bP d;have eV:=aO d;go_wp2_with fail;generalize (ao.setCell (ae w 0 ad) (ai x)).setCell (ae w 1 ad) (ai y)=aD at *;refine bE (t.o _) ?_;go_wp2;have r:=k' (kC d (ai x) (ai y));refine dx (v:=aL #[ai x,ai y]) r ?_;exact⟨rfl,(g.setCell r0 _).setCell r0 _⟩
def C_(a b r c d s:aa)(bh:bm a)(ak:bm b)(m:bm r)(an:bm c)(hd:bm d)(aw:bm s)(w:aj):aA 351 #[aL #[ai a,ai b],ai r,aL #[ai c,ai d],ai s] w λe w'=>e=.returned (.bool (kO (fK c a) (fK d b) (dt r s)))/\Below w w w':=by
 have l:=ag (C9 c d a b an hd bh ak);have j:=ag (yn r s m aw);have k:=ag (YT (fK c a) (fK d b) (dt r s) (hz _) (hz _) (hz _));generalize kO (fK c a) (fK d b) (dt r s)=bX at *;generalize fK c a=x at *;generalize fK d b=y at *;generalize dt r s=z at *;have i:=(((b7 w.heap.size w).alloc bx (af #[ai a,ai b] 91)).alloc aM (af #[ai c,ai d] 91))
 go_in
 go_wp2_with fail;generalize (w.alloc (af #[ai a,ai b] 91)).alloc (af #[ai c,ai d] 91)=bn at *;refine aW (l.o _) λao h1=>?_;have g:=i.trans (h1.mono i.size);have f:=g.alloc g.size (af #[ai x,ai y] 91);go_wp2_with fail;go_quiet (first|(with_reducible exact(j.o _).mono λ_ _ h=>⟨h.1,_,h.2.symm⟩)|(with_reducible exact(k.o _).mono λ_ _ h=>⟨h.1,_,h.2.symm⟩));go_wp2;go_ret;exact⟨rfl,⟨f.os,f.tape,f.output,f.size,f.block⟩⟩
def XO(f g h i c d a b:aa)(h1:bm f)(h2:bm g)(x:bm h)(E:bm i)(F:c<=a)(G:d<=b)(w:aj):aA 364 #[aL #[ai f,ai g],aL #[ai h,ai i],aL #[ai c,ai d,ai a,ai b]] w λe w'=>
   e=aY #[aL #[ai (ia f h c a 1 2).1,ai (ia g i d b 4 8).1],aL #[ai (ia f h c a 1 2).2.1,ai (ia g i d b 4 8).2.1],I (bits .or .i64 (ia f h c a 1 2).2.2 (ia g i d b 4 8).2.2),I 0]/\Below w w w':=by
 have H:=ag (KR f h c a 1 2 h1 x);have K:=ag (KR g i d b 4 8 h2 E);generalize (ia f h c a 1 2).1=l at *;generalize (ia f h c a 1 2).2.1=m at *;generalize (ia f h c a 1 2).2.2=R at *;generalize (ia g i d b 4 8).1=n at *;generalize (ia g i d b 4 8).2.1=q at *;generalize (ia g i d b 4 8).2.2=S at *;have L:Keeps aG w (((((w.alloc (af #[ai f,ai g] 91)).alloc (af #[ai h,ai i] 91)).alloc (af #[ai c,ai d,ai a,ai b] 214)).alloc (af c_ 91)).alloc (af c_ 91)):=(((((Keeps.refl _ w).alloc _).alloc _).alloc _).alloc _).alloc _;have b':((((((w.alloc (af #[ai f,ai g] 91)).alloc (af #[ai h,ai i] 91)).alloc (af #[ai c,ai d,ai a,ai b] 214)).alloc (af c_ 91)).alloc (af c_ 91))).heap[w.heap.size]?=some (af #[ai f,ai g] 91 (0,0)):=cw (cw (cw (cw (aX w _) _) _) _) _;have bR:((((((w.alloc (af #[ai f,ai g] 91)).alloc (af #[ai h,ai i] 91)).alloc (af #[ai c,ai d,ai a,ai b] 214)).alloc (af c_ 91)).alloc (af c_ 91))).heap[w.heap.size+1]?=some (af #[ai h,ai i] 91 (0,0)):=by
  have:=cw (cw (cw (aX (w.alloc (af #[ai f,ai g] 91)) (af #[ai h,ai i] 91)) (af #[ai c,ai d,ai a,ai b] 214)) (af c_ 91)) (af c_ 91)
  simpa only[fH]using this
 have u:((((((w.alloc (af #[ai f,ai g] 91)).alloc (af #[ai h,ai i] 91)).alloc (af #[ai c,ai d,ai a,ai b] 214)).alloc (af c_ 91)).alloc (af c_ 91))).heap[w.heap.size+1+1]?=some (af #[ai c,ai d,ai a,ai b] 214 (0,0)):=by
  have:=cw (cw (aX ((w.alloc (af #[ai f,ai g] 91)).alloc (af #[ai h,ai i] 91)) (af #[ai c,ai d,ai a,ai b] 214)) (af c_ 91)) (af c_ 91)
  simpa only[fH]using this
 have r:((((((w.alloc (af #[ai f,ai g] 91)).alloc (af #[ai h,ai i] 91)).alloc (af #[ai c,ai d,ai a,ai b] 214)).alloc (af c_ 91)).alloc (af c_ 91))).heap[w.heap.size+1+1+1]?=some (af c_ 91 (0,0)):=by
  have:=cw (aX (((w.alloc (af #[ai f,ai g] 91)).alloc (af #[ai h,ai i] 91)).alloc (af #[ai c,ai d,ai a,ai b] 214)) (af c_ 91)) (af c_ 91)
  simpa only[fH]using this
 have s:((((((w.alloc (af #[ai f,ai g] 91)).alloc (af #[ai h,ai i] 91)).alloc (af #[ai c,ai d,ai a,ai b] 214)).alloc (af c_ 91)).alloc (af c_ 91))).heap[w.heap.size+1+1+1+1]?=some (af c_ 91 (0,0)):=by
  have:=aX ((((w.alloc (af #[ai f,ai g] 91)).alloc (af #[ai h,ai i] 91)).alloc (af #[ai c,ai d,ai a,ai b] 214)).alloc (af c_ 91)) (af c_ 91)
  simpa only[fH]using this
 go_in
 go_wp2_with fail;generalize (((((w.alloc (af #[ai f,ai g] 91)).alloc (af #[ai h,ai i] 91)).alloc (af #[ai c,ai d,ai a,ai b] 214)).alloc (af c_ 91)).alloc (af c_ 91))=bn at *;refine aW ((KQ c d a b F G) _) λao ak=>?_;have t:=(bb bn).fT ak;have M:=L.trans t;have b':=t.heap b' id;have bR:=t.heap bR id;have u:=t.heap u id;have r:=t.heap r id;have s:=t.heap s id;have A:=aO b';have q0:=aO bR;have T:=aO u;have X:=bP b';have Y:=bP bR;go_wp2_with fail;refine bE (H.o _) ?_;simp only;go_wp2_with fail;refine bE (K.o _) ?_;simp only;have B:(((((ao.setCell (ae w 0 ad) (ai l)).setCell (ae (w+1) 0 ad) (ai m)).setCell (ae w 1 ad) (ai n)).setCell (ae (w+1) 1 ad) (ai q))).heap[w.heap.size]?=some (af #[ai l,ai n] 91 (0,0)):=by
  have h1:=b3 b' 0 (ai l);have h2:=b3 (e0 h1 (p:=ae (w+1) 0 ad) aM (ai m)) 1 (ai n);have x:=e0 h2 (p:=ae (w+1) 1 ad) aM (ai q);simpa using x
 have d1:(((((ao.setCell (ae w 0 ad) (ai l)).setCell (ae (w+1) 0 ad) (ai m)).setCell (ae w 1 ad) (ai n)).setCell (ae (w+1) 1 ad) (ai q))).heap[w.heap.size+1]?=some (af #[ai m,ai q] 91 (0,0)):=by
  have h1:=b3 (e0 bR (p:=ae w 0 ad) aM (ai l)) 0 (ai m);have h2:=b3 (e0 h1 (p:=ae w 1 ad) aM (ai n)) 1 (ai q);simpa using h2
 have y:Keeps (λj=>j=w.heap.size\/j=w.heap.size+1) ao ((((ao.setCell (ae w 0 ad) (ai l)).setCell (ae (w+1) 0 ad) (ai m)).setCell (ae w 1 ad) (ai n)).setCell (ae (w+1) 1 ad) (ai q)):=((((Keeps.refl _ ao).setCell (p:=ae w 0 ad) (.inl rfl) _).setCell (p:=ae (w+1) 0 ad) (.inr rfl) _).setCell (p:=ae w 1 ad) (.inl rfl) _).setCell (p:=ae (w+1) 1 ad) (.inr rfl) _;have r:=y.heap r U;have s:=y.heap s U;have N:=cN M y a8;go_wp2_with fail;generalize ((((ao.setCell (ae w 0 ad) (ai l)).setCell (ae (w+1) 0 ad) (ai m)).setCell (ae w 1 ad) (ai n)).setCell (ae (w+1) 1 ad) (ai q))=aD at *;have A:=aO B;have q0:=aO d1;have V:=aO r;have W:=aO s;have Z:=bP r;have ab:=bP s
 go_region
 go_wp2
 have C:((((aD.setCell (ae (w.heap.size+1+1+1) 0 ad) (ai l)).setCell (ae (w.heap.size+1+1+1) 1 ad) (ai n)).setCell (ae (w.heap.size+1+1+1+1) 0 ad) (ai m)).setCell (ae (w.heap.size+1+1+1+1) 1 ad) (ai q)).heap[w.heap.size+1+1+1]?=some (af #[ai l,ai n] 91 (0,0)):=
  e0 (e0 (kC r _ _) (p:=ae (w.heap.size+1+1+1+1) 0 ad) aM _) (p:=ae (w.heap.size+1+1+1+1) 1 ad) aM _
 have D:((((aD.setCell (ae (w.heap.size+1+1+1) 0 ad) (ai l)).setCell (ae (w.heap.size+1+1+1) 1 ad) (ai n)).setCell (ae (w.heap.size+1+1+1+1) 0 ad) (ai m)).setCell (ae (w.heap.size+1+1+1+1) 1 ad) (ai q)).heap[w.heap.size+1+1+1+1]?=some (af #[ai m,ai q] 91 (0,0)):=
  kC (e0 (e0 s (p:=ae (w.heap.size+1+1+1) 0 ad) aM _) (p:=ae (w.heap.size+1+1+1) 1 ad) aM _) _ _
 have O:=cN N (((((Keeps.refl (λj=>w.heap.size<=j) aD).setCell (p:=ae (w.heap.size+1+1+1) 0 ad) (by show w.heap.size<=w.heap.size+1+1+1;omega) (ai l)).setCell (p:=ae (w.heap.size+1+1+1) 1 ad) (by show w.heap.size<=w.heap.size+1+1+1;omega) (ai n)).setCell (p:=ae (w.heap.size+1+1+1+1) 0 ad) Nt (ai m)).setCell (p:=ae (w.heap.size+1+1+1+1) 1 ad) Nt (ai q)) a8;generalize (((aD.setCell (ae (w.heap.size+1+1+1) 0 ad) (ai l)).setCell (ae (w.heap.size+1+1+1) 1 ad) (ai n)).setCell (ae (w.heap.size+1+1+1+1) 0 ad) (ai m)).setCell (ae (w.heap.size+1+1+1+1) 1 ad) (ai q)=z at *;have P:=k' (w:=z.drew) C;have Q:=k' (w:=z.drew) D;refine c1 (v:=aY #[aL #[ai l,ai n],aL #[ai m,ai q],I (bits .or .i64 R S),I 0]) (by simp[results,results364,asAddr,loadVar,loadCells,isAgg91,sizeOf91,P,Q]) rfl ?_;exact⟨rfl,O.drew.below bx (λk h1 h2=>h2)⟩
def kz(c:a7 ay):al:=∃ x y f u ee a b d r,(bm x/\bm y/\bm ee/\bm a)/\c.toList=[ai x,ai y,I f,.bool u,ai ee,ai a,I b,.bool d]++r
def kz.b'{c:a7 ay}(h:kz c){x y f:aa}{u:a1}(j:bm x)(k:bm y):kz (e5 c 0 #[ai x,ai y,I f,.bool u]):=by
 obtain⟨_,_,_,_,ee,d,a,b,r,⟨_,_,g,i⟩,e⟩:=h;refine⟨x,y,f,u,ee,d,a,b,r,⟨j,k,g,i⟩,?_⟩;unfold e5;rw[e];rfl
def kz.bR{c:a7 ay}(h:kz c){x y f:aa}{u:a1}(j:bm x)(k:bm y):kz (e5 c 4 #[ai x,ai y,I f,.bool u]):=by
 obtain⟨ee,d,a,b,_,_,_,_,r,⟨g,i,_,_⟩,e⟩:=h;refine⟨ee,d,a,b,x,y,f,u,r,⟨g,i,j,k⟩,?_⟩;unfold e5;rw[e];rfl
def kz.sp{c:a7 ay}(h:kz c)(k:J)(p:a7 ay):kz (e5 c (8+k) p):=by
 have⟨x,y,f,u,ee,d,a,b,r,g,e⟩:=h;refine⟨x,y,f,u,ee,d,a,b,r.take k++p.toList++r.drop (k+p.size),g,?_⟩;unfold e5;rw[e,qL 8 k,show k+8+p.size=(k+p.size)+8 by omega];simp[hY,hX]
def Lo(v:J->aa)(aU:∀ k,k<2->bm (v (4+10*k))/\bm (v (4+10*k+1)))(w:aj):aA 136 #[.agg (br v)] w λe w'=>(∃ c,e=.returned (.agg c)/\c.size=26/\(∀ u∈c.toList,u.oneCell'=true)/\kz c)/\Below w w w':=by
 have y:=CT (w.alloc (af (br v) 99));rw[fH]at y;have A:=CT ((w.alloc (af (br v) 99)).alloc (af jS 264));simp only[fH]at A;have t:Tvw w v jS (((w.alloc (af (br v) 99)).alloc (af jS 264)).alloc (af jS 264)):=by
  refine⟨cw (cw (aX w _) _) _,?_,?_,rfl,bt,(((Keeps.refl _ w).alloc _).alloc _).alloc _⟩
  .have:=cw (aX (w.alloc (af (br v) 99)) (af jS 264)) (af jS 264)
   rwa [fH]at this
  have:=aX ((w.alloc (af (br v) 99)).alloc (af jS 264)) (af jS 264)
  rwa [fH,fH]at this
 have s:=WZ v w.heap.size _ _ t.box;have n:kz jS:=⟨0,0,0,false,0,0,0,false,_,gi,rfl⟩;have n:=ag n;generalize K:jS=H at *
 go_in
 go_wp2_with first|refine dU y rfl rfl ?_|refine dU A rfl rfl ?_|refine dn s rfl rfl rfl ?_
 go_loopg [10] 2 (λg i wr=>∃ k:J,∃ c,g=2-k/\k<=2/\i=I k/\Tvw w v c wr/\kz c)
 case atStart=>exact⟨0,H,rfl,U,rfl,t,n.o⟩
 obtain⟨k,c,aZ,hk,rfl,aV,a⟩:=hrel;by_cases m:k<2
 .have p:=WS v k m;unfold uy at p;have C:=ag (λW=>Y9 (v (4+10*k)) (v (4+10*k+1)) (v (4+10*k+2)) (v (4+10*k+3)) (v (4+10*k+4)) (v (4+10*k+5)) (v (4+10*k+6)) (v (4+10*k+7)) (v (4+10*k+8)) (v (4+10*k+9)) W);go_wp2_with fail;refine aW (C.o _) λao q=>?_;have r:Keeps aG wr ao:=((Keeps.refl _ wr).alloc _).fT q;have b:=aV.keep r
  obtain⟨d⟩:Nonempty ((Instr.storeAt 258 (.pointer (some (ae (w.heap.size+1+1) (k*4) ad))) (aL #[ai (v (4+10*k)),ai (v (4+10*k+1)),I (v (4+10*k+4)),.bool (decide (v (4+10*k+8)=0))])).run prog ao=.ok () (ao.setRow (w.heap.size+2) (e5 c (k*4) #[ai (v (4+10*k)),ai (v (4+10*k+1)),I (v (4+10*k+4)),.bool (decide (v (4+10*k+8)=0))]))):=
   ⟨ru 258 4 (w.heap.size+1+1) (k*4) _ c 264 sizeOf258 rfl b.st (by rw[b.cM];omega) Ni⟩
  have D:=b.put (k*4) #[ai (v (4+10*k)),ai (v (4+10*k+1)),I (v (4+10*k+4)),.bool (decide (v (4+10*k+8)=0))] b1 Ni;have a:kz (e5 c (k*4) #[ai (v (4+10*k)),ai (v (4+10*k+1)),I (v (4+10*k+4)),.bool (decide (v (4+10*k+8)=0))]):=by
   have l:=aU k m;rcases (show k=0\/k=1 by omega)with rfl|rfl
   .exact a.b' l.1 l.2
   exact a.bR l.1 l.2
  have a:=ag a;go_wp2_with refine c7 d rfl rfl rfl rfl ?_
  go_roundg (2-(k+1))
  case rel=>exact⟨k+1,_,rfl,U,by go_num,D,a.o⟩
  omega
 obtain rfl:k=2:=U;have F:=(λW (h:W.heap[w.heap.size]?=some (af (br v) 99 (0,0)))=>CV v w.heap.size W _ h) _ aV.box;go_wp2_with refine dn F rfl rfl rfl ?_
 go_loopg [22] 6 (λg i wr=>∃ k:J,∃ c,g=6-k/\k<=6/\i=I k/\Tvw w v c wr/\kz c)
 case atStart=>exact⟨0,c,rfl,U,rfl,aV,a⟩
 obtain⟨k,c,aZ,hk,rfl,aV,a⟩:=hrel;by_cases m:k<6
 .have p:=CU v k m;unfold pz at p;go_wp2_with fail;refine aW (((λW=>Y_ (v (24+6*k)) (v (25+6*k)) (v (26+6*k)) (v (27+6*k)) (v (28+6*k)) (v (29+6*k)) W)) _) λao q=>?_;have r:Keeps aG wr ao:=((Keeps.refl _ wr).alloc _).fT q;have b:=aV.keep r
  have d:(Instr.storeAt 261 (.pointer (some (ae (w.heap.size+1+1) (8+k*3) ad))) (aL #[ai (v (24+6*k)),ai (v (25+6*k)),I (v (28+6*k))])).run prog ao=.ok () (ao.setRow (w.heap.size+2) (e5 c (8+k*3) #[ai (v (24+6*k)),ai (v (25+6*k)),I (v (28+6*k))])):=
   ru 261 3 (w.heap.size+1+1) (8+k*3) _ c 264 sizeOf261 rfl b.st (by rw[b.cM];omega) Nn
  have a:=ag (a.sp (k*3) #[ai (v (24+6*k)),ai (v (25+6*k)),I (v (28+6*k))]);go_wp2_with refine c7 d rfl rfl rfl rfl ?_
  go_roundg (6-(k+1))
  case rel=>exact⟨k+1,_,rfl,U,by go_num,(b.put (8+k*3) #[ai (v (24+6*k)),ai (v (25+6*k)),I (v (28+6*k))] b1 Nn),a.o⟩
  omega
 obtain rfl:k=6:=U;obtain⟨d,s,E⟩:=dQ wr 264 26 (w.heap.size+1) c jS sizeOf264 aV.cM rfl aV.res (fw.2 aV.one);have G:=aV.cM;have B:=bW aV.one a;go_wp2_with first|refine dn (gd (P:=prog) 264 26 (w.heap.size+1+1) 0 c c _ isAgg264 sizeOf264 aV.cM aV.st (λj u z=>ke)) rfl rfl rfl ?_|refine c7 d rfl rfl rfl rfl ?_
 refine dx (v:=.agg c) s ?_;exact⟨⟨_,rfl,G,B.o.1,B.o.2⟩,((aV.cu.mono λ_ _ x=>x.elim).trans E).below bx a8⟩
end Go.Proofs.YtalagblioepadaaGreatDoor
