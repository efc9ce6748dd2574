/- The proof, part 26. -/
import Derived.Test.YtalagblioepadaaGreatDoorZb11
import Derived.Test.YtalagblioepadaaGreatDoorZb22
namespace Go.Proofs.YtalagblioepadaaGreatDoor
set_option linter.all false
open Proofs.Tryz List Go.RowKit
set_option maxRecDepth 100000
set_option maxHeartbeats 1000000
def Md{p:ak}(h:p:=by show w.heap.size<=w.heap.size+1+1+1+1;omega):p:=h
def L_{p:ak}(h:p:=by intro u f;simp at f;rcases f with rfl|rfl|rfl<;>rfl):p:=h
def L6{p:ak}(h:p:=by intro u f;simp at f;rcases f with rfl|rfl|rfl|rfl<;>rfl):p:=h
variable{w w':ai}
def WC(a b s:aa)(bj:bk a)(aj:bk b)(ax:bk s)(w:ai):az 374 #[aM #[ag a,ag b],ag s] w λe w'=>e=.returned (aM #[ag (sj a b s),ag (sk a b s)])/\Below w w w':=by
 have d:=af (Xz a b s bj aj ax);generalize sj a b s=x at *;generalize sk a b s=y at *;have c:=aW (w.alloc (ae #[ag a,ag b] 91)) (ae c0 91);rw[fF]at c;have f:=(((bY w.heap.size w).alloc bA (ae #[ag a,ag b] 91)).alloc aI (ae c0 91))
 go_in
 go_wp2_with fail;generalize (w.alloc (ae #[ag a,ag b] 91)).alloc (ae c0 91)=bl at *;refine br (d.o _) ?_;have g0:=bJ c;have eJ:=aP c;go_wp2;refine dn (v:=aM #[ag x,ag y]) (kK (kb c (ag x) (ag y))) ?_;exact⟨rfl,(f.setCell rj _).setCell rj _⟩
def qW(a b k m:aa):aa×aa:=
 if m<oN (ei a k) (ei b k)then(sj (ei a k) (ei b k) m,sk (ei a k) (ei b k) m)else(ei a k,ei b k)
def Wv(a b k m:aa)(bj:bk a)(aj:bk b)(E:bk k)(hm:bk m)(w:ai):az 363 #[aM #[ag a,ag b],ag k,ag m] w λe w'=>e=.returned (aM #[ag (qW a b k m).1,ag (qW a b k m).2])/\Below w w w':=by
 have u:=af (Cc a b k bj aj E);have z:bk (ei a k):=ha _;have A:bk (ei b k):=ha _;have t:=af (yR (ei a k) (ei b k) z A);have C:=af (WC (ei a k) (ei b k) m z A hm);unfold qW;generalize sj (ei a k) (ei b k) m=B at *;generalize sk (ei a k) (ei b k) m=ty at *;generalize oN (ei a k) (ei b k)=l at *;generalize ei a k=x at *;generalize ei b k=y at *;have al:=cm (aW w (ae #[ag a,ag b] 91)) (ae c0 91);have j:=aW (w.alloc (ae #[ag a,ag b] 91)) (ae c0 91);rw[fF]at j;have h:=(((bY w.heap.size w).alloc bA (ae #[ag a,ag b] 91)).alloc aI (ae c0 91));by_cases aq:m<l
 .rw[aD aq]
  go_in
  go_wp2_with fail;generalize (w.alloc (ae #[ag a,ag b] 91)).alloc (ae c0 91)=bl at *;refine aT (u.o _) λan h1=>?_;have f:=(a_ bl).fE h1;have c:=f.heap al id;have n:=f.heap j id;have i:=kb c (ag x) (ag y);have d:=eO (eO n (p:=ad w 0 ab) aI (ag x)) (p:=ad w 1 ab) aI (ag y);have g:=((h.trans (h1.mono h.size)).setCell (p:=ad w 0 ab) bA (ag x)).setCell (p:=ad w 1 ab) bA (ag y);have F:=aP c;have G:=bJ c;have bu:=aP i;have g0:=bJ d;have eJ:=aP d;go_wp2_with fail;generalize (an.setCell (ad w 0 ab) (ag x)).setCell (ad w 1 ab) (ag y)=aB at *;refine br (t.o _) ?_;go_wp2_with fail;refine aT (C.o _) λbn s=>?_;have q:=((a_ aB).fE s).heap d id;have D:=g.trans (s.mono g.size);have g0:=bJ q;have eJ:=aP q;go_wp2;have r:=kK (kb q (ag B) (ag ty));refine dn (v:=aM #[ag B,ag ty]) r ?_;exact⟨rfl,(D.setCell rj _).setCell rj _⟩
 rw[aA aq]
 go_in
 go_wp2_with fail;generalize (w.alloc (ae #[ag a,ag b] 91)).alloc (ae c0 91)=bl at *;refine aT (u.o _) λan h1=>?_;have f:=(a_ bl).fE h1;have c:=f.heap al id;have n:=f.heap j id;have i:=kb c (ag x) (ag y);have d:=eO (eO n (p:=ad w 0 ab) aI (ag x)) (p:=ad w 1 ab) aI (ag y);have g:=((h.trans (h1.mono h.size)).setCell (p:=ad w 0 ab) bA (ag x)).setCell (p:=ad w 1 ab) bA (ag y);have F:=aP c;have G:=bJ c;have bu:=aP i;have g0:=bJ d;have eJ:=aP d;go_wp2_with fail;generalize (an.setCell (ad w 0 ab) (ag x)).setCell (ad w 1 ab) (ag y)=aB at *;refine br (t.o _) ?_;go_wp2;have r:=kK (kb d (ag x) (ag y));refine dn (v:=aM #[ag x,ag y]) r ?_;exact⟨rfl,(g.setCell rj _).setCell rj _⟩
def Ce(a b r c d s:aa)(bj:bk a)(aj:bk b)(m:bk r)(aq:bk c)(hd:bk d)(ax:bk s)(w:ai):az 351 #[aM #[ag a,ag b],ag r,aM #[ag c,ag d],ag s] w λe w'=>e=.returned (.bool (kp (fx c a) (fx d b) (ds r s)))/\Below w w w':=by
 have l:=af (Cd c d a b aq hd bj aj);have j:=af (xK r s m ax);have k:=af (Xx (fx c a) (fx d b) (ds r s) (ha _) (ha _) (ha _));generalize kp (fx c a) (fx d b) (ds r s)=bS at *;generalize fx c a=x at *;generalize fx d b=y at *;generalize ds r s=z at *;have i:=(((bY w.heap.size w).alloc bA (ae #[ag a,ag b] 91)).alloc aI (ae #[ag c,ag d] 91))
 go_in
 go_wp2_with fail;generalize (w.alloc (ae #[ag a,ag b] 91)).alloc (ae #[ag c,ag d] 91)=bl at *;refine aT (l.o _) λan h1=>?_;have g:=i.trans (h1.mono i.size);have f:=g.alloc g.size (ae #[ag x,ag y] 91);go_wp2_with fail;go_quiet (first|(with_reducible exact(j.o _).mono λ_ _ h=>⟨h.1,_,h.2.symm⟩)|(with_reducible exact(k.o _).mono λ_ _ h=>⟨h.1,_,h.2.symm⟩));go_wp2;go_ret;exact⟨rfl,⟨f.os,f.tape,f.output,f.size,f.block⟩⟩
def Wt(f g h i c d a b:aa)(h1:bk f)(h2:bk g)(x:bk h)(E:bk i)(F:c<=a)(G:d<=b)(w:ai):az 364 #[aM #[ag f,ag g],aM #[ag h,ag i],aM #[ag c,ag d,ag a,ag b]] w λe w'=>
   e=aV #[aM #[ag (hF f h c a 1 2).1,ag (hF g i d b 4 8).1],aM #[ag (hF f h c a 1 2).2.1,ag (hF g i d b 4 8).2.1],I (bits .or .i64 (hF f h c a 1 2).2.2 (hF g i d b 4 8).2.2),I 0]/\Below w w w':=by
 have H:=af (JM f h c a 1 2 h1 x);have K:=af (JM g i d b 4 8 h2 E);generalize (hF f h c a 1 2).1=l at *;generalize (hF f h c a 1 2).2.1=m at *;generalize (hF f h c a 1 2).2.2=R at *;generalize (hF g i d b 4 8).1=n at *;generalize (hF g i d b 4 8).2.1=q at *;generalize (hF g i d b 4 8).2.2=S at *;have L:Keeps aG w (((((w.alloc (ae #[ag f,ag g] 91)).alloc (ae #[ag h,ag i] 91)).alloc (ae #[ag c,ag d,ag a,ag b] 214)).alloc (ae c0 91)).alloc (ae c0 91)):=(((((Keeps.refl _ w).alloc _).alloc _).alloc _).alloc _).alloc _;have ca:((((((w.alloc (ae #[ag f,ag g] 91)).alloc (ae #[ag h,ag i] 91)).alloc (ae #[ag c,ag d,ag a,ag b] 214)).alloc (ae c0 91)).alloc (ae c0 91))).heap[w.heap.size]?=some (ae #[ag f,ag g] 91 (0,0)):=cm (cm (cm (cm (aW w _) _) _) _) _;have bP:((((((w.alloc (ae #[ag f,ag g] 91)).alloc (ae #[ag h,ag i] 91)).alloc (ae #[ag c,ag d,ag a,ag b] 214)).alloc (ae c0 91)).alloc (ae c0 91))).heap[w.heap.size+1]?=some (ae #[ag h,ag i] 91 (0,0)):=by
  have:=cm (cm (cm (aW (w.alloc (ae #[ag f,ag g] 91)) (ae #[ag h,ag i] 91)) (ae #[ag c,ag d,ag a,ag b] 214)) (ae c0 91)) (ae c0 91)
  simpa only[fF]using this
 have u:((((((w.alloc (ae #[ag f,ag g] 91)).alloc (ae #[ag h,ag i] 91)).alloc (ae #[ag c,ag d,ag a,ag b] 214)).alloc (ae c0 91)).alloc (ae c0 91))).heap[w.heap.size+1+1]?=some (ae #[ag c,ag d,ag a,ag b] 214 (0,0)):=by
  have:=cm (cm (aW ((w.alloc (ae #[ag f,ag g] 91)).alloc (ae #[ag h,ag i] 91)) (ae #[ag c,ag d,ag a,ag b] 214)) (ae c0 91)) (ae c0 91)
  simpa only[fF]using this
 have r:((((((w.alloc (ae #[ag f,ag g] 91)).alloc (ae #[ag h,ag i] 91)).alloc (ae #[ag c,ag d,ag a,ag b] 214)).alloc (ae c0 91)).alloc (ae c0 91))).heap[w.heap.size+1+1+1]?=some (ae c0 91 (0,0)):=by
  have:=cm (aW (((w.alloc (ae #[ag f,ag g] 91)).alloc (ae #[ag h,ag i] 91)).alloc (ae #[ag c,ag d,ag a,ag b] 214)) (ae c0 91)) (ae c0 91)
  simpa only[fF]using this
 have s:((((((w.alloc (ae #[ag f,ag g] 91)).alloc (ae #[ag h,ag i] 91)).alloc (ae #[ag c,ag d,ag a,ag b] 214)).alloc (ae c0 91)).alloc (ae c0 91))).heap[w.heap.size+1+1+1+1]?=some (ae c0 91 (0,0)):=by
  have:=aW ((((w.alloc (ae #[ag f,ag g] 91)).alloc (ae #[ag h,ag i] 91)).alloc (ae #[ag c,ag d,ag a,ag b] 214)).alloc (ae c0 91)) (ae c0 91)
  simpa only[fF]using this
 go_in
 go_wp2_with fail;generalize (((((w.alloc (ae #[ag f,ag g] 91)).alloc (ae #[ag h,ag i] 91)).alloc (ae #[ag c,ag d,ag a,ag b] 214)).alloc (ae c0 91)).alloc (ae c0 91))=bl at *;refine aT ((JL c d a b F G) _) λan aj=>?_;have t:=(a_ bl).fE aj;have M:=L.trans t;have ca:=t.heap ca id;have bP:=t.heap bP id;have u:=t.heap u id;have r:=t.heap r id;have s:=t.heap s id;have A:=aP ca;have qq:=aP bP;have T:=aP u;have X:=bJ ca;have Y:=bJ bP;go_wp2_with fail;refine br (H.o _) ?_;simp only;go_wp2_with fail;refine br (K.o _) ?_;simp only;have B:(((((an.setCell (ad w 0 ab) (ag l)).setCell (ad (w+1) 0 ab) (ag m)).setCell (ad w 1 ab) (ag n)).setCell (ad (w+1) 1 ab) (ag q))).heap[w.heap.size]?=some (ae #[ag l,ag n] 91 (0,0)):=by
  have h1:=bW ca 0 (ag l);have h2:=bW (eO h1 (p:=ad (w+1) 0 ab) aI (ag m)) 1 (ag n);have x:=eO h2 (p:=ad (w+1) 1 ab) aI (ag q);simpa using x
 have d1:(((((an.setCell (ad w 0 ab) (ag l)).setCell (ad (w+1) 0 ab) (ag m)).setCell (ad w 1 ab) (ag n)).setCell (ad (w+1) 1 ab) (ag q))).heap[w.heap.size+1]?=some (ae #[ag m,ag q] 91 (0,0)):=by
  have h1:=bW (eO bP (p:=ad w 0 ab) aI (ag l)) 0 (ag m);have h2:=bW (eO h1 (p:=ad w 1 ab) aI (ag n)) 1 (ag q);simpa using h2
 have y:Keeps (λj=>j=w.heap.size\/j=w.heap.size+1) an ((((an.setCell (ad w 0 ab) (ag l)).setCell (ad (w+1) 0 ab) (ag m)).setCell (ad w 1 ab) (ag n)).setCell (ad (w+1) 1 ab) (ag q)):=((((Keeps.refl _ an).setCell (p:=ad w 0 ab) (.inl rfl) _).setCell (p:=ad (w+1) 0 ab) (.inr rfl) _).setCell (p:=ad w 1 ab) (.inl rfl) _).setCell (p:=ad (w+1) 1 ab) (.inr rfl) _;have r:=y.heap r U;have s:=y.heap s U;have N:=cK M y a7;go_wp2_with fail;generalize ((((an.setCell (ad w 0 ab) (ag l)).setCell (ad (w+1) 0 ab) (ag m)).setCell (ad w 1 ab) (ag n)).setCell (ad (w+1) 1 ab) (ag q))=aB at *;have A:=aP B;have qq:=aP d1;have V:=aP r;have W:=aP s;have Z:=bJ r;have a':=bJ s
 go_region
 go_wp2
 have C:((((aB.setCell (ad (w.heap.size+1+1+1) 0 ab) (ag l)).setCell (ad (w.heap.size+1+1+1) 1 ab) (ag n)).setCell (ad (w.heap.size+1+1+1+1) 0 ab) (ag m)).setCell (ad (w.heap.size+1+1+1+1) 1 ab) (ag q)).heap[w.heap.size+1+1+1]?=some (ae #[ag l,ag n] 91 (0,0)):=
  eO (eO (kb r _ _) (p:=ad (w.heap.size+1+1+1+1) 0 ab) aI _) (p:=ad (w.heap.size+1+1+1+1) 1 ab) aI _
 have D:((((aB.setCell (ad (w.heap.size+1+1+1) 0 ab) (ag l)).setCell (ad (w.heap.size+1+1+1) 1 ab) (ag n)).setCell (ad (w.heap.size+1+1+1+1) 0 ab) (ag m)).setCell (ad (w.heap.size+1+1+1+1) 1 ab) (ag q)).heap[w.heap.size+1+1+1+1]?=some (ae #[ag m,ag q] 91 (0,0)):=
  kb (eO (eO s (p:=ad (w.heap.size+1+1+1) 0 ab) aI _) (p:=ad (w.heap.size+1+1+1) 1 ab) aI _) _ _
 have O:=cK N (((((Keeps.refl (λj=>w.heap.size<=j) aB).setCell (p:=ad (w.heap.size+1+1+1) 0 ab) (by show w.heap.size<=w.heap.size+1+1+1;omega) (ag l)).setCell (p:=ad (w.heap.size+1+1+1) 1 ab) (by show w.heap.size<=w.heap.size+1+1+1;omega) (ag n)).setCell (p:=ad (w.heap.size+1+1+1+1) 0 ab) Md (ag m)).setCell (p:=ad (w.heap.size+1+1+1+1) 1 ab) Md (ag q)) a7;generalize (((aB.setCell (ad (w.heap.size+1+1+1) 0 ab) (ag l)).setCell (ad (w.heap.size+1+1+1) 1 ab) (ag n)).setCell (ad (w.heap.size+1+1+1+1) 0 ab) (ag m)).setCell (ad (w.heap.size+1+1+1+1) 1 ab) (ag q)=z at *;have P:=kK (w:=z.drew) C;have Q:=kK (w:=z.drew) D;refine cU (v:=aV #[aM #[ag l,ag n],aM #[ag m,ag q],I (bits .or .i64 R S),I 0]) (by simp[results,results364,asAddr,loadVar,loadCells,isAgg91,sizeOf91,P,Q]) rfl ?_;exact⟨rfl,O.drew.below bA (λk h1 h2=>h2)⟩
def j_(c:a6 aw):ak:=∃ x y f u dY a b d r,(bk x/\bk y/\bk dY/\bk a)/\c.toList=[ag x,ag y,I f,.bool u,ag dY,ag a,I b,.bool d]++r
def j_.ca{c:a6 aw}(h:j_ c){x y f:aa}{u:aY}(j:bk x)(k:bk y):j_ (eU c 0 #[ag x,ag y,I f,.bool u]):=by
 obtain⟨_,_,_,_,dY,d,a,b,r,⟨_,_,g,i⟩,e⟩:=h;refine⟨x,y,f,u,dY,d,a,b,r,⟨j,k,g,i⟩,?_⟩;unfold eU;rw[e];rfl
def j_.bP{c:a6 aw}(h:j_ c){x y f:aa}{u:aY}(j:bk x)(k:bk y):j_ (eU c 4 #[ag x,ag y,I f,.bool u]):=by
 obtain⟨dY,d,a,b,_,_,_,_,r,⟨g,i,_,_⟩,e⟩:=h;refine⟨dY,d,a,b,x,y,f,u,r,⟨g,i,j,k⟩,?_⟩;unfold eU;rw[e];rfl
def j_.sp{c:a6 aw}(h:j_ c)(k:J)(p:a6 aw):j_ (eU c (8+k) p):=by
 have⟨x,y,f,u,dY,d,a,b,r,g,e⟩:=h;refine⟨x,y,f,u,dY,d,a,b,r.take k++p.toList++r.drop (k+p.size),g,?_⟩;unfold eU;rw[e,qc 8 k,show k+8+p.size=(k+p.size)+8 by omega];simp[hI,hG]
def Kh(v:J->aa)(aX:∀ k,k<2->bk (v (4+10*k))/\bk (v (4+10*k+1)))(w:ai):az 136 #[.agg (bo v)] w λe w'=>(∃ c,e=.returned (.agg c)/\c.size=26/\(∀ u∈c.toList,u.oneCell'=true)/\j_ c)/\Below w w w':=by
 have y:=B1 (w.alloc (ae (bo v) 99));rw[fF]at y;have A:=B1 ((w.alloc (ae (bo v) 99)).alloc (ae jr 264));simp only[fF]at A;have t:Tvw w v jr (((w.alloc (ae (bo v) 99)).alloc (ae jr 264)).alloc (ae jr 264)):=by
  refine⟨cm (cm (aW w _) _) _,?_,?_,rfl,bq,(((Keeps.refl _ w).alloc _).alloc _).alloc _⟩
  .have:=cm (aW (w.alloc (ae (bo v) 99)) (ae jr 264)) (ae jr 264)
   rwa [fF]at this
  have:=aW ((w.alloc (ae (bo v) 99)).alloc (ae jr 264)) (ae jr 264)
  rwa [fF,fF]at this
 have s:=VG v w.heap.size _ _ t.box;have n:j_ jr:=⟨0,0,0,false,0,0,0,false,_,fS,rfl⟩;have n:=af n;generalize K:jr=H at *
 go_in
 go_wp2_with first|refine ea y rfl rfl ?_|refine ea A rfl rfl ?_|refine dm s rfl rfl rfl ?_
 go_loopg [10] 2 (λg i wr=>∃ k:J,∃ c,g=2-k/\k<=2/\i=I k/\Tvw w v c wr/\j_ c)
 case atStart=>exact⟨0,H,rfl,U,rfl,t,n.o⟩
 obtain⟨k,c,a1,hk,rfl,aU,a⟩:=hrel;by_cases m:k<2
 .have p:=Vz v k m;unfold tP at p;have C:=af (λW=>XN (v (4+10*k)) (v (4+10*k+1)) (v (4+10*k+2)) (v (4+10*k+3)) (v (4+10*k+4)) (v (4+10*k+5)) (v (4+10*k+6)) (v (4+10*k+7)) (v (4+10*k+8)) (v (4+10*k+9)) W);go_wp2_with fail;refine aT (C.o _) λan q=>?_;have r:Keeps aG wr an:=((Keeps.refl _ wr).alloc _).fE q;have b:=aU.keep r
  obtain⟨d⟩:Nonempty ((Instr.storeAt 258 (.pointer (some (ad (w.heap.size+1+1) (k*4) ab))) (aM #[ag (v (4+10*k)),ag (v (4+10*k+1)),I (v (4+10*k+4)),.bool (decide (v (4+10*k+8)=0))])).run prog an=.ok () (an.setRow (w.heap.size+2) (eU c (k*4) #[ag (v (4+10*k)),ag (v (4+10*k+1)),I (v (4+10*k+4)),.bool (decide (v (4+10*k+8)=0))]))):=
   ⟨qQ 258 4 (w.heap.size+1+1) (k*4) _ c 264 sizeOf258 rfl b.st (by rw[b.cD];omega) L6⟩
  have D:=b.put (k*4) #[ag (v (4+10*k)),ag (v (4+10*k+1)),I (v (4+10*k+4)),.bool (decide (v (4+10*k+8)=0))] bU L6;have a:j_ (eU c (k*4) #[ag (v (4+10*k)),ag (v (4+10*k+1)),I (v (4+10*k+4)),.bool (decide (v (4+10*k+8)=0))]):=by
   have l:=aX k m;rcases (show k=0\/k=1 by omega)with rfl|rfl
   .exact a.ca l.1 l.2
   exact a.bP l.1 l.2
  have a:=af a;go_wp2_with refine c8 d rfl rfl rfl rfl ?_
  go_roundg (2-(k+1))
  case rel=>exact⟨k+1,_,rfl,U,by go_num,D,a.o⟩
  omega
 obtain rfl:k=2:=U;have F:=(λW (h:W.heap[w.heap.size]?=some (ae (bo v) 99 (0,0)))=>B3 v w.heap.size W _ h) _ aU.box;go_wp2_with refine dm F rfl rfl rfl ?_
 go_loopg [22] 6 (λg i wr=>∃ k:J,∃ c,g=6-k/\k<=6/\i=I k/\Tvw w v c wr/\j_ c)
 case atStart=>exact⟨0,c,rfl,U,rfl,aU,a⟩
 obtain⟨k,c,a1,hk,rfl,aU,a⟩:=hrel;by_cases m:k<6
 .have p:=B2 v k m;unfold o2 at p;go_wp2_with fail;refine aT (((λW=>XO (v (24+6*k)) (v (25+6*k)) (v (26+6*k)) (v (27+6*k)) (v (28+6*k)) (v (29+6*k)) W)) _) λan q=>?_;have r:Keeps aG wr an:=((Keeps.refl _ wr).alloc _).fE q;have b:=aU.keep r
  have d:(Instr.storeAt 261 (.pointer (some (ad (w.heap.size+1+1) (8+k*3) ab))) (aM #[ag (v (24+6*k)),ag (v (25+6*k)),I (v (28+6*k))])).run prog an=.ok () (an.setRow (w.heap.size+2) (eU c (8+k*3) #[ag (v (24+6*k)),ag (v (25+6*k)),I (v (28+6*k))])):=
   qQ 261 3 (w.heap.size+1+1) (8+k*3) _ c 264 sizeOf261 rfl b.st (by rw[b.cD];omega) L_
  have a:=af (a.sp (k*3) #[ag (v (24+6*k)),ag (v (25+6*k)),I (v (28+6*k))]);go_wp2_with refine c8 d rfl rfl rfl rfl ?_
  go_roundg (6-(k+1))
  case rel=>exact⟨k+1,_,rfl,U,by go_num,(b.put (8+k*3) #[ag (v (24+6*k)),ag (v (25+6*k)),I (v (28+6*k))] bU L_),a.o⟩
  omega
 obtain rfl:k=6:=U;obtain⟨d,s,E⟩:=dO wr 264 26 (w.heap.size+1) c jr sizeOf264 aU.cD rfl aU.res (ff.2 aU.one);have G:=aU.cD;have B:=b8 aU.one a;go_wp2_with first|refine dm (gq (P:=prog) 264 26 (w.heap.size+1+1) 0 c c _ isAgg264 sizeOf264 aU.cD aU.st (λj u z=>jS)) rfl rfl rfl ?_|refine c8 d rfl rfl rfl rfl ?_
 refine dn (v:=.agg c) s ?_;exact⟨⟨_,rfl,G,B.o.1,B.o.2⟩,((aU.cv.mono λ_ _ x=>x.elim).trans E).below bA a7⟩
end Go.Proofs.YtalagblioepadaaGreatDoor
