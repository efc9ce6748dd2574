/- The proof, part 26. -/
import Derived.Test.YtalagblioepadaaGreatDoorZc11
import Derived.Test.YtalagblioepadaaGreatDoorZc22
namespace Go.Proofs.YtalagblioepadaaGreatDoor
set_option linter.all false
open Proofs.Tryz List Go.RowKit
set_option maxRecDepth 100000
set_option maxHeartbeats 1000000
def MM{p:ak}(h:p:=by show w.heap.size<=w.heap.size+1+1+1+1;omega):p:=h
def MG{p:ak}(h:p:=by intro u f;simp at f;rcases f with rfl|rfl|rfl<;>rfl):p:=h
def MC{p:ak}(h:p:=by intro u f;simp at f;rcases f with rfl|rfl|rfl|rfl<;>rfl):p:=h
variable{w w':ai}
def Xe(a b s:aa)(bd:bj a)(aj:bj b)(av:bj s)(w:ai):aA 374 #[aQ #[ag a,ag b],ag s] w λe w'=>e=.returned (aQ #[ag (sy a b s),ag (sz a b s)])/\Below w w w':=by
 have d:=af (Ya a b s bd aj av);generalize sy a b s=x at *;generalize sz a b s=y at *;have c:=aX (w.alloc (ae #[ag a,ag b] 91)) (ae c2 91);rw[fK]at c;have f:=(((b3 w.heap.size w).alloc bs (ae #[ag a,ag b] 91)).alloc aK (ae c2 91))
 go_in
 go_wp2_with fail;generalize (w.alloc (ae #[ag a,ag b] 91)).alloc (ae c2 91)=bk at *;refine bA (d.o _) ?_;have g0:=bI c;have eO:=aS c;go_wp2;refine dq (v:=aQ #[ag x,ag y]) (kU (km c (ag x) (ag y))) ?_;exact⟨rfl,(f.setCell rH _).setCell rH _⟩
def rf(a b k m:aa):aa×aa:=
 if m<o3 (eh a k) (eh b k)then(sy (eh a k) (eh b k) m,sz (eh a k) (eh b k) m)else(eh a k,eh b k)
def W8(a b k m:aa)(bd:bj a)(aj:bj b)(E:bj k)(hm:bj m)(w:ai):aA 363 #[aQ #[ag a,ag b],ag k,ag m] w λe w'=>e=.returned (aQ #[ag (rf a b k m).1,ag (rf a b k m).2])/\Below w w w':=by
 have u:=af (CB a b k bd aj E);have z:bj (eh a k):=hl _;have A:bj (eh b k):=hl _;have t:=af (za (eh a k) (eh b k) z A);have C:=af (Xe (eh a k) (eh b k) m z A hm);unfold rf;generalize sy (eh a k) (eh b k) m=B at *;generalize sz (eh a k) (eh b k) m=ty at *;generalize o3 (eh a k) (eh b k)=l at *;generalize eh a k=x at *;generalize eh b k=y at *;have an:=cm (aX w (ae #[ag a,ag b] 91)) (ae c2 91);have j:=aX (w.alloc (ae #[ag a,ag b] 91)) (ae c2 91);rw[fK]at j;have h:=(((b3 w.heap.size w).alloc bs (ae #[ag a,ag b] 91)).alloc aK (ae c2 91));by_cases al:m<l
 .rw[aD al]
  go_in
  go_wp2_with fail;generalize (w.alloc (ae #[ag a,ag b] 91)).alloc (ae c2 91)=bk at *;refine aU (u.o _) λao h1=>?_;have f:=(ba bk).fI h1;have c:=f.heap an id;have n:=f.heap j id;have i:=km c (ag x) (ag y);have d:=eU (eU n (p:=ad w 0 ab) aK (ag x)) (p:=ad w 1 ab) aK (ag y);have g:=((h.trans (h1.mono h.size)).setCell (p:=ad w 0 ab) bs (ag x)).setCell (p:=ad w 1 ab) bs (ag y);have F:=aS c;have G:=bI c;have bt:=aS i;have g0:=bI d;have eO:=aS d;go_wp2_with fail;generalize (ao.setCell (ad w 0 ab) (ag x)).setCell (ad w 1 ab) (ag y)=aC at *;refine bA (t.o _) ?_;go_wp2_with fail;refine aU (C.o _) λbm s=>?_;have q:=((ba aC).fI s).heap d id;have D:=g.trans (s.mono g.size);have g0:=bI q;have eO:=aS q;go_wp2;have r:=kU (km q (ag B) (ag ty));refine dq (v:=aQ #[ag B,ag ty]) r ?_;exact⟨rfl,(D.setCell rH _).setCell rH _⟩
 rw[az al]
 go_in
 go_wp2_with fail;generalize (w.alloc (ae #[ag a,ag b] 91)).alloc (ae c2 91)=bk at *;refine aU (u.o _) λao h1=>?_;have f:=(ba bk).fI h1;have c:=f.heap an id;have n:=f.heap j id;have i:=km c (ag x) (ag y);have d:=eU (eU n (p:=ad w 0 ab) aK (ag x)) (p:=ad w 1 ab) aK (ag y);have g:=((h.trans (h1.mono h.size)).setCell (p:=ad w 0 ab) bs (ag x)).setCell (p:=ad w 1 ab) bs (ag y);have F:=aS c;have G:=bI c;have bt:=aS i;have g0:=bI d;have eO:=aS d;go_wp2_with fail;generalize (ao.setCell (ad w 0 ab) (ag x)).setCell (ad w 1 ab) (ag y)=aC at *;refine bA (t.o _) ?_;go_wp2;have r:=kU (km d (ag x) (ag y));refine dq (v:=aQ #[ag x,ag y]) r ?_;exact⟨rfl,(g.setCell rH _).setCell rH _⟩
def CD(a b r c d s:aa)(bd:bj a)(aj:bj b)(m:bj r)(al:bj c)(hd:bj d)(av:bj s)(w:ai):aA 351 #[aQ #[ag a,ag b],ag r,aQ #[ag c,ag d],ag s] w λe w'=>e=.returned (.bool (kz (fA c a) (fA d b) (dj r s)))/\Below w w w':=by
 have l:=af (CC c d a b al hd bd aj);have j:=af (x7 r s m av);have k:=af (X_ (fA c a) (fA d b) (dj r s) (hl _) (hl _) (hl _));generalize kz (fA c a) (fA d b) (dj r s)=bR at *;generalize fA c a=x at *;generalize fA d b=y at *;generalize dj r s=z at *;have i:=(((b3 w.heap.size w).alloc bs (ae #[ag a,ag b] 91)).alloc aK (ae #[ag c,ag d] 91))
 go_in
 go_wp2_with fail;generalize (w.alloc (ae #[ag a,ag b] 91)).alloc (ae #[ag c,ag d] 91)=bk at *;refine aU (l.o _) λao h1=>?_;have g:=i.trans (h1.mono i.size);have f:=g.alloc g.size (ae #[ag x,ag y] 91);go_wp2_with fail;go_quiet (first|(with_reducible exact(j.o _).mono λ_ _ h=>⟨h.1,_,h.2.symm⟩)|(with_reducible exact(k.o _).mono λ_ _ h=>⟨h.1,_,h.2.symm⟩));go_wp2;go_ret;exact⟨rfl,⟨f.os,f.tape,f.output,f.size,f.block⟩⟩
def W6(f g h i c d a b:aa)(h1:bj f)(h2:bj g)(x:bj h)(E:bj i)(F:c<=a)(G:d<=b)(w:ai):aA 364 #[aQ #[ag f,ag g],aQ #[ag h,ag i],aQ #[ag c,ag d,ag a,ag b]] w λe w'=>
   e=aV #[aQ #[ag (hT f h c a 1 2).1,ag (hT g i d b 4 8).1],aQ #[ag (hT f h c a 1 2).2.1,ag (hT g i d b 4 8).2.1],I (bits .or .i64 (hT f h c a 1 2).2.2 (hT g i d b 4 8).2.2),I 0]/\Below w w w':=by
 have H:=af (Ke f h c a 1 2 h1 x);have K:=af (Ke g i d b 4 8 h2 E);generalize (hT f h c a 1 2).1=l at *;generalize (hT f h c a 1 2).2.1=m at *;generalize (hT f h c a 1 2).2.2=R at *;generalize (hT g i d b 4 8).1=n at *;generalize (hT g i d b 4 8).2.1=q at *;generalize (hT g i d b 4 8).2.2=S at *;have L:Keeps aI w (((((w.alloc (ae #[ag f,ag g] 91)).alloc (ae #[ag h,ag i] 91)).alloc (ae #[ag c,ag d,ag a,ag b] 214)).alloc (ae c2 91)).alloc (ae c2 91)):=(((((Keeps.refl _ w).alloc _).alloc _).alloc _).alloc _).alloc _;have cb:((((((w.alloc (ae #[ag f,ag g] 91)).alloc (ae #[ag h,ag i] 91)).alloc (ae #[ag c,ag d,ag a,ag b] 214)).alloc (ae c2 91)).alloc (ae c2 91))).heap[w.heap.size]?=some (ae #[ag f,ag g] 91 (0,0)):=cm (cm (cm (cm (aX w _) _) _) _) _;have bO:((((((w.alloc (ae #[ag f,ag g] 91)).alloc (ae #[ag h,ag i] 91)).alloc (ae #[ag c,ag d,ag a,ag b] 214)).alloc (ae c2 91)).alloc (ae c2 91))).heap[w.heap.size+1]?=some (ae #[ag h,ag i] 91 (0,0)):=by
  have:=cm (cm (cm (aX (w.alloc (ae #[ag f,ag g] 91)) (ae #[ag h,ag i] 91)) (ae #[ag c,ag d,ag a,ag b] 214)) (ae c2 91)) (ae c2 91)
  simpa only[fK]using this
 have u:((((((w.alloc (ae #[ag f,ag g] 91)).alloc (ae #[ag h,ag i] 91)).alloc (ae #[ag c,ag d,ag a,ag b] 214)).alloc (ae c2 91)).alloc (ae c2 91))).heap[w.heap.size+1+1]?=some (ae #[ag c,ag d,ag a,ag b] 214 (0,0)):=by
  have:=cm (cm (aX ((w.alloc (ae #[ag f,ag g] 91)).alloc (ae #[ag h,ag i] 91)) (ae #[ag c,ag d,ag a,ag b] 214)) (ae c2 91)) (ae c2 91)
  simpa only[fK]using this
 have r:((((((w.alloc (ae #[ag f,ag g] 91)).alloc (ae #[ag h,ag i] 91)).alloc (ae #[ag c,ag d,ag a,ag b] 214)).alloc (ae c2 91)).alloc (ae c2 91))).heap[w.heap.size+1+1+1]?=some (ae c2 91 (0,0)):=by
  have:=cm (aX (((w.alloc (ae #[ag f,ag g] 91)).alloc (ae #[ag h,ag i] 91)).alloc (ae #[ag c,ag d,ag a,ag b] 214)) (ae c2 91)) (ae c2 91)
  simpa only[fK]using this
 have s:((((((w.alloc (ae #[ag f,ag g] 91)).alloc (ae #[ag h,ag i] 91)).alloc (ae #[ag c,ag d,ag a,ag b] 214)).alloc (ae c2 91)).alloc (ae c2 91))).heap[w.heap.size+1+1+1+1]?=some (ae c2 91 (0,0)):=by
  have:=aX ((((w.alloc (ae #[ag f,ag g] 91)).alloc (ae #[ag h,ag i] 91)).alloc (ae #[ag c,ag d,ag a,ag b] 214)).alloc (ae c2 91)) (ae c2 91)
  simpa only[fK]using this
 go_in
 go_wp2_with fail;generalize (((((w.alloc (ae #[ag f,ag g] 91)).alloc (ae #[ag h,ag i] 91)).alloc (ae #[ag c,ag d,ag a,ag b] 214)).alloc (ae c2 91)).alloc (ae c2 91))=bk at *;refine aU ((Kd c d a b F G) _) λao aj=>?_;have t:=(ba bk).fI aj;have M:=L.trans t;have cb:=t.heap cb id;have bO:=t.heap bO id;have u:=t.heap u id;have r:=t.heap r id;have s:=t.heap s id;have A:=aS cb;have qH:=aS bO;have T:=aS u;have X:=bI cb;have Y:=bI bO;go_wp2_with fail;refine bA (H.o _) ?_;simp only;go_wp2_with fail;refine bA (K.o _) ?_;simp only;have B:(((((ao.setCell (ad w 0 ab) (ag l)).setCell (ad (w+1) 0 ab) (ag m)).setCell (ad w 1 ab) (ag n)).setCell (ad (w+1) 1 ab) (ag q))).heap[w.heap.size]?=some (ae #[ag l,ag n] 91 (0,0)):=by
  have h1:=bV cb 0 (ag l);have h2:=bV (eU h1 (p:=ad (w+1) 0 ab) aK (ag m)) 1 (ag n);have x:=eU h2 (p:=ad (w+1) 1 ab) aK (ag q);simpa using x
 have d1:(((((ao.setCell (ad w 0 ab) (ag l)).setCell (ad (w+1) 0 ab) (ag m)).setCell (ad w 1 ab) (ag n)).setCell (ad (w+1) 1 ab) (ag q))).heap[w.heap.size+1]?=some (ae #[ag m,ag q] 91 (0,0)):=by
  have h1:=bV (eU bO (p:=ad w 0 ab) aK (ag l)) 0 (ag m);have h2:=bV (eU h1 (p:=ad w 1 ab) aK (ag n)) 1 (ag q);simpa using h2
 have y:Keeps (λj=>j=w.heap.size\/j=w.heap.size+1) ao ((((ao.setCell (ad w 0 ab) (ag l)).setCell (ad (w+1) 0 ab) (ag m)).setCell (ad w 1 ab) (ag n)).setCell (ad (w+1) 1 ab) (ag q)):=((((Keeps.refl _ ao).setCell (p:=ad w 0 ab) (.inl rfl) _).setCell (p:=ad (w+1) 0 ab) (.inr rfl) _).setCell (p:=ad w 1 ab) (.inl rfl) _).setCell (p:=ad (w+1) 1 ab) (.inr rfl) _;have r:=y.heap r U;have s:=y.heap s U;have N:=cL M y a7;go_wp2_with fail;generalize ((((ao.setCell (ad w 0 ab) (ag l)).setCell (ad (w+1) 0 ab) (ag m)).setCell (ad w 1 ab) (ag n)).setCell (ad (w+1) 1 ab) (ag q))=aC at *;have A:=aS B;have qH:=aS d1;have V:=aS r;have W:=aS s;have Z:=bI r;have a':=bI s
 go_region
 go_wp2
 have C:((((aC.setCell (ad (w.heap.size+1+1+1) 0 ab) (ag l)).setCell (ad (w.heap.size+1+1+1) 1 ab) (ag n)).setCell (ad (w.heap.size+1+1+1+1) 0 ab) (ag m)).setCell (ad (w.heap.size+1+1+1+1) 1 ab) (ag q)).heap[w.heap.size+1+1+1]?=some (ae #[ag l,ag n] 91 (0,0)):=
  eU (eU (km r _ _) (p:=ad (w.heap.size+1+1+1+1) 0 ab) aK _) (p:=ad (w.heap.size+1+1+1+1) 1 ab) aK _
 have D:((((aC.setCell (ad (w.heap.size+1+1+1) 0 ab) (ag l)).setCell (ad (w.heap.size+1+1+1) 1 ab) (ag n)).setCell (ad (w.heap.size+1+1+1+1) 0 ab) (ag m)).setCell (ad (w.heap.size+1+1+1+1) 1 ab) (ag q)).heap[w.heap.size+1+1+1+1]?=some (ae #[ag m,ag q] 91 (0,0)):=
  km (eU (eU s (p:=ad (w.heap.size+1+1+1) 0 ab) aK _) (p:=ad (w.heap.size+1+1+1) 1 ab) aK _) _ _
 have O:=cL N (((((Keeps.refl (λj=>w.heap.size<=j) aC).setCell (p:=ad (w.heap.size+1+1+1) 0 ab) (by show w.heap.size<=w.heap.size+1+1+1;omega) (ag l)).setCell (p:=ad (w.heap.size+1+1+1) 1 ab) (by show w.heap.size<=w.heap.size+1+1+1;omega) (ag n)).setCell (p:=ad (w.heap.size+1+1+1+1) 0 ab) MM (ag m)).setCell (p:=ad (w.heap.size+1+1+1+1) 1 ab) MM (ag q)) a7;generalize (((aC.setCell (ad (w.heap.size+1+1+1) 0 ab) (ag l)).setCell (ad (w.heap.size+1+1+1) 1 ab) (ag n)).setCell (ad (w.heap.size+1+1+1+1) 0 ab) (ag m)).setCell (ad (w.heap.size+1+1+1+1) 1 ab) (ag q)=z at *;have P:=kU (w:=z.drew) C;have Q:=kU (w:=z.drew) D;refine cU (v:=aV #[aQ #[ag l,ag n],aQ #[ag m,ag q],I (bits .or .i64 R S),I 0]) (by simp[results,results364,asAddr,loadVar,loadCells,isAgg91,sizeOf91,P,Q]) rfl ?_;exact⟨rfl,O.drew.below bs (λk h1 h2=>h2)⟩
def kj(c:a6 ax):ak:=∃ x y f u dW a b d r,(bj x/\bj y/\bj dW/\bj a)/\c.toList=[ag x,ag y,I f,.bool u,ag dW,ag a,I b,.bool d]++r
def kj.cb{c:a6 ax}(h:kj c){x y f:aa}{u:aY}(j:bj x)(k:bj y):kj (e0 c 0 #[ag x,ag y,I f,.bool u]):=by
 obtain⟨_,_,_,_,dW,d,a,b,r,⟨_,_,g,i⟩,e⟩:=h;refine⟨x,y,f,u,dW,d,a,b,r,⟨j,k,g,i⟩,?_⟩;unfold e0;rw[e];rfl
def kj.bO{c:a6 ax}(h:kj c){x y f:aa}{u:aY}(j:bj x)(k:bj y):kj (e0 c 4 #[ag x,ag y,I f,.bool u]):=by
 obtain⟨dW,d,a,b,_,_,_,_,r,⟨g,i,_,_⟩,e⟩:=h;refine⟨dW,d,a,b,x,y,f,u,r,⟨g,i,j,k⟩,?_⟩;unfold e0;rw[e];rfl
def kj.sp{c:a6 ax}(h:kj c)(k:J)(p:a6 ax):kj (e0 c (8+k) p):=by
 have⟨x,y,f,u,dW,d,a,b,r,g,e⟩:=h;refine⟨x,y,f,u,dW,d,a,b,r.take k++p.toList++r.drop (k+p.size),g,?_⟩;unfold e0;rw[e,qt 8 k,show k+8+p.size=(k+p.size)+8 by omega];simp[hV,hU]
def KN(v:J->aa)(aW:∀ k,k<2->bj (v (4+10*k))/\bj (v (4+10*k+1)))(w:ai):aA 136 #[.agg (bn v)] w λe w'=>(∃ c,e=.returned (.agg c)/\c.size=26/\(∀ u∈c.toList,u.oneCell'=true)/\kj c)/\Below w w w':=by
 have y:=Cn (w.alloc (ae (bn v) 99));rw[fK]at y;have A:=Cn ((w.alloc (ae (bn v) 99)).alloc (ae jB 264));simp only[fK]at A;have t:Tvw w v jB (((w.alloc (ae (bn v) 99)).alloc (ae jB 264)).alloc (ae jB 264)):=by
  refine⟨cm (cm (aX w _) _) _,?_,?_,rfl,bq,(((Keeps.refl _ w).alloc _).alloc _).alloc _⟩
  .have:=cm (aX (w.alloc (ae (bn v) 99)) (ae jB 264)) (ae jB 264)
   rwa [fK]at this
  have:=aX ((w.alloc (ae (bn v) 99)).alloc (ae jB 264)) (ae jB 264)
  rwa [fK,fK]at this
 have s:=Wf v w.heap.size _ _ t.box;have n:kj jB:=⟨0,0,0,false,0,0,0,false,_,f_,rfl⟩;have n:=af n;generalize K:jB=H at *
 go_in
 go_wp2_with first|refine d_ y rfl rfl ?_|refine d_ A rfl rfl ?_|refine dp s rfl rfl rfl ?_
 go_loopg [10] 2 (λg i wr=>∃ k:J,∃ c,g=2-k/\k<=2/\i=I k/\Tvw w v c wr/\kj c)
 case atStart=>exact⟨0,H,rfl,U,rfl,t,n.o⟩
 obtain⟨k,c,aZ,hk,rfl,aT,a⟩:=hrel;by_cases m:k<2
 .have p:=V9 v k m;unfold uf at p;have C:=af (λW=>Yp (v (4+10*k)) (v (4+10*k+1)) (v (4+10*k+2)) (v (4+10*k+3)) (v (4+10*k+4)) (v (4+10*k+5)) (v (4+10*k+6)) (v (4+10*k+7)) (v (4+10*k+8)) (v (4+10*k+9)) W);go_wp2_with fail;refine aU (C.o _) λao q=>?_;have r:Keeps aI wr ao:=((Keeps.refl _ wr).alloc _).fI q;have b:=aT.keep r
  obtain⟨d⟩:Nonempty ((Instr.storeAt 258 (.pointer (some (ad (w.heap.size+1+1) (k*4) ab))) (aQ #[ag (v (4+10*k)),ag (v (4+10*k+1)),I (v (4+10*k+4)),.bool (decide (v (4+10*k+8)=0))])).run prog ao=.ok () (ao.setRow (w.heap.size+2) (e0 c (k*4) #[ag (v (4+10*k)),ag (v (4+10*k+1)),I (v (4+10*k+4)),.bool (decide (v (4+10*k+8)=0))]))):=
   ⟨q8 258 4 (w.heap.size+1+1) (k*4) _ c 264 sizeOf258 rfl b.st (by rw[b.cE];omega) MC⟩
  have D:=b.put (k*4) #[ag (v (4+10*k)),ag (v (4+10*k+1)),I (v (4+10*k+4)),.bool (decide (v (4+10*k+8)=0))] bT MC;have a:kj (e0 c (k*4) #[ag (v (4+10*k)),ag (v (4+10*k+1)),I (v (4+10*k+4)),.bool (decide (v (4+10*k+8)=0))]):=by
   have l:=aW k m;rcases (show k=0\/k=1 by omega)with rfl|rfl
   .exact a.cb l.1 l.2
   exact a.bO l.1 l.2
  have a:=af a;go_wp2_with refine c8 d rfl rfl rfl rfl ?_
  go_roundg (2-(k+1))
  case rel=>exact⟨k+1,_,rfl,U,by go_num,D,a.o⟩
  omega
 obtain rfl:k=2:=U;have F:=(λW (h:W.heap[w.heap.size]?=some (ae (bn v) 99 (0,0)))=>Cp v w.heap.size W _ h) _ aT.box;go_wp2_with refine dp F rfl rfl rfl ?_
 go_loopg [22] 6 (λg i wr=>∃ k:J,∃ c,g=6-k/\k<=6/\i=I k/\Tvw w v c wr/\kj c)
 case atStart=>exact⟨0,c,rfl,U,rfl,aT,a⟩
 obtain⟨k,c,aZ,hk,rfl,aT,a⟩:=hrel;by_cases m:k<6
 .have p:=Co v k m;unfold pe at p;go_wp2_with fail;refine aU (((λW=>Yq (v (24+6*k)) (v (25+6*k)) (v (26+6*k)) (v (27+6*k)) (v (28+6*k)) (v (29+6*k)) W)) _) λao q=>?_;have r:Keeps aI wr ao:=((Keeps.refl _ wr).alloc _).fI q;have b:=aT.keep r
  have d:(Instr.storeAt 261 (.pointer (some (ad (w.heap.size+1+1) (8+k*3) ab))) (aQ #[ag (v (24+6*k)),ag (v (25+6*k)),I (v (28+6*k))])).run prog ao=.ok () (ao.setRow (w.heap.size+2) (e0 c (8+k*3) #[ag (v (24+6*k)),ag (v (25+6*k)),I (v (28+6*k))])):=
   q8 261 3 (w.heap.size+1+1) (8+k*3) _ c 264 sizeOf261 rfl b.st (by rw[b.cE];omega) MG
  have a:=af (a.sp (k*3) #[ag (v (24+6*k)),ag (v (25+6*k)),I (v (28+6*k))]);go_wp2_with refine c8 d rfl rfl rfl rfl ?_
  go_roundg (6-(k+1))
  case rel=>exact⟨k+1,_,rfl,U,by go_num,(b.put (8+k*3) #[ag (v (24+6*k)),ag (v (25+6*k)),I (v (28+6*k))] bT MG),a.o⟩
  omega
 obtain rfl:k=6:=U;obtain⟨d,s,E⟩:=dP wr 264 26 (w.heap.size+1) c jB sizeOf264 aT.cE rfl aT.res (fg.2 aT.one);have G:=aT.cE;have B:=b6 aT.one a;go_wp2_with first|refine dp (gz (P:=prog) 264 26 (w.heap.size+1+1) 0 c c _ isAgg264 sizeOf264 aT.cE aT.st (λj u z=>jZ)) rfl rfl rfl ?_|refine c8 d rfl rfl rfl rfl ?_
 refine dq (v:=.agg c) s ?_;exact⟨⟨_,rfl,G,B.o.1,B.o.2⟩,((aT.cv.mono λ_ _ x=>x.elim).trans E).below bs a7⟩
end Go.Proofs.YtalagblioepadaaGreatDoor
