/- The proof, part 18. -/
import Derived.Test.YtalagblioepadaaGreatDoorZe09
import Derived.Test.YtalagblioepadaaGreatDoorZe14
import Derived.Deep.DeepCutAuto
import Derived.Test.YtalagblioepadaaGreatDoorZe03
import Derived.Test.YtalagblioepadaaGreatDoorZe04
namespace Go.Proofs.YtalagblioepadaaGreatDoor
set_option linter.all false
open Proofs.Tryz List Go.RowKit
set_option maxRecDepth 100000
set_option maxHeartbeats 4000000
variable{ww:Prop}
def xl(h:ww:=by simp[results,results265,go_sem]):=h
def xk(h:ww:=by first|(rw[wrap_u8];simp;omega)|(simp;omega)):=h
variable{H:U}{L R l:ai aR}{j k:J}{W W' aq:aj}
section
def jM(n:U):ai aR:=[UInt8.ofNat (n / 256%256).toNat,UInt8.ofNat (n%256).toNat]
variable{w:aj}{base n:J}{v:ay}{xs:ai ay}
def wK{c:aR}{m:J}{y:U}{ys:ai ay}(a:l[k]?=some c)(b:xs++(l.take k).map eW=ys)(h:w.ownsRow base 5 1 v m (ys++[bf y]))(hm:m=n+(k+1))(a8:y=c.toNat):w.ownsRow base 5 1 v (n+(k+1)) (xs++(l.take (k+1)).map eW):=by
 obtain⟨hk,rfl⟩:=ir.1 a;rw[l7 hk,k3,<-eh,b];subst a8 hm;exact h
def P1(r:w.ownsRow base 5 1 v n xs)(A:base<=w.heap.size)(aw:n<=4096)(x:U)(ak:0<=x/\x<4294967296):aB 201 #[v,bz x,aa 4] w λe w'=>∃ v',e=.returned v'/\w'.ownsRow base 5 1 v' (n+4) (xs++(fs x).map eW)/\Below base w w':=by
 have⟨y,av,q,s,u⟩:=pY yq;have m:=ad av
 go_in
 go_wp2;go_loopg [0,7] 5 (λg v' i wr=>∃ (k:J) (j:U),g=5-k/\k<=4/\j=3-(k:U)/\i=aa j/\wr.ownsRow base 5 1 v' (n+k) (xs++((fs x).take k).map eW)/\Below base w wr)
 case atStart=>exact⟨0,3,rfl,I,rfl,rfl,by simpa using r,b9 _ _⟩
 obtain⟨k,j,a7,hk,a,rfl,r,f⟩:=hrel;by_cases z:k=0
 .subst z;obtain rfl:j=3:=I;clear a;obtain⟨ys,t⟩:∃ ys,xs++((fs x).take 0).map eW=ys:=⟨_,rfl⟩;rw[t]at r;have D:=ad t;refine UU;go_roundg (5-(0+1))
  case measure=>omega
  exact⟨0+1,_,rfl,I,rfl,cT,wK (l:=fs x) (c:=_) (k:=0) rfl D.o b I xk,d⟩
 by_cases h:k=1
 .subst h;obtain rfl:j=2:=I;obtain⟨ys,t⟩:∃ ys,xs++((fs x).take 1).map eW=ys:=⟨_,rfl⟩;refine Tv;go_roundg (5-(1+1))
  case measure=>omega
  exact⟨1+1,_,rfl,I,rfl,cT,wK (l:=fs x) (c:=_) (k:=1) rfl D.o b I xk,d⟩
 by_cases bK:k=2
 .subst bK;obtain rfl:j=1:=I;clear a;obtain⟨ys,t⟩:∃ ys,xs++((fs x).take 2).map eW=ys:=⟨_,rfl⟩;refine xK;go_wp2_with (at_builtin;refine uV _ rfl (.tmp 14) (.tmp 20) _ rfl base 5 y (bf 0) 1 1 underlying51 m.o q s u rfl bs _ (n+2) _ rfl (r.alloc _) (ah wr 0) 1 1 [bf _] rfl rfl (sa _ _ _) p7 k6 I zC ?_);refine C';go_roundg (5-(2+1))
  case measure=>omega
  exact⟨2+1,_,rfl,I,rfl,cT,wK (l:=fs x) (c:=_) (k:=2) rfl D.o b I xk,d⟩
 by_cases p:k=3
 .subst p;obtain rfl:j=0:=I;clear a;obtain⟨ys,t⟩:∃ ys,xs++((fs x).take 3).map eW=ys:=⟨_,rfl⟩;refine xK;go_wp2_with (at_builtin;refine uV _ rfl (.tmp 14) (.tmp 20) _ rfl base 5 y (bf 0) 1 1 underlying51 m.o q s u rfl bs _ (n+3) _ rfl (r.alloc _) (ah wr 0) 1 1 [bf _] rfl rfl (sa _ _ _) p7 k6 I zC ?_);refine C';go_roundg (5-(3+1))
  case measure=>omega
  exact⟨3+1,_,rfl,I,rfl,cT,wK (l:=fs x) (c:=_) (k:=3) rfl D.o b I xk,d⟩
 obtain rfl:k=4:=I;exact Vj
def P0(r:w.ownsRow base 5 1 v n xs)(A:base<=w.heap.size)(aw:n<=4096)(x:U)(ak:0<=x/\x<65536):aB 202 #[v,c7 x,aa 2] w λe w'=>∃ v',e=.returned v'/\w'.ownsRow base 5 1 v' (n+2) (xs++(jM x).map eW)/\Below base w w':=by
 have⟨y,av,q,s,u⟩:=pY yq;have m:=ad av
 go_in
 go_wp2;go_loopg [0,7] 3 (λg v' i wr=>∃ (k:J) (j:U),g=3-k/\k<=2/\j=1-(k:U)/\i=aa j/\wr.ownsRow base 5 1 v' (n+k) (xs++((jM x).take k).map eW)/\Below base w wr)
 case atStart=>exact⟨0,1,rfl,I,rfl,rfl,by simpa using r,b9 _ _⟩
 obtain⟨k,j,a7,hk,a,rfl,r,f⟩:=hrel;by_cases z:k=0
 .subst z;obtain rfl:j=1:=I;clear a;obtain⟨ys,t⟩:∃ ys,xs++((jM x).take 0).map eW=ys:=⟨_,rfl⟩;refine xK;refine UU;go_roundg (3-(0+1))
  case measure=>omega
  exact⟨0+1,_,rfl,I,rfl,cT,wK (l:=jM x) (c:=_) (k:=0) rfl D.o b I xk,d⟩
 by_cases h:k=1
 .subst h;obtain rfl:j=0:=I;clear a;obtain⟨ys,t⟩:∃ ys,xs++((jM x).take 1).map eW=ys:=⟨_,rfl⟩;refine Tv;go_roundg (3-(1+1))
  case measure=>omega
  exact⟨1+1,_,rfl,I,rfl,cT,wK (l:=jM x) (c:=_) (k:=1) rfl D.o b I xk,d⟩
 obtain rfl:k=2:=I;exact Vj
end
def Lm(w:aj)(a b:cr Addr)(gx eX:J)(L M:ai aR)(s:dy w a gx L)(f:dy w b eX M):aB 311 #[au a L.length gx,au b M.length eX] w λe w'=>e=.returned (.bool (decide (L=M)))/\∃ q,w'=w.drewN q:=by
 have B:M.length<=9223372036854775807:=cu f.1 f.2.1;by_cases C:L.length=M.length
 .have t:((L.length:U) == (M.length:U))=true:=by rw[iY];omega
  have E:((L.length:U) != (M.length:U))=false:=by simp[C]
  refine dU
  go_in
  go_wp2;go_loopw [13] (λi wr=>∃ k q:J,k<=L.length/\i=aa k/\w.drewN q=wr/\Hid (∀ j (h1:j<L.length) (h2:j<M.length),j<k->L[j]=M[j])) (λi _=>L.length-(intOf i).toNat)
  case atStart=>exact⟨0,0,c3 _,rfl,rfl,λ_ _ _ h=>absurd h (lD _)⟩
  obtain⟨k,q,hk,rfl,rfl,m⟩:=hrel;by_cases l:k<L.length
  .have g:k<M.length:=by have:=m'.o;omega
   obtain⟨bS,v,rfl,n⟩:=s.at' (by intro h;rw[h]at l;exact lD _ l);obtain⟨r,x,rfl,p⟩:=f.at' (by intro h;rw[h]at g;exact lD _ g);have z:w.cell? (ah bS (v+k))=some (bf L[k].toNat):=n k l;have A:w.cell? (ah r (x+k))=some (bf M[k].toNat):=p k g;clear n p;by_cases c:L[k]=M[k]
   .have u:((L[k].toNat:U) == (M[k].toNat:U))=true:=by rw[iY,c]
    have D:((L[k].toNat:U) != (M[k].toNat:U))=false:=by simp[c]
    go_wp2;go_quiet (fail);go_wp2;go_roundw
    case rel=>exact⟨k+1,q+nq,I,cT,rfl,λj h1 h2 y=>by
     by_cases e:j=k
     .subst e;exact c
     .exact m j h1 h2 I⟩
    simp[intOf];omega
   have hne:¬ (L[k].toNat:U)=(M[k].toNat:U):=λh=>c (CK.1 I);have u:((L[k].toNat:U) == (M[k].toNat:U))=false:=by rw[ep];exact hne
   have hfin:decide (L=M)=false:=by
    rw[tn];intro h;subst h;exact c rfl
   have d:=ad hfin;go_wp2;go_quiet (fail);refine fB;exact⟨by rw[d.o];rfl,q+nq,by simp[World.drewN,jZ]⟩
  have hfin:decide (L=M)=true:=by
   rw[hf];exact ext_getElem m'.o λj h1 h2=>m j h1 h2 I
  have d:=ad hfin;refine fB;exact⟨by rw[d.o];rfl,q,rfl⟩
 have t:((L.length:U) == (M.length:U))=false:=by rw[ep];omega
 have hfin:decide (L=M)=false:=by
  rw[tn];intro h;exact C (by rw[h])
 refine kF;exact⟨by rw[hfin];rfl,0,rfl⟩
section
def XK{B:J}{a w:aj}(h:Below B a w)(n:J):Below B a (w.drewN n):=h.trans ⟨rfl,rfl,rfl,dm _,λ_ _=>rfl⟩
def B8(k:U)(w:aj):aB 200 #[aa k] w λe w'=>e=aa (hp k)/\w=w':=by
 unfold hp;by_cases h1:k=1
 .subst h1;exact er
 by_cases h2:k=2
 .subst h2;exact er
 by_cases a:k=3
 .subst a;exact er
 by_cases b:k=4
 .subst b;exact er
 by_cases c:k=5
 .subst c;exact er
 by_cases d:k=6
 .subst d;exact er
 have bI:(k == 1)=false:=by rw[ep];exact h1
 have f:(k == 2)=false:=by rw[ep];exact h2
 have g:(k == 3)=false:=by rw[ep];exact a
 have h:(k == 4)=false:=by rw[ep];exact b
 have i:(k == 5)=false:=by rw[ep];exact c
 have j:(k == 6)=false:=by rw[ep];exact d
 rw[az I,az a,az b,az c,az d];clear h1 h2 a b c d;exact er
variable{w:aj}{a b:ba}{Aq iA:cr Addr}{gx eX:J}
def aiZ(n:dy w Aq gx a.bm)(p:dy w iA eX b.bm):aB 264 #[(aG (fV a Aq gx)),(aG (fV b iA eX))] w λe w'=>e=.returned (.bool (pK a b))/\Below w w w':=by
 have aA:pK a b=(decide (a.kind=b.kind)&&decide (a.cw=b.cw)&&decide (a.en=b.en)&&decide (a.ee=b.ee)&&decide (a.bm=b.bm)&&decide (a.sum=b.sum)&&decide (a.lead=b.lead)):=rfl;have j:=ad (n.keeps (((bd w).alloc (ab (fV a Aq gx) 254)).alloc (ab (fV b iA eX) 254)) (λ_ _ _=>id));have k:=ad (p.keeps (((bd w).alloc (ab (fV a Aq gx) 254)).alloc (ab (fV b iA eX) 254)) (λ_ _ _=>id));by_cases h1:a.kind=b.kind;rotate_left
 .have i:(a.kind == b.kind)=false:=by rw[ep];exact h1
  have c:=ad (show pK a b=false by simp[aA,h1]);clear h1 aA;exact Dc
 have bI:(a.kind == b.kind)=true:=by rw[iY];exact h1
 by_cases h2:a.cw=b.cw;rotate_left
 .have i:(a.cw == b.cw)=false:=by rw[ep];exact h2
  have c:=ad (show pK a b=false by simp[aA,h2]);clear h1 h2 aA;exact Dc
 have q:(a.cw == b.cw)=true:=by rw[iY];exact h2
 by_cases d:a.en=b.en;rotate_left
 .have i:(a.en == b.en)=false:=by rw[ep];exact d
  have c:=ad (show pK a b=false by simp[aA,d]);clear h1 h2 d aA;exact Dc
 have r:(a.en == b.en)=true:=by rw[iY];exact d
 by_cases f:a.ee=b.ee;rotate_left
 .have i:(a.ee == b.ee)=false:=by rw[ep];exact f
  have c:=ad (show pK a b=false by simp[aA,f]);clear h1 h2 d f aA;exact Dc
 have s:(a.ee == b.ee)=true:=by rw[iY];exact f
 have hfin:pK a b=(decide (a.bm=b.bm)&&(a.sum == b.sum)&&(a.lead == b.lead)):=by
  rw[aA];simp[h1,h2,d,f];rfl
 have c:=ad hfin;clear h1 h2 d f aA hfin;by_cases g:decide (a.bm=b.bm)=true
 .rw[g]at c;by_cases h:(a.sum == b.sum)=true
  .rw[h]at c;refine cg;refine(Lm _ _ _ _ _ a.bm b.bm j.o k.o).mono ?_;exact Sa
  have m:(a.sum == b.sum)=false:=by simpa using h
  rw[m]at c;clear h;exact WM
 have l:decide (a.bm=b.bm)=false:=by simpa using g
 rw[l]at c;clear g;exact WM
end
variable{w:aj}{m:ba}{a:cr Addr}{c:J}
def q3(m:ba)(a:cr Addr):cr Addr:=if m.kind=3 then a else none
def q4(m:ba)(c:J):J:=if m.kind=3 then c else 0
def PZ(m:ba)(a:cr Addr)(c:J)(w:aj):aB 265 #[(aG (fV m a c))] w λe w'=>e=aG #[aa (ih m).kind,bz (ih m).cw,c7 (ih m).en,c7 (ih m).ee,.slice (q3 m a) (ih m).bm.length (q4 m c),bz (ih m).sum,aa (ih m).lead]/\Below w w w':=by
 by_cases b:m.kind=3
 .have aw:hp m.kind=14:=by simp[hp,b]
  have al:ih m=⟨m.kind,0,m.en,m.ee,m.bm,0,0⟩:=by simp[ih,b]
  have bg:q3 m a=a:=by simp[q3,b]
  have an:q4 m c=c:=by simp[q4,b]
  rw[al,bg,an];have g:=ad aw;clear aw al bg an b;refine zL;exact dH (v:=aG #[aa m.kind,bz 0,c7 m.en,c7 m.ee,au a m.bm.length c,bz 0,aa 0]) xl rfl ⟨rfl,(((b9 _ w).alloc bu _).alloc aM _).alloc b_ _⟩
 by_cases h1:m.kind=1\/m.kind=2
 .have aw:hp m.kind=1:=by rcases h1 with h|h<;>simp[hp,h]
  have al:ih m=⟨m.kind,m.cw,0,0,[],0,0⟩:=by rcases h1 with h|h<;>simp[ih,h]
  refine Dd;clear aw al bg an b h1;refine zL;exact dH (v:=aG #[aa m.kind,bz m.cw,c7 0,c7 0,au none 0 0,bz 0,aa 0]) xl rfl ⟨rfl,(((b9 _ w).alloc bu _).alloc aM _).alloc b_ _⟩
 by_cases h2:m.kind=4
 .have aw:hp m.kind=18:=by simp[hp,h2]
  have al:ih m=⟨m.kind,0,m.en,0,[],m.sum,0⟩:=by simp[ih,h2]
  refine Dd;clear aw al bg an b h1 h2;refine zL;exact dH (v:=aG #[aa m.kind,bz 0,c7 m.en,c7 0,au none 0 0,bz m.sum,aa 0]) xl rfl ⟨rfl,(((b9 _ w).alloc bu _).alloc aM _).alloc b_ _⟩
 by_cases d:m.kind=5
 .have aw:hp m.kind=4:=by simp[hp,d]
  have al:ih m=⟨m.kind,0,0,m.ee,[],0,0⟩:=by simp[ih,d]
  refine Dd;clear aw al bg an b h1 h2 d;refine zL;exact dH (v:=aG #[aa m.kind,bz 0,c7 0,c7 m.ee,au none 0 0,bz 0,aa 0]) xl rfl ⟨rfl,(((b9 _ w).alloc bu _).alloc aM _).alloc b_ _⟩
 by_cases f:m.kind=6
 .have aw:hp m.kind=34:=by simp[hp,f]
  have al:ih m=⟨m.kind,0,m.en,0,[],0,m.lead⟩:=by simp[ih,f]
  refine Dd;clear aw al bg an b h1 h2 d f;refine zL;exact dH (v:=aG #[aa m.kind,bz 0,c7 m.en,c7 0,au none 0 0,bz 0,aa m.lead]) xl rfl ⟨rfl,(((b9 _ w).alloc bu _).alloc aM _).alloc b_ _⟩
 have aw:hp m.kind=0:=by simp[hp,b,h1,h2,d,f]
 have al:ih m=⟨m.kind,0,0,0,[],0,0⟩:=by simp[ih,b,h1,h2,d,f]
 have bg:q3 m a=none:=by simp[q3,b]
 have an:q4 m c=0:=by simp[q4,b]
 rw[al,bg,an];have g:=ad aw;clear aw al bg an b h1 h2 d f
 go_in
 go_wp2_with fail;refine(B8 _ _).mono ?_;rintro e w' ⟨rfl,rfl⟩;rw[g.o];go_wp2_with fail;exact dH (v:=aG #[aa m.kind,bz 0,c7 0,c7 0,au none 0 0,bz 0,aa 0]) xl rfl ⟨rfl,(((b9 _ w).alloc bu _).alloc aM _).alloc b_ _⟩
theorem dy.none(w:aj):dy w none 0 []:=⟨dm _,c3 _,.inl rfl⟩
theorem dy.after(h:dy w a c L)(x:k7 w):dy x.to a c L:=
 h.keeps (S:=aH) (ag.bU x.below a1) (λ_ _ _=>id)
def XD(m:ba)(h:dy w a c m.bm):dy w (q3 m a) (q4 m c) (ih m).bm:=by
 unfold q3 q4 ih;by_cases b:m.kind=3
 .simp only[b];exact h
 simp only[az b];exact dy.none w
def XW(w:aj)(vs:a6 ay)(t:TypeId){v:ay}(a_:vs[k]?=some v):(w.alloc (ab vs t)).cell? (ah w k)=some v:=by
 unfold World.cell?;rw[World.alloc_heap_new];exact a_
def afn{m:ba}(h:dR m):Ending.returned (.bool true)=.returned (.bool (decide (dR m))):=by rw[dh h]
def afj{m:ba}(h:¬ dR m):Ending.returned (.bool false)=.returned (.bool (decide (dR m))):=by rw[cN h]
def GW(m:ba)(h:dy w a c m.bm):aB 199 #[(aG (fV m a c))] w λe w'=>e=.returned (.bool (decide (dR m)))/\Below w w w':=by
 have hk:ag aH w (w.alloc (ab (fV m a c) 254)):=(ag.refl _ w).alloc _;have h1:=h.keeps hk (λ_ _ _=>id);have j:=ad (λx:k7 (w.alloc (ab (fV m a c) 254))=>aiZ (a:=m) (b:=ih m) (h1.after x) (XD m (h1.after x)));have i:=ad (λx:k7 (w.alloc (ab (fV m a c) 254))=>NC x.to a c m.bm (h1.after x))
 have an:∀ (k:J) (v:ay),((fV m a c):a6 ay)[k]?=some v->∀ x:k7 (w.alloc (ab (fV m a c) 254)),x.to.cell? (ah w k)=some v:=λk v a_ x=>
  (ag.bU (S:=aH) x.below a1).cell (p:=ah w k) (XW w _ _ a_) id
 have bw:=an 0 _ rfl;have bP:=an 1 _ rfl;have bB:=an 2 _ rfl;have e3:=an 3 _ rfl;have e4:=an 4 _ rfl;have hA:=an 5 _ rfl;have eI:=an 6 _ rfl;have s:=ad (afm m);clear an h h1 hk;by_cases h1:m.kind<1
 .have f:=ad (show ¬ dR m from λh=>by have:=h.1.1;omega);have z:decide (m.kind<1)=true:=by simpa using h1
  exact vj
 have z:decide (m.kind<1)=false:=by simpa using h1
 by_cases h2:7<m.kind
 .have f:=ad (show ¬ dR m from λh=>by have:=h.1.2;omega);have A:decide (7<m.kind)=true:=by simpa using h2
  exact vj
 have A:decide (7<m.kind)=false:=by simpa using h2
 by_cases aA:pK m (ih m)=true;rotate_left
 .have r:pK m (ih m)=false:=by simpa using aA
  have f:=ad (show ¬ dR m from λh=>aA ((s.o.1 h).2.1));rw[r]at j;clear aA r;exact vj
 rw[aA]at j;by_cases d:fits m.bm=true;rotate_left
 .have n:fits m.bm=false:=by simpa using d
  have f:=ad (show ¬ dR m from λh=>d h.2.1);rw[n]at i;clear d n aA;exact vj
 rw[d]at i;by_cases C:m.lead < -1000
 .have f:=ad (show ¬ dR m from λh=>by have:=h.2.2.1.1;omega);clear d aA;exact vj
 by_cases D:1000<m.lead
 .have f:=ad (show ¬ dR m from λh=>by have:=h.2.2.1.2;omega);clear d aA;exact vj
 by_cases g:m.kind=3/\m.bm.length=0
 .have f:=ad (show ¬ dR m from λh=>by have:=(h.2.2.2.2.2.2.1).2 g.1;omega);have u:(m.kind != 3)=false:=by simp[g.1]
  have B:decide (0<m.bm.length)=false:=by simp[p0.1 g.2]
  clear d aA g;exact vj
 have y:=ad (show dR m from s.o.2 ⟨⟨I,I⟩,aA,d,⟨I,I⟩,I⟩);clear d aA;by_cases l:m.kind=3
 focus
  have u:(m.kind != 3)=false:=by simp[l]
  have B:0<m.bm.length:=I
 rotate_left
 focus
  have u:(m.kind != 3)=true:=by simp[l]
 rotate_left
 all_goals
  clear g l
  go_in
  go_wp2_with fail;refine rW bc bc ?_
  repeat (go_big_quiet_step (first|(go_at_call 265;exact Calls.kn (PZ m a c _))|(go_at_call 264;exact Calls.kn (j.o _))|(go_at_call 266;exact Calls.ko (i.o _))))
  refine wpQuiet_nil ?_;intro _ q;have⟨x,t⟩:=q;subst t;go_wp2_with fail
  all_goals
   go_ret;exact⟨afn y.o,((b9 _ w).alloc bu _).trans (x.below.mono aM)⟩
section
def tM(m:ba):ai aR:=
 if m.kind=1\/m.kind=2 then fs m.cw else if m.kind=3 then jM m.en++jM m.ee++nr m.bm else if m.kind=4 then jM m.en++fs m.sum
 else if m.kind=5 then jM m.ee else if m.kind=6 then jM m.en++num (gP m.lead)else []
def pI(m:ba):ai aR:=[80,UInt8.ofNat m.kind.toNat]++tM m
def ec(m:ba):ai aR:=jW (pI m)
def Av(n:U):(jM n).length=2:=rfl
def Ox(L:ai aR)(a:fits L=true):(nr L).length<=138:=by
 have b:L.length<=64:=by
  unfold fits at a;refine xM;exact a.2
 have:=NN L b (runs L) [] aM
 exact this
def W9(n:U)(h:-1000<=n/\n<=1000):(num (gP n)).length<=2:=FD 1 _ (by unfold gP;split<;>omega)
def N1(m:ba)(h:dR m):(pI m).length<=144:=by
 have h1:=Ox m.bm h.2.1;have h2:=W9 m.lead h.2.2.1;unfold pI tM;simp only[cG,eA,gN];split
 .simp[uC]
 split
 .simp only[cG,Av];omega
 split
 .simp[Av,uC]
 split
 .simp[Av]
 split
 .simp only[cG,Av];omega
 simp
variable{w:aj}{a:cr Addr}{c:J}
def aiY(m:ba)(h:dy w a c m.bm)(d:¬ dR m):aB 135 #[(aG (fV m a c))] w λe w'=>e=aV #[.string ⟨#[]⟩,aa 1]/\Below w w w':=by
 have hk:ag aH w (w.alloc (ab (fV m a c) 254)):=(ag.refl _ w).alloc _;have b:=GW m (h.keeps hk (λ_ _ _=>id));rw[cN d]at b
 go_in
 go_wp2_with fail;refine aS b λw' al=>?_;go_wp2_with fail;go_ret2;exact⟨rfl,((b9 _ w).alloc bu _).trans (al.mono aM)⟩
theorem adN{w:aj}{base:J}(a:base<=w.heap.size)(x y:U):(w.alloc (ab #[bf x,bf y] 5)).ownsRow base 5 1 (au (bT w) 2 2) 2 [bf x,bf y]:=
 ⟨rfl,.inr ⟨w,2,#[bf x,bf y],rfl,a,aP w _,dm _,by simp[maxLen],aM,aM⟩⟩
end
section
open Go.Lib (strCells)
variable{w:aj}{a:cr Addr}{c:J}
def ahK(l:ai aR):strCells ⟨l.toArray⟩=l.map eW:=by simp[strCells,eW]
def NB{w:aj}{base n:J}{v:ay}{r:ai aR}(h:w.ownsRow base 5 1 v n (l.map eW++r.map eW)):w.ownsRow base 5 1 v n ((l++r).map eW):=by
 rwa [k3]
def G'(l:ai aR):(⟨l.toArray⟩:cl).size=l.length:=by simp[ByteArray.size]
def KB(h:H=0\/H=1\/H=4\/H=14\/H=18\/H=34):(bits .and .i64 H 1 != 0)=!decide (H%2<1)/\(bits .and .i64 H 2 != 0)=!decide (H%4<2)/\(bits .and .i64 H 4 != 0)=!decide (H%8<4)/\(bits .and .i64 H 8 != 0)=!decide (H%16<8)/\(bits .and .i64 H 16 != 0)=!decide (H%32<16)/\(bits .and .i64 H 32 != 0)=!decide (H%64<32):=by
 rcases h with rfl|rfl|rfl|rfl|rfl|rfl<;>decide
def Np(k:U):hp k=0\/hp k=1\/hp k=4\/hp k=14\/hp k=18\/hp k=34:=by unfold hp;(repeat' split)<;>simp
def rB(H:U)(m:ba)(j:J):ai aR:=
 match j with
 | 5=>if H%2<1 then []else fs m.cw
 | 4=>if H%4<2 then []else jM m.en
 | 3=>if H%8<4 then []else jM m.ee
 | 2=>if H%16<8 then []else nr m.bm
 | 1=>if H%32<16 then []else fs m.sum
 | _=>if H%64<32 then []else num (gP m.lead)
def oO(H:U)(m:ba):J->ai aR
 | 0=>[]
 | j+1=>rB H m j++oO H m j
def ahT(m:ba):oO (hp m.kind) m 6=tM m:=by
 unfold tM hp;by_cases a:m.kind=1\/m.kind=2
 .simp[oO,rB,a]
 by_cases b:m.kind=3
 .simp[oO,rB,b]
 by_cases c:m.kind=4
 .simp[oO,rB,c]
 by_cases d:m.kind=5
 .simp[oO,rB,d]
 by_cases e:m.kind=6
 .simp[oO,rB,e]
 simp[oO,rB,a,b,c,d,e]
structure mU(w aq:aj)(R:ai aR)(H:U)(m:ba)(j:J)(s:ay)(W:aj):ae where
 ex:∃ L:ai aR,W.ownsRow (w.heap.size+1) 5 1 s L.length (L.map eW)/\L++oO H m j=R
 below:Below (w.heap.size+1) aq W
def mU.skip{w:aj}{m:ba}{s:ay}(h:mU w aq R H m (j+1) s W)(aA:rB H m j=[]):mU w aq R H m j s W:=by
 have⟨⟨L,h1,h2⟩,a⟩:=h;exact⟨⟨L,h1,by unfold oO at h2;rw[aA]at h2;exact h2⟩,a⟩
theorem mU.put{w:aj}{X:ai aR}{m:ba}{v:ay}(h:Below (w.heap.size+1) aq W)(a:L++oO H m (j+1)=R)(aA:rB H m j=X)(ar:W'.ownsRow (w.heap.size+1) 5 1 v (L++X).length ((L++X).map eW))(al:Below (w.heap.size+1) W W'):mU w aq R H m j v W':=
 ⟨⟨L++X,ar,by rw[<-a,<-aA,eh];rfl⟩,h.trans al⟩
def adR(m:ba)(h:dy w a c m.bm)(f:dR m)(Y:m.wf):aB 135 #[(aG (fV m a c))] w λe w'=>e=aV #[.string ⟨(ec m).toArray⟩,aa 0]/\Below w w w':=by
 have N:=GW (m:=m) (h.keeps ((bd w).alloc (ab (fV m a c) 254)) (λ_ _ _=>id));rw[dh f]at N;have h2:=ad N;have P:=N1 _ f;have F:pI m=[80,UInt8.ofNat m.kind.toNat]++oO (hp m.kind) m 6:=by rw[ahT];rfl
 unfold ec;obtain⟨R,W⟩:∃ R,pI m=R:=⟨_,rfl⟩;obtain⟨H,x⟩:∃ H,hp m.kind=H:=⟨_,rfl⟩;have d:=ad (KB (x▸Np m.kind));rw[W]at P F⊢;rw[x]at F;have lb:=ad F;have Z:=ad P;have hd:=ad x;have j:=ad f;have v:=ad Y;have l':=ad h;have hk:=f.1;have ps:IntKind.u8.wrap m.kind=((UInt8.ofNat m.kind.toNat).toNat:U):=by
  obtain⟨k,n,s,r',i,u,l⟩:=m;simp only at *;obtain rfl|rfl|rfl|rfl|rfl|rfl|rfl:k=1\/k=2\/k=3\/k=4\/k=5\/k=6\/k=7:=I
  all_goals rfl
 obtain⟨z,q⟩:∃ z:U,((UInt8.ofNat m.kind.toNat).toNat:U)=z:=⟨_,rfl⟩;rw[q]at ps;have mv:=ad q;clear q;clear N f P F W x Y h hk
 go_in
 go_wp2_with fail;refine aS h2.o λaq B=>?_;have G:w.heap.size+1<=aq.heap.size:=by have:=B.size;simpa using this
 have A:=((b9 _ w).alloc bu _).trans (B.mono aM);have b5:=ad ((ag.bU (S:=aH) B a1).heap (aP w _) id);have cx:=aX b5.o;clear B;go_wp2_with fail;refine bJ (B8 _ _) ?_;rw[hd.o];have C:mU w aq R H m 6 (au (bT aq) 2 2) (aq.alloc (ab #[bf 80,bf z] 5)):=⟨⟨[80,UInt8.ofNat m.kind.toNat],by rw[<-mv.o];exact adN G 80 _,lb.o.symm⟩,(b9 _ aq).alloc G _⟩;go_upto_if 20 with fail
 go_cut [5] (mU w aq R H m 5)
 case first=>
  rw[d.o.1];by_cases aW:H%2<1
  .exact xy
  refine xv;have y:=(al.cell (p:=ah w 1) aM).trans (bb b5.o (k:=1) rfl);have r:=ad (P1 ar q aw m.cw v.o.cw);exact Dh
 have C:=hcut;clear hcut;go_upto_if 27 with fail
 go_cut [5] (mU w aq R H m 4)
 case first=>
  rw[d.o.2.1];by_cases aW:H%4<2
  .exact xy
  refine xv;have y:=(al.cell (p:=ah w 2) aM).trans (bb b5.o (k:=2) rfl);have r:=ad (P0 ar q aw m.en v.o.en);exact Dh
 have C:=hcut;clear hcut;go_upto_if 34 with fail
 go_cut [5] (mU w aq R H m 3)
 case first=>
  rw[d.o.2.2.1];by_cases aW:H%8<4
  .exact xy
  refine xv;have y:=(al.cell (p:=ah w 3) aM).trans (bb b5.o (k:=3) rfl);have r:=ad (P0 ar q aw m.ee v.o.ee);exact Dh
 have C:=hcut;clear hcut;go_upto_if 41 with fail
 go_cut [5] (mU w aq R H m 2)
 case first=>
  rw[d.o.2.2.2.1];by_cases aW:H%16<8
  .exact xy
  refine xv;have y:=(al.cell (p:=ah w 4) aM).trans (bb b5.o (k:=4) rfl);have r:=ad (adQ _ a c m.bm (l'.o.keeps (ag.bU (S:=aH) (A.trans (al.mono I)) a1) (λ_ _ _=>id)) j.o.2.1);refine U_;have M:(⟨(nr m.bm).toArray⟩:cl).size<=138:=by rw[G'];exact Ox m.bm j.o.2.1
  clear av Q al;go_wp2_with (at_builtin;refine Qt _ rfl (.tmp 51) (.tmp 52) 51 9 rfl (w.heap.size+1) 5 i0 underlying51 underlying9 fo.o fr gf g' _ L.length _ rfl ar ⟨(nr m.bm).toArray⟩ rfl k6 I q ?_);exact W2
 have C:=hcut;clear hcut;go_upto_if 56 with fail
 go_cut [5] (mU w aq R H m 1)
 case first=>
  rw[d.o.2.2.2.2.1];by_cases aW:H%32<16
  .exact xy
  refine xv;have y:=(al.cell (p:=ah w 5) aM).trans (bb b5.o (k:=5) rfl);have r:=ad (P1 ar q aw m.sum v.o.sum);exact Dh
 have C:=hcut;clear hcut;go_upto_if 63 with fail
 go_cut [5] (mU w aq R H m 0)
 case first=>
  rw[d.o.2.2.2.2.2];by_cases aW:H%64<32
  .exact xy
  refine xv;have y:=(al.cell (p:=ah w 6) aM).trans (bb b5.o (k:=6) rfl);have r:=ad (ND m.lead (by have:=j.o.2.2.1;omega) wc);refine U_;have M:(⟨(num (gP m.lead)).toArray⟩:cl).size<=138:=by rw[G'];exact by have:=W9 m.lead j.o.2.2.1;omega
  clear av Q al;go_wp2_with (at_builtin;refine Qt _ rfl (.tmp 64) (.tmp 67) 51 9 rfl (w.heap.size+1) 5 i0 underlying51 underlying9 fo.o fr gf g' _ L.length _ rfl ar ⟨(num (gP m.lead)).toArray⟩ rfl k6 I q ?_);exact W2
 have C:=hcut;clear hcut;have⟨⟨L,ar,b⟩,al⟩:=C;have V:L=R:=by rw[<-b];exact(gq L).symm
 rw[V]at ar;have m':=K5 R ar;clear b V;refine aK;refine aS (ahP ⟨R.toArray⟩ (by rw[G'];have:=Z.o;omega) _) λsd X=>?_;have hfin:=(A.trans (al.mono I)).trans (X.mono (cu A.size al.size));clear X ar al m' A;refine aK;go_ret2;exact⟨aM,hfin⟩
end
def Bs(m:ba):ai aR:=if dR m then ec m else []
def Br(m:ba):U:=if dR m then 0 else 1
def aiX(m:ba)(h:dy w a c m.bm)(d:m.wf):aB 135 #[(aG (fV m a c))] w λe w'=>e=aV #[.string ⟨(Bs m).toArray⟩,aa (Br m)]/\Below w w w':=by
 unfold Bs Br;by_cases b:dR m
 .rw[aD b,aD b];exact adR m h b d
 rw[az b,az b];exact aiY m h b
section
structure Rd where
 s:cl
 bad:aY
def ht(w:aj)(r:J)(x:Rd):ae:=w.heap[r]?=some (ab #[.string x.s,.bool x.bad] 369 (0,0))
def eG(n:J)(x:Rd):cl×Rd:=if x.bad=true\/x.s.size<n then(⟨#[]⟩,⟨x.s,true⟩)else(x.s.extract 0 n,⟨x.s.extract n x.s.size,false⟩)
variable{w w':aj}{r:J}{x:Rd}
def ht.keeps{S:J->ae}(h:ht w r x)(hk:ag S w w')(aA:¬ S r):ht w' r x:=hk.heap h aA
def take_size(n:J)(x:Rd):(eG n x).2.s.size<=x.s.size:=by
 unfold eG;split
 .exact dm _
 simp
def BC(h:ht w r x)(n:J)(aA:x.s.size<=maxLen):aB 301 #[r,aa n] w λe w'=>e=.returned (.string (eG n x).1)/\ht w' r (eG n x).2/\ag (λb=>b=r) w w':=by
 have⟨s,bad⟩:=x;unfold maxLen at aA;have bw:=aX h;have f0:=bV h;simp only at aA;have H:=ad h;unfold eG;simp only;cases bad with
 | true=>
  rw[aD (.inl rfl)];exact R2
 | false=>
  by_cases aw:s.size<n
  .rw[aD (.inr aw)];exact R2
  rw[az b_];have a:n<=s.size:=I;clear h aw;refine kF;exact⟨rfl,by have:=bX H.o 0 (.string (s.extract n s.size));simpa[ht]using this,(ag.refl (λb=>b=r) w).setCell (p:=ah r 0) rfl _⟩
end
variable{w':aj}{r:J}{x:Rd}
def j8(l:ai aR):J:=l.foldl (λa c=>a*256+c.toNat) 0
def Kz(l:ai aR)(c:aR):j8 (l++[c])=j8 l*256+c.toNat:=by simp[j8,te]
def Ky:∀ (n:J) (l:ai aR),l.length=n->j8 l<256 ^ n:=by
 intro n
 induction n with
 | zero=>intro l h;rw[xc h];decide
 | succ n a=>
  intro l h;have hne:l≠[]:=by intro e;rw[e]at h;simp at h
  rw[<-dropLast_concat_getLast hne,Kz];have h1:=a l.dropLast b_;have h2:=(l.getLast hne).toNat_lt;rw[n'];omega
def take_len(n:J)(x:Rd):(eG n x).1.size<=n:=by
 unfold eG;split
 .exact c3 _
 rename_i h;simp;omega
def adD(a c:J)(bg:a<256)(an:c<256):bits .or .u16 ((a:U)*256) (c:U)=((a*256+c:J):U):=by
 have e:(a:U)*256=((a*256:J):U):=aM;rw[e,u16_or_nat _ _ I I,nat_join 8 (a*256) c I I]
def adE(a c:J)(bg:a<16777216)(an:c<256):bits .or .u32 ((a:U)*256) (c:U)=((a*256+c:J):U):=by
 have e:(a:U)*256=((a*256:J):U):=aM;rw[e,u32_or_nat _ _ I I,nat_join 8 (a*256) c I I]
def E4(h:ht w r x)(n:J)(aw:n<=2)(aA:x.s.size<=maxLen):aB 240 #[r,aa n] w λe w'=>e=c7 ((j8 (eG n x).1.data.toList:J):U)/\ht w' r (eG n x).2/\ag (λb=>b=r) w w':=by
 have A:=take_len n x;have m:=ad (BC h n aA);generalize p:eG n x=P at *;have⟨T,y⟩:=P;simp only at A⊢;have G:=ad p;clear p
 go_in
 go_wp2_with fail;refine aS m.o λaq ⟨h1,u⟩=>?_;have⟨cap,aF,M,L,q,C,t,_⟩:=AF aq T;have l:=ad t;have f:ag aH aq aF:=ag.bU q a1;have z:=ad (show ht aF r y/\ag (λb=>b=r) w aF from⟨h1.keeps f id,u.trans (mr f)⟩);clear t C q u f h1 m h;go_wp2_with fail;go_loopg [5,13] 9 (λg E D wr=>∃ k:J,g=9-k/\k<=T.size/\D=aa k/\E=c7 ((j8 (T.data.toList.take k):J):U)/\aF=wr)
 case atStart=>exact⟨0,rfl,c3 _,rfl,rfl,rfl⟩
 obtain⟨k,a7,hk,rfl,rfl,rfl⟩:=hrel;by_cases d:k<T.size
 .refine UJ;have B:j8 (T.data.toList.take k)<256:=o2 i (cu (tl I (show k<=1 by omega)) bs);refine S1;have N:=adD a c.toNat B an;have v:=ad j;have K:(c.toNat:U)<=255:=I;have H:(a:U)<256:=I;exact Sn
 exact TT
def aaG(h:ht w r x)(n:J)(aw:n<=4)(aA:x.s.size<=maxLen):aB 241 #[r,aa n] w λe w'=>e=bz ((j8 (eG n x).1.data.toList:J):U)/\ht w' r (eG n x).2/\ag (λb=>b=r) w w':=by
 have A:=take_len n x;have m:=ad (BC h n aA);generalize p:eG n x=P at *;have⟨T,y⟩:=P;simp only at A⊢;have G:=ad p;clear p
 go_in
 go_wp2_with fail;refine aS m.o λaq ⟨h1,u⟩=>?_;have⟨cap,aF,M,L,q,C,t,_⟩:=AF aq T;have l:=ad t;have f:ag aH aq aF:=ag.bU q a1;have z:=ad (show ht aF r y/\ag (λb=>b=r) w aF from⟨h1.keeps f id,u.trans (mr f)⟩);clear t C q u f h1 m h;go_wp2_with fail;go_loopg [5,13] 9 (λg E D wr=>∃ k:J,g=9-k/\k<=T.size/\D=aa k/\E=bz ((j8 (T.data.toList.take k):J):U)/\aF=wr)
 case atStart=>exact⟨0,rfl,c3 _,rfl,rfl,rfl⟩
 obtain⟨k,a7,hk,rfl,rfl,rfl⟩:=hrel;by_cases d:k<T.size
 .refine UJ;have B:j8 (T.data.toList.take k)<16777216:=o2 i (cu (tl I (show k<=3 by omega)) bs);refine S1;have N:=adE a c.toNat B an;have v:=ad j;have K:(c.toNat:U)<=255:=I;have H:(a:U)<16777216:=I;exact Sn
 exact TT
def oL(x:Rd):ai aR×Rd:=((jV x.s.data.toList).1,(eG (jV x.s.data.toList).2.1 ⟨x.s,x.bad || ((jV x.s.data.toList).2.2 != 0)⟩).2)
def qB(x:Rd):U×Rd:=(w4 (cF x.s.data.toList).1,(eG (cF x.s.data.toList).2.1 ⟨x.s,x.bad || ((cF x.s.data.toList).2.2 != 0)⟩).2)
def ht.Gj(h:ht w r x)(b:aY):ht (w.setCell (ah r 1) (.bool b)) r ⟨x.s,b⟩:=by
 have:=bX h 1 (.bool b)
 simpa[ht]using this
def aeQ(h:ht w r x)(aA:x.s.size<=maxLen):aB 244 #[r,.func (.func 245) #[] #[]] w λe w'=>e=aa (qB x).1/\ht w' r (qB x).2/\ag (λb=>b=r) w w':=by
 have bw:w.cell? (ah r 0)=some (.string x.s):=bb h rfl;have bP:w.cell? (ah r 1)=some (.bool x.bad):=bb h rfl;have f1:=bV h;have d:=adP x.s aA w;have g:=h.Gj (x.bad || ((cF x.s.data.toList).2.2 != 0));have f:=BC g (cF x.s.data.toList).2.1 aA;unfold qB;generalize cF x.s.data.toList=P at *;obtain⟨v,k,c⟩:=P;simp only at d g f⊢;have l:=ad d;have a:=ad f;clear d f h g;cases al:x.bad with
 | true=>
  rw[al]at a bP;simp only[zc]at a⊢;clear al;exact WD
 | false=>
  rw[al]at a bP;simp only[uT]at a⊢;clear al;by_cases i:c=0
  .have j:(c != 0)=false:=by simp[i]
   exact V6
  have j:(c != 0)=true:=by simp[i]
  exact V6
def aeR(h:ht w r x)(aA:x.s.size<=maxLen):aB 242 #[r,.func (.func 243) #[] #[]] w λe w'=>∃ v,e=.returned v/\w'.ownsRow w 5 1 v (oL x).1.length ((oL x).1.map eW)/\ht w' r (oL x).2/\ag (λb=>b=r) w w':=by
 have bw:=aX h;have lp:=bZ h;have c:=adO x.s aA w;have g:∀ aq,ht aq r x->_:=λaq (h1:ht aq r x)=>BC (h1.Gj (x.bad || ((jV x.s.data.toList).2.2 != 0))) (jV x.s.data.toList).2.1 aA;unfold oL;unfold Ao at c;generalize jV x.s.data.toList=P at *;obtain⟨L,k,f⟩:=P;simp only at c g⊢;have C:=ad c;have a:=ad g;have H:=ad h;clear c g h;cases al:x.bad with
 | true=>
  rw[al]at a;simp only[zc]at a⊢;have n:=ad al;clear al;exact Io
 | false=>
  rw[al]at a;simp only[uT]at a⊢;have n:=ad al;clear al;by_cases d:f=0
  .have j:(f != 0)=false:=by simp[d]
   rw[j]at a⊢;clear d;exact Io
  have j:(f != 0)=true:=by simp[d]
  rw[j]at a⊢;clear d;exact Io
section
def h5(b:cl):U:=((j8 b.data.toList:J):U)
def yK(k:U)(x:Rd):ba×Rd:=
 if k=1\/k=2 then(⟨k,h5 (eG 4 x).1,0,0,[],0,0⟩,(eG 4 x).2)
 else if k=3 then(⟨k,0,h5 (eG 2 x).1,h5 (eG 2 (eG 2 x).2).1,(oL (eG 2 (eG 2 x).2).2).1,0,0⟩,(oL (eG 2 (eG 2 x).2).2).2)
 else if k=4 then(⟨k,0,h5 (eG 2 x).1,0,[],h5 (eG 4 (eG 2 x).2).1,0⟩,(eG 4 (eG 2 x).2).2)
 else if k=5 then(⟨k,0,0,h5 (eG 2 x).1,[],0,0⟩,(eG 2 x).2)
 else if k=6 then(⟨k,0,h5 (eG 2 x).1,0,[],0,(qB (eG 2 x).2).1⟩,(qB (eG 2 x).2).2)
 else(⟨k,0,0,0,[],0,0⟩,x)
def AS(t:ai aR):cl×Rd:=eG 1 ⟨⟨t.toArray⟩,false⟩
def wv(t:ai aR):cl×Rd:=eG 1 ⟨(AS t).2.s,h5 (AS t).1 != 80⟩
def ni(t:ai aR):ba×Rd:=yK (h5 (wv t).1) (wv t).2
def Cd(p:ba×Rd):ae:=p.2.bad=true\/p.2.s.toList≠[]\/¬ dR p.1
instance (p:ba×Rd):Decidable (Cd p):=by unfold Cd;infer_instance
def s8(t:ai aR):ba×U:=if Cd (ni t)then(ba.zero,4)else((ni t).1,0)
def gG(l:ai aR):ba×U:=if (opened l).2=0 then s8 (opened l).1 else(ba.zero,(opened l).2)
def sz(w:aj)(m:ba)(b:U)(e:Ending)(w':aj):ae:=∃ a c,e=aV #[(aG #[aa m.kind,bz m.cw,c7 m.en,c7 m.ee,au a m.bm.length c,bz m.sum,aa m.lead]),aa b]/\dy w' a c m.bm/\Below w w w'/\∀ x,a=some x->w.heap.size<=x.block
def zv:a6 ay:=#[aa 0,bz 0,c7 0,c7 0,au none 0 0,bz 0,aa 0]
structure qi(bo:aj)(r m:J)(x:Rd)(cs:a6 ay)(w:aj):ae where
 rd:ht w r x
 msg:w.heap[m]?=some (ab cs 254 (0,0))
 res:w.heap[bo.heap.size]?=some (ab zv 254 (0,0))
 below:Below bo bo w
 lp:bo.heap.size<r
 lm:r<m
 cK:x.s.size<=100000
namespace qi
variable{bo w w':aj}{r m:J}{x eM:Rd}{cs:a6 ay}
theorem get(h:qi bo r m x cs w)(hk:ag (λb=>b=r) w w')(h2:ht w' r eM)(aA:eM.s.size<=x.s.size):qi bo r m eM cs w':=
 ⟨h2,hk.heap h.msg (by have:=h.lm;omega),hk.heap h.res (by have:=h.lp;omega),h.below.trans (hk.below h.below.size (λk hk=>by have:=h.lp;omega)),h.lp,h.lm,cu aA h.cK⟩
def set(h:qi bo r m x cs w)(j:J)(v:ay):qi bo r m x (cs.setIfInBounds j v) (w.setCell (ah m j) v):=by
 have hk:=(ag.refl (λb=>b=m) w).setCell (p:=ah m j) rfl v;exact⟨hk.heap h.rd (by have:=h.lm;omega),by simpa using bX h.msg j v,hk.heap h.res (by have:=h.lm;have:=h.lp;omega),h.below.trans (hk.below h.below.size (λk hk=>by have:=h.lm;have:=h.lp;omega)),h.lp,h.lm,h.cK⟩
def max(h:qi bo r m x cs w):x.s.size<=maxLen:=by have:=h.cK;unfold maxLen;omega
end qi
def aeO(x:Rd):(oL x).2.s.size<=x.s.size:=take_size _ _
def N7(x:Rd):(qB x).2.s.size<=x.s.size:=take_size _ _
variable{w:aj}
def Aw{w:aj}{b:J}{t:TypeId}{bw bP bB e3 e4 hA eI:ay}(h:w.heap[b]?=some (ab #[bw,bP,bB,e3,e4,hA,eI] t (0,0)))(v0 v1 v2 a c d e:ay):(((((((w.setCell (ah b 0) v0).setCell (ah b 1) v1).setCell (ah b 2) v2).setCell (ah b 3) a).setCell (ah b 4) c).setCell (ah b 5) d).setCell (ah b 6) e).heap[b]?=some (ab #[v0,v1,v2,a,c,d,e] t (0,0)):=by
 have:=bX (bX (bX (bX (bX (bX (bX h 0 v0) 1 v1) 2 v2) 3 a) 4 c) 5 d) 6 e
 simpa using this
def pP(H:U)(j:J)(q:ba×Rd):ba×Rd:=
 match j with
 | 5=>if H%2<1 then q else({q.1 with cw:=h5 (eG 4 q.2).1},(eG 4 q.2).2)
 | 4=>if H%4<2 then q else({q.1 with en:=h5 (eG 2 q.2).1},(eG 2 q.2).2)
 | 3=>if H%8<4 then q else({q.1 with ee:=h5 (eG 2 q.2).1},(eG 2 q.2).2)
 | 2=>if H%16<8 then q else({q.1 with bm:=(oL q.2).1},(oL q.2).2)
 | 1=>if H%32<16 then q else({q.1 with sum:=h5 (eG 4 q.2).1},(eG 4 q.2).2)
 | _=>if H%64<32 then q else({q.1 with lead:=(qB q.2).1},(qB q.2).2)
def oB(H:U):J->ba×Rd->ba×Rd
 | 0,q=>q
 | j+1,q=>oB H j (pP H j q)
def ab9(k:U)(x:Rd):oB (hp k) 6 (⟨k,0,0,0,[],0,0⟩,x)=yK k x:=by
 unfold yK hp;by_cases a:k=1\/k=2
 .simp[oB,pP,a]
 by_cases b:k=3
 .simp[oB,pP,b]
 by_cases c:k=4
 .simp[oB,pP,c]
 by_cases d:k=5
 .simp[oB,pP,d]
 by_cases e:k=6
 .simp[oB,pP,e]
 simp[oB,pP,a,b,c,d,e]
def wF(m:ba)(a:cr Addr)(c:J):a6 ay:=#[aa m.kind,bz m.cw,c7 m.en,c7 m.ee,au a m.bm.length c,bz m.sum,aa m.lead]
def mf(bo:aj)(r m:J)(H:U)(R:ba×Rd)(j:J)(W:aj):ae:=
 ∃ q a c,oB H j q=R/\qi bo r m q.2 (wF q.1 a c) W/\dy W a c q.1.bm/\∀ x,a=some x->m<x.block
def mf.skip{bo:aj}{r m:J}{R:ba×Rd}(h:mf bo r m H R (j+1) W)(aA:∀ q,pP H j q=q):mf bo r m H R j W:=by
 have⟨q,a,c,e,h1⟩:=h;exact⟨q,a,c,by rw[<-e];exact(c6 (oB H j) (aA q)).symm,h1⟩
def mf.aaO{bo:aj}{r m:J}{R:ba×Rd}{q d:ba×Rd}{a:cr Addr}{c:J}(e:oB H (j+1) q=R)(aA:qi bo r m q.2 (wF q.1 a c) W)(av:dy W a c q.1.bm)(aw:∀ x,a=some x->m<x.block)(f:pP H j q=d)(hk:ag (λb=>b=r) W W')(h:ht W' r d.2)(k:d.2.s.size<=q.2.s.size)(i:J)(v:ay)(hm:wF d.1 a c=(wF q.1 a c).setIfInBounds i v)(g:d.1.bm=q.1.bm):mf bo r m H R j (W'.setCell (ah m i) v):=by
 have l:=aA.lm;refine⟨pP H j q,a,c,e,by rw[f,hm];exact((aA.get hk h k).set i v),?_,aw⟩;rw[f,g];exact(av.keeps hk (λ_ x ak=>by have:=aw x ak;omega)).keeps ((ag.refl (λb=>b=m) W').setCell (p:=ah m i) rfl v) (λ_ x ak=>by have:=aw x ak;omega)
theorem BS(h:Below w w W)(v0 v1 v2 a b c d:ay):Below w w (((((((W.setCell (ah w 0) v0).setCell (ah w 1) v1).setCell (ah w 2) v2).setCell (ah w 3) a).setCell (ah w 4) b).setCell (ah w 5) c).setCell (ah w 6) d):=
 ((((((h.setCell (p:=ah w 0) bu v0).setCell (p:=ah w 1) bu v1).setCell (p:=ah w 2) bu v2).setCell (p:=ah w 3) bu a).setCell (p:=ah w 4) bu b).setCell (p:=ah w 5) bu c).setCell (p:=ah w 6) bu d
theorem sz.zero(h:Below w w W)(e:U):sz w ba.zero e (aV #[.agg zv,aa e]) W:=⟨none,0,rfl,dy.none _,h,λ_ h=>o6⟩
def aip(s:cl)(t:ai aR)(aA:s.size<=maxLen)(ajT:opened s.data.toList=(t,0))(a':t.length<=100000):aB 166 #[.string s] w (sz w (s8 t).1 (s8 t).2):=by
 obtain⟨⟨bS,cm⟩,ys⟩:∃ q,AS t=q:=⟨_,rfl⟩;obtain⟨⟨F,cB⟩,zp⟩:∃ q,wv t=q:=⟨_,rfl⟩;obtain⟨k,Y⟩:∃ k,h5 F=k:=⟨_,rfl⟩;have hd:=Ps s aA (w.alloc (ab #[aa 0,bz 0,c7 0,c7 0,au none 0 0,bz 0,aa 0] 254));rw[ajT]at hd;have aj4:=ad hd;have zd:eG 1 ⟨⟨t.toArray⟩,false⟩=(bS,cm):=ys;have D:eG 1 ⟨cm.s,h5 bS != 80⟩=(F,cB):=by have:=zp;unfold wv at this;rwa [ys]at this
 have aj6:=ad zd;have aj7:=ad D;have T':=ad Y;have w':cm.s.size<=t.length:=by have:=take_size 1 ⟨⟨t.toArray⟩,false⟩;rw[zd]at this;exact cu this (by show t.toArray.size<=t.length;simp)
 have ajZ:cB.s.size<=cm.s.size:=by have:=take_size 1 ⟨cm.s,h5 bS != 80⟩;rw[D]at this;exact this
 have vs:0<=k/\k<65536:=by
  have N:=take_len 1 ⟨cm.s,h5 bS != 80⟩;refine ed;have h2:=Ky _ F.data.toList rfl;have T:F.data.toList.length<=1:=by simpa using N
  have g':=o2 h2 (tl I T);rw[<-Y];unfold h5;omega
 have W':=ad vs;have aj':=ad a';have aj9:=ad (cu w' a');have aj_:=ad (cu ajZ (cu w' a'));have j:=ad (show oB (hp k) 6 (⟨k,0,0,0,[],0,0⟩,cB)=ni t by rw[ab9];unfold ni;rw[zp];exact(c6 (λq=>yK q cB) Y).symm);clear hd ajT aA ys zp zd D Y w' ajZ a'
 go_in
 go_wp2_with fail;refine aS aj4.o λaq X=>?_;have ajS:ag aH (w.alloc (ab #[aa 0,bz 0,c7 0,c7 0,au none 0 0,bz 0,aa 0] 254)) aq:=ag.bU X a1;have lb:Below w w aq:=((b9 _ w).alloc bu _).trans (X.mono aM);have akh:w.heap.size+1<=aq.heap.size:=by have:=X.size;simpa using this
 have ajV:=ajS.heap (aP w (ab #[aa 0,bz 0,c7 0,c7 0,au none 0 0,bz 0,aa 0] 254)) id;clear X ajS;go_wp2_with fail;have ajU:ht (aq.alloc (ab #[.string ⟨t.toArray⟩,false] 369)) aq ⟨⟨t.toArray⟩,false⟩:=aP _ _;have a7:=E4 ajU 1 I (by show(⟨t.toArray⟩:cl).size<=maxLen;have:=aj'.o;simp[ByteArray.size,maxLen];omega);rw[aj6.o]at a7;refine aS a7 ?_;rintro aF ⟨h2,se⟩;have P:ht aF aq cm:=h2;have ajW:=se.heap (b2 ajV _) I;have l':=(lb.alloc lb.size _).trans (se.below (B:=w.heap.size) b_ a1);have f1:=bV P;have aka:=aX P;clear a7 h2 se ajU ajV lb;have T:=P.Gj (h5 bS != 80);have s':ag (λb=>b=aq) aF (aF.setCell (ah aq 1) (.bool (h5 bS != 80))):=(ag.refl (λb=>b=aq) aF).setCell (p:=ah aq 1) rfl _;have ajX:=s'.heap ajW I;have m':=l'.trans (s'.below l'.size a1);have a7:=E4 T 1 I (by have:=aj9.o;show cm.s.size<=maxLen;unfold maxLen;omega);rw[aj7.o]at a7;have V':=ad a7;clear a7 P ajW l' s' T;rw[show((j8 (bS,cm).1.data.toList:J):U)=h5 bS from rfl];go_wp2_with fail;refine aS V'.o ?_;rintro f ⟨g',vl⟩;have fr:ht f aq cB:=g';have ajY:=vl.heap ajX I;have ps:=m'.trans (vl.below m'.size a1);have ake:=bZ fr;clear V' g' vl ajX m' f1 aka;rw[show((j8 (F,cB).1.data.toList:J):U)=k from T'.o];have vs:=W'.o;have l:mf w aq f (hp k) (ni t) 6 (f.alloc (ab #[aa k,bz 0,c7 0,c7 0,au none 0 0,bz 0,aa 0] 254)):=⟨_,none,0,j.o,
 show qi w aq f cB #[aa k,bz 0,c7 0,c7 0,au none 0 0,bz 0,aa 0] (f.alloc (ab #[aa k,bz 0,c7 0,c7 0,au none 0 0,bz 0,aa 0] 254))from
  ⟨fr.keeps ((bd f).alloc _) id,aP _ _,b2 ajY _,ps.alloc ps.size _,I,ake,aj_.o⟩,dy.none _,λ_ h=>o6⟩
 clear fr ajY ps;go_wp2_with fail;refine bJ (B8 k _) ?_;have⟨H,hH⟩:=c8 (hp k);have sd:=Np k;rw[<-hH]at l sd;rw[<-hH];generalize World.alloc f _=aki at *;have n:=ad (KB sd);clear sd hH j T' W' vs;go_upto_if 36 with fail
 go_cut [] (mf w aq f H (ni t) 5)
 case first=>
  refine xN;rw[n.o.1];by_cases aW:H%2<1
  .exact xw
  refine Wv;have g:=ad (g.o _ hk d (take_size 4 q.2) 1 (bz _) rfl trivial);exact zR
 have l:=hcut;clear hcut;go_upto_if 42 with fail
 go_cut [] (mf w aq f H (ni t) 4)
 case first=>
  refine xN;rw[n.o.2.1];by_cases aW:H%4<2
  .exact xw
  refine Ww;have g:=ad (g.o _ hk d (take_size 2 q.2) 2 (c7 _) rfl trivial);exact zR
 have l:=hcut;clear hcut;go_upto_if 48 with fail
 go_cut [] (mf w aq f H (ni t) 3)
 case first=>
  refine xN;rw[n.o.2.2.1];by_cases aW:H%8<4
  .exact xw
  refine Ww;have g:=ad (g.o _ hk d (take_size 2 q.2) 3 (c7 _) rfl trivial);exact zR
 have l:=hcut;clear hcut;go_upto_if 54 with fail
 go_cut [] (mf w aq f H (ni t) 2)
 case first=>
  refine xN;rw[n.o.2.2.2.1];by_cases aW:H%16<8
  .exact xw
  rw[cN aW];have a7:=ad (aeR aA.rd aA.max);have g:=bN e (bx (show pP H 2 q=_ from az aW) aA);clear e aA av aw;refine aK;refine a7.o.mono ?_;rintro _ Q' ⟨v,rfl,ar,d,hk⟩;obtain⟨e,v',aA⟩:=g.o;obtain⟨A,cap,rfl,G⟩:=Ny ar;obtain⟨cV,akg,aj3,_,ajR⟩:=dA ar;cases aj3;have akd:=bZ aA.msg;have akc:=aA.lp;have akb:=aA.lm;have aw:∀ x,A=some x->f.heap.size<x.block:=λx ak=>o2 akd (ajR x ak).1;have V:=aA.get hk d (aeO q.2);refine DW;have g:=ad (show mf w aq f H (ni t) 2 (Q'.setCell (ah f 4) (.slice A (oL q.2).1.length cap))from⟨_,A,cap,e,by rw[v'];exact V.set 4 _,by rw[v'];exact G.keeps ((ag.refl (λb=>b=f) Q').setCell (p:=ah f 4) rfl _) (λ_ x ak=>by have:=aw x ak;omega),aw⟩);clear V a7 d hk e v' aA G ar ajR aw;exact Jd
 have l:=hcut;clear hcut;go_upto_if 60 with fail
 go_cut [] (mf w aq f H (ni t) 1)
 case first=>
  refine xN;rw[n.o.2.2.2.2.1];by_cases aW:H%32<16
  .exact xw
  refine Wv;have g:=ad (g.o _ hk d (take_size 4 q.2) 5 (bz _) rfl trivial);exact zR
 have l:=hcut;clear hcut;go_upto_if 66 with fail
 go_cut [] (mf w aq f H (ni t) 0)
 case first=>
  refine xN;rw[n.o.2.2.2.2.2];by_cases aW:H%64<32
  .exact xw
  rw[cN aW];have a7:=ad (aeQ aA.rd aA.max);refine H';have V:=i.o.get hk d (N7 q.2);refine DW;have g:=ad (g.o _ hk d (N7 q.2) 6 (aa _) rfl trivial);exact zR
 have l:=hcut;clear hcut;obtain⟨⟨⟨z,C,jA,u,r,E,lm⟩,y⟩,a,c,e,aA,G,aw⟩:=l;have j:=ad (show s8 t=if Cd (⟨z,C,jA,u,r,E,lm⟩,y)then(ba.zero,4)else(⟨z,C,jA,u,r,E,lm⟩,0)by unfold s8;rw[<-e];rfl);have aj5:=ad (λW (fo:dy W a c r)=>GW (w:=W) (m:=⟨z,C,jA,u,r,E,lm⟩) fo);have bI:=aX aA.rd;have dq:=aX aA.msg;have aj0:=bV aA.res;have aj1:=aX aA.res;have i:=ad aA;have R:=bN G aw;clear e aA G aw n;by_cases fo:y.bad=true
 .have M:=ad (j.o.trans (aD (.inl fo)));rw[fo]at bI;clear j fo;exact WE
 have gf:y.bad=false:=by simpa using fo
 rw[gf]at bI;by_cases mv:y.s.toList=[];rotate_left
 .have M:=ad (j.o.trans (aD (.inr (.inl mv))));have akf:y.s.toList.isEmpty=false:=by simpa using mv
  clear j fo gf mv;exact WE
 have akf:y.s.toList.isEmpty=true:=by simpa using mv
 refine p9;clear fo gf mv;refine aK;refine aS (aj5.o _ R.o.1) λaj2 r'=>?_;have Z:ag aH _ aj2:=ag.bU r' a1;have d:=Z.heap i.o.res id;have L:=Z.heap i.o.msg id;have TS:=ad (i.o.below.trans (r'.mono i.o.below.size));have aj8:=ad (R.o.1.keeps Z (λ_ _ _=>id));clear bI dq aj0 aj1 r' Z;refine j1;have aj0:=bV d;have aj1:=aX d;have Tq:=ad d;clear d L;by_cases d:dR ⟨z,C,jA,u,r,E,lm⟩;rotate_left
 .have M:=ad (j.o.trans (aD (.inr (.inr d))));rw[cN d];clear d;refine aK;have K:=aX (Aw Tq.o (aa 0) (bz 0) (c7 0) (c7 0) (au none 0 0) (bz 0) (aa 0));refine Uy;exact sz.zero (BS TS.o _ _ _ _ _ _ _) 4
 have M:=ad (j.o.trans (az (λh=>h.elim Q.o.1 λh=>h.elim (λh=>h Q.o.2) λh=>h d)));rw[dh d];clear d;refine aK;have K:=aX (Aw Tq.o (aa z) (bz C) (c7 jA) (c7 u) (au a r.length c) (bz E) (aa lm));refine dH (v:=aV #[.agg (wF ⟨z,C,jA,u,r,E,lm⟩ a c),aa 0]) (by simp[results,results166,go_sem,K,wF]) rfl ?_;rw[M.o];have akc:=i.o.lp;have akb:=i.o.lm;exact⟨a,c,rfl,aj8.o.keeps (S:=λb=>b=w.heap.size) (((((((ag.refl (λb=>b=w) aj2).setCell (p:=ah w 0) rfl _).setCell (p:=ah w 1) rfl _).setCell (p:=ah w 2) rfl _).setCell (p:=ah w 3) rfl _).setCell (p:=ah w 4) rfl _).setCell (p:=ah w 5) rfl _ |>.setCell (p:=ah w 6) rfl _) (λ_ x ak=>by have:=R.o.2 x ak;omega),BS TS.o _ _ _ _ _ _ _,λx ak=>by have:=R.o.2 x ak;omega⟩
end
def air(s:cl)(aA:s.size<=maxLen)(l:ai aR)(a:U)(g:opened s.data.toList=(l,a))(e:a≠0):aB 166 #[.string s] w (sz w ba.zero a):=by
 have b:=Ps s aA (w.alloc (ab #[aa 0,bz 0,c7 0,c7 0,au none 0 0,bz 0,aa 0] 254));rw[g]at b;have h:=ad b;have j:(a != 0)=true:=by simp[e]
 clear b g e aA
 go_in
 go_wp2_with fail;refine aS h.o λaq c=>?_;have f:ag aH (w.alloc (ab #[aa 0,bz 0,c7 0,c7 0,au none 0 0,bz 0,aa 0] 254)) aq:=ag.bU c a1;have i:Below w w aq:=((b9 _ w).alloc bu _).trans (c.mono aM);have d:=f.heap (aP w (ab #[aa 0,bz 0,c7 0,c7 0,au none 0 0,bz 0,aa 0] 254)) id;clear c f;have k:=bV d;have m:=aX d;go_wp2_with fail;have K:=aX (Aw d (aa 0) (bz 0) (c7 0) (c7 0) (au none 0 0) (bz 0) (aa 0));refine dH (v:=aV #[.agg zv,aa a]) QW rfl ?_;exact sz.zero (BS i _ _ _ _ _ _ _) a
def adA(l:ai aR):(opened l).1.length<=l.length:=by
 unfold opened;split
 .exact c3 _
 split
 .simp
 exact c3 _
def ai0(s:cl)(aA:s.size<=100000):aB 166 #[.string s] w (sz w (gG s.data.toList).1 (gG s.data.toList).2):=by
 have hm:s.size<=maxLen:=by unfold maxLen;omega
 unfold gG;by_cases a:(opened s.data.toList).2=0
 .rw[aD a];have b:opened s.data.toList=((opened s.data.toList).1,0):=qT rfl a;have c:(opened s.data.toList).1.length<=100000:=cu (adA _) (by simpa using aA);generalize (opened s.data.toList).1=t at *;clear a;exact aip s t hm b c
 rw[az a];exact air s hm _ _ rfl a
def Nr{k:U}(h:0<L.length↔k=3)(hk:k≠3):L=[]:=by
 rcases tk L.length with a|a
 .exact xc a
 exact absurd (h.1 a) hk
def pQ(n:J)(l r:ai aR)(aw:l.length=n):eG n ⟨⟨(l++r).toArray⟩,false⟩=(⟨l.toArray⟩,⟨⟨r.toArray⟩,false⟩):=by
 subst aw;have aA:(⟨(l++r).toArray⟩:cl).size=l.length+r.length:=by show(l++r).toArray.size=_;simp
 unfold eG;rw[az (by simp only[aA];simp)];refine qT ?_ ?_
 .refine FE _ _ ?_;rw[extract_data];simp
 show Rd.mk _ _=Rd.mk _ _
 congr 1
 refine FE _ _ ?_;simp only[aA];rw[extract_data];simp
def As(l:ai aR):h5 ⟨l.toArray⟩=(j8 l:U):=by simp[h5]
def Kt(n:U)(h:0<=n/\n<4294967296):h5 ⟨(fs n).toArray⟩=n:=by
 rw[As];simp only[fs,j8,r1,xd];rw[q6 _ I,q6 _ I,q6 _ I,q6 _ I];omega
def x6(n:U)(h:0<=n/\n<65536):h5 ⟨(jM n).toArray⟩=n:=by
 rw[As];simp only[jM,j8,r1,xd];rw[q6 _ I,q6 _ I];omega
def aeN(L:ai aR)(a:fits L=true):oL ⟨⟨(nr L).toArray⟩,false⟩=(L,⟨⟨([]:ai aR).toArray⟩,false⟩):=by
 have h:=aeM L [] a;rw[gq]at h;unfold oL;simp only[h];rw[show((0:U) != 0)=false by decide,zb];have aW:=pQ (nr L).length (nr L) [] rfl;rw[gq]at aW;rw[aW]
def aeP(n:U)(h:-1000<=n/\n<=1000):qB ⟨⟨(num (gP n)).toArray⟩,false⟩=(n,⟨⟨([]:ai aR).toArray⟩,false⟩):=by
 have h1:=FW (gP n) (W8 n I) [];rw[gq]at h1;unfold qB;simp only[h1,ais];rw[show((0:U) != 0)=false by decide,zb];have aW:=pQ (num (gP n)).length (num (gP n)) [] rfl;rw[gq]at aW;rw[aW]
def adZ(m:ba)(t:dR m)(wf:m.wf):ni (pI m)=(m,⟨⟨([]:ai aR).toArray⟩,false⟩):=by
 obtain⟨k,n,s,a,i,u,l⟩:=m;obtain⟨x,p,q,y,z,A,j,B,C⟩:=t;obtain⟨_,wn,h,o,v,_⟩:=wf;simp only at *;have h1:AS (pI ⟨k,n,s,a,i,u,l⟩)=(⟨[(80:aR)].toArray⟩,⟨⟨(UInt8.ofNat k.toNat :: tM ⟨k,n,s,a,i,u,l⟩).toArray⟩,false⟩):=pQ 1 [80] _ rfl;have al:(h5 ⟨[(80:aR)].toArray⟩ != 80)=false:=by rw[As];rfl
 have h2:wv (pI ⟨k,n,s,a,i,u,l⟩)=(⟨[UInt8.ofNat k.toNat].toArray⟩,⟨⟨(tM ⟨k,n,s,a,i,u,l⟩).toArray⟩,false⟩):=by
  unfold wv;rw[h1];simp only;rw[al];exact pQ 1 [UInt8.ofNat k.toNat] _ rfl
 have r:h5 ⟨[UInt8.ofNat k.toNat].toArray⟩=k:=by
  rw[As];simp only[j8,r1,xd];rw[q6 _ I];omega
 unfold ni;rw[h2];simp only;rw[r];unfold yK tM;simp only;by_cases c:k=1\/k=2
 .rw[aD c,aD c];have aW:=pQ 4 (fs n) [] rfl;rw[gq]at aW;rw[aW,Kt n wn];have e:=Nr j I;exact Vh
 rw[az c,az c];by_cases b:k=3
 .rw[aD b,aD b];rw[eh,pQ 2 (jM s) _ rfl];simp only;rw[pQ 2 (jM a) _ rfl];simp only;rw[aeN i p,x6 s h,x6 a o];refine DL;exact⟨I,I,I⟩
 have e:=Nr j b;rw[az b,az b];by_cases d:k=4
 .rw[aD d,aD d,pQ 2 (jM s) _ rfl];simp only;have aW:=pQ 4 (fs u) [] rfl;rw[gq]at aW;rw[aW,x6 s h,Kt u v];exact Vm
 rw[az d,az d];by_cases f:k=5
 .rw[aD f,aD f];have aW:=pQ 2 (jM a) [] rfl;rw[gq]at aW;rw[aW,x6 a o];exact Vh
 rw[az f,az f];by_cases g:k=6
 .rw[aD g,aD g,pQ 2 (jM s) _ rfl];simp only;rw[aeP l q,x6 s h];exact Vm
 rw[az g,az g];refine DL;exact⟨I,I,I,e.symm,I,I⟩
def aio(m:ba)(a:dR m)(wf:m.wf):s8 (pI m)=(m,0):=by
 unfold s8;rw[adZ m a wf,az];rintro(h|h|h)
 .cases h
 .exact h (by simp[ze])
 exact h a
def adB(l:ai aR):opened (jW l)=(l,0):=by
 unfold opened jW;rw[if_neg (by simp[uC])];have e:(l++fs (more 1 l)).length-4=l.length:=by simp[uC]
 rw[e,CI];simp
def GL(m:ba)(a:dR m)(wf:m.wf):gG (ec m)=(m,0):=by
 unfold gG ec;rw[adB,if_pos rfl];exact aio m a wf
def Jr(h:ww:=by
 go_wp2_with first|refine dg m rfl rfl rfl ?_|refine eL e2 rfl rfl ?_|refine c' d rfl rfl rfl rfl ?_|refine dg E rfl rfl rfl ?_|(go_at_fn g;refine X.o.mono ?_;rintro e m' ⟨rfl,n⟩;rw[F];have b:=ag.bU (S:=aH) n a1;have q:=ad (bx (b7 A.o.2 b (λ_ _=>id)) (A.o.1.trans (b.mono λ_ _ x=>x.elim)));clear b n)
 go_roundg (xs.length-(j+1))
 case measure=>omega
 case rel=>exact⟨i,j+1,ys,rfl,cT,dm _,vl.o.skip K (by rw[<-R.o,F];rfl),q.o⟩):=h
end Go.Proofs.YtalagblioepadaaGreatDoor
