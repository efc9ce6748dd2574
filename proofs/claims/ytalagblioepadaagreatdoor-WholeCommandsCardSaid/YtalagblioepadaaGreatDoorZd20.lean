/- The proof, part 20. -/
import Derived.Test.YtalagblioepadaaGreatDoorZd16
import Derived.Shelf.SlicesE.DeleteFunc
import Derived.Lib.OwnBridge
import Derived.Sort.OwnSortedInts
namespace Go.Proofs.YtalagblioepadaaGreatDoor
set_option linter.all false
open Proofs.Tryz List Go.RowKit
set_option maxRecDepth 100000
set_option maxHeartbeats 800000
def vs{p:al}(h:p:=by simp only;omega):p:=h
def vq{p:al}(h:p:=by unfold kg;omega):p:=h
def r1{p:al}(h:p:=by unfold fk at a;omega):p:=h
def Nq{p:al}(h:p:=by have:=(fx.1 au).2;simpa using this):p:=h
def ND{p:al}(h:p:=by
 have⟨S,h,a⟩:=h;have b:=c5 length (HE a.dz first size (λp au=>⟨(a.gR p au).1,(a.gR p au).2.1⟩));rw[hG]at b;refine⟨?_,h.pos,h.most,h.fst,bT h.head,bT h.body,h.ne⟩;rw[<-b];exact ca (ml _ _) aM
 ):p:=h
def NQ{p:al}(h:p:=by
 go_wp2_with fail;refine aW C.out ?_;rintro aD ⟨q,rfl⟩;go_wp2_with fail;refine aW (d.out q) ?_;rintro bq ⟨l,rfl⟩;go_wp2_with fail;go_roundg (64-(j+1))
 case measure=>omega
 exact⟨j+1,rfl,U,by go_num,E,k.drewN (q+l)⟩
 ):p:=h
def Oi{p:al}(h:p:=by
 go_upto_region 1 with fail
 generalize w.alloc (af #[I f] 3)=ao at *;go_quiet (fail);go_wp2;go_ret;exact⟨rfl,⟨S,h1.drew _,a⟩,hk.drewN _⟩
 ):p:=h
def Mu{p:al}(h:p:=by
 refine xb λk _=>?_;simp only[Function.comp_apply];rw[w2];simp;omega
 ):p:=h
def ML{p:al}(h:p:=by
 rintro e w' ⟨⟨c,rfl⟩,h1,h2⟩;go_wp2_with fail;go_ret2;exact⟨rfl,h1,h2⟩
 ):p:=h
section
variable{w w':aj}{r B size first:J}{S:ah (aa×a1)}
def ID(a:ah J)(k:J)(h:k<a.length):(lh (ix a))[k]?=some (I (a[k]:J)):=by simp[lh,ix,h]
def ZF(h:WinAt w r B size first S)(a:ah J)(A:b_ Addr)(cap:J)(aU:eb w 1 A a.length cap (lh (ix a)))(l:0<a.length->∀ x,A=some x->x.block≠B)(m:∀ f∈a,fk first size (f:aa)):aA 288 #[r,aq A a.length cap] w λe w'=>e=.returned (I (a.length:aa))/\WinAt w' r B size first (lf S size a)/\Keeps (λb=>b=B) w w':=by
 have u:a.length<=9223372036854775807:=ca aU.2.1 aU.2.2.1
 go_in
 go_wp2;go_loopw [9] (λi wr=>∃ k:J,k<=a.length/\i=I k/\WinAt wr r B size first (lf S size (a.take k))/\Keeps (λb=>b=B) w wr) (λi _=>a.length-(intOf i).toNat)
 case atStart=>exact⟨0,de _,rfl,h,Keeps.refl _ w⟩
 obtain⟨k,hk,rfl,c,g⟩:=hrel;by_cases j:k<a.length
 .obtain⟨b,o,rfl,an⟩:=(aU.keeps g (λav x t=>l av x t)).at' U;have v:=an _ _ (ID a k j);have ax:=ag (zD c a[k] (a[k]%size) _ rfl (m _ (mY j)) rfl);have s:lf S size (a.take (k+1))=(lf S size (a.take k)).set (a[k]%size) (0,false):=by rw[kY j,QD]
  have n:a[k]%size<(lf S size (a.take k)).length:=by rw[c.fR];exact e8 _ c.pos
  generalize a[k]=f at *;generalize f%size=d at *;generalize lf S size (a.take k)=D at *;obtain⟨fF,s1⟩:=c.slot (k:=d) (x:=D[d].1) (b:=D[d].2) (gA n);have g0:=fO c.body (d*2);have g1:=fO c.body (d*2+1);go_wp2_with fail;refine aW ax.o ?_;rintro aD ⟨q,rfl⟩;go_wp2_with fail;go_roundw
  case rel=>exact⟨k+1,U,by go_num,by rw[s];exact(c.drew q).wR d 0 false,((g.drewN q).setCell (p:=ae B (d*2) ad) rfl _).setCell (p:=ae B (d*2+1) ad) rfl _⟩
  simp[intOf];omega
 obtain rfl:k=a.length:=U;rw[nU]at c;go_wp2_with fail;go_ret;exact⟨rfl,c,g⟩
def ie(w:aj)(r B size first:J)(L:ah (J×aa)):al:=∃ S,WinAt w r B size first S/\Slots S size first L
theorem ie.keeps{L:ah (J×aa)}{T:J->al}(h:ie w r B size first L)(hk:Keeps T w w')(h1:¬ T r)(h2:¬ T B):ie w' r B size first L:=by
 have⟨S,a,b⟩:=h;exact⟨S,a.keeps hk h1 h2,b⟩
variable{L:ah (J×aa)}
def ie.le(h:ie w r B size first L):L.length<=size/\0<size/\size<=4096/\first<=1073741824/\r<w.heap.size/\B<w.heap.size/\r≠B:=by
 exact ND
def IE(h:ie w r B size first L):aA 225 #[r] w λe w'=>∃ v,e=.returned v/\w'.ownsRow (w.heap.size+5) 3 1 v (L.map (·.1)).length (lh (ix (L.map (·.1))))/\Below w w w':=by
 have⟨S,h,b⟩:=h;have a:=ZA h;rw[b.tU 0,mW.2 (λn _=>aM)]at a;exact a
def Tb(h:ie w r B size first L):aA 342 #[r] w λe w'=>e=.returned (I first)/\w=w':=by
 have⟨S,h,a⟩:=h;exact Zz h
def Th(h:ie w r B size first L)(f:aa)(a:¬ fk first size f)(b:-9223372036854775808<=f/\f<=9223372036854775807)(x:aa):aA 248 #[r,I f,(aH x)] w λe w'=>e=.returned (I (if f<first then 10 else 8))/\∃ q,w'=w.drewN q:=by
 have⟨S,h,c⟩:=h;exact ZD h f a b x
def IH(h:ie w r B size first L)(n:J)(f:aa)(d:f=n)(a:fk first size f)(x:aa):aA 248 #[r,I f,(aH x)] w λe w'=>e=.returned (I 0)/\ie w' r B size first (fa L n x)/\Keeps (λb=>b=B) w w':=by
 obtain⟨S,h,c⟩:=h;refine aW (ZC h n _ f d a rfl x) ?_;rintro w' ⟨h1,h2⟩;exact⟨rfl,⟨_,h1,c.put n x r1⟩,h2⟩
end
def Bh:Go.Shelf.Ren:=⟨fun|10=>222|6=>289|n=>n,fun|0=>0|3=>3|4=>4|22=>141|23=>3|25=>228|n=>n,fun|n=>n⟩
def G8:SlLaysH.n10 prog Bh:={
 mixed:=aI
 f6:=⟨f289.name,bt,func289.trans (c5 some aI)⟩
 f10:=⟨f222.name,bt,func222.trans (c5 some aI)⟩
 t0:=underlying0
 a0:=isAgg0
 z0:=sizeOf0
 v0:=zeroValue0
 t3:=underlying3
 a3:=isAgg3
 z3:=sizeOf3
 v3:=zeroValue3
 t4:=underlying4
 a4:=isAgg4
 z4:=sizeOf4
 v4:=zeroValue4
 t22:=underlying141
 a22:=isAgg141
 z22:=sizeOf141
 v22:=zeroValue141
 a23:=isAgg3
 z23:=sizeOf3
 t25:=underlying228
 a25:=isAgg228
 z25:=sizeOf228
 v25:=zeroValue228}
def Qy(a:ay)(w:aj):aA 222 #[aq none 0 0,a] w λe w'=>e=.returned (aq none 0 0)/\w'=w:=by
 go_in
 go_wp2_with fail;refine Ez (AnyE.slices_IndexFunc_empty (P:=prog) (ρ:=Bh) {G8 with} none 0 a w) ?_;go_wp2_with fail;go_ret;exact⟨rfl,rfl⟩
def G7{w:aj}{base n:J}{v:ay}(cn:List aa)(a:w.ownsRow base 3 1 v n (cn.map (Value.int .i64)))(av:n<=4096)(p:aa->a1)(gf:J)(lb:Array ay)(m:∀ args w,(callFunc gf args).run prog w=.ok (.enter gf args) w)(f:∀ (W:aj) (x:aa),Keeps (λb=>v.ownBlock=some b) w W->Calls prog gf (#[I x]++lb) W λe w'=>e=.returned (.bool (p x))/\∃ q,w'=W.drewN q):aA 222 #[v,.func (.func gf) #[] lb] w λe w'=>∃ v',e=.returned v'/\w'.ownsRow base 3 1 v' (cn.filter λx=>!p x).length ((cn.filter λx=>!p x).map (Value.int .i64))/\Keeps (λb=>v.ownBlock=some b) w w':=by
 by_cases aU:v=aq none 0 0
 .subst aU;have s:cn=[]:=by
   rcases a.2 with⟨_,h⟩|⟨g,cap,u,h,_⟩
   .exact uZ (by have:=a.1;simp at this;omega)
   cases h
  subst s;refine Ez (Qy _ w) ?_;exact⟨_,rfl,gx _ _ _ _,Keeps.refl _ _⟩
 obtain⟨g,cap,rfl,y,A,r,z,t,l⟩:=Lib.holds_of_ownsRow a aU;subst t;have c:∀ (W:aj),Keeps (λb=>b=g) w W->Keeps (λb=>(aq (some (ae g 0 ad)) cn.length cap).ownBlock=some b) w W:=λW h=>h.mono λk _ e=>by subst e;rfl
 have d:=AnyE.slices_DeleteFunc (P:=prog) (ρ:=Bh) G8 (Value.int .i64) (λ_=>rfl) p gf lb m 0 zeroValue3 g 0 cap cn.toArray w
  (λW x ak=>f W x (c W (Keeps.bJ ak a8)))
  (λn os j x _=>f _ x (c _ ((Keeps.refl _ w).grown (grownBy_sortedI j) (λk hk=>.inl (by cases hk;rfl)))))
  l b1 (by simpa using r)
 rw[hh]at d;refine aW d ?_;rintro w' ⟨q,rfl⟩;have o:=ml (λx=>!p x) cn;have i:=Lib.ownsRow_putRow (q:=q) (k:=(cn.filter λx=>!p x).length) (ys:=(cn.filter λx=>!p x)++replicate (cn.length-(cn.filter λx=>!p x).length) 0) a b1 o;refine⟨_,rfl,?_,c _ ?_⟩
 .rw[Af]at i;exact i
 have aZ:=grownBy_sortedI (w:=w) (g:=g) (n:=q) (os:=#[]) ((cn.filter λx=>!p x)++replicate (cn.length-(cn.filter λx=>!p x).length) 0).toArray;rw[Sort.grow_empty]at aZ;exact(Keeps.refl _ w).grown aZ (λk hk=>.inl (by cases hk;rfl))
section
variable{w w':aj}{r B size first:J}{L:ah (J×aa)}
def IF(h:ie w r B size first L)(f:aa)(d:-9223372036854775808<=f/\f<=9223372036854775807):aA 226 #[r,I f] w λe w'=>e=aY #[(aH ((hb L f).getD 0)),.bool (hb L f).isSome]/\∃ q,w'=w.drewN q:=by
 have⟨S,h,b⟩:=h;by_cases a:fk first size f
 .obtain⟨n,rfl⟩:=mj (show 0<=f by unfold fk at a;omega);rw[uh];rcases c:dM L n with _|x
  .obtain⟨y,g⟩:=b.lo n r1 r1 r1 c;exact LF h n _ n rfl a rfl y false g
  exact LF h n _ n rfl a rfl x true (b.mQ n x c)
 rw[I8 (λp au e=>a (by have:=b.gR p au;unfold fk;omega))];exact ZB h f a d
def IG(h:ie w r B size first L)(f:aa)(b:f<first\/1073741824<f):aA 221 #[r,I f] w λe w'=>e=.returned (I 0)/\ie w' r B size first L/\Keeps aG w w':=by
 have⟨S,h,a⟩:=h;have h1:=(h.keeps (T:=aG) ((Keeps.refl _ w).alloc (af #[I f] 3)) id id);have bz:=h1.bz;have od:(w.alloc (af #[I f] 3)).cell? (ae w 0 ad)=some (I f):=oc _ _ _;have hk:Keeps aG w (w.alloc (af #[I f] 3)):=(Keeps.refl _ w).alloc _;by_cases h2:f<first
 .clear b
  go_in
  exact Oi
 have c:1073741824<f:=U
 go_in
 go_upto_region 1 with fail
 generalize w.alloc (af #[I f] 3)=ao at *;go_quiet (fail);go_wp2;go_ret;exact⟨rfl,⟨S,h1.drew _,a⟩,hk.drewN _⟩
def Ui(a:J)(n x:aa)(W:aj)(an:W.cell? (ae a 0 ad)=some (I n)):aA 287 #[I x,a] W λe w'=>e=.returned (.bool (decide (n<=x)))/\∃ q,w'=W.drewN q:=by
 go_in
 go_wp2
 all_goals
  go_ret;exact⟨by simp_all,0,rfl⟩
theorem WinAt.sK{S:ah (aa×a1)}(h:WinAt w r B size first S)(n:J)(av:n<=1073741824):WinAt (w.setCell (ae r 0 ad) (I (n:aa))) r B size n S:=
 ⟨by simpa using b3 h.head 0 (I (n:aa)),e0 h.body (gE h.ne) _,h.fR,h.pos,h.most,av,h.ne⟩
def yF(h:ie w r B size first L)(n:J)(f:aa)(q:f=n)(o:first<=n/\n<=1073741824):aA 221 #[r,I f] w λe w'=>e=.returned (I (((L.filter λp=>decide (p.1<n)).length:J):aa))/\ie w' r B size n (L.filter λp=>!decide (p.1<n))/\Keeps (λb=>b=r\/b=B) w w':=by
 obtain⟨S,h,c⟩:=h;have s:Keeps aG w (w.alloc (af #[I f] 3)):=(Keeps.refl _ w).alloc _;have h1:=h.keeps s id id;have bz:=h1.bz;have od:(w.alloc (af #[I f] 3)).cell? (ae w 0 ad)=some (I f):=oc _ _ _;have Y:(w.alloc (af #[I f] 3)).heap.size=w.heap.size+1:=aM;have kn:=bT h.head;have Z:=bT h.body;have d:(first:aa)<=f:=U;have l:f<=1073741824:=U;have hm:=(c.drop λk=>decide (k<n)).move n o.1 (λp au=>Nq);have u:((L.map (·.1)).filter λk:J=>decide (k<n)).length=(L.filter λp=>decide (p.1<n)).length:=by rw[rQ,hG];rfl
 have G:∀ k∈(L.map (·.1)).filter λk:J=>decide (k<n),fk first size (k:aa):=λk hk=>by
  obtain⟨p,au,rfl⟩:=e9.1 (fx.1 hk).1
  have:=c.gR p au
  unfold fk;omega
 have F:((ix (L.map (·.1))).filter λx=>!decide (f<=x))=ix ((L.map (·.1)).filter λk:J=>decide (k<n)):=by
  unfold ix;rw[rQ]
  congr 1
  exact Mu
 rw[<-u];have z:=ag q;clear u q;generalize ((L.map (·.1)).filter λk:J=>decide (k<n))=j at *;have M:(ix j).length=j.length:=by simp[ix]
 have C:=ag M;have N:(L.map (·.1)).length<=4096:=by simpa using(ca (ie.le ⟨S,h,c⟩).1 h.most)
 go_in
 go_upto_region 1 with fail
 generalize w.alloc (af #[I f] 3)=ao at *;generalize w.heap.size=i at *;go_quiet (fail);go_wp2_with fail;refine(IE ⟨S,h1.drew nq,c⟩).mono ?_;rintro e bq ⟨v,rfl,a,E⟩;have t:Keeps aG ao bq:=((Keeps.refl _ ao).drewN nq).fT E;have O:(ao.drewN nq).heap.size=ao.heap.size:=rfl;rw[O]at a;go_wp2_with fail
 refine(G7 (ix (L.map (·.1))) a N (λx=>decide (f<=x)) 287 #[i] (enters_of func287 aI rfl)
  (λW x hk=>Ui i f x W (hk.cell (t.cell od id) (λe=>by have:=(a.lt i e).1;omega)))).mono ?_
 rintro e P ⟨v4,rfl,y,H⟩;rw[F,C.out]at y;have X:∀ b,b<ao.heap.size->¬ v.ownBlock=some b:=λb ak e=>by have:=(a.lt b e).1;omega
 obtain⟨A,cap,rfl,aU,ak⟩:=cS y;have m:Keeps (λb=>ao.heap.size<=b) ao P:=(t.mono (λ_ _ h=>h.elim)).trans (H.mono λb _ e=>(a.lt b e).1 |> λh=>U);have D:=h1.keeps m U U;go_wp2_with fail;refine aW (ZF D j A cap aU (λ_ x g=>Ax) G) ?_;rintro Q ⟨d,l⟩;have T:=l.cell (m.cell od b1) b1;have R:=d.bz;have V:=bP d.head;have gK:=d.sK n o.2;rw[<-z.out]at gK
 have K:Keeps (λb=>b=r\/b=B) w (Q.setCell (ae r 0 ad) (I f)):=
  (((lj s).trans (m.mono λb ak e=>U)).trans (l.mono λb _ e=>.inr e)).setCell (p:=ae r 0 ad) (.inl rfl) _
 go_wp2_with fail;go_ret;exact⟨rfl,⟨_,gK,hm⟩,K⟩
end
section
structure IsFeed(w:aj)(D first next:J)(last:aa)(K cX:ah (J×aa)):al where
 head:w.heap[D+4]?=some (af #[.pointer (some (ae (D+1) 0 ad)),.pointer (some (ae (D+3) 0 ad)),I next,aH last] 167 (0,0))
 known:ie w (D+1) D 64 first K
 used:ie w (D+3) (D+2) 64 first cX
def kg(D b:J):al:=D<=b/\b<=D+4
variable{w w':aj}{D first next:J}{last:aa}{K cX:ah (J×aa)}
namespace IsFeed
theorem keeps{S:J->al}(h:IsFeed w D first next last K cX)(hk:Keeps S w w')(aw:∀ b,D<=b->b<=D+4->¬ S b):IsFeed w' D first next last K cX:=
 ⟨hk.heap h.head (aw _ U U),h.known.keeps hk (aw _ U U) (aw _ U U),h.used.keeps hk (aw _ U U) (aw _ U U)⟩
def keep(h:IsFeed w D first next last K cX)(hk:Keeps aG w w'):IsFeed w' D first next last K cX:=h.keeps hk (λ_ _ _=>id)
def drew(h:IsFeed w D first next last K cX)(n:J):IsFeed (w.drewN n) D first next last K cX:=h.keep ((Keeps.refl _ w).drewN n)
def bz(h:IsFeed w D first next last K cX):w.cell? (ae (D+4) 0 ad)=some (.pointer (some (ae (D+1) 0 ad))):=bf h.head rfl
def b6(h:IsFeed w D first next last K cX):w.cell? (ae (D+4) 1 ad)=some (.pointer (some (ae (D+3) 0 ad))):=bf h.head rfl
def bw(h:IsFeed w D first next last K cX):w.cell? (ae (D+4) 2 ad)=some (I next):=bf h.head rfl
def eC(h:IsFeed w D first next last K cX):w.cell? (ae (D+4) 3 ad)=some (aH last):=bf h.head rfl
def lt(h:IsFeed w D first next last K cX):D+4<w.heap.size:=bT h.head
end IsFeed
theorem LH{w:aj}{r B:J}(h:WinAt w r B 64 0 (replicate 64 ((0:aa),false))):ie w r B 64 0 []:=
 ⟨_,h,aM,U,.nil,(λp au=>by cases au),(λf x h=>n1),λf h1 h2 a _=>⟨0,by rw[Eh,aE (e8 _ U)]⟩⟩
def Ht(w:aj):aA 191 #[] w λe w'=>e=.returned (w.heap.size+4:J)/\IsFeed w' w.heap.size 0 0 0 [] []/\Below w w w':=by
 go_in
 go_wp2_with fail;refine aW (LG 64 0 U U U w) ?_;rintro ao ⟨h1,g,h⟩;have a:=ag h;go_wp2_with fail;refine aW (LG 64 0 U U U ao) ?_;rintro aD ⟨h2,b,c⟩;rw[a.out]at h2 c b;have d:=ag c;simp only[a.out];clear c;go_wp2_with fail;go_ret;have hk:Keeps aG aD (aD.alloc (af #[.pointer (some (ae (w+1) 0 ad)),.pointer (some (ae (w+3) 0 ad)),I 0,aH 0] 167)):=(Keeps.refl _ aD).alloc _;have av:=aX aD (af #[.pointer (some (ae (w+1) 0 ad)),.pointer (some (ae (w+3) 0 ad)),I 0,aH 0] 167);have f:aD.heap.size=w.heap.size+4:=by rw[d.o]
 rw[f]at av⊢;exact⟨rfl,⟨av,(LH (h1.keeps (Keeps.bJ b (λk h1 h2=>by have:=a.out;omega):Keeps aG ao aD) id id)).keeps hk id id,(LH h2).keeps hk id id⟩,(g.trans (b.mono U)).alloc U _⟩
def _root_.Go.Proofs.YtalagblioepadaaGreatDoor.ie.Uh{r B size:Nat}{L:List (Nat×Int)}(h:ie w r B size first L):∀ p∈L,p.1<=1073741824:=by
 have⟨S,_,h⟩:=h;exact λp au=>(h.gR p au).2.2
def Hs(h:IsFeed w D first next last K cX)(f:aa)(a:-9223372036854775808<=f/\f<=9223372036854775807):aA 227 #[.pointer (some (ae (D+4) 0 ad)),I f] w λe w'=>e=aY #[aH ((hb K f).getD 0),.bool (hb K f).isSome]/\∃ q,w'=w.drewN q:=by
 have bz:=h.bz
 go_in
 go_wp2_with fail;refine aW (IF h.known f a) ?_;rintro w' ⟨q,rfl⟩;go_wp2_with fail;go_ret2;exact⟨rfl,q,rfl⟩
def Rn(h:IsFeed w D first next last K cX):aA 321 #[.pointer (some (ae (D+4) 0 ad))] w λe w'=>e=.returned (I first)/\w=w':=by
 have bz:=h.bz
 go_in
 go_wp2_with fail;refine bE (Tb h.known) ?_;go_wp2_with fail;go_ret;exact⟨rfl,rfl⟩
def q_(h:IsFeed w D first next last K cX):aA 49 #[.pointer (some (ae (D+4) 0 ad))] w λe w'=>e=.returned (I next)/\w=w':=by
 have bw:=h.bw
 go_in
 go_wp2_with fail;go_ret;exact⟨rfl,rfl⟩
def IsFeed.put{ao:aj}{a:ah (J×aa)}(h:IsFeed w D first next last K cX)(hk:Keeps (λb=>b=D) w ao)(d:ie ao (D+1) D 64 first a)(n:J)(x:aa):IsFeed ((ao.setCell (ae (D+4) 2 ad) (I n)).setCell (ae (D+4) 3 ad) (aH x)) D first n x a cX:=by
 have e:=h.used.keeps hk U U;have c:Keeps (λb=>b=D+4) ao ((ao.setCell (ae (D+4) 2 ad) (I n)).setCell (ae (D+4) 3 ad) (aH x)):=((Keeps.refl (λb=>b=D+4) ao).setCell (p:=ae (D+4) 2 ad) rfl _).setCell (p:=ae (D+4) 3 ad) rfl _;exact⟨by simpa using b3 (b3 (hk.heap h.head U) 2 (I (n:aa))) 3 (aH x),d.keeps c U U,e.keeps c U U⟩
def yd(h:IsFeed w D first next last K cX)(x:aa)(s:x<=63)(f:aa)(d:f=next)(av:next<=1073741824)(r:first<=next/\next<first+64):aA 168 #[.pointer (some (ae (D+4) 0 ad)),I f,aH x] w λe w'=>e=.returned (I 0)/\IsFeed w' D first (next+1) x (fa K next x) cX/\Keeps (λb=>kg D b) w w':=by
 have bz:=h.bz;have bw:=h.bw;have aS:∀ ao:aj,Keeps (λb=>b=D) w ao->ao.frozen? (ae (D+4) 2 ad)=false/\ao.frozen? (ae (D+4) 3 ad)=false/\ao.cell? (ae (D+4) 2 ad)=some (I next)/\ao.cell? (ae (D+4) 3 ad)=some (aH last):=λao hk=>by
  have:=hk.heap h.head U
  exact⟨fO this 2,fO this 3,bf this rfl,bf this rfl⟩
 have g:=ag aS;have c:=ag d;have k:f<=1073741824:=U;have l:(next:aa)<=f:=U;have m:f<=(next:aa):=U;clear aS d
 go_in
 go_wp2_with fail;refine aW ((IH h.known next f c.o tk x)) ?_;rintro ao ⟨h1,a⟩;have⟨n,q,d2,j⟩:=g.out _ a;have hfin:=h.put a h1 (next+1) x;rw[show((next+1:J):aa)=f+1 by have:=c.out;omega]at hfin
 have i:Keeps (λb=>kg D b) w ((ao.setCell (ae (D+4) 2 ad) (I (f+1))).setCell (ae (D+4) 3 ad) (aH x)):=
  ((a.mono (λb _ e=>vq)).setCell (p:=ae (D+4) 2 ad) (by unfold kg;simp) _).setCell (p:=ae (D+4) 3 ad) (by unfold kg;simp) _
 go_wp2_with fail;go_ret;exact⟨rfl,hfin,i⟩
def AQ(e:Ending):al:=∃ c:aa,e=.returned (I c)
def sQ(first:J)(cX:ah (J×aa))(n:J)(x:aa):ah (J×aa):=if n<first+64 then fa cX n x else cX
def oL(K:ah (J×aa))(n:J)(last:aa):aa:=(dM K n).getD last
theorem IsFeed.take{ao:aj}{a:ah (J×aa)}(h:IsFeed w D first next last K cX)(hk:Keeps (λb=>b=D+2) w ao)(c:ie ao (D+3) (D+2) 64 first a):IsFeed ao D first next last K a:=
 ⟨hk.heap h.head U,h.known.keeps hk U U,c⟩
def Ro(h:IsFeed w D first next last K cX)(n:J)(f:aa)(c:f=n)(av:first<=n/\n<=1073741824):aA 284 #[.pointer (some (ae (D+4) 0 ad)),I f] w λe w'=>e=aY #[aH (oL K n last),.bool (dM K n).isSome]/\IsFeed w' D first next last K (sQ first cX n (oL K n last))/\Keeps (λb=>kg D b) w w':=by
 have j:=ag (Rn h);have d:=Hs h f U;rw[c,uh,<-c]at d;have a:=ag d;have h2:f<=1073741824:=U;have p:(first:aa)<=f:=U;have k:∀ (q:J) (x:aa),aA 248 #[.pointer (some (ae (D+3) 0 ad)),I f,aH x] (w.drewN q) λe w'=>AQ e/\IsFeed w' D first next last K (sQ first cX n x)/\Keeps (λb=>kg D b) w w':=by
  intro q x;unfold sQ;by_cases ax:n<first+64
  .rw[aE ax];refine aW (IH (h.drew q).used n f c tk x) ?_;rintro w' ⟨h1,h2⟩;exact⟨⟨_,rfl⟩,(h.drew q).take h2 h1,((Keeps.refl _ w).drewN q).trans (h2.mono (λb _ e=>vq))⟩
  rw[aB ax];refine aW (Th (h.drew q).used f tk U x) ?_;rintro w' ⟨m,rfl⟩;exact⟨⟨_,rfl⟩,(h.drew q).drew m,((Keeps.refl _ w).drewN q).drewN m⟩
 have g:=ag k;have an:∀ q,(w.drewN q).cell? (ae (D+4) 1 ad)=some (.pointer (some (ae (D+3) 0 ad)))/\(w.drewN q).cell? (ae (D+4) 3 ad)=some (aH last):=λq=>⟨(h.drew q).b6,(h.drew q).eC⟩;have i:=ag an;unfold oL at *;clear k d an c h;cases l:dM K n with
 | some x=>
  rw[l]at a;simp only[ib,pM]at a⊢
  go_in
  go_wp2_with fail;refine bE j.out ?_;go_wp2_with fail;refine aW a.out ?_;rintro w' ⟨q,rfl⟩;obtain⟨d1,o⟩:=i.out q;go_wp2_with fail;refine(g.out q x).mono ?_;exact ML
 | none=>
  rw[l]at a;simp only[pL,o0]at a⊢
  go_in
  go_wp2_with fail;refine bE j.out ?_;go_wp2_with fail;refine aW a.out ?_;rintro w' ⟨q,rfl⟩;obtain⟨d1,o⟩:=i.out q;go_wp2_with fail;refine(g.out q last).mono ?_;exact ML
end
section
variable{w w':aj}{D first next:J}{last:aa}{K cX:ah (J×aa)}
def mw(n:J)(L:ah (J×aa)):ah (J×aa):=L.filter λp=>!decide (p.1<n)
def Rq(h:IsFeed w D first next last K cX)(k:first<=next)(f:aa)(a:f<first):aA 149 #[.pointer (some (ae (D+4) 0 ad)),I f] w λe w'=>AQ e/\IsFeed w' D first next last K cX/\Keeps (λb=>kg D b) w w':=by
 have b6:=h.b6;have bw:=h.bw;have g:min f (next:aa)=f:=U;have H:=ag h
 go_in
 go_wp2_with fail;refine aW ((IG h.used f (.inl a))) ?_;rintro ao ⟨j,hk⟩;have d:=(H.out.keep hk).bz;go_wp2_with fail;refine aW (IG (H.out.keep hk).known f (.inl a)) ?_;rintro aD ⟨i,c⟩;go_wp2_with fail;go_ret;exact⟨⟨_,rfl⟩,(H.out.keep hk).keep c,lj (hk.trans c)⟩
def Rp(h:IsFeed w D first next last K cX)(n:J)(f:aa)(av:first<=n/\n<=1073741824)(c:(f=n/\n<=next)\/(n=next/\(next:aa)<f)):aA 149 #[.pointer (some (ae (D+4) 0 ad)),I f] w λe w'=>AQ e/\IsFeed w' D n next last (mw n K) (mw n cX)/\Keeps (λb=>kg D b) w w':=by
 have b6:=h.b6;have bw:=h.bw;have d:=ag av;rcases c with⟨c,h1⟩|⟨c,h1⟩
 .have r:f<=(next:aa):=U;have q:min f (next:aa)=f:=U;have h2:¬ (next:aa)<f:=U;have l:=ag c;have H:=ag h;clear h c av h1
  go_in
  go_wp2_with fail;refine aW (yF H.o.used n f l.o d.out) ?_;rintro ao ⟨j,hk⟩;have m:=hk.cell (p:=ae (D+4) 0 ad) H.out.bz aM;have i:=H.out.known.keeps hk U U;go_wp2_with fail;refine aW (yF i n _ l.out d.out) ?_;rintro aD ⟨g,a⟩;have hfin:IsFeed aD D n next last (mw n K) (mw n cX):=⟨a.heap (hk.heap H.out.head U) U,g,j.keeps a U U⟩
  have k:Keeps (λb=>kg D b) w aD:=(hk.mono (λb _ e=>vq)).trans (a.mono (λb _ e=>vq));go_wp2_with fail;go_ret;exact⟨⟨_,rfl⟩,hfin,k⟩
 have q:min f (next:aa)=next:=U
 have H:=ag h
 go_in
 go_wp2_with fail;refine aW ((yF h.used n (next:aa) U av)) ?_;rintro ao ⟨j,hk⟩;have m:=hk.cell (p:=ae (D+4) 0 ad) H.out.bz aM;have i:=H.out.known.keeps hk U U;go_wp2_with fail;refine aW (yF i n _ ((show(next:aa)=(n:aa)by omega)) d.out) ?_;rintro aD ⟨g,a⟩;have hfin:IsFeed aD D n next last (mw n K) (mw n cX):=⟨a.heap (hk.heap H.out.head U) U,g,j.keeps a U U⟩
 have k:Keeps (λb=>kg D b) w aD:=(hk.mono (λb _ e=>vq)).trans (a.mono (λb _ e=>vq));go_wp2_with fail;go_ret;exact⟨⟨_,rfl⟩,hfin,k⟩
def ju(K:ah (J×aa)):ah (J×aa)->b_ J
 | []=>none
 | (g,y) :: r=>match dM K g with
  | some x=>if x=y then ju K r else some g
  | none=>ju K r
def vW(h:IsFeed w D first next last K cX):aA 152 #[.pointer (some (ae (D+4) 0 ad))] w λe w'=>e=aY #[I (((ju K cX).getD 0:J):aa),.bool (ju K cX).isSome]/\Keeps aG w w':=by
 have b6:=h.b6;have H:∀ j (c:j<cX.length),dM cX cX[j].1=some cX[j].2:=λj c=>by
  obtain⟨S,_,aw⟩:=h.used;exact Cg aw.dz (mY c)
 have L:∀ j (c:j<cX.length),cX[j].1<=1073741824:=λj c=>h.used.Uh _ (mY c);obtain⟨dh,z⟩:∃ dh,ju K cX=dh:=⟨_,rfl⟩;rw[z];have F:=ag z;have V:=h.used.le.1
 go_in
 go_wp2_with fail;refine(IE h.used).mono ?_;rintro e ao ⟨v,rfl,P,ak⟩;obtain⟨A,cap,rfl,aU,_⟩:=cS P;have t:Keeps aG w ao:=Keeps.bJ ak a8;have O:(cX.map (·.1)).length=cX.length:=aM;rw[O]at aU⊢;go_wp2_with fail;go_loopg [18] 64 (λg i wr=>∃ j:J,g=64-j/\j<=cX.length/\i=I j/\Hid (ju K (cX.drop j)=dh)/\Keeps aG ao wr)
 case atStart=>exact⟨0,rfl,de _,rfl,F,Keeps.refl _ _⟩
 obtain⟨j,aZ,c,rfl,B,k⟩:=hrel;by_cases m:j<cX.length
 .obtain⟨b,o,rfl,an⟩:=aU.at' U;have R:ao.cell? (ae b (o+j) ad)=some (I (cX[j].1:J)):=an _ _ (by simp[lh,ix,m]);have W:=k.cell R id;have N:=H j m;have av:=L j m;have a:=B.out;rw[pH m]at a;have r:=h.keep (t.trans k);have T:=r.b6;generalize cX[j]=p at *;obtain⟨f,y⟩:=p;have s:=IF r.used (f:aa) U;rw[uh,N]at s;simp only[ib,pM]at s;have C:=ag s;have G:∀ q,aA 227 #[.pointer (some (ae (D+4) 0 ad)),I (f:aa)] (wr.drewN q) λe w'=>e=aY #[aH ((dM K f).getD 0),.bool (dM K f).isSome]/\∃ l,w'=(wr.drewN q).drewN l:=λq=>by
   have:=Hs (r.drew q) (f:aa) U
   rwa [uh]at this
  have d:=ag G;simp only[ju]at a;cases u:dM K f with
  | none=>
   rw[u]at a d;simp only[pL,o0]at a d;have E:=ag a;exact NQ
  | some x=>
   rw[u]at a d;simp only[ib,pM]at a d;by_cases n:x=y
   .rw[aE n]at a;have E:=ag a;have Q:(x != y)=false:=by simp[n]
    exact NQ
   rw[aB n]at a;subst a;have Q:(x != y)=true:=by simp[n]
   have M:=t.trans k;go_wp2_with fail;refine aW C.out ?_;rintro aD ⟨q,rfl⟩;go_wp2_with fail;refine aW (d.out q) ?_;rintro bq ⟨l,rfl⟩;go_wp2_with fail;go_ret2;exact⟨rfl,M.drewN (q+l)⟩
 have a:=B.out;rw[Ef U]at a;simp only[ju]at a;subst a;go_wp2_with fail;go_ret2;exact⟨rfl,(t.trans k)⟩
end
variable{α:Type}
def eE(g:J->α)(f n:J):ah (J×α):=(range (n-f)).map λi=>(f+i,g (f+i))
def sJ(g:J->α){f n:J}(h:n<=f):eE g f n=[]:=by
 unfold eE;rw[show n-f=0 by omega];rfl
def wQ(g:J->α){f n:J}(h:f<=n):eE g f (n+1)=eE g f n++[(n,g n)]:=by
 unfold eE;rw[show n+1-f=(n-f)+1 by omega,qK,jx,xi,show f+(n-f)=n by omega]
def uH{g:J->α}{f n:J}{p:J×α}(h:p∈eE g f n):f<=p.1/\p.1<n/\p.2=g p.1:=by
 obtain⟨i,ax,rfl⟩:=e9.1 h
 have:=pI.1 ax
 exact⟨vs,vs,rfl⟩
theorem JM:∀ (L:ah (J×α)) (n:J) (x:α),(∀ p∈L,p.1<n)->fa L n x=L++[(n,x)]
 | [],n,x,_=>rfl
 | (g,y) :: r,n,x,h=>by
  have h1:=h (g,y) aM;unfold fa;rw[aB U,JM r n x (λp au=>h p (by simp[au]))];rfl
def wP(g:J->α){f n:J}(h:f<=n):fa (eE g f n) n (g n)=eE g f (n+1):=by
 rw[wQ g h,JM _ _ _ (λp au=>(uH au).2.1)]
theorem I_:∀ (L:ah (J×α)) (n j:J) (x:α),(∀ p∈L,p.1<n)->dM (L++[(n,x)]) j=if j=n then some x else dM L j
 | [],n,j,x,_=>by
  simp only[nT,dM];by_cases e:n=j
  .rw[aE e,aE e.symm]
  rw[aB e,aB (λc=>e c.symm)]
 | (g,y) :: r,n,j,x,h=>by
  have h1:=h (g,y) aM;simp only[kV,dM];by_cases e:g=j
  .rw[aE e,aE e,aB U]
  rw[aB e,aB e,(I_ r n j x (λp au=>h p (by simp[au])))]
theorem qu(g:J->α)(f j:J):∀ n,dM (eE g f n) j=if f<=j/\j<n then some (g j)else none
 | 0=>by rw[sJ g iO,if_neg iO];rfl
 | n+1=>by
  by_cases h:f<=n
  .rw[wQ g h,I_ _ _ _ _ (λp au=>(uH au).2.1),qu g f j n];by_cases e:j=n
   .subst e;rw[aE rfl,aE U]
   rw[aB e];by_cases c:f<=j/\j<n
   .rw[aE c,aE U]
   rw[aB c,aB U]
  rw[sJ g U,aB U];rfl
def KB(g:J->α)(f n:J)(j:J):hb (eE g f n) (j:aa)=if f<=j/\j<n then some (g j)else none:=by
 rw[uh,qu]
theorem C1(g:J->α){f m:J}(h:f<=m):∀ d,eE g f (m+d)=eE g f m++eE g m (m+d)
 | 0=>by rw[sJ g (show m+0<=m by omega),eB];rfl
 | d+1=>by
  rw[show m+(d+1)=(m+d)+1 by omega,wQ g (show f<=m+d by omega),wQ g (show m<=m+d by omega),C1 g h d,dL]
def uG(g:J->α){f m n:J}(h:f<=m)(av:m<=n):((eE g f n).filter λp=>!decide (p.1<m))=eE g m n:=by
 obtain⟨d,rfl⟩:∃ d,n=m+d:=⟨n-m,U⟩;rw[C1 g h d,rO,Eg.2 (λp au=>by have:=(uH au).2.1;simp;omega),nT,mW.2 (λp au=>by have:=(uH au).1;simp;omega)]
theorem L3(K:ah (J×aa)):∀ cX:ah (J×aa),(∀ p∈cX,dM K p.1=none\/dM K p.1=some p.2)->ju K cX=none
 | [],_=>rfl
 | (g,y) :: r,h=>by
  have h1:=h (g,y) aM;have a:=L3 K r (λp au=>h p (by simp[au]));unfold ju;rcases h1 with h1|h1
  .simp only at h1;rw[h1];exact a
  simp only at h1;rw[h1];simp[a]
def ga(f n:J):ah (J×aa):=eE (λ_=>0) f n
def DO(f n a m:J):ju (ga f n) (ga a m)=none:=by
 refine L3 _ _ λp au=>?_;unfold ga;rw[qu];split
 .exact .inr (by rw[(uH au).2.2])
 exact .inl rfl
end Go.Proofs.YtalagblioepadaaGreatDoor
