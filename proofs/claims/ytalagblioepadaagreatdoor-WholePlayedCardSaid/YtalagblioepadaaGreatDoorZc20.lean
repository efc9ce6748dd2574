/- The proof, part 20. -/
import Derived.Test.YtalagblioepadaaGreatDoorZc16
import Derived.Shelf.SlicesE.DeleteFunc
import Derived.Lib.OwnBridge
import Derived.Sort.OwnSortedInts
namespace Go.Proofs.YtalagblioepadaaGreatDoor
set_option linter.all false
open Proofs.Tryz List Go.RowKit
set_option maxRecDepth 100000
set_option maxHeartbeats 800000
def vb{p:ak}(h:p:=by simp only;omega):p:=h
def u'{p:ak}(h:p:=by unfold j1;omega):p:=h
def rI{p:ak}(h:p:=by unfold fc at a;omega):p:=h
def MI{p:ak}(h:p:=by have:=(eR.1 au).2;simpa using this):p:=h
def MV{p:ak}(h:p:=by
 have⟨S,h,a⟩:=h;have b:=cV length (G1 a.dL first size (λp au=>⟨(a.gG p au).1,(a.gG p au).2.1⟩));rw[gV]at b;refine⟨?_,h.pos,h.most,h.fst,bP h.head,bP h.body,h.ne⟩;rw[<-b];exact b7 (mH _ _) aK
 ):p:=h
def M8{p:ak}(h:p:=by
 go_wp2_with fail;refine aU C.out ?_;rintro aC ⟨q,rfl⟩;go_wp2_with fail;refine aU (d.out q) ?_;rintro bm ⟨l,rfl⟩;go_wp2_with fail;go_roundg (64-(j+1))
 case measure=>omega
 exact⟨j+1,rfl,U,by go_num,E,k.drewN (q+l)⟩
 ):p:=h
def NB{p:ak}(h:p:=by
 go_upto_region 1 with fail
 generalize w.alloc (ae #[I f] 3)=ao at *;go_quiet (fail);go_wp2;go_ret;exact⟨rfl,⟨S,h1.drew _,a⟩,hk.drewN _⟩
 ):p:=h
def LQ{p:ak}(h:p:=by
 refine wX λk _=>?_;simp only[Function.comp_apply];rw[zr];simp;omega
 ):p:=h
def L8{p:ak}(h:p:=by
 rintro e w' ⟨⟨c,rfl⟩,h1,h2⟩;go_wp2_with fail;go_ret2;exact⟨rfl,h1,h2⟩
 ):p:=h
section
variable{w w':ai}{r B size first:J}{S:ah (aa×aY)}
def HY(a:ah J)(k:J)(h:k<a.length):(k1 (h9 a))[k]?=some (I (a[k]:J)):=by simp[k1,h9,h]
def YW(h:WinAt w r B size first S)(a:ah J)(A:b5 Addr)(cap:J)(aW:dR w 1 A a.length cap (k1 (h9 a)))(l:0<a.length->∀ x,A=some x->x.block≠B)(m:∀ f∈a,fc first size (f:aa)):aA 288 #[r,aq A a.length cap] w λe w'=>e=.returned (I (a.length:aa))/\WinAt w' r B size first (kY S size a)/\Keeps (λb=>b=B) w w':=by
 have u:a.length<=9223372036854775807:=b7 aW.2.1 aW.2.2.1
 go_in
 go_wp2;go_loopw [9] (λi wr=>∃ k:J,k<=a.length/\i=I k/\WinAt wr r B size first (kY S size (a.take k))/\Keeps (λb=>b=B) w wr) (λi _=>a.length-(intOf i).toNat)
 case atStart=>exact⟨0,c' _,rfl,h,Keeps.refl _ w⟩
 obtain⟨k,hk,rfl,c,g⟩:=hrel;by_cases j:k<a.length
 .obtain⟨b,o,rfl,al⟩:=(aW.keeps g (λar x t=>l ar x t)).at' U;have v:=al _ _ (HY a k j);have aw:=af (zg c a[k] (a[k]%size) _ rfl (m _ (nC j)) rfl);have s:kY S size (a.take (k+1))=(kY S size (a.take k)).set (a[k]%size) (0,false):=by rw[l6 j,PW]
  have n:a[k]%size<(kY S size (a.take k)).length:=by rw[c.fG];exact e2 _ c.pos
  generalize a[k]=f at *;generalize f%size=d at *;generalize kY S size (a.take k)=D at *;obtain⟨fF,s1⟩:=c.slot (k:=d) (x:=D[d].1) (b:=D[d].2) (gl n);have g0:=fx c.body (d*2);have g1:=fx c.body (d*2+1);go_wp2_with fail;refine aU aw.o ?_;rintro aC ⟨q,rfl⟩;go_wp2_with fail;go_roundw
  case rel=>exact⟨k+1,U,by go_num,by rw[s];exact(c.drew q).wB d 0 false,((g.drewN q).setCell (p:=ad B (d*2) ab) rfl _).setCell (p:=ad B (d*2+1) ab) rfl _⟩
  simp[intOf];omega
 obtain rfl:k=a.length:=U;rw[nE]at c;go_wp2_with fail;go_ret;exact⟨rfl,c,g⟩
def hY(w:ai)(r B size first:J)(L:ah (J×aa)):ak:=∃ S,WinAt w r B size first S/\Slots S size first L
theorem hY.keeps{L:ah (J×aa)}{T:J->ak}(h:hY w r B size first L)(hk:Keeps T w w')(h1:¬ T r)(h2:¬ T B):hY w' r B size first L:=by
 have⟨S,a,b⟩:=h;exact⟨S,a.keeps hk h1 h2,b⟩
variable{L:ah (J×aa)}
def hY.le(h:hY w r B size first L):L.length<=size/\0<size/\size<=4096/\first<=1073741824/\r<w.heap.size/\B<w.heap.size/\r≠B:=by
 exact MV
def HZ(h:hY w r B size first L):aA 225 #[r] w λe w'=>∃ v,e=.returned v/\w'.ownsRow (w.heap.size+5) 3 1 v (L.map (·.1)).length (k1 (h9 (L.map (·.1))))/\Below w w w':=by
 have⟨S,h,b⟩:=h;have a:=YR h;rw[b.tE 0,nA.2 (λn _=>aK)]at a;exact a
def Su(h:hY w r B size first L):aA 342 #[r] w λe w'=>e=.returned (I first)/\w=w':=by
 have⟨S,h,a⟩:=h;exact YQ h
def SA(h:hY w r B size first L)(f:aa)(a:¬ fc first size f)(b:-9223372036854775808<=f/\f<=9223372036854775807)(x:aa):aA 248 #[r,I f,(aF x)] w λe w'=>e=.returned (I (if f<first then 10 else 8))/\∃ q,w'=w.drewN q:=by
 have⟨S,h,c⟩:=h;exact YU h f a b x
def H3(h:hY w r B size first L)(n:J)(f:aa)(d:f=n)(a:fc first size f)(x:aa):aA 248 #[r,I f,(aF x)] w λe w'=>e=.returned (I 0)/\hY w' r B size first (e7 L n x)/\Keeps (λb=>b=B) w w':=by
 obtain⟨S,h,c⟩:=h;refine aU (YT h n _ f d a rfl x) ?_;rintro w' ⟨h1,h2⟩;exact⟨rfl,⟨_,h1,c.put n x rI⟩,h2⟩
end
def AP:Go.Shelf.Ren:=⟨fun|10=>222|6=>289|n=>n,fun|0=>0|3=>3|4=>4|22=>141|23=>3|25=>228|n=>n,fun|n=>n⟩
def Gr:SlLaysH.n10 prog AP:={
 mixed:=aH
 f6:=⟨f289.name,bq,func289.trans (cV some aH)⟩
 f10:=⟨f222.name,bq,func222.trans (cV some aH)⟩
 t0:=underlying0
 a0:=isAgg0
 z0:=sizeOf0
 v0:=zeroValue0
 t3:=underlying3
 a3:=isAgg3
 z3:=sizeOf3
 v3:=zeroValue3
 t4:=underlying4
 a4:=isAgg4
 z4:=sizeOf4
 v4:=zeroValue4
 t22:=underlying141
 a22:=isAgg141
 z22:=sizeOf141
 v22:=zeroValue141
 a23:=isAgg3
 z23:=sizeOf3
 t25:=underlying228
 a25:=isAgg228
 z25:=sizeOf228
 v25:=zeroValue228}
def PR(a:ax)(w:ai):aA 222 #[aq none 0 0,a] w λe w'=>e=.returned (aq none 0 0)/\w'=w:=by
 go_in
 go_wp2_with fail;refine D3 (AnyE.slices_IndexFunc_empty (P:=prog) (ρ:=AP) {Gr with} none 0 a w) ?_;go_wp2_with fail;go_ret;exact⟨rfl,rfl⟩
def Gq{w:ai}{base n:J}{v:ax}(cg:List aa)(a:w.ownsRow base 3 1 v n (cg.map (Value.int .i64)))(ar:n<=4096)(p:aa->aY)(gf:J)(lb:Array ax)(m:∀ args w,(callFunc gf args).run prog w=.ok (.enter gf args) w)(f:∀ (W:ai) (x:aa),Keeps (λb=>v.ownBlock=some b) w W->Calls prog gf (#[I x]++lb) W λe w'=>e=.returned (.bool (p x))/\∃ q,w'=W.drewN q):aA 222 #[v,.func (.func gf) #[] lb] w λe w'=>∃ v',e=.returned v'/\w'.ownsRow base 3 1 v' (cg.filter λx=>!p x).length ((cg.filter λx=>!p x).map (Value.int .i64))/\Keeps (λb=>v.ownBlock=some b) w w':=by
 by_cases aW:v=aq none 0 0
 .subst aW;have s:cg=[]:=by
   rcases a.2 with⟨_,h⟩|⟨g,cap,u,h,_⟩
   .exact uK (by have:=a.1;simp at this;omega)
   cases h
  subst s;refine D3 (PR _ w) ?_;exact⟨_,rfl,gI _ _ _ _,Keeps.refl _ _⟩
 obtain⟨g,cap,rfl,y,A,r,z,t,l⟩:=Lib.holds_of_ownsRow a aW;subst t;have c:∀ (W:ai),Keeps (λb=>b=g) w W->Keeps (λb=>(aq (some (ad g 0 ab)) cg.length cap).ownBlock=some b) w W:=λW h=>h.mono λk _ e=>by subst e;rfl
 have d:=AnyE.slices_DeleteFunc (P:=prog) (ρ:=AP) Gr (Value.int .i64) (λ_=>rfl) p gf lb m 0 zeroValue3 g 0 cap cg.toArray w
  (λW x aj=>f W x (c W (Keeps.bD aj a7)))
  (λn os j x _=>f _ x (c _ ((Keeps.refl _ w).grown (grownBy_sortedI j) (λk hk=>.inl (by cases hk;rfl)))))
  l bT (by simpa using r)
 rw[gW]at d;refine aU d ?_;rintro w' ⟨q,rfl⟩;have o:=mH (λx=>!p x) cg;have i:=Lib.ownsRow_putRow (q:=q) (k:=(cg.filter λx=>!p x).length) (ys:=(cg.filter λx=>!p x)++replicate (cg.length-(cg.filter λx=>!p x).length) 0) a bT o;refine⟨_,rfl,?_,c _ ?_⟩
 .rw[zN]at i;exact i
 have aZ:=grownBy_sortedI (w:=w) (g:=g) (n:=q) (os:=#[]) ((cg.filter λx=>!p x)++replicate (cg.length-(cg.filter λx=>!p x).length) 0).toArray;rw[Sort.grow_empty]at aZ;exact(Keeps.refl _ w).grown aZ (λk hk=>.inl (by cases hk;rfl))
section
variable{w w':ai}{r B size first:J}{L:ah (J×aa)}
def H0(h:hY w r B size first L)(f:aa)(d:-9223372036854775808<=f/\f<=9223372036854775807):aA 226 #[r,I f] w λe w'=>e=aV #[(aF ((gQ L f).getD 0)),.bool (gQ L f).isSome]/\∃ q,w'=w.drewN q:=by
 have⟨S,h,b⟩:=h;by_cases a:fc first size f
 .obtain⟨n,rfl⟩:=l2 (show 0<=f by unfold fc at a;omega);rw[tU];rcases c:dE L n with _|x
  .obtain⟨y,g⟩:=b.k7 n rI rI rI c;exact K2 h n _ n rfl a rfl y false g
  exact K2 h n _ n rfl a rfl x true (b.mA n x c)
 rw[It (λp au e=>a (by have:=b.gG p au;unfold fc;omega))];exact YS h f a d
def H2(h:hY w r B size first L)(f:aa)(b:f<first\/1073741824<f):aA 221 #[r,I f] w λe w'=>e=.returned (I 0)/\hY w' r B size first L/\Keeps aI w w':=by
 have⟨S,h,a⟩:=h;have h1:=(h.keeps (T:=aI) ((Keeps.refl _ w).alloc (ae #[I f] 3)) id id);have bt:=h1.bt;have nT:(w.alloc (ae #[I f] 3)).cell? (ad w 0 ab)=some (I f):=nS _ _ _;have hk:Keeps aI w (w.alloc (ae #[I f] 3)):=(Keeps.refl _ w).alloc _;by_cases h2:f<first
 .clear b
  go_in
  exact NB
 have c:1073741824<f:=U
 go_in
 go_upto_region 1 with fail
 generalize w.alloc (ae #[I f] 3)=ao at *;go_quiet (fail);go_wp2;go_ret;exact⟨rfl,⟨S,h1.drew _,a⟩,hk.drewN _⟩
def TD(a:J)(n x:aa)(W:ai)(al:W.cell? (ad a 0 ab)=some (I n)):aA 287 #[I x,a] W λe w'=>e=.returned (.bool (decide (n<=x)))/\∃ q,w'=W.drewN q:=by
 go_in
 go_wp2
 all_goals
  go_ret;exact⟨by simp_all,0,rfl⟩
theorem WinAt.sm{S:ah (aa×aY)}(h:WinAt w r B size first S)(n:J)(ar:n<=1073741824):WinAt (w.setCell (ad r 0 ab) (I (n:aa))) r B size n S:=
 ⟨by simpa using bV h.head 0 (I (n:aa)),eU h.body (hW h.ne) _,h.fG,h.pos,h.most,ar,h.ne⟩
def yo(h:hY w r B size first L)(n:J)(f:aa)(q:f=n)(o:first<=n/\n<=1073741824):aA 221 #[r,I f] w λe w'=>e=.returned (I (((L.filter λp=>decide (p.1<n)).length:J):aa))/\hY w' r B size n (L.filter λp=>!decide (p.1<n))/\Keeps (λb=>b=r\/b=B) w w':=by
 obtain⟨S,h,c⟩:=h;have s:Keeps aI w (w.alloc (ae #[I f] 3)):=(Keeps.refl _ w).alloc _;have h1:=h.keeps s id id;have bt:=h1.bt;have nT:(w.alloc (ae #[I f] 3)).cell? (ad w 0 ab)=some (I f):=nS _ _ _;have Y:(w.alloc (ae #[I f] 3)).heap.size=w.heap.size+1:=aK;have j9:=bP h.head;have Z:=bP h.body;have d:(first:aa)<=f:=U;have l:f<=1073741824:=U;have hm:=(c.drop λk=>decide (k<n)).move n o.1 (λp au=>MI);have u:((L.map (·.1)).filter λk:J=>decide (k<n)).length=(L.filter λp=>decide (p.1<n)).length:=by rw[rv,gV];rfl
 have G:∀ k∈(L.map (·.1)).filter λk:J=>decide (k<n),fc first size (k:aa):=λk hk=>by
  obtain⟨p,au,rfl⟩:=e3.1 (eR.1 hk).1
  have:=c.gG p au
  unfold fc;omega
 have F:((h9 (L.map (·.1))).filter λx=>!decide (f<=x))=h9 ((L.map (·.1)).filter λk:J=>decide (k<n)):=by
  unfold h9;rw[rv]
  congr 1
  exact LQ
 rw[<-u];have z:=af q;clear u q;generalize ((L.map (·.1)).filter λk:J=>decide (k<n))=j at *;have M:(h9 j).length=j.length:=by simp[h9]
 have C:=af M;have N:(L.map (·.1)).length<=4096:=by simpa using(b7 (hY.le ⟨S,h,c⟩).1 h.most)
 go_in
 go_upto_region 1 with fail
 generalize w.alloc (ae #[I f] 3)=ao at *;generalize w.heap.size=i at *;go_quiet (fail);go_wp2_with fail;refine(HZ ⟨S,h1.drew nq,c⟩).mono ?_;rintro e bm ⟨v,rfl,a,E⟩;have t:Keeps aI ao bm:=((Keeps.refl _ ao).drewN nq).fI E;have O:(ao.drewN nq).heap.size=ao.heap.size:=rfl;rw[O]at a;go_wp2_with fail
 refine(Gq (h9 (L.map (·.1))) a N (λx=>decide (f<=x)) 287 #[i] (enters_of func287 aH rfl)
  (λW x hk=>TD i f x W (hk.cell (t.cell nT id) (λe=>by have:=(a.lt i e).1;omega)))).mono ?_
 rintro e P ⟨v4,rfl,y,H⟩;rw[F,C.out]at y;have X:∀ b,b<ao.heap.size->¬ v.ownBlock=some b:=λb aj e=>by have:=(a.lt b e).1;omega
 obtain⟨A,cap,rfl,aW,aj⟩:=cS y;have m:Keeps (λb=>ao.heap.size<=b) ao P:=(t.mono (λ_ _ h=>h.elim)).trans (H.mono λb _ e=>(a.lt b e).1 |> λh=>U);have D:=h1.keeps m U U;go_wp2_with fail;refine aU (YW D j A cap aW (λ_ x g=>z1) G) ?_;rintro Q ⟨d,l⟩;have T:=l.cell (m.cell nT bT) bT;have R:=d.bt;have V:=bI d.head;have gw:=d.sm n o.2;rw[<-z.out]at gw
 have K:Keeps (λb=>b=r\/b=B) w (Q.setCell (ad r 0 ab) (I f)):=
  (((k2 s).trans (m.mono λb aj e=>U)).trans (l.mono λb _ e=>.inr e)).setCell (p:=ad r 0 ab) (.inl rfl) _
 go_wp2_with fail;go_ret;exact⟨rfl,⟨_,gw,hm⟩,K⟩
end
section
structure IsFeed(w:ai)(D first next:J)(last:aa)(K cQ:ah (J×aa)):ak where
 head:w.heap[D+4]?=some (ae #[.pointer (some (ad (D+1) 0 ab)),.pointer (some (ad (D+3) 0 ab)),I next,aF last] 167 (0,0))
 known:hY w (D+1) D 64 first K
 used:hY w (D+3) (D+2) 64 first cQ
def j1(D b:J):ak:=D<=b/\b<=D+4
variable{w w':ai}{D first next:J}{last:aa}{K cQ:ah (J×aa)}
namespace IsFeed
theorem keeps{S:J->ak}(h:IsFeed w D first next last K cQ)(hk:Keeps S w w')(av:∀ b,D<=b->b<=D+4->¬ S b):IsFeed w' D first next last K cQ:=
 ⟨hk.heap h.head (av _ U U),h.known.keeps hk (av _ U U) (av _ U U),h.used.keeps hk (av _ U U) (av _ U U)⟩
def keep(h:IsFeed w D first next last K cQ)(hk:Keeps aI w w'):IsFeed w' D first next last K cQ:=h.keeps hk (λ_ _ _=>id)
def drew(h:IsFeed w D first next last K cQ)(n:J):IsFeed (w.drewN n) D first next last K cQ:=h.keep ((Keeps.refl _ w).drewN n)
def bt(h:IsFeed w D first next last K cQ):w.cell? (ad (D+4) 0 ab)=some (.pointer (some (ad (D+1) 0 ab))):=bb h.head rfl
def bY(h:IsFeed w D first next last K cQ):w.cell? (ad (D+4) 1 ab)=some (.pointer (some (ad (D+3) 0 ab))):=bb h.head rfl
def bo(h:IsFeed w D first next last K cQ):w.cell? (ad (D+4) 2 ab)=some (I next):=bb h.head rfl
def eo(h:IsFeed w D first next last K cQ):w.cell? (ad (D+4) 3 ab)=some (aF last):=bb h.head rfl
def lt(h:IsFeed w D first next last K cQ):D+4<w.heap.size:=bP h.head
end IsFeed
theorem K4{w:ai}{r B:J}(h:WinAt w r B 64 0 (replicate 64 ((0:aa),false))):hY w r B 64 0 []:=
 ⟨_,h,aK,U,.nil,(λp au=>by cases au),(λf x h=>nK),λf h1 h2 a _=>⟨0,by rw[DN,aD (e2 _ U)]⟩⟩
def GQ(w:ai):aA 191 #[] w λe w'=>e=.returned (w.heap.size+4:J)/\IsFeed w' w.heap.size 0 0 0 [] []/\Below w w w':=by
 go_in
 go_wp2_with fail;refine aU (K3 64 0 U U U w) ?_;rintro ao ⟨h1,g,h⟩;have a:=af h;go_wp2_with fail;refine aU (K3 64 0 U U U ao) ?_;rintro aC ⟨h2,b,c⟩;rw[a.out]at h2 c b;have d:=af c;simp only[a.out];clear c;go_wp2_with fail;go_ret;have hk:Keeps aI aC (aC.alloc (ae #[.pointer (some (ad (w+1) 0 ab)),.pointer (some (ad (w+3) 0 ab)),I 0,aF 0] 167)):=(Keeps.refl _ aC).alloc _;have ar:=aX aC (ae #[.pointer (some (ad (w+1) 0 ab)),.pointer (some (ad (w+3) 0 ab)),I 0,aF 0] 167);have f:aC.heap.size=w.heap.size+4:=by rw[d.o]
 rw[f]at ar⊢;exact⟨rfl,⟨ar,(K4 (h1.keeps (Keeps.bD b (λk h1 h2=>by have:=a.out;omega):Keeps aI ao aC) id id)).keeps hk id id,(K4 h2).keeps hk id id⟩,(g.trans (b.mono U)).alloc U _⟩
def _root_.Go.Proofs.YtalagblioepadaaGreatDoor.hY.TC{r B size:Nat}{L:List (Nat×Int)}(h:hY w r B size first L):∀ p∈L,p.1<=1073741824:=by
 have⟨S,_,h⟩:=h;exact λp au=>(h.gG p au).2.2
def GP(h:IsFeed w D first next last K cQ)(f:aa)(a:-9223372036854775808<=f/\f<=9223372036854775807):aA 227 #[.pointer (some (ad (D+4) 0 ab)),I f] w λe w'=>e=aV #[aF ((gQ K f).getD 0),.bool (gQ K f).isSome]/\∃ q,w'=w.drewN q:=by
 have bt:=h.bt
 go_in
 go_wp2_with fail;refine aU (H0 h.known f a) ?_;rintro w' ⟨q,rfl⟩;go_wp2_with fail;go_ret2;exact⟨rfl,q,rfl⟩
def QD(h:IsFeed w D first next last K cQ):aA 321 #[.pointer (some (ad (D+4) 0 ab))] w λe w'=>e=.returned (I first)/\w=w':=by
 have bt:=h.bt
 go_in
 go_wp2_with fail;refine bA (Su h.known) ?_;go_wp2_with fail;go_ret;exact⟨rfl,rfl⟩
def qS(h:IsFeed w D first next last K cQ):aA 49 #[.pointer (some (ad (D+4) 0 ab))] w λe w'=>e=.returned (I next)/\w=w':=by
 have bo:=h.bo
 go_in
 go_wp2_with fail;go_ret;exact⟨rfl,rfl⟩
def IsFeed.put{ao:ai}{a:ah (J×aa)}(h:IsFeed w D first next last K cQ)(hk:Keeps (λb=>b=D) w ao)(d:hY ao (D+1) D 64 first a)(n:J)(x:aa):IsFeed ((ao.setCell (ad (D+4) 2 ab) (I n)).setCell (ad (D+4) 3 ab) (aF x)) D first n x a cQ:=by
 have e:=h.used.keeps hk U U;have c:Keeps (λb=>b=D+4) ao ((ao.setCell (ad (D+4) 2 ab) (I n)).setCell (ad (D+4) 3 ab) (aF x)):=((Keeps.refl (λb=>b=D+4) ao).setCell (p:=ad (D+4) 2 ab) rfl _).setCell (p:=ad (D+4) 3 ab) rfl _;exact⟨by simpa using bV (bV (hk.heap h.head U) 2 (I (n:aa))) 3 (aF x),d.keeps c U U,e.keeps c U U⟩
def xX(h:IsFeed w D first next last K cQ)(x:aa)(s:x<=63)(f:aa)(d:f=next)(ar:next<=1073741824)(r:first<=next/\next<first+64):aA 168 #[.pointer (some (ad (D+4) 0 ab)),I f,aF x] w λe w'=>e=.returned (I 0)/\IsFeed w' D first (next+1) x (e7 K next x) cQ/\Keeps (λb=>j1 D b) w w':=by
 have bt:=h.bt;have bo:=h.bo;have aJ:∀ ao:ai,Keeps (λb=>b=D) w ao->ao.frozen? (ad (D+4) 2 ab)=false/\ao.frozen? (ad (D+4) 3 ab)=false/\ao.cell? (ad (D+4) 2 ab)=some (I next)/\ao.cell? (ad (D+4) 3 ab)=some (aF last):=λao hk=>by
  have:=hk.heap h.head U
  exact⟨fx this 2,fx this 3,bb this rfl,bb this rfl⟩
 have g:=af aJ;have c:=af d;have k:f<=1073741824:=U;have l:(next:aa)<=f:=U;have m:f<=(next:aa):=U;clear aJ d
 go_in
 go_wp2_with fail;refine aU ((H3 h.known next f c.o s4 x)) ?_;rintro ao ⟨h1,a⟩;have⟨n,q,d2,j⟩:=g.out _ a;have hfin:=h.put a h1 (next+1) x;rw[show((next+1:J):aa)=f+1 by have:=c.out;omega]at hfin
 have i:Keeps (λb=>j1 D b) w ((ao.setCell (ad (D+4) 2 ab) (I (f+1))).setCell (ad (D+4) 3 ab) (aF x)):=
  ((a.mono (λb _ e=>u')).setCell (p:=ad (D+4) 2 ab) (by unfold j1;simp) _).setCell (p:=ad (D+4) 3 ab) (by unfold j1;simp) _
 go_wp2_with fail;go_ret;exact⟨rfl,hfin,i⟩
def Am(e:Ending):ak:=∃ c:aa,e=.returned (I c)
def sw(first:J)(cQ:ah (J×aa))(n:J)(x:aa):ah (J×aa):=if n<first+64 then e7 cQ n x else cQ
def oq(K:ah (J×aa))(n:J)(last:aa):aa:=(dE K n).getD last
theorem IsFeed.take{ao:ai}{a:ah (J×aa)}(h:IsFeed w D first next last K cQ)(hk:Keeps (λb=>b=D+2) w ao)(c:hY ao (D+3) (D+2) 64 first a):IsFeed ao D first next last K a:=
 ⟨hk.heap h.head U,h.known.keeps hk U U,c⟩
def QE(h:IsFeed w D first next last K cQ)(n:J)(f:aa)(c:f=n)(ar:first<=n/\n<=1073741824):aA 284 #[.pointer (some (ad (D+4) 0 ab)),I f] w λe w'=>e=aV #[aF (oq K n last),.bool (dE K n).isSome]/\IsFeed w' D first next last K (sw first cQ n (oq K n last))/\Keeps (λb=>j1 D b) w w':=by
 have j:=af (QD h);have d:=GP h f U;rw[c,tU,<-c]at d;have a:=af d;have h2:f<=1073741824:=U;have p:(first:aa)<=f:=U;have k:∀ (q:J) (x:aa),aA 248 #[.pointer (some (ad (D+3) 0 ab)),I f,aF x] (w.drewN q) λe w'=>Am e/\IsFeed w' D first next last K (sw first cQ n x)/\Keeps (λb=>j1 D b) w w':=by
  intro q x;unfold sw;by_cases aw:n<first+64
  .rw[aD aw];refine aU (H3 (h.drew q).used n f c s4 x) ?_;rintro w' ⟨h1,h2⟩;exact⟨⟨_,rfl⟩,(h.drew q).take h2 h1,((Keeps.refl _ w).drewN q).trans (h2.mono (λb _ e=>u'))⟩
  rw[az aw];refine aU (SA (h.drew q).used f s4 U x) ?_;rintro w' ⟨m,rfl⟩;exact⟨⟨_,rfl⟩,(h.drew q).drew m,((Keeps.refl _ w).drewN q).drewN m⟩
 have g:=af k;have al:∀ q,(w.drewN q).cell? (ad (D+4) 1 ab)=some (.pointer (some (ad (D+3) 0 ab)))/\(w.drewN q).cell? (ad (D+4) 3 ab)=some (aF last):=λq=>⟨(h.drew q).bY,(h.drew q).eo⟩;have i:=af al;unfold oq at *;clear k d al c h;cases l:dE K n with
 | some x=>
  rw[l]at a;simp only[hX,pv]at a⊢
  go_in
  go_wp2_with fail;refine bA j.out ?_;go_wp2_with fail;refine aU a.out ?_;rintro w' ⟨q,rfl⟩;obtain⟨d1,o⟩:=i.out q;go_wp2_with fail;refine(g.out q x).mono ?_;exact L8
 | none=>
  rw[l]at a;simp only[pt,oI]at a⊢
  go_in
  go_wp2_with fail;refine bA j.out ?_;go_wp2_with fail;refine aU a.out ?_;rintro w' ⟨q,rfl⟩;obtain⟨d1,o⟩:=i.out q;go_wp2_with fail;refine(g.out q last).mono ?_;exact L8
end
section
variable{w w':ai}{D first next:J}{last:aa}{K cQ:ah (J×aa)}
def me(n:J)(L:ah (J×aa)):ah (J×aa):=L.filter λp=>!decide (p.1<n)
def QG(h:IsFeed w D first next last K cQ)(k:first<=next)(f:aa)(a:f<first):aA 149 #[.pointer (some (ad (D+4) 0 ab)),I f] w λe w'=>Am e/\IsFeed w' D first next last K cQ/\Keeps (λb=>j1 D b) w w':=by
 have bY:=h.bY;have bo:=h.bo;have g:min f (next:aa)=f:=U;have H:=af h
 go_in
 go_wp2_with fail;refine aU ((H2 h.used f (.inl a))) ?_;rintro ao ⟨j,hk⟩;have d:=(H.out.keep hk).bt;go_wp2_with fail;refine aU (H2 (H.out.keep hk).known f (.inl a)) ?_;rintro aC ⟨i,c⟩;go_wp2_with fail;go_ret;exact⟨⟨_,rfl⟩,(H.out.keep hk).keep c,k2 (hk.trans c)⟩
def QF(h:IsFeed w D first next last K cQ)(n:J)(f:aa)(ar:first<=n/\n<=1073741824)(c:(f=n/\n<=next)\/(n=next/\(next:aa)<f)):aA 149 #[.pointer (some (ad (D+4) 0 ab)),I f] w λe w'=>Am e/\IsFeed w' D n next last (me n K) (me n cQ)/\Keeps (λb=>j1 D b) w w':=by
 have bY:=h.bY;have bo:=h.bo;have d:=af ar;rcases c with⟨c,h1⟩|⟨c,h1⟩
 .have r:f<=(next:aa):=U;have q:min f (next:aa)=f:=U;have h2:¬ (next:aa)<f:=U;have l:=af c;have H:=af h;clear h c ar h1
  go_in
  go_wp2_with fail;refine aU (yo H.o.used n f l.o d.out) ?_;rintro ao ⟨j,hk⟩;have m:=hk.cell (p:=ad (D+4) 0 ab) H.out.bt aK;have i:=H.out.known.keeps hk U U;go_wp2_with fail;refine aU (yo i n _ l.out d.out) ?_;rintro aC ⟨g,a⟩;have hfin:IsFeed aC D n next last (me n K) (me n cQ):=⟨a.heap (hk.heap H.out.head U) U,g,j.keeps a U U⟩
  have k:Keeps (λb=>j1 D b) w aC:=(hk.mono (λb _ e=>u')).trans (a.mono (λb _ e=>u'));go_wp2_with fail;go_ret;exact⟨⟨_,rfl⟩,hfin,k⟩
 have q:min f (next:aa)=next:=U
 have H:=af h
 go_in
 go_wp2_with fail;refine aU ((yo h.used n (next:aa) U ar)) ?_;rintro ao ⟨j,hk⟩;have m:=hk.cell (p:=ad (D+4) 0 ab) H.out.bt aK;have i:=H.out.known.keeps hk U U;go_wp2_with fail;refine aU (yo i n _ ((show(next:aa)=(n:aa)by omega)) d.out) ?_;rintro aC ⟨g,a⟩;have hfin:IsFeed aC D n next last (me n K) (me n cQ):=⟨a.heap (hk.heap H.out.head U) U,g,j.keeps a U U⟩
 have k:Keeps (λb=>j1 D b) w aC:=(hk.mono (λb _ e=>u')).trans (a.mono (λb _ e=>u'));go_wp2_with fail;go_ret;exact⟨⟨_,rfl⟩,hfin,k⟩
def jf(K:ah (J×aa)):ah (J×aa)->b5 J
 | []=>none
 | (g,y) :: r=>match dE K g with
  | some x=>if x=y then jf K r else some g
  | none=>jf K r
def vI(h:IsFeed w D first next last K cQ):aA 152 #[.pointer (some (ad (D+4) 0 ab))] w λe w'=>e=aV #[I (((jf K cQ).getD 0:J):aa),.bool (jf K cQ).isSome]/\Keeps aI w w':=by
 have bY:=h.bY;have H:∀ j (c:j<cQ.length),dE cQ cQ[j].1=some cQ[j].2:=λj c=>by
  have⟨S,_,av⟩:=h.used;exact BM av.dL (nC c)
 have L:∀ j (c:j<cQ.length),cQ[j].1<=1073741824:=λj c=>h.used.TC _ (nC c);obtain⟨c6,z⟩:∃ c6,jf K cQ=c6:=⟨_,rfl⟩;rw[z];have F:=af z;have V:=h.used.le.1
 go_in
 go_wp2_with fail;refine(HZ h.used).mono ?_;rintro e ao ⟨v,rfl,P,aj⟩;obtain⟨A,cap,rfl,aW,_⟩:=cS P;have t:Keeps aI w ao:=Keeps.bD aj a7;have O:(cQ.map (·.1)).length=cQ.length:=aK;rw[O]at aW⊢;go_wp2_with fail;go_loopg [18] 64 (λg i wr=>∃ j:J,g=64-j/\j<=cQ.length/\i=I j/\Hid (jf K (cQ.drop j)=c6)/\Keeps aI ao wr)
 case atStart=>exact⟨0,rfl,c' _,rfl,F,Keeps.refl _ _⟩
 obtain⟨j,aZ,c,rfl,B,k⟩:=hrel;by_cases m:j<cQ.length
 .obtain⟨b,o,rfl,al⟩:=aW.at' U;have R:ao.cell? (ad b (o+j) ab)=some (I (cQ[j].1:J)):=al _ _ (by simp[k1,h9,m]);have W:=k.cell R id;have N:=H j m;have ar:=L j m;have a:=B.out;rw[qm m]at a;have r:=h.keep (t.trans k);have T:=r.bY;generalize cQ[j]=p at *;obtain⟨f,y⟩:=p;have s:=H0 r.used (f:aa) U;rw[tU,N]at s;simp only[hX,pv]at s;have C:=af s;have G:∀ q,aA 227 #[.pointer (some (ad (D+4) 0 ab)),I (f:aa)] (wr.drewN q) λe w'=>e=aV #[aF ((dE K f).getD 0),.bool (dE K f).isSome]/\∃ l,w'=(wr.drewN q).drewN l:=λq=>by
   have:=GP (r.drew q) (f:aa) U
   rwa [tU]at this
  have d:=af G;simp only[jf]at a;cases u:dE K f with
  | none=>
   rw[u]at a d;simp only[pt,oI]at a d;have E:=af a;exact M8
  | some x=>
   rw[u]at a d;simp only[hX,pv]at a d;by_cases n:x=y
   .rw[aD n]at a;have E:=af a;have Q:(x != y)=false:=by simp[n]
    exact M8
   rw[az n]at a;subst a;have Q:(x != y)=true:=by simp[n]
   have M:=t.trans k;go_wp2_with fail;refine aU C.out ?_;rintro aC ⟨q,rfl⟩;go_wp2_with fail;refine aU (d.out q) ?_;rintro bm ⟨l,rfl⟩;go_wp2_with fail;go_ret2;exact⟨rfl,M.drewN (q+l)⟩
 have a:=B.out;rw[DL U]at a;simp only[jf]at a;subst a;go_wp2_with fail;go_ret2;exact⟨rfl,(t.trans k)⟩
end
variable{α:Type}
def ez(g:J->α)(f n:J):ah (J×α):=(range (n-f)).map λi=>(f+i,g (f+i))
def sl(g:J->α){f n:J}(h:n<=f):ez g f n=[]:=by
 unfold ez;rw[show n-f=0 by omega];rfl
def wA(g:J->α){f n:J}(h:f<=n):ez g f (n+1)=ez g f n++[(n,g n)]:=by
 unfold ez;rw[show n+1-f=(n-f)+1 by omega,qs,jy,w2,show f+(n-f)=n by omega]
def ur{g:J->α}{f n:J}{p:J×α}(h:p∈ez g f n):f<=p.1/\p.1<n/\p.2=g p.1:=by
 obtain⟨i,aw,rfl⟩:=e3.1 h
 have:=po.1 aw
 exact⟨vb,vb,rfl⟩
theorem I9:∀ (L:ah (J×α)) (n:J) (x:α),(∀ p∈L,p.1<n)->e7 L n x=L++[(n,x)]
 | [],n,x,_=>rfl
 | (g,y) :: r,n,x,h=>by
  have h1:=h (g,y) aK;unfold e7;rw[az U,I9 r n x (λp au=>h p (by simp[au]))];rfl
def wz(g:J->α){f n:J}(h:f<=n):e7 (ez g f n) n (g n)=ez g f (n+1):=by
 rw[wA g h,I9 _ _ _ (λp au=>(ur au).2.1)]
theorem Iv:∀ (L:ah (J×α)) (n j:J) (x:α),(∀ p∈L,p.1<n)->dE (L++[(n,x)]) j=if j=n then some x else dE L j
 | [],n,j,x,_=>by
  simp only[nD,dE];by_cases e:n=j
  .rw[aD e,aD e.symm]
  rw[az e,az (λc=>e c.symm)]
 | (g,y) :: r,n,j,x,h=>by
  have h1:=h (g,y) aK;simp only[kF,dE];by_cases e:g=j
  .rw[aD e,aD e,az U]
  rw[az e,az e,(Iv r n j x (λp au=>h p (by simp[au])))]
theorem qb(g:J->α)(f j:J):∀ n,dE (ez g f n) j=if f<=j/\j<n then some (g j)else none
 | 0=>by rw[sl g kh,if_neg kh];rfl
 | n+1=>by
  by_cases h:f<=n
  .rw[wA g h,Iv _ _ _ _ (λp au=>(ur au).2.1),qb g f j n];by_cases e:j=n
   .subst e;rw[aD rfl,aD U]
   rw[az e];by_cases c:f<=j/\j<n
   .rw[aD c,aD U]
   rw[az c,az U]
  rw[sl g U,az U];rfl
def JY(g:J->α)(f n:J)(j:J):gQ (ez g f n) (j:aa)=if f<=j/\j<n then some (g j)else none:=by
 rw[tU,qb]
theorem Cu(g:J->α){f m:J}(h:f<=m):∀ d,ez g f (m+d)=ez g f m++ez g m (m+d)
 | 0=>by rw[sl g (show m+0<=m by omega),e4];rfl
 | d+1=>by
  rw[show m+(d+1)=(m+d)+1 by omega,wA g (show f<=m+d by omega),wA g (show m<=m+d by omega),Cu g h d,dD]
def uq(g:J->α){f m n:J}(h:f<=m)(ar:m<=n):((ez g f n).filter λp=>!decide (p.1<m))=ez g m n:=by
 obtain⟨d,rfl⟩:∃ d,n=m+d:=⟨n-m,U⟩;rw[Cu g h d,rr,filter_eq_nil_iff.2 (λp au=>by have:=(ur au).2.1;simp;omega),nD,nA.2 (λp au=>by have:=(ur au).1;simp;omega)]
theorem Lo(K:ah (J×aa)):∀ cQ:ah (J×aa),(∀ p∈cQ,dE K p.1=none\/dE K p.1=some p.2)->jf K cQ=none
 | [],_=>rfl
 | (g,y) :: r,h=>by
  have h1:=h (g,y) aK;have a:=Lo K r (λp au=>h p (by simp[au]));unfold jf;rcases h1 with h1|h1
  .simp only at h1;rw[h1];exact a
  simp only at h1;rw[h1];simp[a]
def fW(f n:J):ah (J×aa):=ez (λ_=>0) f n
def Di(f n a m:J):jf (fW f n) (fW a m)=none:=by
 refine Lo _ _ λp au=>?_;unfold fW;rw[qb];split
 .exact .inr (by rw[(ur au).2.2])
 exact .inl rfl
end Go.Proofs.YtalagblioepadaaGreatDoor
