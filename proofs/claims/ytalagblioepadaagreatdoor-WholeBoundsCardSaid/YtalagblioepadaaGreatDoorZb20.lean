/- The proof, part 20. -/
import Derived.Test.YtalagblioepadaaGreatDoorZb16
import Derived.Shelf.SlicesE.DeleteFunc
import Derived.Lib.OwnBridge
import Derived.Sort.OwnSortedInts
namespace Go.Proofs.YtalagblioepadaaGreatDoor
set_option linter.all false
open Proofs.Tryz List Go.RowKit
set_option maxRecDepth 100000
set_option maxHeartbeats 800000
def uO{p:ak}(h:p:=by simp only;omega):p:=h
def uM{p:ak}(h:p:=by unfold jU;omega):p:=h
def rk{p:ak}(h:p:=by unfold e8 at a;omega):p:=h
def Ma{p:ak}(h:p:=by have:=(fR.1 ar).2;simpa using this):p:=h
def Mn{p:ak}(h:p:=by
 have⟨S,h,a⟩:=h;have b:=cV length (Gv a.ef first size (λp ar=>⟨(a.gz p ar).1,(a.gz p ar).2.1⟩));rw[hh]at b;refine⟨?_,h.pos,h.most,h.fst,bR h.head,bR h.body,h.ne⟩;rw[<-b];exact b7 (mv _ _) aI
 ):p:=h
def Mz{p:ak}(h:p:=by
 go_wp2_with fail;refine aT C.out ?_;rintro aB ⟨q,rfl⟩;go_wp2_with fail;refine aT (d.out q) ?_;rintro bn ⟨l,rfl⟩;go_wp2_with fail;go_roundg (64-(j+1))
 case measure=>omega
 exact⟨j+1,rfl,U,by go_num,E,k.drewN (q+l)⟩
 ):p:=h
def M3{p:ak}(h:p:=by
 go_upto_region 1 with fail
 generalize w.alloc (ae #[I f] 3)=an at *;go_quiet (fail);go_wp2;go_ret;exact⟨rfl,⟨S,h1.drew _,a⟩,hk.drewN _⟩
 ):p:=h
def Li{p:ak}(h:p:=by
 refine wD λk _=>?_;simp only[Function.comp_apply];rw[y5];simp;omega
 ):p:=h
def Ly{p:ak}(h:p:=by
 rintro e w' ⟨⟨c,rfl⟩,h1,h2⟩;go_wp2_with fail;go_ret2;exact⟨rfl,h1,h2⟩
 ):p:=h
section
variable{w w':ai}{r B size first:J}{S:ah (aa×aY)}
def Hw(a:ah J)(k:J)(h:k<a.length):(kP (hW a))[k]?=some (I (a[k]:J)):=by simp[kP,hW,h]
def Yi(h:WinAt w r B size first S)(a:ah J)(A:b4 Addr)(cap:J)(aX:dQ w 1 A a.length cap (kP (hW a)))(l:0<a.length->∀ x,A=some x->x.block≠B)(m:∀ f∈a,e8 first size (f:aa)):az 288 #[r,ao A a.length cap] w λe w'=>e=.returned (I (a.length:aa))/\WinAt w' r B size first (kN S size a)/\Keeps (λb=>b=B) w w':=by
 have u:a.length<=9223372036854775807:=b7 aX.2.1 aX.2.2.1
 go_in
 go_wp2;go_loopw [9] (λi wr=>∃ k:J,k<=a.length/\i=I k/\WinAt wr r B size first (kN S size (a.take k))/\Keeps (λb=>b=B) w wr) (λi _=>a.length-(intOf i).toNat)
 case atStart=>exact⟨0,c' _,rfl,h,Keeps.refl _ w⟩
 obtain⟨k,hk,rfl,c,g⟩:=hrel;by_cases j:k<a.length
 .obtain⟨b,o,rfl,aq⟩:=(aX.keeps g (λau x t=>l au x t)).at' U;have v:=aq _ _ (Hw a k j);have av:=af (yW c a[k] (a[k]%size) _ rfl (m _ (og j)) rfl);have s:kN S size (a.take (k+1))=(kN S size (a.take k)).set (a[k]%size) (0,false):=by rw[lS j,Pj]
  have n:a[k]%size<(kN S size (a.take k)).length:=by rw[c.fC];exact eW _ c.pos
  generalize a[k]=f at *;generalize f%size=d at *;generalize kN S size (a.take k)=D at *;obtain⟨fo,s1⟩:=c.slot (k:=d) (x:=D[d].1) (b:=D[d].2) (gb n);have g0:=fJ c.body (d*2);have g1:=fJ c.body (d*2+1);go_wp2_with fail;refine aT av.o ?_;rintro aB ⟨q,rfl⟩;go_wp2_with fail;go_roundw
  case rel=>exact⟨k+1,U,by go_num,by rw[s];exact(c.drew q).wb d 0 false,((g.drewN q).setCell (p:=ad B (d*2) ab) rfl _).setCell (p:=ad B (d*2+1) ab) rfl _⟩
  simp[intOf];omega
 obtain rfl:k=a.length:=U;rw[nk]at c;go_wp2_with fail;go_ret;exact⟨rfl,c,g⟩
def hL(w:ai)(r B size first:J)(L:ah (J×aa)):ak:=∃ S,WinAt w r B size first S/\Slots S size first L
theorem hL.keeps{L:ah (J×aa)}{T:J->ak}(h:hL w r B size first L)(hk:Keeps T w w')(h1:¬ T r)(h2:¬ T B):hL w' r B size first L:=by
 have⟨S,a,b⟩:=h;exact⟨S,a.keeps hk h1 h2,b⟩
variable{L:ah (J×aa)}
def hL.le(h:hL w r B size first L):L.length<=size/\0<size/\size<=4096/\first<=1073741824/\r<w.heap.size/\B<w.heap.size/\r≠B:=by
 exact Mn
def Hy(h:hL w r B size first L):az 225 #[r] w λe w'=>∃ v,e=.returned v/\w'.ownsRow (w.heap.size+5) 3 1 v (L.map (·.1)).length (kP (hW (L.map (·.1))))/\Below w w w':=by
 have⟨S,h,b⟩:=h;have a:=Yd h;rw[b.tp 0,ni.2 (λn _=>aI)]at a;exact a
def RR(h:hL w r B size first L):az 342 #[r] w λe w'=>e=.returned (I first)/\w=w':=by
 have⟨S,h,a⟩:=h;exact Yc h
def RX(h:hL w r B size first L)(f:aa)(a:¬ e8 first size f)(b:-9223372036854775808<=f/\f<=9223372036854775807)(x:aa):az 248 #[r,I f,(aF x)] w λe w'=>e=.returned (I (if f<first then 10 else 8))/\∃ q,w'=w.drewN q:=by
 have⟨S,h,c⟩:=h;exact Yg h f a b x
def HB(h:hL w r B size first L)(n:J)(f:aa)(d:f=n)(a:e8 first size f)(x:aa):az 248 #[r,I f,(aF x)] w λe w'=>e=.returned (I 0)/\hL w' r B size first (eY L n x)/\Keeps (λb=>b=B) w w':=by
 obtain⟨S,h,c⟩:=h;refine aT (Yf h n _ f d a rfl x) ?_;rintro w' ⟨h1,h2⟩;exact⟨rfl,⟨_,h1,c.put n x rk⟩,h2⟩
end
def As:Go.Shelf.Ren:=⟨fun|10=>222|6=>289|n=>n,fun|0=>0|3=>3|4=>4|22=>141|23=>3|25=>228|n=>n,fun|n=>n⟩
def FX:SlLaysH.n10 prog As:={
 mixed:=aH
 f6:=⟨f289.name,bq,func289.trans (cV some aH)⟩
 f10:=⟨f222.name,bq,func222.trans (cV some aH)⟩
 t0:=underlying0
 a0:=isAgg0
 z0:=sizeOf0
 v0:=zeroValue0
 t3:=underlying3
 a3:=isAgg3
 z3:=sizeOf3
 v3:=zeroValue3
 t4:=underlying4
 a4:=isAgg4
 z4:=sizeOf4
 v4:=zeroValue4
 t22:=underlying141
 a22:=isAgg141
 z22:=sizeOf141
 v22:=zeroValue141
 a23:=isAgg3
 z23:=sizeOf3
 t25:=underlying228
 a25:=isAgg228
 z25:=sizeOf228
 v25:=zeroValue228}
def Pd(a:aw)(w:ai):az 222 #[ao none 0 0,a] w λe w'=>e=.returned (ao none 0 0)/\w'=w:=by
 go_in
 go_wp2_with fail;refine DD (AnyE.slices_IndexFunc_empty (P:=prog) (ρ:=As) {FX with} none 0 a w) ?_;go_wp2_with fail;go_ret;exact⟨rfl,rfl⟩
def FW{w:ai}{base n:J}{v:aw}(ch:List aa)(a:w.ownsRow base 3 1 v n (ch.map (Value.int .i64)))(au:n<=4096)(p:aa->aY)(gf:J)(lb:Array aw)(m:∀ args w,(callFunc gf args).run prog w=.ok (.enter gf args) w)(f:∀ (W:ai) (x:aa),Keeps (λb=>v.ownBlock=some b) w W->Calls prog gf (#[I x]++lb) W λe w'=>e=.returned (.bool (p x))/\∃ q,w'=W.drewN q):az 222 #[v,.func (.func gf) #[] lb] w λe w'=>∃ v',e=.returned v'/\w'.ownsRow base 3 1 v' (ch.filter λx=>!p x).length ((ch.filter λx=>!p x).map (Value.int .i64))/\Keeps (λb=>v.ownBlock=some b) w w':=by
 by_cases aX:v=ao none 0 0
 .subst aX;have s:ch=[]:=by
   rcases a.2 with⟨_,h⟩|⟨g,cap,u,h,_⟩
   .exact uv (by have:=a.1;simp at this;omega)
   cases h
  subst s;refine DD (Pd _ w) ?_;exact⟨_,rfl,gB _ _ _ _,Keeps.refl _ _⟩
 obtain⟨g,cap,rfl,y,A,r,z,t,l⟩:=Lib.holds_of_ownsRow a aX;subst t;have c:∀ (W:ai),Keeps (λb=>b=g) w W->Keeps (λb=>(ao (some (ad g 0 ab)) ch.length cap).ownBlock=some b) w W:=λW h=>h.mono λk _ e=>by subst e;rfl
 have d:=AnyE.slices_DeleteFunc (P:=prog) (ρ:=As) FX (Value.int .i64) (λ_=>rfl) p gf lb m 0 zeroValue3 g 0 cap ch.toArray w
  (λW x aj=>f W x (c W (Keeps.bE aj a7)))
  (λn os j x _=>f _ x (c _ ((Keeps.refl _ w).grown (grownBy_sortedI j) (λk hk=>.inl (by cases hk;rfl)))))
  l bU (by simpa using r)
 rw[gR]at d;refine aT d ?_;rintro w' ⟨q,rfl⟩;have o:=mv (λx=>!p x) ch;have i:=Lib.ownsRow_putRow (q:=q) (k:=(ch.filter λx=>!p x).length) (ys:=(ch.filter λx=>!p x)++replicate (ch.length-(ch.filter λx=>!p x).length) 0) a bU o;refine⟨_,rfl,?_,c _ ?_⟩
 .rw[zt]at i;exact i
 have a1:=grownBy_sortedI (w:=w) (g:=g) (n:=q) (os:=#[]) ((ch.filter λx=>!p x)++replicate (ch.length-(ch.filter λx=>!p x).length) 0).toArray;rw[Sort.grow_empty]at a1;exact(Keeps.refl _ w).grown a1 (λk hk=>.inl (by cases hk;rfl))
section
variable{w w':ai}{r B size first:J}{L:ah (J×aa)}
def Hz(h:hL w r B size first L)(f:aa)(d:-9223372036854775808<=f/\f<=9223372036854775807):az 226 #[r,I f] w λe w'=>e=aV #[(aF ((gL L f).getD 0)),.bool (gL L f).isSome]/\∃ q,w'=w.drewN q:=by
 have⟨S,h,b⟩:=h;by_cases a:e8 first size f
 .obtain⟨n,rfl⟩:=lQ (show 0<=f by unfold e8 at a;omega);rw[tE];rcases c:dB L n with _|x
  .obtain⟨y,g⟩:=b.kU n rk rk rk c;exact Kw h n _ n rfl a rfl y false g
  exact Kw h n _ n rfl a rfl x true (b.mi n x c)
 rw[HZ (λp ar e=>a (by have:=b.gz p ar;unfold e8;omega))];exact Ye h f a d
def HA(h:hL w r B size first L)(f:aa)(b:f<first\/1073741824<f):az 221 #[r,I f] w λe w'=>e=.returned (I 0)/\hL w' r B size first L/\Keeps aG w w':=by
 have⟨S,h,a⟩:=h;have h1:=(h.keeps (T:=aG) ((Keeps.refl _ w).alloc (ae #[I f] 3)) id id);have bu:=h1.bu;have nC:(w.alloc (ae #[I f] 3)).cell? (ad w 0 ab)=some (I f):=nB _ _ _;have hk:Keeps aG w (w.alloc (ae #[I f] 3)):=(Keeps.refl _ w).alloc _;by_cases h2:f<first
 .clear b
  go_in
  exact M3
 have c:1073741824<f:=U
 go_in
 go_upto_region 1 with fail
 generalize w.alloc (ae #[I f] 3)=an at *;go_quiet (fail);go_wp2;go_ret;exact⟨rfl,⟨S,h1.drew _,a⟩,hk.drewN _⟩
def S2(a:J)(n x:aa)(W:ai)(aq:W.cell? (ad a 0 ab)=some (I n)):az 287 #[I x,a] W λe w'=>e=.returned (.bool (decide (n<=x)))/\∃ q,w'=W.drewN q:=by
 go_in
 go_wp2
 all_goals
  go_ret;exact⟨by simp_all,0,rfl⟩
theorem WinAt.r8{S:ah (aa×aY)}(h:WinAt w r B size first S)(n:J)(au:n<=1073741824):WinAt (w.setCell (ad r 0 ab) (I (n:aa))) r B size n S:=
 ⟨by simpa using bW h.head 0 (I (n:aa)),eO h.body (hJ h.ne) _,h.fC,h.pos,h.most,au,h.ne⟩
def x3(h:hL w r B size first L)(n:J)(f:aa)(q:f=n)(o:first<=n/\n<=1073741824):az 221 #[r,I f] w λe w'=>e=.returned (I (((L.filter λp=>decide (p.1<n)).length:J):aa))/\hL w' r B size n (L.filter λp=>!decide (p.1<n))/\Keeps (λb=>b=r\/b=B) w w':=by
 obtain⟨S,h,c⟩:=h;have s:Keeps aG w (w.alloc (ae #[I f] 3)):=(Keeps.refl _ w).alloc _;have h1:=h.keeps s id id;have bu:=h1.bu;have nC:(w.alloc (ae #[I f] 3)).cell? (ad w 0 ab)=some (I f):=nB _ _ _;have Y:(w.alloc (ae #[I f] 3)).heap.size=w.heap.size+1:=aI;have j1:=bR h.head;have Z:=bR h.body;have d:(first:aa)<=f:=U;have l:f<=1073741824:=U;have hm:=(c.drop λk=>decide (k<n)).move n o.1 (λp ar=>Ma);have u:((L.map (·.1)).filter λk:J=>decide (k<n)).length=(L.filter λp=>decide (p.1<n)).length:=by rw[q7,hh];rfl
 have G:∀ k∈(L.map (·.1)).filter λk:J=>decide (k<n),e8 first size (k:aa):=λk hk=>by
  obtain⟨p,ar,rfl⟩:=fu.1 (fR.1 hk).1
  have:=c.gz p ar
  unfold e8;omega
 have F:((hW (L.map (·.1))).filter λx=>!decide (f<=x))=hW ((L.map (·.1)).filter λk:J=>decide (k<n)):=by
  unfold hW;rw[q7]
  congr 1
  exact Li
 rw[<-u];have z:=af q;clear u q;generalize ((L.map (·.1)).filter λk:J=>decide (k<n))=j at *;have M:(hW j).length=j.length:=by simp[hW]
 have C:=af M;have N:(L.map (·.1)).length<=4096:=by simpa using(b7 (hL.le ⟨S,h,c⟩).1 h.most)
 go_in
 go_upto_region 1 with fail
 generalize w.alloc (ae #[I f] 3)=an at *;generalize w.heap.size=i at *;go_quiet (fail);go_wp2_with fail;refine(Hy ⟨S,h1.drew nq,c⟩).mono ?_;rintro e bn ⟨v,rfl,a,E⟩;have t:Keeps aG an bn:=((Keeps.refl _ an).drewN nq).fE E;have O:(an.drewN nq).heap.size=an.heap.size:=rfl;rw[O]at a;go_wp2_with fail
 refine(FW (hW (L.map (·.1))) a N (λx=>decide (f<=x)) 287 #[i] (enters_of func287 aH rfl)
  (λW x hk=>S2 i f x W (hk.cell (t.cell nC id) (λe=>by have:=(a.lt i e).1;omega)))).mono ?_
 rintro e P ⟨v4,rfl,y,H⟩;rw[F,C.out]at y;have X:∀ b,b<an.heap.size->¬ v.ownBlock=some b:=λb aj e=>by have:=(a.lt b e).1;omega
 obtain⟨A,cap,rfl,aX,aj⟩:=cP y;have m:Keeps (λb=>an.heap.size<=b) an P:=(t.mono (λ_ _ h=>h.elim)).trans (H.mono λb _ e=>(a.lt b e).1 |> λh=>U);have D:=h1.keeps m U U;go_wp2_with fail;refine aT (Yi D j A cap aX (λ_ x g=>zG) G) ?_;rintro Q ⟨d,l⟩;have T:=l.cell (m.cell nC bU) bU;have R:=d.bu;have V:=bJ d.head;have gm:=d.r8 n o.2;rw[<-z.out]at gm
 have K:Keeps (λb=>b=r\/b=B) w (Q.setCell (ad r 0 ab) (I f)):=
  (((kQ s).trans (m.mono λb aj e=>U)).trans (l.mono λb _ e=>.inr e)).setCell (p:=ad r 0 ab) (.inl rfl) _
 go_wp2_with fail;go_ret;exact⟨rfl,⟨_,gm,hm⟩,K⟩
end
section
structure IsFeed(w:ai)(D first next:J)(last:aa)(K cR:ah (J×aa)):ak where
 head:w.heap[D+4]?=some (ae #[.pointer (some (ad (D+1) 0 ab)),.pointer (some (ad (D+3) 0 ab)),I next,aF last] 167 (0,0))
 known:hL w (D+1) D 64 first K
 used:hL w (D+3) (D+2) 64 first cR
def jU(D b:J):ak:=D<=b/\b<=D+4
variable{w w':ai}{D first next:J}{last:aa}{K cR:ah (J×aa)}
namespace IsFeed
theorem keeps{S:J->ak}(h:IsFeed w D first next last K cR)(hk:Keeps S w w')(ax:∀ b,D<=b->b<=D+4->¬ S b):IsFeed w' D first next last K cR:=
 ⟨hk.heap h.head (ax _ U U),h.known.keeps hk (ax _ U U) (ax _ U U),h.used.keeps hk (ax _ U U) (ax _ U U)⟩
def keep(h:IsFeed w D first next last K cR)(hk:Keeps aG w w'):IsFeed w' D first next last K cR:=h.keeps hk (λ_ _ _=>id)
def drew(h:IsFeed w D first next last K cR)(n:J):IsFeed (w.drewN n) D first next last K cR:=h.keep ((Keeps.refl _ w).drewN n)
def bu(h:IsFeed w D first next last K cR):w.cell? (ad (D+4) 0 ab)=some (.pointer (some (ad (D+1) 0 ab))):=bb h.head rfl
def b0(h:IsFeed w D first next last K cR):w.cell? (ad (D+4) 1 ab)=some (.pointer (some (ad (D+3) 0 ab))):=bb h.head rfl
def bs(h:IsFeed w D first next last K cR):w.cell? (ad (D+4) 2 ab)=some (I next):=bb h.head rfl
def ez(h:IsFeed w D first next last K cR):w.cell? (ad (D+4) 3 ab)=some (aF last):=bb h.head rfl
def lt(h:IsFeed w D first next last K cR):D+4<w.heap.size:=bR h.head
end IsFeed
theorem Ky{w:ai}{r B:J}(h:WinAt w r B 64 0 (replicate 64 ((0:aa),false))):hL w r B 64 0 []:=
 ⟨_,h,aI,U,.nil,(λp ar=>by cases ar),(λf x h=>nt),λf h1 h2 a _=>⟨0,by rw[Dm,aD (eW _ U)]⟩⟩
def Gj(w:ai):az 191 #[] w λe w'=>e=.returned (w.heap.size+4:J)/\IsFeed w' w.heap.size 0 0 0 [] []/\Below w w w':=by
 go_in
 go_wp2_with fail;refine aT (Kx 64 0 U U U w) ?_;rintro an ⟨h1,g,h⟩;have a:=af h;go_wp2_with fail;refine aT (Kx 64 0 U U U an) ?_;rintro aB ⟨h2,b,c⟩;rw[a.out]at h2 c b;have d:=af c;simp only[a.out];clear c;go_wp2_with fail;go_ret;have hk:Keeps aG aB (aB.alloc (ae #[.pointer (some (ad (w+1) 0 ab)),.pointer (some (ad (w+3) 0 ab)),I 0,aF 0] 167)):=(Keeps.refl _ aB).alloc _;have au:=aW aB (ae #[.pointer (some (ad (w+1) 0 ab)),.pointer (some (ad (w+3) 0 ab)),I 0,aF 0] 167);have f:aB.heap.size=w.heap.size+4:=by rw[d.o]
 rw[f]at au⊢;exact⟨rfl,⟨au,(Ky (h1.keeps (Keeps.bE b (λk h1 h2=>by have:=a.out;omega):Keeps aG an aB) id id)).keeps hk id id,(Ky h2).keeps hk id id⟩,(g.trans (b.mono U)).alloc U _⟩
def _root_.Go.Proofs.YtalagblioepadaaGreatDoor.hL.S1{r B size:Nat}{L:List (Nat×Int)}(h:hL w r B size first L):∀ p∈L,p.1<=1073741824:=by
 have⟨S,_,h⟩:=h;exact λp ar=>(h.gz p ar).2.2
def Gi(h:IsFeed w D first next last K cR)(f:aa)(a:-9223372036854775808<=f/\f<=9223372036854775807):az 227 #[.pointer (some (ad (D+4) 0 ab)),I f] w λe w'=>e=aV #[aF ((gL K f).getD 0),.bool (gL K f).isSome]/\∃ q,w'=w.drewN q:=by
 have bu:=h.bu
 go_in
 go_wp2_with fail;refine aT (Hz h.known f a) ?_;rintro w' ⟨q,rfl⟩;go_wp2_with fail;go_ret2;exact⟨rfl,q,rfl⟩
def P3(h:IsFeed w D first next last K cR):az 321 #[.pointer (some (ad (D+4) 0 ab))] w λe w'=>e=.returned (I first)/\w=w':=by
 have bu:=h.bu
 go_in
 go_wp2_with fail;refine br (RR h.known) ?_;go_wp2_with fail;go_ret;exact⟨rfl,rfl⟩
def qy(h:IsFeed w D first next last K cR):az 49 #[.pointer (some (ad (D+4) 0 ab))] w λe w'=>e=.returned (I next)/\w=w':=by
 have bs:=h.bs
 go_in
 go_wp2_with fail;go_ret;exact⟨rfl,rfl⟩
def IsFeed.put{an:ai}{a:ah (J×aa)}(h:IsFeed w D first next last K cR)(hk:Keeps (λb=>b=D) w an)(d:hL an (D+1) D 64 first a)(n:J)(x:aa):IsFeed ((an.setCell (ad (D+4) 2 ab) (I n)).setCell (ad (D+4) 3 ab) (aF x)) D first n x a cR:=by
 have e:=h.used.keeps hk U U;have c:Keeps (λb=>b=D+4) an ((an.setCell (ad (D+4) 2 ab) (I n)).setCell (ad (D+4) 3 ab) (aF x)):=((Keeps.refl (λb=>b=D+4) an).setCell (p:=ad (D+4) 2 ab) rfl _).setCell (p:=ad (D+4) 3 ab) rfl _;exact⟨by simpa using bW (bW (hk.heap h.head U) 2 (I (n:aa))) 3 (aF x),d.keeps c U U,e.keeps c U U⟩
def xA(h:IsFeed w D first next last K cR)(x:aa)(s:x<=63)(f:aa)(d:f=next)(au:next<=1073741824)(r:first<=next/\next<first+64):az 168 #[.pointer (some (ad (D+4) 0 ab)),I f,aF x] w λe w'=>e=.returned (I 0)/\IsFeed w' D first (next+1) x (eY K next x) cR/\Keeps (λb=>jU D b) w w':=by
 have bu:=h.bu;have bs:=h.bs;have aR:∀ an:ai,Keeps (λb=>b=D) w an->an.frozen? (ad (D+4) 2 ab)=false/\an.frozen? (ad (D+4) 3 ab)=false/\an.cell? (ad (D+4) 2 ab)=some (I next)/\an.cell? (ad (D+4) 3 ab)=some (aF last):=λan hk=>by
  have:=hk.heap h.head U
  exact⟨fJ this 2,fJ this 3,bb this rfl,bb this rfl⟩
 have g:=af aR;have c:=af d;have k:f<=1073741824:=U;have l:(next:aa)<=f:=U;have m:f<=(next:aa):=U;clear aR d
 go_in
 go_wp2_with fail;refine aT ((HB h.known next f c.o sQ x)) ?_;rintro an ⟨h1,a⟩;have⟨n,q,d2,j⟩:=g.out _ a;have hfin:=h.put a h1 (next+1) x;rw[show((next+1:J):aa)=f+1 by have:=c.out;omega]at hfin
 have i:Keeps (λb=>jU D b) w ((an.setCell (ad (D+4) 2 ab) (I (f+1))).setCell (ad (D+4) 3 ab) (aF x)):=
  ((a.mono (λb _ e=>uM)).setCell (p:=ad (D+4) 2 ab) (by unfold jU;simp) _).setCell (p:=ad (D+4) 3 ab) (by unfold jU;simp) _
 go_wp2_with fail;go_ret;exact⟨rfl,hfin,i⟩
def zY(e:Ending):ak:=∃ c:aa,e=.returned (I c)
def sh(first:J)(cR:ah (J×aa))(n:J)(x:aa):ah (J×aa):=if n<first+64 then eY cR n x else cR
def n3(K:ah (J×aa))(n:J)(last:aa):aa:=(dB K n).getD last
theorem IsFeed.take{an:ai}{a:ah (J×aa)}(h:IsFeed w D first next last K cR)(hk:Keeps (λb=>b=D+2) w an)(c:hL an (D+3) (D+2) 64 first a):IsFeed an D first next last K a:=
 ⟨hk.heap h.head U,h.known.keeps hk U U,c⟩
def P4(h:IsFeed w D first next last K cR)(n:J)(f:aa)(c:f=n)(au:first<=n/\n<=1073741824):az 284 #[.pointer (some (ad (D+4) 0 ab)),I f] w λe w'=>e=aV #[aF (n3 K n last),.bool (dB K n).isSome]/\IsFeed w' D first next last K (sh first cR n (n3 K n last))/\Keeps (λb=>jU D b) w w':=by
 have j:=af (P3 h);have d:=Gi h f U;rw[c,tE,<-c]at d;have a:=af d;have h2:f<=1073741824:=U;have p:(first:aa)<=f:=U;have k:∀ (q:J) (x:aa),az 248 #[.pointer (some (ad (D+3) 0 ab)),I f,aF x] (w.drewN q) λe w'=>zY e/\IsFeed w' D first next last K (sh first cR n x)/\Keeps (λb=>jU D b) w w':=by
  intro q x;unfold sh;by_cases av:n<first+64
  .rw[aD av];refine aT (HB (h.drew q).used n f c sQ x) ?_;rintro w' ⟨h1,h2⟩;exact⟨⟨_,rfl⟩,(h.drew q).take h2 h1,((Keeps.refl _ w).drewN q).trans (h2.mono (λb _ e=>uM))⟩
  rw[aA av];refine aT (RX (h.drew q).used f sQ U x) ?_;rintro w' ⟨m,rfl⟩;exact⟨⟨_,rfl⟩,(h.drew q).drew m,((Keeps.refl _ w).drewN q).drewN m⟩
 have g:=af k;have aq:∀ q,(w.drewN q).cell? (ad (D+4) 1 ab)=some (.pointer (some (ad (D+3) 0 ab)))/\(w.drewN q).cell? (ad (D+4) 3 ab)=some (aF last):=λq=>⟨(h.drew q).b0,(h.drew q).ez⟩;have i:=af aq;unfold n3 at *;clear k d aq c h;cases l:dB K n with
 | some x=>
  rw[l]at a;simp only[hK,pa]at a⊢
  go_in
  go_wp2_with fail;refine br j.out ?_;go_wp2_with fail;refine aT a.out ?_;rintro w' ⟨q,rfl⟩;obtain⟨d1,o⟩:=i.out q;go_wp2_with fail;refine(g.out q x).mono ?_;exact Ly
 | none=>
  rw[l]at a;simp only[o',ou]at a⊢
  go_in
  go_wp2_with fail;refine br j.out ?_;go_wp2_with fail;refine aT a.out ?_;rintro w' ⟨q,rfl⟩;obtain⟨d1,o⟩:=i.out q;go_wp2_with fail;refine(g.out q last).mono ?_;exact Ly
end
section
variable{w w':ai}{D first next:J}{last:aa}{K cR:ah (J×aa)}
def l0(n:J)(L:ah (J×aa)):ah (J×aa):=L.filter λp=>!decide (p.1<n)
def P6(h:IsFeed w D first next last K cR)(k:first<=next)(f:aa)(a:f<first):az 149 #[.pointer (some (ad (D+4) 0 ab)),I f] w λe w'=>zY e/\IsFeed w' D first next last K cR/\Keeps (λb=>jU D b) w w':=by
 have b0:=h.b0;have bs:=h.bs;have g:min f (next:aa)=f:=U;have H:=af h
 go_in
 go_wp2_with fail;refine aT ((HA h.used f (.inl a))) ?_;rintro an ⟨j,hk⟩;have d:=(H.out.keep hk).bu;go_wp2_with fail;refine aT (HA (H.out.keep hk).known f (.inl a)) ?_;rintro aB ⟨i,c⟩;go_wp2_with fail;go_ret;exact⟨⟨_,rfl⟩,(H.out.keep hk).keep c,kQ (hk.trans c)⟩
def P5(h:IsFeed w D first next last K cR)(n:J)(f:aa)(au:first<=n/\n<=1073741824)(c:(f=n/\n<=next)\/(n=next/\(next:aa)<f)):az 149 #[.pointer (some (ad (D+4) 0 ab)),I f] w λe w'=>zY e/\IsFeed w' D n next last (l0 n K) (l0 n cR)/\Keeps (λb=>jU D b) w w':=by
 have b0:=h.b0;have bs:=h.bs;have d:=af au;rcases c with⟨c,h1⟩|⟨c,h1⟩
 .have r:f<=(next:aa):=U;have q:min f (next:aa)=f:=U;have h2:¬ (next:aa)<f:=U;have l:=af c;have H:=af h;clear h c au h1
  go_in
  go_wp2_with fail;refine aT (x3 H.o.used n f l.o d.out) ?_;rintro an ⟨j,hk⟩;have m:=hk.cell (p:=ad (D+4) 0 ab) H.out.bu aI;have i:=H.out.known.keeps hk U U;go_wp2_with fail;refine aT (x3 i n _ l.out d.out) ?_;rintro aB ⟨g,a⟩;have hfin:IsFeed aB D n next last (l0 n K) (l0 n cR):=⟨a.heap (hk.heap H.out.head U) U,g,j.keeps a U U⟩
  have k:Keeps (λb=>jU D b) w aB:=(hk.mono (λb _ e=>uM)).trans (a.mono (λb _ e=>uM));go_wp2_with fail;go_ret;exact⟨⟨_,rfl⟩,hfin,k⟩
 have q:min f (next:aa)=next:=U
 have H:=af h
 go_in
 go_wp2_with fail;refine aT ((x3 h.used n (next:aa) U au)) ?_;rintro an ⟨j,hk⟩;have m:=hk.cell (p:=ad (D+4) 0 ab) H.out.bu aI;have i:=H.out.known.keeps hk U U;go_wp2_with fail;refine aT (x3 i n _ ((show(next:aa)=(n:aa)by omega)) d.out) ?_;rintro aB ⟨g,a⟩;have hfin:IsFeed aB D n next last (l0 n K) (l0 n cR):=⟨a.heap (hk.heap H.out.head U) U,g,j.keeps a U U⟩
 have k:Keeps (λb=>jU D b) w aB:=(hk.mono (λb _ e=>uM)).trans (a.mono (λb _ e=>uM));go_wp2_with fail;go_ret;exact⟨⟨_,rfl⟩,hfin,k⟩
def i'(K:ah (J×aa)):ah (J×aa)->b4 J
 | []=>none
 | (g,y) :: r=>match dB K g with
  | some x=>if x=y then i' K r else some g
  | none=>i' K r
def vt(h:IsFeed w D first next last K cR):az 152 #[.pointer (some (ad (D+4) 0 ab))] w λe w'=>e=aV #[I (((i' K cR).getD 0:J):aa),.bool (i' K cR).isSome]/\Keeps aG w w':=by
 have b0:=h.b0;have H:∀ j (c:j<cR.length),dB cR cR[j].1=some cR[j].2:=λj c=>by
  obtain⟨S,_,ax⟩:=h.used;exact Bn ax.ef (og c)
 have L:∀ j (c:j<cR.length),cR[j].1<=1073741824:=λj c=>h.used.S1 _ (og c);obtain⟨c7,z⟩:∃ c7,i' K cR=c7:=⟨_,rfl⟩;rw[z];have F:=af z;have V:=h.used.le.1
 go_in
 go_wp2_with fail;refine(Hy h.used).mono ?_;rintro e an ⟨v,rfl,P,aj⟩;obtain⟨A,cap,rfl,aX,_⟩:=cP P;have t:Keeps aG w an:=Keeps.bE aj a7;have O:(cR.map (·.1)).length=cR.length:=aI;rw[O]at aX⊢;go_wp2_with fail;go_loopg [18] 64 (λg i wr=>∃ j:J,g=64-j/\j<=cR.length/\i=I j/\Hid (i' K (cR.drop j)=c7)/\Keeps aG an wr)
 case atStart=>exact⟨0,rfl,c' _,rfl,F,Keeps.refl _ _⟩
 obtain⟨j,a1,c,rfl,B,k⟩:=hrel;by_cases m:j<cR.length
 .obtain⟨b,o,rfl,aq⟩:=aX.at' U;have R:an.cell? (ad b (o+j) ab)=some (I (cR[j].1:J)):=aq _ _ (by simp[kP,hW,m]);have W:=k.cell R id;have N:=H j m;have au:=L j m;have a:=B.out;rw[p9 m]at a;have r:=h.keep (t.trans k);have T:=r.b0;generalize cR[j]=p at *;obtain⟨f,y⟩:=p;have s:=Hz r.used (f:aa) U;rw[tE,N]at s;simp only[hK,pa]at s;have C:=af s;have G:∀ q,az 227 #[.pointer (some (ad (D+4) 0 ab)),I (f:aa)] (wr.drewN q) λe w'=>e=aV #[aF ((dB K f).getD 0),.bool (dB K f).isSome]/\∃ l,w'=(wr.drewN q).drewN l:=λq=>by
   have:=Gi (r.drew q) (f:aa) U
   rwa [tE]at this
  have d:=af G;simp only[i']at a;cases u:dB K f with
  | none=>
   rw[u]at a d;simp only[o',ou]at a d;have E:=af a;exact Mz
  | some x=>
   rw[u]at a d;simp only[hK,pa]at a d;by_cases n:x=y
   .rw[aD n]at a;have E:=af a;have Q:(x != y)=false:=by simp[n]
    exact Mz
   rw[aA n]at a;subst a;have Q:(x != y)=true:=by simp[n]
   have M:=t.trans k;go_wp2_with fail;refine aT C.out ?_;rintro aB ⟨q,rfl⟩;go_wp2_with fail;refine aT (d.out q) ?_;rintro bn ⟨l,rfl⟩;go_wp2_with fail;go_ret2;exact⟨rfl,M.drewN (q+l)⟩
 have a:=B.out;rw[Dk U]at a;simp only[i']at a;subst a;go_wp2_with fail;go_ret2;exact⟨rfl,(t.trans k)⟩
end
variable{α:Type}
def ep(g:J->α)(f n:J):ah (J×α):=(range (n-f)).map λi=>(f+i,g (f+i))
def r7(g:J->α){f n:J}(h:n<=f):ep g f n=[]:=by
 unfold ep;rw[show n-f=0 by omega];rfl
def wa(g:J->α){f n:J}(h:f<=n):ep g f (n+1)=ep g f n++[(n,g n)]:=by
 unfold ep;rw[show n+1-f=(n-f)+1 by omega,q',jO,zn,show f+(n-f)=n by omega]
def t_{g:J->α}{f n:J}{p:J×α}(h:p∈ep g f n):f<=p.1/\p.1<n/\p.2=g p.1:=by
 obtain⟨i,av,rfl⟩:=fu.1 h
 have:=ph.1 av
 exact⟨uO,uO,rfl⟩
theorem IH:∀ (L:ah (J×α)) (n:J) (x:α),(∀ p∈L,p.1<n)->eY L n x=L++[(n,x)]
 | [],n,x,_=>rfl
 | (g,y) :: r,n,x,h=>by
  have h1:=h (g,y) aI;unfold eY;rw[aA U,IH r n x (λp ar=>h p (by simp[ar]))];rfl
def v_(g:J->α){f n:J}(h:f<=n):eY (ep g f n) n (g n)=ep g f (n+1):=by
 rw[wa g h,IH _ _ _ (λp ar=>(t_ ar).2.1)]
theorem H2:∀ (L:ah (J×α)) (n j:J) (x:α),(∀ p∈L,p.1<n)->dB (L++[(n,x)]) j=if j=n then some x else dB L j
 | [],n,j,x,_=>by
  simp only[oi,dB];by_cases e:n=j
  .rw[aD e,aD e.symm]
  rw[aA e,aA (λc=>e c.symm)]
 | (g,y) :: r,n,j,x,h=>by
  have h1:=h (g,y) aI;simp only[ku,dB];by_cases e:g=j
  .rw[aD e,aD e,aA U]
  rw[aA e,aA e,(H2 r n j x (λp ar=>h p (by simp[ar])))]
theorem pZ(g:J->α)(f j:J):∀ n,dB (ep g f n) j=if f<=j/\j<n then some (g j)else none
 | 0=>by rw[r7 g lU,if_neg lU];rfl
 | n+1=>by
  by_cases h:f<=n
  .rw[wa g h,H2 _ _ _ _ (λp ar=>(t_ ar).2.1),pZ g f j n];by_cases e:j=n
   .subst e;rw[aD rfl,aD U]
   rw[aA e];by_cases c:f<=j/\j<n
   .rw[aD c,aD U]
   rw[aA c,aA U]
  rw[r7 g U,aA U];rfl
def Jw(g:J->α)(f n:J)(j:J):gL (ep g f n) (j:aa)=if f<=j/\j<n then some (g j)else none:=by
 rw[tE,pZ]
theorem B8(g:J->α){f m:J}(h:f<=m):∀ d,ep g f (m+d)=ep g f m++ep g m (m+d)
 | 0=>by rw[r7 g (show m+0<=m by omega),eX];rfl
 | d+1=>by
  rw[show m+(d+1)=(m+d)+1 by omega,wa g (show f<=m+d by omega),wa g (show m<=m+d by omega),B8 g h d,dD]
def tZ(g:J->α){f m n:J}(h:f<=m)(au:m<=n):((ep g f n).filter λp=>!decide (p.1<m))=ep g m n:=by
 obtain⟨d,rfl⟩:∃ d,n=m+d:=⟨n-m,U⟩;rw[B8 g h d,q5,filter_eq_nil_iff.2 (λp ar=>by have:=(t_ ar).2.1;simp;omega),oi,ni.2 (λp ar=>by have:=(t_ ar).1;simp;omega)]
theorem KU(K:ah (J×aa)):∀ cR:ah (J×aa),(∀ p∈cR,dB K p.1=none\/dB K p.1=some p.2)->i' K cR=none
 | [],_=>rfl
 | (g,y) :: r,h=>by
  have h1:=h (g,y) aI;have a:=KU K r (λp ar=>h p (by simp[ar]));unfold i';rcases h1 with h1|h1
  .simp only at h1;rw[h1];exact a
  simp only at h1;rw[h1];simp[a]
def fP(f n:J):ah (J×aa):=ep (λ_=>0) f n
def CT(f n a m:J):i' (fP f n) (fP a m)=none:=by
 refine KU _ _ λp ar=>?_;unfold fP;rw[pZ];split
 .exact .inr (by rw[(t_ ar).2.2])
 exact .inl rfl
end Go.Proofs.YtalagblioepadaaGreatDoor
