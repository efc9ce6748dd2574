/- The proof, part 40. -/
import Derived.Test.YtalagblioepadaaGreatDoorZc39
namespace Go.Proofs.YtalagblioepadaaGreatDoor
set_option linter.all false
open Proofs.Tryz List Go.RowKit Go.Shelf Go.Maps
set_option maxRecDepth 100000
set_option maxHeartbeats 2000000
def EA{p:ak}(h:p:=by rw[e]at c;exact c):p:=h
def ME{p:ak}(h:p:=by simpa using λc=>mm e.k (by rw[c]at h;exact h)):p:=h
def Mz{p:ak}(h:p:=by simpa using λh2=>mm _ (q0 h ((kV _ _).1 h2))):p:=h
def Mx{p:ak}(h:p:=by rw[<-h];simpa only[fZ]using λh2=>aw ((kV _ _).1 h2)):p:=h
def MU{p:ak}(h:p:=by
 go_wp2_with fail;refine pk aH aH ?_
 repeat (go_big_quiet_step (first|(go_at_call 234;exact Calls.kl (o.out _))))
 refine wpQuiet_nil ?_;intro _ i;have⟨x,j⟩:=i;subst j;go_wp2_with fail
 all_goals
  go_ret;exact⟨aK,cb.trans (x.below.mono cb.size)⟩
 ):p:=h
def Nt{p:ak}(h:p:=by
 refine dq (v:=aV #[.agg (dk pL),false]) O ?_;exact(T'.out _ _).2 ⟨by rw[L.o.2];rfl,by rw[L.o.1];exact K.o.1,K.o.2.mono λ_ _ x=>x.elim⟩
 ):p:=h
def NF{p:ak}(h:p:=by
 go_roundg rest.length
 case measure=>omega
 exact⟨pre++[e],rest,aag.out.1,rfl,qx,⟨_,_,_,rfl⟩,ZW.o⟩
 ):p:=h
def L_{p:ak}(h:p:=by
 exact(T'.out _ _).2 ⟨by rw[L.o.2];rfl,by rw[L.o.1];exact K.o.1,K.o.2⟩
 ):p:=h
def iZ(L:ah aB)(k:de):b5 aB:=L.find? λe=>decide (e.k=k)
def lF(L:ah aB)(e:aB):ah aB:=(L.filter λx=>decide (eE x.k e.k<0))++e :: L.filter λx=>decide (eE e.k x.k<0)
def QI(L:ah aB)(k:de):h6 (il L) k=(iZ L k).map λe=>.agg e.br.toArray:=by
 unfold h6 iZ il;rw[find?_map,D0];rfl
def A1{L:ah aB}{k:de}{o:aB}(h:iZ L k=some o):o∈L/\o.k=k:=⟨zJ h,by simpa using find?_some h⟩
def x1{L:ah aB}{k:de}(h:iZ L k=none):∀ x∈L,x.k≠k:=λx a=>by simpa using find?_eq_none.1 h x a
def GU{L:ah aB}(h:en L){o:aB}(f:o∈L):iZ L o.k=some o:=by
 cases d:iZ L o.k with
 | none=>exact absurd rfl (x1 d o f)
 | some p=>
  have⟨h1,h2⟩:=A1 d;rw[H9 (h.imp λ{a b} c (e:a.k=b.k)=>mm b.k EA) h1 f h2]
def Xu(L:ah aB)(e:aB):(L.filter λx=>!decide (x.k=e.k)).Perm ((L.filter λx=>decide (eE x.k e.k<0))++L.filter λx=>decide (eE e.k x.k<0)):=by
 induction L with
 | nil=>exact zB _
 | cons a l b=>
  rcases v7 a.k e.k with h|h|h
  .rw[ru ME,ru (by simpa using(kV _ _).2 h),oB Mz];exact b.cons a
  .have aw:¬ ku a.k a.k:=mm _;rw[oB ik,oB Mx,oB Mx];exact b
  rw[ru ME,oB Mz,ru (by simpa using(kV _ _).2 h)];exact(b.cons a).trans qq.symm
def yn(L:ah aB)(e:aB):(lF L e).Perm (e :: L.filter λx=>!decide (x.k=e.k)):=by
 exact qq.trans ((Xu L e).symm.cons e)
def UT(L:ah aB)(e:aB):(lR (il L) e.k (.agg e.br.toArray)).Perm (il (lF L e)):=by
 refine Perm.trans ?_ ((yn L e).map λe=>(e.k,Value.agg e.br.toArray)).symm;have a:kX (il L) e.k=(L.filter λx=>!decide (x.k=e.k)).map λe=>(e.k,Value.agg e.br.toArray):=by
  unfold kX il;rw[rv];rfl
 unfold lR;rw[a];exact perm_append_singleton _ _
def HV{L:ah aB}(h:en L)(e:aB):en (lF L e):=by
 refine pq.2 ⟨h.sublist DM,jg.2 ⟨λx a=>?_,h.sublist DM⟩,λx a y b=>?_⟩
 .exact(kV _ _).1 (by simpa using(eR.1 a).2)
 have h1:=(kV _ _).1 (by simpa using(eR.1 a).2);rcases e6.1 b with c|b
 .rw[c];exact h1
 exact q0 h1 ((kV _ _).1 (by simpa using(eR.1 b).2))
def v_{L:ah aB}{e x:aB}:x∈lF L e↔x=e\/(x∈L/\x.k≠e.k):=by
 rw[(yn L e).mem_iff,e6,eR];simp
def HW{L:ah aB}{e:aB}(h:iZ L e.k=none):(lF L e).length=L.length+1:=by
 rw[(yn L e).length_eq,mG,nA.2 λx a=>by simpa using x1 h x a]
def HX{L:ah aB}(h:en L){e o:aB}(i:iZ L e.k=some o):(lF L e).length=L.length:=by
 rw[(yn L e).length_eq,mG];have⟨h1,h2⟩:=A1 i;have hd:=h.imp λ{a b} c (e:a.k=b.k)=>mm b.k EA;clear i h
 induction L with
 | nil=>cases h1
 | cons a l m=>
  obtain⟨d1,d2⟩:=jg.1 hd;rcases e6.1 h1 with f|g
  .rw[<-f,oB (by simpa using h2),mG,nA.2 λx j=>by simpa using λd=>d1 x j (by rw[<-f,h2,d])]
  rw[ru (by simpa using λd=>d1 o g (by rw[d,h2])),mG,m g d2,mG]
def js(most:aa)(L:ah aB)(e:aB):ah aB:=match iZ L e.k with
 | some o=>if o=e then L else lF L e
 | none=>if most<=L.length then L else lF L e
def lh(most now:aa)(L:ah aB)(e:aB):b5 ca:=match iZ L e.k with
 | some o=>if o=e then none else some ⟨2,e,0,false⟩
 | none=>if most<=L.length then none else some ⟨1,e,now-e.k.fr,false⟩
def e9(most now:aa)(L:ah aB)(xs:ah aB):ah aB×ah ca:=xs.foldl (λp e=>(js most p.1 e,p.2++(lh most now p.1 e).toList)) (L,[])
def rh(most now:aa)(L:ah aB)(xs:ah aB)(e:aB):e9 most now L (xs++[e])=(js most (e9 most now L xs).1 e,(e9 most now L xs).2++(lh most now (e9 most now L xs).1 e).toList):=by
 unfold e9;rw[nB];rfl
def XH{most:aa}{L:ah aB}(h:en L)(e:aB):en (js most L e):=by
 unfold js;split<;>split<;>first|exact h|exact HV h e
def XI{most:aa}{L:ah aB}(h:en L)(a:(L.length:aa)<=most)(e:aB):((js most L e).length:aa)<=most:=by
 unfold js;split
 .rename_i o b;split
  .exact a
  rw[HX h b];exact a
 rename_i b;split
 .exact a
 rw[HW b];omega
def XJ{most:aa}{L:ah aB}{e x:aB}(h:x∈js most L e):x=e\/x∈L:=by
 unfold js at h;split at h<;>split at h<;>first|exact .inr h|exact(v_.1 h).imp id And.left
def fY(T:aa->ah aB)(f:aa)(xs:ah aB):aa->ah aB:=λx=>if x=f then xs else T x
def ns(s:cD)(fr:aa)(xs:ah aB):cD:={s with bf:=(e9 s.most 0 (hM s.bf (gg xs (fX s.bf fr))) xs).1,bW:=fY s.bW fr xs}
def kC(s:cD)(fr:aa)(xs:ah aB)(now:aa):ah ca:=iE xs (fX s.bf fr)++(e9 s.most now (hM s.bf (gg xs (fX s.bf fr))) xs).2
def XF(most now a:aa)(L xs:ah aB):(e9 most now L xs).1=(e9 most a L xs).1:=by
 rw[<-kI xs]
 induction xs.reverse with
 | nil=>rfl
 | cons e l b=>rw[l4,rh,rh,b]
def gE(L xs:ah aB):ah aB×ah ca:=xs.foldl (λp e=>(hM p.1 [e],p.2++[⟨4,e,0,(iZ p.1 e.k).isSome⟩])) (L,[])
def qM(L xs:ah aB)(e:aB):gE L (xs++[e])=(hM (gE L xs).1 [e],(gE L xs).2++[⟨4,e,0,(iZ (gE L xs).1 e.k).isSome⟩]):=by
 unfold gE;rw[nB];rfl
def jJ(s:cD)(f:aa):cD:={s with bf:=(gE s.bf (s.bW f)).1,bW:=fY s.bW f [],aN:=f}
def hL(s:cD)(f:aa):ah ca:=(gE s.bf (s.bW f)).2
def kp(s:cD):ah ca:=if s.hd then []else s.bf.map λo=>⟨3,o,0,false⟩
def gO(s:cD):cD:=if s.hd then s else {s with hd:=true,bf:=[]}
structure bJ where
 x:ck
 aE:b9
 ld:cD
 own:ah (aa×aa)
 wt:ah (aa×aa)
 ct:aa
 b1:aY
 reason:aa
abbrev cl:=bJ×ah ca
def lD(l:ah (aa×aa))(f:aa):b5 aa:=(l.find? λp=>decide (p.1=f)).map Prod.snd
def ly(l:ah (aa×aa))(f:aa):ah (aa×aa):=l.filter λp=>!decide (p.1=f)
def q4(l:ah (aa×aa))(f v:aa):ah (aa×aa):=ly l f++[(f,v)]
def fT(r:aa)(p:cl):cl:=if p.1.b1 then p else({p.1 with b1:=true,reason:=r,ld:=gO p.1.ld},p.2++kp p.1.ld)
def eX(p:cl):cl:=if p.1.aE.state=2 then fT 12 p else p
def ib(now:aa)(p:cl)(g:J×ah aB):cl:=({p.1 with ld:=ns p.1.ld g.1 g.2},p.2++kC p.1.ld g.1 g.2 now)
def cM(s:bJ):cl:=match fJ s.x with
 | none=>(s,[])
 | some g=>(mu s.x g (s.x.now-g)).foldl (ib s.x.now) ({s with x:=replay s.x g (s.x.now-g)},[])
def hB(f v:aa)(p:cl):cl:=match lD p.1.own f with
 | some u=>if u=v then p else fT 13 p
 | none=>if p.1.ld.aN+1<f/\lD p.1.wt f=none/\p.1.wt.length<8 then({p.1 with wt:=q4 p.1.wt f v},p.2)else p
def sc(s:bJ)(f:J):bJ:={s with own:=ly (q4 s.own f (iQ (gU s.x f))) (f-128),aE:=lT s.aE f (iQ (gU s.x f))}
def iM(f:J)(p:cl):cl:=match lD p.1.wt f with
 | some u=>hB f u ({sc p.1 f with wt:=ly p.1.wt f},p.2)
 | none=>(sc p.1 f,p.2)
def eH(p:cl):cl:=
 let q:cl:=({p.1 with ld:=jJ p.1.ld (p.1.ld.aN+1)},p.2++hL p.1.ld (p.1.ld.aN+1))
 if (p.1.ld.aN+2)%16=0 then iM (p.1.ld.aN+2).toNat q else q
def eA:J->cl->cl
 | 0,p=>p
 | n+1,p=>if p.1.b1\/cY p.1.x<=p.1.ld.aN then p else eA n (eH p)
def jr(p:cl):cl:=eA (cY p.1.x-p.1.ld.aN).toNat p
def c_(s:bJ):J:=(s.x.f s.x.aL).next
def bN(s:bJ):J:=(fv s.x).next
def h8(s:bJ):aa:=s.x.now-bN s
def sD(s:bJ):aY:=decide (4<h8 s-s.ct)&&decide (s.aE.b_%2=1)
def ek(s:bJ)(v:aR):bJ:={s with x:=gx s.x s.x.aL v.toNat,aE:=j' s.aE (c_ s) v}
def lj(p:cl):cl:=ib p.1.x.now ({p.1 with x:={jd p.1.x p.1.x.now with now:=p.1.x.now+1}},p.2) (p.1.x.now,hi p.1.x p.1.x.now)
def gd(s:bJ):aY:=decide (s.aE.state=1)&&(!sD s&&!jn s.x)
def ei(v:aR)(p:cl):cl:=if gd p.1 then lj (ek p.1 v,p.2)else p
def dV(x:ck):ck:=if cY x<0 then x else rU x (cY x).toNat
def da(v:aR)(s:bJ):cl:=jr (ei v (cM s))
def kZ(p:cl):cl:=eX ({p.1 with x:=dV p.1.x,aE:=(c1 p.1.aE (h8 {p.1 with x:=dV p.1.x})).2},p.2)
def cA(v:aR)(s:bJ):cl:=if s.b1 then({s with aE:=(c1 s.aE 0).2},[])else kZ (da v s)
def ff(v:aR)(s:bJ):ah a1:=if s.b1 then(c1 s.aE 0).1 else(c1 (da v s).1.aE (h8 {(da v s).1 with x:=dV (da v s).1.x})).1
def dN(s:bJ):aY:=!s.b1&&gd (cM s).1
def fk(x:ck)(l:ah aR):ck:=l.foldl (λx b=>gx x (1-x.aL) b.toNat) x
def fj(h:bG)(s:bJ):cl:=if h.kind=4 then hB h.frame h.sum (s,[])else if h.kind=6 then({s with ct:=h.lead},[])else(s,[])
def i'(t:ah aR)(s:bJ):aa:=if s.b1 then 12 else(cJ s.aE t).2.1
def df(t:ah aR)(s:bJ):cl:=if s.b1 then(s,[])else if (cJ s.aE t).2.1≠0 then({s with aE:=(cJ s.aE t).2.2},[])
 else eX (fj (cJ s.aE t).1 {s with x:=fk s.x (cJ s.aE t).1.a8,aE:=(cJ s.aE t).2.2})
def fV(s:bJ):cl:=if s.b1 then(s,[])else fT 12 ({s with aE:=mc s.aE},[])
variable{w w':ai}
structure dI where
 low:aa
 high:aa
 tE:aa
 Km:aa
 k:de
 x:aa
 y:aa
instance:Coe dI (a6 ax):=⟨λe=>#[I e.low,I e.high,I e.tE,I e.Km,I e.k.fr,I e.k.em,I e.k.bL,I e.k.cq,ag e.x,ag e.y]⟩
instance:Inhabited dI:=⟨⟨0,0,0,0,⟨0,0,0,0⟩,0,0⟩⟩
def lP(p:dI):a6 ax:=p
def dI.br(p:dI):ah ax:=(lP p).toList
def dZ(l:ah dI):ah ax:=l.flatMap dI.br
def sb(l:ah dI):(dZ l).length=l.length*10:=by unfold dZ;exact tC (k:=10) (λ_=>rfl) l
def US(l:ah dI)(i:J)(h:i<l.length)(j:J)(a:j<10):(dZ l)[i*10+j]?=l[i].br[j]?:=by unfold dZ;exact x3 (k:=10) (λ_=>rfl) l i h j a
def I5(e:dI):(lP e).toList.all (λv=>v.oneCell')=true:=rfl
def B_:∀ x:dI,∀ v∈x.br,v.oneCell'=true:=λx=>fg.1 (I5 x)
def VU(w:ai):(Instr.alloc 296 true (aV #[])).run prog w=.ok w.heap.size (w.alloc (ae #[I 0,I 0,I 0,I 0,I 0,I 0,I 0,I 0,ag 0,ag 0] 296)):=aH
def I7:Go.Shelf.Ren:=⟨fun|6=>228|n=>n,fun|0=>0|3=>3|4=>4|22=>289|23=>296|25=>297|n=>n,fun|n=>n⟩
def UR:SlLaysH0.n6 prog I7:={
 mixed:=aH
 f6:=⟨f228.name,bq,func228.trans (cV some aH)⟩
 t0:=underlying0
 a0:=isAgg0
 z0:=sizeOf0
 v0:=zeroValue0
 t3:=underlying3
 a3:=isAgg3
 z3:=sizeOf3
 v3:=zeroValue3
 t4:=underlying4
 a4:=isAgg4
 z4:=sizeOf4
 v4:=zeroValue4
 t22:=underlying289
 a22:=isAgg289
 z22:=sizeOf289
 v22:=zeroValue289
 t25:=underlying297
 a25:=isAgg297
 z25:=sizeOf297
 v25:=zeroValue297}
abbrev Oa(g:J)(lb:a6 ax)(p:dI->aY)(w:ai):ak:=PredBelow prog g lb (λx:dI=>.agg x.br.toArray) p w
def I6{base:J}{v:ax}{xs:ah dI}(h:w.ownsRow base 296 10 v xs.length (dZ xs))(ar:xs.length<=1000)(p:dI->aY)(g:J)(lb:a6 ax)(n:∀ args w,(callFunc g args).run prog w=.ok (.enter g args) w)(au:Oa g lb p w):aA 228 #[v,.func (.func g) #[] lb] w λe w'=>Below w w w'/\((e=.returned (I (-1))/\∀ x∈xs,p x=false)\/∃ i,∃ aw:i<xs.length,e=.returned (I i)/\p xs[i]=true/\∀ j (k:j<xs.length),j<i->p xs[j]=false):=by
 rcases h.2 with⟨rfl,q⟩|⟨b,cap,D,rfl,aZ,aJ,al,hm,av,aO⟩
 .obtain rfl:=jx.1 q;clear au h
  go_in
  exact EC
 obtain⟨A,C,s,aW,_⟩:=cS h;cases s;refine(AnyQ.slices_IndexFunc (P:=prog) (ρ:=I7) UR 10 isAgg296 sizeOf296 dI.br (λ_=>rfl) p g lb n b 0 xs.length cap xs w au bs U (bP aJ) (λj k i u m=>?_)).mono ?_
 .have aw:i<10:=by
   have:=(hp.1 m).1
   exact this
  have⟨B,o,e,r⟩:=aW.at' U;cases e;rw[show 0+j*10+i=0+(j*10+i)by omega];refine r (j*10+i) u ?_;rw[US xs j k i aw]
  rwa [ji xs j k]at m
 rintro e w' ⟨rfl,h2⟩;rw[nE];refine⟨h2,?_⟩;rcases idxByFrom_spec (λ_ y=>p y) default xs 0 with⟨a,l⟩|⟨f,d,a,aO,l⟩
 .refine .inl ⟨Ez,λx c=>?_⟩;obtain⟨t,aO,rfl⟩:=sQ.1 c
  have:=l t aO
  rwa [ji xs t aO]at this
 refine .inr ⟨f,d,Es,Ej,λj k z=>?_⟩
 have:=l j z
 rwa [ji xs j k]at this
def JI(W:ai):(zeroValue 296).run prog W=.ok (aQ #[I 0,I 0,I 0,I 0,I 0,I 0,I 0,I 0,ag 0,ag 0]) W:=aH
def N7(w:ai)(base:J)(v:ax)(ys:ah dI)(e:Ending)(w':ai):ak:=
 ∃ v',e=.returned v'/\w'.ownsRow base 296 10 v' ys.length (dZ ys)/\Keeps (λj=>v.ownBlock=some j) w w'/\v'.ownBlock=v.ownBlock
def UP{base:J}{v:ax}{xs:ah dI}(h:w.ownsRow base 296 10 v xs.length (dZ xs))(ar:xs.length<=1000)(p:dI->aY)(g:J)(lb:a6 ax)(vl:∀ args w,(callFunc g args).run prog w=.ok (.enter g args) w)(au:∀ W,Keeps (λj=>v.ownBlock=some j) w W->∀ x:dI,Calls prog g (#[.agg x.br.toArray]++lb) W λe W'=>e=.returned (.bool (p x))/\Below W W W'):aA 153 #[v,.func (.func g) #[] lb] w (N7 w base v (xs.filter λx=>!p x)):=by
 have a':=I6 h ar p g lb vl (λW x aj=>(au W (Keeps.bD aj a7) x).mono λ_ _ h=>⟨h.1,aj.trans (h.2.mono aj.size)⟩);have F:=af a';have sd:=af au;have r':=af h;clear a' au;rcases h.2 with⟨rfl,Z⟩|⟨r,cap,ZI,rfl,aZ,aJ,al,hm,av,aO⟩
 .obtain rfl:=jx.1 Z;clear h Z ar
  go_in
  exact MZ
 have Aw:=bP aJ;clear aZ aJ hm av aO h
 go_in
 go_wp2_with fail;refine F.out.mono ?_;rintro e ao ⟨aj,h1⟩;have A:Keeps (λj=>(aq (some (ad r 0 ab)) xs.length cap).ownBlock=some j) w ao:=Keeps.bD aj a7;have B:=b4 r'.out (Keeps.bD (S:=aI) aj a7) (λ_ _=>id);clear aj F;rcases h1 with⟨rfl,q⟩|⟨K,w',rfl,l',q⟩
 .exact Na
 have c:KeptI (λx=>!p x) xs xs K (K+1):=KeptI.start w' (by simp[l']) (λj z zd=>by simp[q j z zd]);have Q':((K:aa) == -1)=false:=eu.2 U;have m:=af (bB c (bB B A));clear l' q c B A;go_wp2_with fail;go_loopg [5,6,7] xs.length (λgv T' iN _ wr=>∃ (i j:J) (ys:ah dI),T'=I i/\iN=I j/\xs.length-j<=gv/\KeptI (λx=>!p x) xs ys i j/\wr.ownsRow base 296 10 (aq (some (ad r 0 ab)) xs.length cap) xs.length (dZ ys)/\Keeps (λj=>(aq (some (ad r 0 ab)) xs.length cap).ownBlock=some j) w wr)
 case atStart=>exact⟨K,K+1,xs,rfl,by go_num,U,m.o⟩
 obtain⟨i,j,ys,rfl,rfl,ZJ,a,G,H⟩:=hrel;have ZK:=a.lt;have ZL:=a.le;have Tq:=a.len;clear m Q';by_cases t:j<xs.length
 .have f:=og (P:=prog) (enc:=dI.br) (λ_=>rfl) isAgg296 sizeOf296 G j U;rw[a.at' t]at f;have dw:=VU wr;have O:=aX wr (ae #[I 0,I 0,I 0,I 0,I 0,I 0,I 0,I 0,ag 0,ag 0] 296);obtain⟨c,ZM,mv⟩:=dP (wr.alloc (ae #[I 0,I 0,I 0,I 0,I 0,I 0,I 0,I 0,ag 0,ag 0] 296)) 296 10 wr.heap.size (lP xs[j]) _ sizeOf296 rfl rfl O (I5 xs[j]);have N:=fl (wr.alloc (ae #[I 0,I 0,I 0,I 0,I 0,I 0,I 0,I 0,ag 0,ag 0] 296)) wr.heap.size _ (lP xs[j]) 296 O;have R:=cL ((ba wr).alloc (ae #[I 0,I 0,I 0,I 0,I 0,I 0,I 0,I 0,ag 0,ag 0] 296)) mv a7;generalize (wr.alloc (ae #[I 0,I 0,I 0,I 0,I 0,I 0,I 0,I 0,ag 0,ag 0] 296)).setRow wr.heap.size (lP xs[j])=V' at *;have V:=H.trans (R.mono λ_ _ x=>x.elim);have fr:=b4 G R (λ_ _=>id);have Q:=sd.out V' V xs[j];have n:=gz (P:=prog) 296 10 wr.heap.size 0 (lP xs[j]) _ _ isAgg296 sizeOf296 rfl N (λj u z=>jZ);have ZN:=l7 Aw H.size;have CW:(j:aa)<(xs.length:aa):=U;have M:=af a;have s':=af N;have l:=af (bB V fr);clear a G H O mv R V fr N;obtain⟨y,X⟩:∃ y,y=xs[j]:=⟨_,rfl⟩;rw[<-X]at f c n Q;have D:=af Q;have E:=af X;clear X Q;cases s:p y with
  | false=>
   go_wp2_with first|refine dp f rfl rfl rfl ?_|refine d_ dw rfl rfl ?_|refine c8 c rfl rfl rfl rfl ?_|(go_at_fn g;refine D.out.mono ?_;rintro e Y ⟨rfl,k⟩;rw[s];have b:=Keeps.bD (S:=aI) k a7;have g':=b.heap s'.out id;have gf:=b4 l.out.2 b (λ_ _=>id);obtain⟨ZG,St,C,L⟩:=yW (P:=prog) (enc:=dI.br) (λ_=>rfl) B_ sizeOf296 gf i U y;have zp:=gz (P:=prog) 296 10 wr.heap.size 0 (lP y) _ _ isAgg296 sizeOf296 rfl g' (λj u z=>Et);have d:=af (bB C ((l.out.1.trans (b.mono λ_ _ x=>x.elim)).trans (L.mono λ_ _ x=>vg)));clear C L gf g' b k)|refine dp zp rfl rfl rfl ?_|refine dp n rfl rfl rfl ?_|refine c8 St rfl rfl rfl rfl ?_
   exact ED
  | true=>
   exact D'
 obtain rfl:j=xs.length:=U;have CW:¬ (xs.length:aa)<(xs.length:aa):=U;obtain⟨ZG,v',C,L⟩:=yV (P:=prog) (TS:=289) (enc:=dI.br) (λ_=>rfl) underlying289 JI rfl bq G i U Tq;have m':=H.trans (L.mono (T:=λj=>(aq (some (ad r 0 ab)) xs.length cap).ownBlock=some j) λ_ _ x=>vg);have h2:=a.done;have hd:=a.count;rw[h2]at C;have d:=af (bB C (bB m' hd));clear C m' hd h2 a G H;go_wp2_with refine wL (v' _ _) rfl rfl rfl ?_
 go_ret;exact⟨_,rfl,Eu,d.o.2.1,rfl⟩
structure eT where
 v:kk
 ok:v.wf
instance:Inhabited eT:=⟨⟨⟨⟨⟨0,0,1,0⟩,1,0,0,0,0⟩,0,0⟩,⟨bq,bq,bq,bq⟩⟩⟩
def mD(x:eT):a6 ax:=x.v
def eT.br(x:eT):ah ax:=(mD x).toList
def vcs(l:ah eT):ah ax:=l.flatMap eT.br
def YO(l:ah eT)(i:J)(h:i<l.length)(j:J)(a:j<12):(vcs l)[i*12+j]?=l[i].br[j]?:=by unfold vcs;exact x3 (k:=12) (λ_=>rfl) l i h j a
def KW(e:eT):(mD e).toList.all (λv=>v.oneCell')=true:=rfl
def ze:∀ x:eT,∀ v∈x.br,v.oneCell'=true:=λx=>fg.1 (KW x)
def VV(w:ai):(Instr.alloc 175 true (aV #[])).run prog w=.ok w.heap.size (w.alloc (ae ox 175)):=aH
def KZ:Go.Shelf.Ren:=⟨fun|6=>295|n=>n,fun|0=>0|3=>3|4=>4|22=>71|23=>175|25=>362|n=>n,fun|n=>n⟩
def YN:SlLaysH0.n6 prog KZ:={
 mixed:=aH
 f6:=⟨f295.name,bq,func295.trans (cV some aH)⟩
 t0:=underlying0
 a0:=isAgg0
 z0:=sizeOf0
 v0:=zeroValue0
 t3:=underlying3
 a3:=isAgg3
 z3:=sizeOf3
 v3:=zeroValue3
 t4:=underlying4
 a4:=isAgg4
 z4:=sizeOf4
 v4:=zeroValue4
 t22:=underlying71
 a22:=isAgg71
 z22:=sizeOf71
 v22:=zeroValue71
 t25:=underlying362
 a25:=isAgg362
 z25:=sizeOf362
 v25:=zeroValue362}
abbrev Ob(g:J)(lb:a6 ax)(p:eT->aY)(w:ai):ak:=PredBelow prog g lb (λx:eT=>.agg x.br.toArray) p w
def KX{base:J}{v:ax}{xs:ah eT}(h:w.ownsRow base 175 12 v xs.length (vcs xs))(ar:xs.length<=1000)(p:eT->aY)(g:J)(lb:a6 ax)(n:∀ args w,(callFunc g args).run prog w=.ok (.enter g args) w)(au:Ob g lb p w):aA 295 #[v,.func (.func g) #[] lb] w λe w'=>Below w w w'/\((e=.returned (I (-1))/\∀ x∈xs,p x=false)\/∃ i,∃ aw:i<xs.length,e=.returned (I i)/\p xs[i]=true/\∀ j (k:j<xs.length),j<i->p xs[j]=false):=by
 rcases h.2 with⟨rfl,q⟩|⟨b,cap,D,rfl,aZ,aJ,al,hm,av,aO⟩
 .obtain rfl:=jx.1 q
  go_in
  exact EC
 obtain⟨A,C,s,aW,_⟩:=cS h;cases s;refine(AnyQ.slices_IndexFunc (P:=prog) (ρ:=KZ) YN 12 isAgg175 sizeOf175 eT.br (λ_=>rfl) p g lb n b 0 xs.length cap xs w au bs U (bP aJ) (λj k i u m=>?_)).mono ?_
 .have aw:i<12:=by
   have:=(hp.1 m).1
   exact this
  have⟨B,o,e,r⟩:=aW.at' U;cases e;rw[show 0+j*12+i=0+(j*12+i)by omega];refine r (j*12+i) u ?_;rw[YO xs j k i aw]
  rwa [ji xs j k]at m
 rintro e w' ⟨rfl,h2⟩;rw[nE];refine⟨h2,?_⟩;rcases idxByFrom_spec (λ_ y=>p y) default xs 0 with⟨a,l⟩|⟨f,d,a,aO,l⟩
 .refine .inl ⟨Ez,λx c=>?_⟩;obtain⟨t,aO,rfl⟩:=sQ.1 c
  have:=l t aO
  rwa [ji xs t aO]at this
 refine .inr ⟨f,d,Es,Ej,λj k z=>?_⟩
 have:=l j z
 rwa [ji xs j k]at this
def Wj(W:ai):(zeroValue 175).run prog W=.ok (aQ ox) W:=aH
def N8(w:ai)(base:J)(v:ax)(ys:ah eT)(e:Ending)(w':ai):ak:=
 ∃ v',e=.returned v'/\w'.ownsRow base 175 12 v' ys.length (vcs ys)/\Keeps (λj=>v.ownBlock=some j) w w'/\v'.ownBlock=v.ownBlock
def YF{base:J}{v:ax}{xs:ah eT}(h:w.ownsRow base 175 12 v xs.length (vcs xs))(ar:xs.length<=1000)(p:eT->aY)(g:J)(lb:a6 ax)(vl:∀ args w,(callFunc g args).run prog w=.ok (.enter g args) w)(au:∀ W,Keeps (λj=>v.ownBlock=some j) w W->∀ x:eT,Calls prog g (#[.agg x.br.toArray]++lb) W λe W'=>e=.returned (.bool (p x))/\Below W W W'):aA 232 #[v,.func (.func g) #[] lb] w (N8 w base v (xs.filter λx=>!p x)):=by
 have w':=KX h ar p g lb vl (λW x aj=>(au W (Keeps.bD aj a7) x).mono λ_ _ h=>⟨h.1,aj.trans (h.2.mono aj.size)⟩);have Z:=af w';have sd:=af au;have r':=af h;rcases h.2 with⟨rfl,v'⟩|⟨r,cap,ZJ,rfl,aZ,aJ,al,hm,av,aO⟩
 .obtain rfl:=jx.1 v'
  go_in
  go_wp2_with fail;refine Z.out.mono ?_;rintro e ao ⟨aj,h1⟩;obtain rfl:e=.returned (I (-1)):=by
   rcases h1 with h1|⟨i,aw,_⟩
   .exact h1.1
   simp at aw
  have ps:=af aj;go_wp2;go_ret;exact⟨_,rfl,gI _ _ _ _,Keeps.bD ps.o a7,rfl⟩
 have Q':=bP aJ
 go_in
 go_wp2_with fail;refine Z.out.mono ?_;rintro e ao ⟨aj,h1⟩;have H:Keeps (λj=>(aq (some (ad r 0 ab)) xs.length cap).ownBlock=some j) w ao:=Keeps.bD aj a7;have L:=b4 r'.out (Keeps.bD (S:=aI) aj a7) (λ_ _=>id);rcases h1 with⟨rfl,C⟩|⟨G,zp,rfl,l',C⟩
 .have h2:(xs.filter λx=>!p x)=xs:=nA.2 λa bd=>by simp[C a bd]
  have q:=b6 h2 (bB L H);clear C h2 L H;go_wp2;go_ret;exact⟨_,rfl,by rw[q.o.1];exact q.o.2.1,q.o.2.2,rfl⟩
 have c:KeptI (λx=>!p x) xs xs G (G+1):=KeptI.start zp (by simp[l']) (λj z Aw=>by simp[C j z Aw]);have Tq:((G:aa) == -1)=false:=eu.2 U;have q:=b6 c (bB L H);clear l' C c L H;go_wp2_with fail;go_loopg [5,6,7] xs.length (λgv ZG iN _ wr=>∃ (i j:J) (ys:ah eT),ZG=I i/\iN=I j/\xs.length-j<=gv/\KeptI (λx=>!p x) xs ys i j/\wr.ownsRow base 175 12 (aq (some (ad r 0 ab)) xs.length cap) xs.length (vcs ys)/\Keeps (λj=>(aq (some (ad r 0 ab)) xs.length cap).ownBlock=some j) w wr)
 case atStart=>exact⟨G,G+1,xs,rfl,by go_num,U,q.o⟩
 obtain⟨i,j,ys,rfl,rfl,ZK,m,B,F⟩:=hrel;have ZL:=m.lt;have ZM:=m.le;have V':=m.len;clear q Tq;by_cases t:j<xs.length
 .have f:=og (P:=prog) (enc:=eT.br) (λ_=>rfl) isAgg175 sizeOf175 B j U;rw[m.at' t]at f;have dw:=VV wr;have O:=aX wr (ae ox 175);obtain⟨c,ZN,mv⟩:=dP (wr.alloc (ae ox 175)) 175 12 wr.heap.size (mD xs[j]) _ sizeOf175 rfl rfl O (KW xs[j]);have N:=fl (wr.alloc (ae ox 175)) wr.heap.size _ (mD xs[j]) 175 O;have R:=cL ((ba wr).alloc (ae ox 175)) mv a7;generalize (wr.alloc (ae ox 175)).setRow wr.heap.size (mD xs[j])=ZH at *;have V:=F.trans (R.mono λ_ _ x=>x.elim);have a':=b4 B R (λ_ _=>id);have Q:=sd.out ZH V xs[j];have n:=gz (P:=prog) 175 12 wr.heap.size 0 (mD xs[j]) _ _ isAgg175 sizeOf175 rfl N (λj u z=>jZ);have ZO:=l7 Q' F.size;have St:(j:aa)<(xs.length:aa):=U;have M:=af m;have s':=af N;have l:=b6 V a';clear m B F O mv R V a' N;obtain⟨y,X⟩:=cO xs[j];rw[<-X]at f c n Q;have D:=af Q;have E:=af X;clear X Q;cases s:p y with
  | false=>
   go_wp2_with first|refine dp f rfl rfl rfl ?_|refine d_ dw rfl rfl ?_|refine c8 c rfl rfl rfl rfl ?_|(go_at_fn g;refine D.out.mono ?_;rintro e Y ⟨rfl,k⟩;rw[s];have b:=Keeps.bD (S:=aI) k a7;have gf:=b.heap s'.out id;have fr:=b4 l.out.2 b (λ_ _=>id);obtain⟨ZI,T',A,K⟩:=yW (P:=prog) (enc:=eT.br) (λ_=>rfl) ze sizeOf175 fr i U y;have CW:=gz (P:=prog) 175 12 wr.heap.size 0 (mD y) _ _ isAgg175 sizeOf175 rfl gf (λj u z=>Et);have d:=af (bB A ((l.out.1.trans (b.mono λ_ _ x=>x.elim)).trans (K.mono λ_ _ x=>vg)));clear A K fr gf b k)|refine dp CW rfl rfl rfl ?_|refine dp n rfl rfl rfl ?_|refine c8 T' rfl rfl rfl rfl ?_
   exact ED
  | true=>
   exact D'
 obtain rfl:j=xs.length:=U;have St:¬ (xs.length:aa)<(xs.length:aa):=U;obtain⟨ZI,zd,A,K⟩:=yV (P:=prog) (TS:=71) (enc:=eT.br) (λ_=>rfl) underlying71 Wj rfl bq B i U V';have m':=F.trans (K.mono (T:=λj=>(aq (some (ad r 0 ab)) xs.length cap).ownBlock=some j) λ_ _ x=>vg);have hd:=m.done;have g':=m.count;rw[hd]at A;have d:=b6 A (bB m' g');clear A m' g' hd m B F;go_wp2_with refine wL (zd _ _) rfl rfl rfl ?_
 go_ret;exact⟨_,rfl,Eu,d.o.2.1,rfl⟩
section
variable{P:Program}{o:Oper}{a:Act}{C:ai->ak}
def Lf{ops:a6 Oper}{Q:Act->ak}{rest:ah Oper}{t:TypeId}{m x:Operand}{c:aY}{mv key v:ax}(hrun:∀ w,C w->(Instr.lookup t mv key c).run P w=.ok v w)(aZ:o.guard=none)(b:o.op=.lookup t m x c)(hm:a.eval m=mv)(e:a.eval x=key)(hk:wpQuiet P ops C Q rest (a.put o.dst v)):wpQuiet P ops C Q (o :: rest) a:=by
 unfold wpQuiet;rw[aD Ep];refine⟨v,λw d=>?_,hk⟩;unfold Oper.quietAt execOp;simp only[b,hm,e,hG,hrun w d,hq,ig];exact⟨rfl,rfl⟩
def Dg{K:Act->ai->ak}{Q:Exit->Act->ai->ak}{t:TypeId}{m x y:Operand}{mv key v:ax}(b:o.op=.mapUpdate t m x y)(hm:a.eval m=mv)(c:a.eval x=key)(d:a.eval y=v)(hrun:(Instr.mapUpdate t mv key v).run P w=.ok () w')(h:K (a.put o.dst undef) w'):o.wp P a w K Q:=by
 unfold Oper.wp;simp only[execOp,b,hm,c,d,hG,hrun,hq,ig];exact h
end
def vD:aB:=⟨⟨0,0,0,0⟩,0,0,0,0,0⟩
def pL:ca:=⟨0,vD,0,false⟩
structure qC(w:ai)(B:dF)(s:cD)(e:aB)(W:ai):ak where
 ld:IsLd W B s
 bM:W.heap[w.heap.size]?=some (ae e 45 (0,0))
 rs:W.heap[w.heap.size+1]?=some (ae nv 47 (0,0))
 cv:Keeps aI w W
def qC.keep{B:dF}{s:cD}{e:aB}{W W':ai}(h:qC w B s e W)(hk:Keeps aI W W'):qC w B s e W':=⟨h.ld.kr hk,hk.heap h.bM id,hk.heap h.rs id,h.cv.trans hk⟩
def IsLd.find{B:dF}{s:cD}(h:IsLd w B s)(k:de)(hk:hC k=true):(Instr.lookup 115 (.map (some B.db)) (aQ k) true).run prog w=.ok (aV #[.agg (dT ((iZ s.bf k).getD vD)),.bool (iZ s.bf k).isSome]) w:=by
 have h1:=h.bf.look qX (x:=k) hk underlying115 (z:=aQ z9) (λw=>aH);rw[QI]at h1;refine h1.trans ?_;cases iZ s.bf k<;>rfl
def IsLd.put{B:dF}{s:cD}(h:IsLd w B s)(e:aB)(b:hC e.k=true)(c:((lF s.bf e).length:aa)<=s.most):∃ w',(Instr.mapUpdate 115 (.map (some B.db)) (aQ e.k) (aQ e)).run prog w=.ok () w'/\IsLd w' B {s with bf:=lF s.bf e}/\Keeps (λj=>j=B.db) w w':=by
 have ar:=h.cp;have⟨w',h1,h2,a⟩:=h.bf.store qX (x:=e.k) b underlying115 (by unfold il maxLen;rw[gV];omega) (.agg e.br.toArray);exact⟨w',h1,h.Cx (h2.perm (UT s.bf e)) a (HV h.dL e) c,a⟩
def Fl(w:ai)(B:dF)(s:cD)(e:aB)(now:aa)(r:Ending)(w':ai):ak:=
 r=aV #[.agg (dk ((lh s.most now s.bf e).getD pL)),.bool (lh s.most now s.bf e).isSome]/\IsLd w' B {s with bf:=js s.most s.bf e}/\Keeps (λj=>j=B.db) w w'
def VY(w:ai):(Instr.build 47 #[]).run prog w=.ok (.agg (dk pL)) w:=aH
def Y9{P:Program}{o:Oper}{a:Act}{C:ai->ak}{ops:a6 Oper}{Q:Act->ak}{rest:ah Oper}{t:TypeId}{m:Operand}{mv v:ax}(hrun:∀ w,C w->(Builtin.len_ #[t] o.type #[mv]).run P w=.ok v w)(aZ:o.guard=none)(b:o.op=Op.call {callee:=Callee.builtin Builtin.len,args:=#[m],argTypes:=#[t]})(hm:a.eval m=mv)(hk:wpQuiet P ops C Q rest (a.put o.dst v)):wpQuiet P ops C Q (o :: rest) a:=by
 unfold wpQuiet;rw[aD Ep];refine⟨v,λw c=>?_,hk⟩;unfold Oper.quietAt;simp[execOp,b,resolve,invoke,builtin,hm,hrun w c,Result.andThen];exact⟨rfl,rfl⟩
theorem IsLd.len{B:dF}{s:cD}(h:IsLd w B s)(ty:TypeId):(Builtin.len_ #[115] ty #[.map (some B.db)]).run prog w=.ok (I s.bf.length) w:=by
 have h1:=h.bf.len underlying115 ty;unfold il at h1;rw[gV]at h1;exact h1
def S8{B:dF}{s:cD}(h:IsLd w B s)(e:aB)(he:hC e.k=true)(now:aa)(ZH:0<=now/\now<=1000000):aA 275 #[B.b,aQ e,I now] w (Fl w B s e now):=by
 have St:∀ r w',Fl w B s e now r w'↔(r=aV #[.agg (dk ((lh s.most now s.bf e).getD pL)),.bool (lh s.most now s.bf e).isSome]/\IsLd w' B {s with bf:=js s.most s.bf e}/\Keeps (λj=>j=B.db) w w'):=λ_ _=>Iff.rfl;have T':=af St;clear St;obtain⟨o,D⟩:=cO ((iZ s.bf e.k).getD vD);obtain⟨p,au⟩:=cO (iZ s.bf e.k).isSome;have ps:=((ba w).alloc (ae e 45)).alloc (ae nv 47);have TS:(w.alloc (ae e 45)).heap.size=w.heap.size+1:=aK;have zp:=cm (aX w (ae e 45)) (ae nv 47);have m':=aX (w.alloc (ae e 45)) (ae nv 47);rw[TS]at m';have an:qC w B s e _:=⟨h.kr ps,zp,m',ps⟩;have vl:=af an;clear ps TS zp m' an
 go_in
 go_wp2_with fail;generalize World.alloc (World.alloc w _) _=ao at *;have gf:=vl.o.keep (ba ao).drew;have H:=λx:bp (λW=>qC w B s e W)=>aS x.held.ld.gh;have a':=λx:bp (λW=>qC w B s e W)=>aS x.held.bM;have CW:∀ W,(∃ x:bp (λW=>qC w B s e W),W=x.to)->(Instr.lookup 115 (.map (some B.db)) (aQ e.k) true).run prog W=.ok (aV #[.agg (dT o),.bool p]) W:=λW ⟨x,G⟩=>by
  rw[G,D,au];exact x.held.ld.find e.k he
 have dw:=q7 ao.drew;have⟨aC,Tq,zd,Aw,ZI⟩:=tq ao.drew o;have ys:=gf.keep ((ba ao.drew).alloc (ae z9 45));have a:=gf.keep Aw;have l:=af a;have v':=b6 D au;have s':=af h;clear vl Aw D au h;go_wp2_with fail;refine cH 13 ?_;refine cI (λW=>qC w B s e W) (.range 13) 0 13 ?_;refine p0 (gf) (.range 10) 3 λhne=>?_
 repeat (first|(refine Lf CW rfl rfl rfl rfl ?_;simp only[Act.put,c7])|go_big_quiet_step (fail))
 refine wpQuiet_nil ?_;clear hne;refine q2 10 ys (qi rfl dw) ?_;refine q2 11 a (nu rfl rfl rfl Tq) ?_;simp only[Act.put];refine h_ 12 a ?_;clear ys a gf;clear H a' CW Tq dw;have h:=s'.o;have hd:=v'.o;clear v' s';cases f:iZ s.bf e.k with
 | some V'=>
  rw[f]at hd;obtain⟨D,au⟩:o=V'/\p=true:=hd;subst D au;have d:js s.most s.bf e=if o=e then s.bf else lF s.bf e:=by unfold js;rw[f]
  have c:lh s.most now s.bf e=if o=e then none else some ⟨2,e,0,false⟩:=by unfold lh;rw[f]
  by_cases N:o=e
  .rw[aD N]at d c;have L:=b6 d c;have E:=Gz o e;rw[ee N]at E;have lb:=af E;clear d c N E f h;have bl:=jQ zd;have le:=jQ (e:=e) l.out.bM;have A:=JE aC;obtain⟨F,O,g⟩:=dP aC 47 12 (w.heap.size+1) (dk pL) _ sizeOf47 rfl rfl (l.out.rs) (qJ _);have m:∀ j,(λj=>j=w.heap.size+1) j->pE aC B j:=λj C=>by
    cases C;exact(l.out.ld).free (l.out.rs) bq bq
   have q:=(l.out.ld).keep g m;have t:=cL (l.out.cv) g a7;have K:=b6 q t;clear q t g m;generalize World.setRow aC (w.heap.size+1) (dk pL)=r' at *;go_wp2_with first|((with_reducible refine zm bl ?_ rfl ?_ ?_);(first|rfl|simp[go_sem]);exact rfl)|((with_reducible refine zm le ?_ rfl ?_ ?_);(first|rfl|simp[go_sem]);exact rfl)|((with_reducible refine uG (tK Ho _ _ _ _ _) (lb.o _) ?_ rfl ?_ ?_ ?_);(first|rfl|simp[go_sem]);exact rfl;exact rfl)|(with_reducible refine Dc A rfl rfl ?_)|((with_reducible refine c8 F rfl rfl ?_ ?_ ?_);exact rfl;exact rfl)
   exact Nt
  rw[az N]at d c;have L:=b6 d c;have E:=Gz o e;rw[dd N]at E;have lb:=af E;have h2:=af (show((lF s.bf e).length:aa)<=s.most by rw[HX h.dL f];exact h.n.1);clear d c N E f h;have bl:=jQ zd;have le:=jQ (e:=e) l.out.bM;go_upto_region 5 with(first|((with_reducible refine zm bl ?_ rfl ?_ ?_);(first|rfl|simp[go_sem]);exact rfl)|((with_reducible refine zm le ?_ rfl ?_ ?_);(first|rfl|simp[go_sem]);exact rfl)|((with_reducible refine uG (tK Ho _ _ _ _ _) (lb.o _) ?_ rfl ?_ ?_ ?_);(first|rfl|simp[go_sem]);exact rfl;exact rfl)|fail)
  clear bl le;have a:=l.out.keep (ba aC).drew;have H:=iq (S:=aI) (w:=aC.drew) a.ld.gh id;have a':=iq (S:=aI) (w:=aC.drew) a.bM id;have Z:∀ W,(∃ x:g_ aI aC.drew,W=x.to)->(Instr.loadAt 45 w.heap.size).run prog W=.ok (aQ e) W:=λW ⟨x,G⟩=>by rw[G];exact jQ (e:=e) (x.keeps.heap a.bM id)
  have⟨y,V,Q,u⟩:=a.ld.put e he h2.o;have P:=u.heap a.bM (λe=>ng a.ld.bf _ _ _ (e▸a.bM));have X:=u.heap a.rs (λe=>ng a.ld.bf _ _ _ (e▸a.rs));have Y:=(a.cv.mono (T:=λj=>j=B.db) (λ_ _ x=>x.elim)).trans u;have i:=b6 Q (bB P (bB X Y));clear a Q u P X Y;refine cH 8 ?_;refine o7 (λ_=>False) (.range 7) [] 1 ?_
  repeat (first|(refine ke Z rfl rfl rfl ?_;simp only[Act.put,c7])|go_big_quiet_step (fail))
  refine wpQuiet_nil ?_;refine hP ?_;refine cI (λ_=>True) [7] 0 1 ?_;refine o_ 7 trivial (Dg rfl rfl rfl rfl V) ?_;simp only[Act.put];clear H a' Z V;have le:=jQ (e:=e) i.o.2.1;have A:=V4 e;obtain⟨F,O,g⟩:=dP y 47 12 (w.heap.size+1) (dk ⟨2,e,0,false⟩) _ sizeOf47 rfl rfl (i.o.2.2.1) (qJ _);have m:∀ j,(λj=>j=w.heap.size+1) j->pE y B j:=λj C=>by
   cases C;exact(i.o.1).free (i.o.2.2.1) bq bq
  have q:=(i.o.1).keep g m;have t:=cL (i.o.2.2.2) g a7;have K:=b6 q t;clear q t g m;generalize World.setRow y (w.heap.size+1) (dk ⟨2,e,0,false⟩)=r' at *;go_wp2_with first|((with_reducible refine dp le rfl rfl ?_ ?_);exact rfl)|((with_reducible refine sG (A _) rfl rfl ?_ ?_ ?_);exact rfl;exact rfl)|((with_reducible refine c8 F rfl rfl ?_ ?_ ?_);exact rfl;exact rfl)
  refine dq (v:=aV #[.agg (dk ⟨2,e,0,false⟩),true]) O ?_;exact L_
 | none=>
  rw[f]at hd;obtain⟨D,au⟩:o=vD/\p=false:=hd;subst D au;have d:js s.most s.bf e=if s.most<=s.bf.length then s.bf else lF s.bf e:=by unfold js;rw[f]
  have c:lh s.most now s.bf e=if s.most<=s.bf.length then none else some ⟨1,e,now-e.k.fr,false⟩:=by unfold lh;rw[f]
  have R:=h.n;have sd:=b6 d (bB c (bB R f));clear d c R f h;go_upto_region 7 with fail
  have g':=l.out.keep (ba aC).drew;have H:=iq (S:=aI) (w:=aC.drew) g'.ld.gh id;have Q':∀ W,(∃ x:g_ aI aC.drew,W=x.to)->(Builtin.len_ #[115] 3 #[.map (some B.db)]).run prog W=.ok (I s.bf.length) W:=λW ⟨x,G⟩=>by rw[G];exact(g'.ld.kr x.keeps).len 3
  have z:=af g';clear g' l;refine cH 11 ?_;refine o7 (λ_=>False) (.range 11) [] 0 ?_
  repeat (first|(refine Y9 Q' rfl rfl rfl ?_;simp only[Act.put,c7])|go_big_quiet_step (fail))
  refine wpQuiet_nil ?_;refine hP ?_;refine iu ?_;clear H Q';generalize aC.drew=bm at *;have⟨d,c,R,f⟩:=sd.o;clear sd;by_cases M:s.most<=s.bf.length
  .rw[aD M]at d c;have L:=b6 d c;have l':=ee M;rw[l'];clear d c M R f;have A:=VY bm;obtain⟨F,O,g⟩:=dP bm 47 12 (w.heap.size+1) (dk pL) _ sizeOf47 rfl rfl (z.o.rs) (qJ _);have m:∀ j,(λj=>j=w.heap.size+1) j->pE bm B j:=λj C=>by
    cases C;exact(z.o.ld).free (z.o.rs) bq bq
   have q:=(z.o.ld).keep g m;have t:=cL (z.o.cv) g a7;have K:=b6 q t;clear q t g m;generalize World.setRow bm (w.heap.size+1) (dk pL)=r' at *;go_wp2_with first|(with_reducible refine Dc A rfl rfl ?_)|((with_reducible refine c8 F rfl rfl ?_ ?_ ?_);exact rfl;exact rfl)
   exact Nt
  rw[az M]at d c;have L:=b6 d c;have l':=dd M;rw[l'];have h2:=af (show((lF s.bf e).length:aa)<=s.most by rw[HW f];omega);have W':0<=e.k.fr/\e.k.fr<=1073741824:=by
   have mv:=he;unfold hC fU at mv;simp only[d',fZ]at mv;exact mv.1.1.1
  have ZG:IntKind.i64.wrap (now-e.k.fr)=now-e.k.fr:=ev _ U;clear d c M R W' f;go_upto_region 9 with fail
  have l:=z;clear z;have a:=l.out.keep (ba bm).drew;have H:=iq (S:=aI) (w:=bm.drew) a.ld.gh id;have a':=iq (S:=aI) (w:=bm.drew) a.bM id;have Z:∀ W,(∃ x:g_ aI bm.drew,W=x.to)->(Instr.loadAt 45 w.heap.size).run prog W=.ok (aQ e) W:=λW ⟨x,G⟩=>by rw[G];exact jQ (e:=e) (x.keeps.heap a.bM id)
  have⟨y,V,Q,u⟩:=a.ld.put e he h2.o;have P:=u.heap a.bM (λe=>ng a.ld.bf _ _ _ (e▸a.bM));have X:=u.heap a.rs (λe=>ng a.ld.bf _ _ _ (e▸a.rs));have Y:=(a.cv.mono (T:=λj=>j=B.db) (λ_ _ x=>x.elim)).trans u;have i:=b6 Q (bB P (bB X Y));clear a Q u P X Y;refine cH 8 ?_;refine o7 (λ_=>False) (.range 7) [] 1 ?_
  repeat (first|(refine ke Z rfl rfl rfl ?_;simp only[Act.put,c7])|go_big_quiet_step (fail))
  refine wpQuiet_nil ?_;refine hP ?_;refine cI (λ_=>True) [7] 0 1 ?_;refine o_ 7 trivial (Dg rfl rfl rfl rfl V) ?_;simp only[Act.put];clear H a' Z V;have le:=jQ (e:=e) i.o.2.1;have bt:=aS i.o.2.1;have A:=V3 e (now-e.k.fr) y;obtain⟨F,O,g⟩:=dP y 47 12 (w.heap.size+1) (dk ⟨1,e,now-e.k.fr,false⟩) _ sizeOf47 rfl rfl (i.o.2.2.1) (qJ _);have m:∀ j,(λj=>j=w.heap.size+1) j->pE y B j:=λj C=>by
   cases C;exact(i.o.1).free (i.o.2.2.1) bq bq
  have q:=(i.o.1).keep g m;have t:=cL (i.o.2.2.2) g a7;have K:=b6 q t;clear q t g m;generalize World.setRow y (w.heap.size+1) (dk ⟨1,e,now-e.k.fr,false⟩)=r' at *;go_wp2_with first|((with_reducible refine dp le rfl rfl ?_ ?_);exact rfl)|((with_reducible refine Dd A rfl rfl ?_ ?_ ?_ ?_);exact rfl;exact rfl;exact rfl)|((with_reducible refine c8 F rfl rfl ?_ ?_ ?_);exact rfl;exact rfl)
  refine dq (v:=aV #[.agg (dk ⟨1,e,now-e.k.fr,false⟩),true]) O ?_;exact L_
theorem filter_one(a:aa):∀ L:ah aa,L.Pairwise (·≠·)->L.length<=(L.filter λy=>!decide (y=a)).length+1
 | [],_=>by simp
 | b :: l,h=>by
  obtain⟨h1,h2⟩:=jg.1 h;by_cases e:b=a
  .subst e;rw[oB aK,nA.2 λy d=>by simpa using λc=>h1 y d c.symm];simp
  rw[ru (by simpa using e)]
  have:=filter_one a l h2
  simp only[ds];omega
theorem A0:∀ (N:J) (L:ah aa),L.Pairwise (·≠·)->(∀ x∈L,0<=x/\x<N)->L.length<=N
 | 0,L,_,b=>by
  cases L with
  | nil=>simp
  | cons a l=>have:=b a mI;omega
 | N+1,L,h,b=>by
  have h1:=filter_one N L h;have h2:=A0 N (L.filter λy=>!decide (y=(N:aa))) (h.filter _) λx e=>by
   obtain⟨c,d⟩:=eR.1 e
   have:=b x c
   simp at d;omega
  omega
section
variable{dz:Type}[DecidableEq dz]
def GV(M:ah (dz×ax))(k x:dz):h6 (kX M k) x=if x=k then none else h6 M x:=by
 unfold h6 kX;rw[find?_filter];split
 .rename_i e;subst e;rw[zG.2 aK];rfl
 rename_i e;refine cV (Option.map Prod.snd) (cV (λq=>find? q M) (funext λp=>?_));by_cases h:p.1=x
 .simp[h,e]
 simp[h]
def QH(M:ah (dz×ax))(k x:dz)(v:ax):h6 (lR M k v) x=if x=k then some v else h6 M x:=by
 have h:=GV M k x;unfold h6 lR at *;rw[find?_append];split
 .rename_i e;rw[aD e]at h;rw[Option.map_eq_none_iff.1 h,e];simp
 rename_i e;rw[az e]at h;rw[<-h]
 have:([(k,v)]:ah (dz×ax)).find? (λp=>decide (p.1=x))=none:=by simpa using λc:k=x=>e c.symm
 rw[this,Option.or_none]
end
def IsLd.A8{B:dF}{s:cD}(h:IsLd w B s){j:J}(a:pE w B j):¬ B.S j:=by
 rintro(e|e|e|⟨p,au,e⟩)
 .exact a.1 e
 .exact a.2.1 e
 .exact a.2.2.1 e
 have⟨b,al⟩:=IT (h.row au) e;exact a.2.2.2 b al
def IsLd.TB{B:dF}{s:cD}(h:IsLd w B s):B.M.length<=1000001:=by
 have:=A0 1000001 (B.M.map Prod.fst) (sS.2 h.bW.1.pN) λx a=>by
  obtain⟨p,au,rfl⟩:=e3.1 a
  have:=h.bW.2.2 p au
  omega
 rwa [gV]at this
def IsLd.note{B:dF}{s:cD}(h:IsLd w B s){fr:aa}{xs:ah aB}{base:J}{v:ax}(aW:w.ownsRow base 45 9 v xs.length (bX xs))(au:eL fr xs)(g:0<=fr/\fr<=1000000):∃ w',(Instr.mapUpdate 116 (.map (some B.hn)) (I fr) v).run prog w=.ok () w'/\IsLd w' {B with M:=lR B.M fr v} {s with bW:=fY s.bW fr xs}/\Keeps (λj=>j=B.hn) w w':=by
 have⟨w',h1,h2,b⟩:=h.bW.1.store tN (x:=fr) (wf_i64 U) underlying116 (by have:=h.TB;unfold maxLen;omega) v;refine⟨w',h1,h.J5 h2 b (λx=>?_) (λp au=>?_) (λx=>?_),b⟩
 .rw[QH];have d:∀ {u:ax} {l:ah ax} {n c:J},w.ownsRow c 45 9 u n l->w'.ownsRow c 45 9 u n l:=λf=>b4 f b λj i e=>mq f h.bW.1 i e;unfold fY;by_cases e:x=fr
  .rw[aD e,aD e];exact d (kB aW (c' _))
  rw[az e,az e];have a:=h.bW.2.1 x;cases al:h6 B.M x with
  | none=>rw[al]at a;exact a
  | some u=>rw[al]at a;exact d a
 .unfold lR at au;rcases e5.1 au with au|au
  .exact h.bW.2.2 p (eR.1 au).1
  rw[fL.1 au];exact g
 unfold fY;split
 .rename_i e;rw[e];exact au
 exact h.bh x
structure xp(w:ai)(B:dF)(w':ai)(jD:dF)(s':cD):ak where
 ld:IsLd w' jD s'
 b:jD.b=B.b
 db:jD.db=B.db
 hn:jD.hn=B.hn
 S:∀ j,jD.S j->B.S j\/w.heap.size<=j
 cv:Keeps B.S w w'
def Fp(w:ai)(B:dF)(s:cD)(fr:aa)(xs:ah aB)(now:aa)(e:Ending)(w':ai):ak:=
 ∃ v jD,e=aV #[v,I 0]/\w'.ownsRow w.heap.size 47 12 v (kC s fr xs now).length (ep (kC s fr xs now))/\xp w B w' jD (ns s fr xs)/\∀ j,v.ownBlock=some j->¬ jD.S j
def CH(most now:aa)(L xs:ah aB):(e9 most now L xs).2.length<=xs.length:=by
 rw[<-kI xs]
 induction xs.reverse with
 | nil=>simp[e9]
 | cons e l a=>
  rw[l4,rh,cx,cx,iT]
  have:(lh most now (e9 most now L l.reverse).1 e).toList.length<=1:=by cases lh most now (e9 most now L l.reverse).1 e<;>simp
  omega
def yX(w:ai):(Instr.alloc 47 true (aV #[])).run prog w=.ok w.heap.size (w.alloc (ae nv 47)):=aH
def xG(w:ai)(c:ca):∃ w',(Instr.storeAt 47 w.heap.size (.agg (dk c))).run prog (w.alloc (ae nv 47))=.ok () w'/\w'.heap[w.heap.size]?=some (ae (dk c) 47 (0,0))/\Keeps aI w w'/\w'.heap.size=w.heap.size+1:=by
 have a:=aX w (ae nv 47);obtain⟨d,e,b⟩:=dP (w.alloc (ae nv 47)) 47 12 w.heap.size (dk c) _ sizeOf47 rfl rfl a (qJ c);refine⟨_,d,fl (w.alloc (ae nv 47)) w.heap.size _ (dk c) 47 a,cL ((ba w).alloc (ae nv 47)) b a7,?_⟩;simp[World.setRow]
theorem Is{b:J}{c:ca}(h:w.heap[b]?=some (ae (dk c) 47 (0,0))):(Instr.loadAt 47 b).run prog w=.ok (.agg (dk c)) w:=
 gz (P:=prog) 47 12 b 0 (dk c) _ _ isAgg47 sizeOf47 rfl h (λj u z=>jZ)
structure oQ(w:ai)(B:dF)(s:cD)(L:ah aB)(cs:ah ca)(xs:ah aB)(fr now:aa)(v:ax)(pre:ah aB)(cw:ax)(W:ai):ak where
 out:W.ownsRow (w.heap.size+1) 47 12 cw (cs++(e9 s.most now L pre).2).length (ep (cs++(e9 s.most now L pre).2))
 ld:IsLd W B {s with bf:=(e9 s.most now L pre).1}
 cv:Keeps (λj=>j=B.db) w W
 bh:W.heap[w.heap.size]?=some (ae #[I fr,v] 271 (0,0))
 rx:∃ base,W.ownsRow base 45 9 v xs.length (bX xs)
 cE:w.heap.size+1<=W.heap.size
def oQ.keep{B:dF}{s:cD}{L:ah aB}{cs:ah ca}{xs:ah aB}{fr now:aa}{v:ax}{pre:ah aB}{cw:ax}{W W':ai}(h:oQ w B s L cs xs fr now v pre cw W)(hk:Keeps aI W W'):oQ w B s L cs xs fr now v pre cw W':=by
 have⟨base,a⟩:=h.rx;exact⟨b4 h.out hk (λ_ _=>id),h.ld.kr hk,h.cv.trans (hk.mono λ_ _ x=>x.elim),hk.heap h.bh id,⟨base,b4 a hk (λ_ _=>id)⟩,b7 h.cE hk.size⟩
theorem oQ.bf{B:dF}{s:cD}{L:ah aB}{cs:ah ca}{xs:ah aB}{fr now:aa}{v:ax}{pre:ah aB}{cw:ax}{W W':ai}(h:oQ w B s L cs xs fr now v pre cw W)(hk:Keeps (λj=>j=B.db) W W'):W'.ownsRow (w.heap.size+1) 47 12 cw (cs++(e9 s.most now L pre).2).length (ep (cs++(e9 s.most now L pre).2))/\Keeps (λj=>j=B.db) w W'/\W'.heap[w.heap.size]?=some (ae #[I fr,v] 271 (0,0))/\(∃ base,W'.ownsRow base 45 9 v xs.length (bX xs))/\w.heap.size+1<=W'.heap.size:=by
 have⟨base,b⟩:=h.rx;have hm:=h.ld.bf;exact⟨b4 h.out hk (λj a e=>mq h.out hm a e),h.cv.trans hk,hk.heap h.bh (λe=>ng hm _ _ _ (e▸h.bh)),⟨base,b4 b hk (λj a e=>mq b hm a e)⟩,b7 h.cE hk.size⟩
def S0{B:dF}{s:cD}(h:IsLd w B s)(aJ:s.hd=false){fr now:aa}{xs:ah aB}{base:J}{v:ax}(aW:w.ownsRow base 45 9 v xs.length (bX xs))(au:eL fr xs)(aal:0<=fr)(ar:fr<=now/\now<=1000000)(al:s.aN<fr):aA 210 #[B.b,aQ #[I fr,v],I now] w (Fp w B s fr xs now):=by
 have Aw:Keeps aI w (w.alloc (ae #[I fr,v] 271)):=(Keeps.refl _ w).alloc _;have ZQ:=b4 aW Aw (λ_ _=>id);have W':=aX w (ae #[I fr,v] 271);have h1:=h.kr Aw;have aan:(w.alloc (ae #[I fr,v] 271)).heap.size=w.heap.size+1:=aK;have T':=af (S3 h1 aJ ZQ au ar al);have Z_:∀ e∈xs,hC e.k=true:=λe y=>(uj (au.2.2 e y).1).1;have Z7:∀ e∈s.bf,hC e.k=true:=λe y=>h.bf.ok (e.k,.agg e.br.toArray) (e3.2 ⟨e,y,rfl⟩);have l:=b6 h1 (bB ZQ (bB W' (bB Aw (bB Z_ (bB Z7 au)))));have Z6:=au.2.1;have Z0:=af (show ∀ j,B.S j->j<w.heap.size from λj a=>h.lt a);obtain⟨A,cap,rfl,_,_⟩:=cS aW;have ZU:=aS W'
 go_in
 go_wp2_with fail;generalize w.alloc _=ao at *;refine aU T'.o λaC m=>?_;have zp:=b4 l.o.2.1 m (λ_ _=>id);have r':=m.heap l.o.2.2.1 id;have aT:=af (S1 (l.o.1.kr m) (fr:=fr) zp U l.o.2.2.2.2.2.1);have t:=b6 zp (bB r' (bB (l.o.2.2.2.1.trans m) (l.o.1.kr m).bf));have aaq:=m.size;have ZU:=aS r';clear zp r' m T';go_wp2_with fail;refine aT.o.mono ?_;rintro e bm ⟨cw,rfl,a',s',Q⟩;obtain⟨L,ps⟩:=cO (hM s.bf (gg xs (fX s.bf fr)));obtain⟨cs,X⟩:=cO (iE xs (fX s.bf fr));rw[<-X]at a';rw[<-ps]at s';have mv:oQ w B s L cs xs fr now (aq A xs.length cap) [] cw bm:=by
  have Tq:e9 s.most now L []=(L,[]):=rfl;have Z9:w.heap.size≠B.db:=λe=>by have:=Z0.out B.db (.inr (.inl rfl));omega
  refine⟨?_,by rw[Tq];exact s',(t.out.2.2.1.mono (λ_ _ x=>x.elim)).trans Q,Q.heap t.out.2.1 Z9,⟨base,b4 t.out.1 Q (λj a e=>mq t.out.1 t.out.2.2.2 a e)⟩,by have:=Q.size;omega⟩;rw[Tq,e4];exact kB a' U
 obtain⟨h2,aai,rfl,_,_⟩:=cS a';have CW:=af mv;have lb:=b6 ps X
 have ZY:=af (show cs.length<=256 by
  rw[X];unfold iE gg;rw[gV];exact b7 (mH _ _) (b7 (mH _ _) l.out.1.cp))
 have ZK:=mv.bh;have aab:=aS ZK;clear a' s' Q mv aT t ps X ZU ZK;go_wp2_with fail;clear aab;go_loopg [9,29] xs.length (λg cw z wr=>∃ pre rest:ah aB,xs=pre++rest/\g=rest.length/\z=I pre.length/\(∃ A n cap,cw=aq A n cap)/\oQ w B s L cs xs fr now (aq A xs.length cap) pre cw wr)
 case atStart=>exact⟨[],xs,rfl,rfl,rfl,⟨_,_,_,rfl⟩,CW.o⟩
 obtain⟨pre,rest,f,aZ,rfl,⟨h2,no,co,rfl⟩,u⟩:=hrel;clear CW;cases rest with
 | nil=>
  have Z6:¬ (pre.length:aa)<(xs.length:aa):=by rw[f];simp
  have ZT:xs=pre:=by rw[f,e4]
  have H:=u.keep (ba wr).drew;have aac:=iq (S:=aI) (w:=wr.drew) H.ld.gh id;have aad:=iq (S:=aI) (w:=wr.drew) H.bh id;obtain⟨bM,E⟩:=H.rx;have TS:=af (GB E U);have V:=af H;have Hx:=af ZT;clear f ZT u H E;go_wp2_with fail;refine cH 10 ?_;refine fs (λ_=>False) (.range 8) [8] 1 ?_;refine kv λK V'=>?_;go_simp;refine TS.o.mono ?_;rintro e r ⟨cC,rfl,v',ZH⟩;have q:=Keeps.bD (S:=aI) ZH a7;obtain⟨F,ZN,Y,d⟩:=(V.out.keep q).ld.note v' l.out.2.2.2.2.2.2 U;refine V' _ _ (c0 (q)) ?_;clear V' K;refine cI (λ_=>True) [9] 0 1 ?_;refine o_ 9 trivial (Dg rfl rfl rfl rfl ZN) ?_;simp only[Act.put];have N:=V.out.keep q;have i:=b4 N.out d (λj a e=>mq N.out N.ld.bW.1 a e);have ZP:Fp w B s fr xs now (aV #[aq h2 no co,I 0]) F:=by
   have Z2:kC s fr xs now=cs++(e9 s.most now L xs).2:=by unfold kC;rw[<-lb.out.1,<-lb.out.2]
   have Z3:ns s fr xs={s with bf:=(e9 s.most now L pre).1,bW:=fY s.bW fr xs}:=by
    unfold ns;rw[<-lb.out.1,XF s.most 0 now,Hx.out]
   rw[<-Hx.out]at i;refine⟨_,{B with M:=lR B.M fr cC},rfl,by rw[Z2];exact kB i U,⟨by rw[Z3];exact Y,rfl,rfl,rfl,λj a=>?_,?_⟩,λj a=>Y.A8 (Y.qV i bq bq a)⟩
   .rcases a with a|a|a|⟨p,au,a⟩
    .exact .inl (.inl a)
    .exact .inl (.inr (.inl a))
    .exact .inl (.inr (.inr (.inl a)))
    unfold lR at au;rcases e5.1 au with au|au
    .exact .inl (.inr (.inr (.inr ⟨p,(eR.1 au).1,a⟩)))
    rw[fL.1 au]at a;have aaj:=(v'.lt j a).1;have aak:=V.out.cE;exact .inr U
   exact(N.cv.mono (T:=B.S) (λj _ a=>.inr (.inl a))).trans (d.mono (T:=B.S) (λj _ a=>.inr (.inr (.inl a))))
  have ZZ:=af ZP;clear aac aad ZN ZP i N Y d q ZH v' TS V;go_wp2;go_ret2;exact ZZ.o
 | cons e rest=>
  have Z8:pre.length<xs.length:=by rw[f];simp
  have aam:(pre.length:aa)<(xs.length:aa):=U;have y:xs[pre.length]=e:=by simp[f]
  have w':hC e.k=true:=l.out.2.2.2.2.1 e vf;have ZS:xs=(pre++[e])++rest:=by rw[f];simp
  have Z4:=aZ;simp only[ds]at Z4;have aap:=u.cE;clear aZ;obtain⟨bM,E⟩:=u.rx;obtain⟨ZV,rfl⟩:=pa E U;have sd:=og (P:=prog) (enc:=aB.br) (λ_=>rfl) isAgg45 sizeOf45 E pre.length Z8;rw[y]at sd;have dw:=q7 wr;obtain⟨aar,zd,l',ZL,aao⟩:=tq wr e;have m':=u.keep ZL;have ZM:=jQ l';have St:=af (S8 m'.ld e w' now U);have Q':=b6 m' l';have aag:=b6 ZS w';generalize wr.alloc (ae z9 45)=aas at dw zd;clear u f y w' ZS m' l' ZL E;go_wp2_with first|((with_reducible refine dp sd rfl rfl ?_ ?_);exact rfl)|(with_reducible refine d_ dw rfl rfl ?_)|((with_reducible refine c8 zd rfl rfl ?_ ?_ ?_);exact rfl;exact rfl)|((with_reducible refine dp ZM rfl rfl ?_ ?_);exact rfl)
  refine aU St.o ?_;rintro r ⟨Z,q⟩;have⟨t1,t2,t3,t4,t5⟩:=Q'.out.1.bf q;have ys:=rh s.most now L pre e;have gf:(e9 s.most now L (pre++[e])).1=js s.most (e9 s.most now L pre).1 e:=by rw[ys]
  have D:(e9 s.most now L (pre++[e])).2=(e9 s.most now L pre).2++(lh s.most now (e9 s.most now L pre).1 e).toList:=by rw[ys]
  clear sd ZM St Q' dw zd q ys;cases g':lh s.most now (e9 s.most now L pre).1 e with
  | none=>
   obtain⟨F,R,W,d,Z'⟩:=xG r pL;have G:=yX r;rw[g',Option.toList_none,e4]at D;have O:oQ w B s L cs xs fr now (aq (some (ad ZV 0 ab)) xs.length cap) (pre++[e]) (aq h2 no co) F:=oQ.keep ⟨by rw[D];exact t1,by rw[gf];exact Z,t2,t3,t4,t5⟩ d;have ZW:=af O;generalize r.alloc (ae nv 47)=aae at G R;clear t1 t2 t3 t4 t5 gf D Z O W d g';go_wp2_with first|(with_reducible refine d_ G rfl rfl ?_)|((with_reducible refine c8 R rfl rfl ?_ ?_ ?_);exact rfl;exact rfl)
   exact NF
  | some c=>
   have⟨F,R,W,d,Z'⟩:=xG r c;have G:=yX r;rw[g',Option.toList_some]at D;have i:=b4 t1 d (λ_ _=>id);have ZJ:(cs++(e9 s.most now L pre).2).length<=10000:=by
    have:=CH s.most now L pre
    have:=ZY.out
    rw[cx];omega
   obtain⟨aah,aaf,ZG,ZO,C,ZX,n7,c5,rfl⟩:=xJ 32 i ZJ U c;have Z5:=Is W;have ZI:=yZ c F;have vl:=Z.kr d;have O:oQ w B s L cs xs fr now (aq (some (ad ZV 0 ab)) xs.length cap) (pre++[e]) (aq ZX n7 c5) aaf:=by
    have⟨Z1,aaa⟩:=t4;have ZR:=b4 aaa d (λ_ _=>id);refine⟨by rw[D,<-dD];exact ZO,by rw[gf];exact vl.keep C λj a=>vl.qV i bq bq a,?_,C.heap (d.heap t3 id) (λe=>by have:=(i.lt _ e).1;omega),⟨Z1,b4 ZR C (λj a e=>ub i ZR bq e a)⟩,by have:=d.size;have:=C.size;omega⟩;exact cL (t2.trans (d.mono λ_ _ x=>x.elim)) C (λj a e=>by have:=(i.lt _ e).1;omega)
   have ZW:=af O;generalize r.alloc (ae nv 47)=aae at G R;generalize F.alloc (ae (dk c) 47)=aat at ZG ZI;clear t1 t2 t3 t4 t5 gf D Z O W d g' i ZJ ZO C vl;go_wp2_with first|(with_reducible refine d_ G rfl rfl ?_)|((with_reducible refine c8 R rfl rfl ?_ ?_ ?_);exact rfl;exact rfl)|((with_reducible refine dp Z5 rfl rfl ?_ ?_);exact rfl)|((with_reducible refine zk ZI rfl rfl ?_ ?_);exact rfl)|((with_reducible refine wK ZG rfl rfl ?_ ?_ ?_);exact rfl;exact rfl)
   exact NF
structure kL(w:ai)(b:J)(n:aa)(c6:ax)(bQ:ah eT):ak where
 hd:w.heap[b]?=some (ae #[I n,I 0,c6] 177 (0,0))
 row:w.ownsRow 0 175 12 c6 bQ.length (vcs bQ)
 fQ:bQ.length<=64
def kL.keep{b:J}{n:aa}{c6:ax}{bQ:ah eT}(h:kL w b n c6 bQ)(hk:Keeps aI w w'):kL w' b n c6 bQ:=⟨hk.heap h.hd id,b4 h.row hk (λ_ _=>id),h.fQ⟩
def Bz(k:de)(x:eT):aY:=decide (x.v.cn.k=k)&&(decide (x.v.cut=-1)&&!m_ x.v)
theorem KY(v:kk)(h:v.wf)(w:ai):aA 234 #[aQ v,I 0] w λr w'=>r=.returned (.bool (m_ v))/\Below w w w':=
 (YH v h w).mono λ_ _ aJ=>⟨aJ.1,aJ.2.below bs (λ_ _ h2=>h2.elim)⟩
def TZ(v:kk)(h:v.wf)(k:de)(er f b:J)(n:aa)(c6:ax)(hk:w.heap[er]?=some (ae k 43 (0,0)))(hm:w.cell? (ad f 0 ab)=some (.pointer (some (ad b 0 ab))))(aj:w.heap[b]?=some (ae #[I n,I 0,c6] 177 (0,0))):aA 296 #[aQ v,er,f] w λr w'=>r=.returned (.bool (Bz k ⟨v,h⟩))/\Below w w w':=by
 have hcut:=h.cut;have q:=λW=>KY v h W;have aW:Bz k ⟨v,h⟩=(decide (v.cn.k=k)&&(decide (v.cut=-1)&&!m_ v)):=rfl;rw[aW];clear aW h;generalize m_ v=C at *;obtain⟨e,dB,c⟩:=v;dsimp only at *;have cb:=(b3 w.heap.size w).alloc bs (ae #[I e.k.fr,I e.k.em,I e.k.bL,I e.k.cq,I e.cG,I e.dr,I e.et,I e.dJ,I e.le,I 0,I dB,I c] 175);have a:=aX w (ae #[I e.k.fr,I e.k.em,I e.k.bL,I e.k.cq,I e.cG,I e.dr,I e.et,I e.dJ,I e.le,I 0,I dB,I c] 175);have d:=cm hk (ae #[I e.k.fr,I e.k.em,I e.k.bL,I e.k.cq,I e.cG,I e.dr,I e.et,I e.dJ,I e.le,I 0,I dB,I c] 175);have l:=cm aj (ae #[I e.k.fr,I e.k.em,I e.k.bL,I e.k.cq,I e.cG,I e.dr,I e.et,I e.dJ,I e.le,I 0,I dB,I c] 175);have s:f<w.heap.size:=mE w (ad f 0 ab) hm;have t:=dK ((cb.cell (p:=ad f 0 ab) s).trans hm);have o:=af (λx:kJ (w.alloc (ae #[I e.k.fr,I e.k.em,I e.k.bL,I e.k.cq,I e.cG,I e.dr,I e.et,I e.dJ,I e.le,I 0,I dB,I c] 175))=>q x.to);have D:=dK (bb (k:=0) a rfl);have E:=dK (bb (k:=1) a rfl);have F:=dK (bb (k:=2) a rfl);have G:=dK (bb (k:=3) a rfl);have H:=dK (bb (k:=4) a rfl);have K:=dK (bb (k:=5) a rfl);have L:=dK (bb (k:=6) a rfl);have M:=dK (bb (k:=7) a rfl);have N:=dK (bb (k:=8) a rfl);have O:=dK (bb (k:=9) a rfl);have P:=dK (bb (k:=10) a rfl);have Q:=dK (bb (k:=11) a rfl);have u:=dK (bb (k:=0) d rfl);have y:=dK (bb (k:=1) d rfl);have z:=dK (bb (k:=2) d rfl);have A:=dK (bb (k:=3) d rfl);have B:=dK (bb (k:=1) l rfl);have m:=AR e.k k;clear a d l hk hm aj;cases g:decide (e.k=k)with
 | false=>
  rw[g]at m;rw[Dn];clear g hcut
  go_in
  go_wp2_with fail;refine pk aH aH ?_
  repeat (go_big_quiet_step (first|(go_at_call 234;exact Calls.kl (o.out _))))
  refine wpQuiet_nil ?_;intro _ i;have⟨x,j⟩:=i;subst j;go_wp2_with fail
  all_goals
   go_ret;exact⟨rfl,cb.trans (x.below.mono cb.size)⟩
 | true=>
  rw[g]at m;rw[sL];clear g;rcases hcut with rfl|rfl
  .go_in
   exact MU
  go_in
  exact MU
end Go.Proofs.YtalagblioepadaaGreatDoor
