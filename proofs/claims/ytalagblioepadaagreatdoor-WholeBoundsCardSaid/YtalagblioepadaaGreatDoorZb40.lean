/- The proof, part 40. -/
import Derived.Test.YtalagblioepadaaGreatDoorZb39
namespace Go.Proofs.YtalagblioepadaaGreatDoor
set_option linter.all false
open Proofs.Tryz List Go.RowKit Go.Shelf Go.Maps
set_option maxRecDepth 100000
set_option maxHeartbeats 2000000
def L8{p:ak}(h:p:=by simpa using λc=>oR e.k (by rw[c]at h;exact h)):p:=h
def L3{p:ak}(h:p:=by simpa using λh2=>oR _ (qH h ((kL _ _).1 h2))):p:=h
def L1{p:ak}(h:p:=by rw[<-h];simpa only[gg]using λh2=>av ((kL _ _).1 h2)):p:=h
def Mm{p:ak}(h:p:=by
 go_wp2_with fail;refine o9 aH aH ?_
 repeat (go_big_quiet_step (first|(go_at_call 234;exact Calls.ka (o.out _))))
 refine wpQuiet_nil ?_;intro _ i;have⟨x,j⟩:=i;subst j;go_wp2_with fail
 all_goals
  go_ret;exact⟨aI,ca.trans (x.below.mono ca.size)⟩
 ):p:=h
def MU{p:ak}(h:p:=by
 refine dn (v:=aV #[.agg (di px),false]) O ?_;exact(V'.out _ _).2 ⟨by rw[L.o.2];rfl,by rw[L.o.1];exact K.o.1,K.o.2.mono λ_ _ x=>x.elim⟩
 ):p:=h
def M6{p:ak}(h:p:=by
 go_roundg rest.length
 case measure=>omega
 exact⟨pre++[e],rest,ZD.out.1,rfl,qg,⟨_,_,_,rfl⟩,Zh.o⟩
 ):p:=h
def LB{p:ak}(h:p:=by
 exact(V'.out _ _).2 ⟨by rw[L.o.2];rfl,by rw[L.o.1];exact K.o.1,K.o.2⟩
 ):p:=h
def iS(L:ah aC)(k:dp):b4 aC:=L.find? λe=>decide (e.k=k)
def ll(L:ah aC)(e:aC):ah aC:=(L.filter λx=>decide (eC x.k e.k<0))++e :: L.filter λx=>decide (eC e.k x.k<0)
def P9(L:ah aC)(k:dp):hU (h_ L) k=(iS L k).map λe=>.agg e.bt.toArray:=by
 unfold hU iS h_;rw[find?_map,DA];rfl
def Gm{L:ah aC}{k:dp}{o:aC}(h:iS L k=some o):o∈L/\o.k=k:=⟨zo h,by simpa using find?_some h⟩
def AH{L:ah aC}{k:dp}(h:iS L k=none):∀ x∈L,x.k≠k:=λx a=>by simpa using find?_eq_none.1 h x a
def P7{L:ah aC}(h:fg L){o:aC}(f:o∈L):iS L o.k=some o:=by
 cases d:iS L o.k with
 | none=>exact absurd rfl (AH d o f)
 | some p=>
  have⟨h1,h2⟩:=Gm d;rw[HH (h.imp λ{a b} c (e:a.k=b.k)=>oR b.k (by rw[e]at c;exact c)) h1 f h2]
def WU(L:ah aC)(e:aC):(L.filter λx=>!decide (x.k=e.k)).Perm ((L.filter λx=>decide (eC x.k e.k<0))++L.filter λx=>decide (eC e.k x.k<0)):=by
 induction L with
 | nil=>exact ze _
 | cons a l b=>
  rcases vJ a.k e.k with h|h|h
  .rw[q6 L8,q6 (by simpa using(kL _ _).2 h),oc L3];exact b.cons a
  .have av:¬ kl a.k a.k:=oR _;rw[oc h8,oc L1,oc L1];exact b
  rw[q6 L8,oc L3,q6 (by simpa using(kL _ _).2 h)];exact(b.cons a).trans qb.symm
def x2(L:ah aC)(e:aC):(ll L e).Perm (e :: L.filter λx=>!decide (x.k=e.k)):=by
 exact qb.trans ((WU L e).symm.cons e)
def Uh(L:ah aC)(e:aC):(lC (h_ L) e.k (.agg e.bt.toArray)).Perm (h_ (ll L e)):=by
 refine Perm.trans ?_ ((x2 L e).map λe=>(e.k,Value.agg e.bt.toArray)).symm;have a:kM (h_ L) e.k=(L.filter λx=>!decide (x.k=e.k)).map λe=>(e.k,Value.agg e.bt.toArray):=by
  unfold kM h_;rw[q7];rfl
 unfold lC;rw[a];exact perm_append_singleton _ _
def Ht{L:ah aC}(h:fg L)(e:aC):fg (ll L e):=by
 refine q_.2 ⟨h.sublist Dl,jP.2 ⟨λx a=>?_,h.sublist Dl⟩,λx a y b=>?_⟩
 .exact(kL _ _).1 (by simpa using(fR.1 a).2)
 have h1:=(kL _ _).1 (by simpa using(fR.1 a).2);rcases e3.1 b with c|b
 .rw[c];exact h1
 exact qH h1 ((kL _ _).1 (by simpa using(fR.1 b).2))
def H5{L:ah aC}{e x:aC}:x∈ll L e↔x=e\/(x∈L/\x.k≠e.k):=by
 rw[(x2 L e).mem_iff,e3,fR];simp
def Hu{L:ah aC}{e:aC}(h:iS L e.k=none):(ll L e).length=L.length+1:=by
 rw[(x2 L e).length_eq,pg,ni.2 λx a=>by simpa using AH h x a]
def Hv{L:ah aC}(h:fg L){e o:aC}(i:iS L e.k=some o):(ll L e).length=L.length:=by
 rw[(x2 L e).length_eq,pg];have⟨h1,h2⟩:=Gm i;have hd:=h.imp λ{a b} g (e:a.k=b.k)=>oR b.k (by rw[e]at g;exact g);clear i h
 induction L with
 | nil=>cases h1
 | cons a l m=>
  obtain⟨d1,d2⟩:=jP.1 hd;rcases e3.1 h1 with d|f
  .rw[<-d,oc (by simpa using h2),pg,ni.2 λx j=>by simpa using λc=>d1 x j (by rw[<-d,h2,c])]
  rw[q6 (by simpa using λc=>d1 o f (by rw[c,h2])),pg,m f d2,pg]
def lJ(most:aa)(L:ah aC)(e:aC):ah aC:=match iS L e.k with
 | some o=>if o=e then L else ll L e
 | none=>if most<=L.length then L else ll L e
def k3(most now:aa)(L:ah aC)(e:aC):b4 cg:=match iS L e.k with
 | some o=>if o=e then none else some ⟨2,e,0,false⟩
 | none=>if most<=L.length then none else some ⟨1,e,now-e.k.fr,false⟩
def fp(most now:aa)(L:ah aC)(xs:ah aC):ah aC×ah cg:=xs.foldl (λp e=>(lJ most p.1 e,p.2++(k3 most now p.1 e).toList)) (L,[])
def se(most now:aa)(L:ah aC)(xs:ah aC)(e:aC):fp most now L (xs++[e])=(lJ most (fp most now L xs).1 e,(fp most now L xs).2++(k3 most now (fp most now L xs).1 e).toList):=by
 unfold fp;rw[nj];rfl
def W5{most:aa}{L:ah aC}(h:fg L)(e:aC):fg (lJ most L e):=by
 unfold lJ;split<;>split<;>first|exact h|exact Ht h e
def W6{most:aa}{L:ah aC}(h:fg L)(a:(L.length:aa)<=most)(e:aC):((lJ most L e).length:aa)<=most:=by
 unfold lJ;split
 .rename_i o b;split
  .exact a
  rw[Hv h b];exact a
 rename_i b;split
 .exact a
 rw[Hu b];omega
def h4(T:aa->ah aC)(f:aa)(xs:ah aC):aa->ah aC:=λx=>if x=f then xs else T x
def o6(s:cH)(fr:aa)(xs:ah aC):cH:={s with bd:=(fp s.most 0 (hS s.bd (gy xs (gA s.bd fr))) xs).1,b2:=h4 s.b2 fr xs}
def ks(s:cH)(fr:aa)(xs:ah aC)(now:aa):ah cg:=ix xs (gA s.bd fr)++(fp s.most now (hS s.bd (gy xs (gA s.bd fr))) xs).2
def W4(most now a:aa)(L xs:ah aC):(fp most now L xs).1=(fp most a L xs).1:=by
 rw[<-oo xs]
 induction xs.reverse with
 | nil=>rfl
 | cons e l b=>rw[om,se,se,b]
def hr(L xs:ah aC):ah aC×ah cg:=xs.foldl (λp e=>(hS p.1 [e],p.2++[⟨4,e,0,(iS p.1 e.k).isSome⟩])) (L,[])
def rA(L xs:ah aC)(e:aC):hr L (xs++[e])=(hS (hr L xs).1 [e],(hr L xs).2++[⟨4,e,0,(iS (hr L xs).1 e.k).isSome⟩]):=by
 unfold hr;rw[nj];rfl
def jY(s:cH)(f:aa):cH:={s with bd:=(hr s.bd (s.b2 f)).1,b2:=h4 s.b2 f [],aS:=f}
def hQ(s:cH)(f:aa):ah cg:=(hr s.bd (s.b2 f)).2
def kg(s:cH):ah cg:=if s.hd then []else s.bd.map λo=>⟨3,o,0,false⟩
def gJ(s:cH):cH:=if s.hd then s else {s with hd:=true,bd:=[]}
structure bO where
 x:ck
 aE:b9
 ld:cH
 own:ah (aa×aa)
 wt:ah (aa×aa)
 cu:aa
 b':aY
 reason:aa
abbrev ct:=bO×ah cg
def lj(l:ah (aa×aa))(f:aa):b4 aa:=(l.find? λp=>decide (p.1=f)).map Prod.snd
def lf(l:ah (aa×aa))(f:aa):ah (aa×aa):=l.filter λp=>!decide (p.1=f)
def qN(l:ah (aa×aa))(f v:aa):ah (aa×aa):=lf l f++[(f,v)]
def fN(r:aa)(p:ct):ct:=if p.1.b' then p else({p.1 with b':=true,reason:=r,ld:=gJ p.1.ld},p.2++kg p.1.ld)
def e7(p:ct):ct:=if p.1.aE.state=2 then fN 12 p else p
def jk(now:aa)(p:ct)(g:J×ah aC):ct:=({p.1 with ld:=o6 p.1.ld g.1 g.2},p.2++ks p.1.ld g.1 g.2 now)
def cW(s:bO):ct:=match fQ s.x with
 | none=>(s,[])
 | some g=>(me s.x g (s.x.now-g)).foldl (jk s.x.now) ({s with x:=replay s.x g (s.x.now-g)},[])
def ic(f v:aa)(p:ct):ct:=match lj p.1.own f with
 | some u=>if u=v then p else fN 13 p
 | none=>if p.1.ld.aS+1<f/\lj p.1.wt f=none/\p.1.wt.length<8 then({p.1 with wt:=qN p.1.wt f v},p.2)else p
def r1(s:bO)(f:J):bO:={s with own:=lf (qN s.own f (iJ (gQ s.x f))) (f-128),aE:=lE s.aE f (iJ (gQ s.x f))}
def iY(f:J)(p:ct):ct:=match lj p.1.wt f with
 | some u=>ic f u ({r1 p.1 f with wt:=lf p.1.wt f},p.2)
 | none=>(r1 p.1 f,p.2)
def eZ(p:ct):ct:=
 let q:ct:=({p.1 with ld:=jY p.1.ld (p.1.ld.aS+1)},p.2++hQ p.1.ld (p.1.ld.aS+1))
 if (p.1.ld.aS+2)%16=0 then iY (p.1.ld.aS+2).toNat q else q
def e0:J->ct->ct
 | 0,p=>p
 | n+1,p=>if p.1.b'\/cY p.1.x<=p.1.ld.aS then p else e0 n (eZ p)
def ji(p:ct):ct:=e0 (cY p.1.x-p.1.ld.aS).toNat p
def c4(s:bO):J:=(s.x.f s.x.aJ).next
def bT(s:bO):J:=(fq s.x).next
def hV(s:bO):aa:=s.x.now-bT s
def so(s:bO):aY:=decide (4<hV s-s.cu)&&decide (s.aE.b_%2=1)
def eu(s:bO)(v:aQ):bO:={s with x:=gn s.x s.x.aJ v.toNat,aE:=j2 s.aE (c4 s) v}
def lL(p:ct):ct:=jk p.1.x.now ({p.1 with x:={iX p.1.x p.1.x.now with now:=p.1.x.now+1}},p.2) (p.1.x.now,hY p.1.x p.1.x.now)
def fW(s:bO):aY:=decide (s.aE.state=1)&&(!so s&&!jB s.x)
def eL(v:aQ)(p:ct):ct:=if fW p.1 then lL (eu p.1 v,p.2)else p
def dW(x:ck):ck:=if cY x<0 then x else rF x (cY x).toNat
def dc(v:aQ)(s:bO):ct:=ji (eL v (cW s))
def l2(p:ct):ct:=e7 ({p.1 with x:=dW p.1.x,aE:=(c5 p.1.aE (hV {p.1 with x:=dW p.1.x})).2},p.2)
def cJ(v:aQ)(s:bO):ct:=if s.b' then({s with aE:=(c5 s.aE 0).2},[])else l2 (dc v s)
def e_(v:aQ)(s:bO):ah aZ:=if s.b' then(c5 s.aE 0).1 else(c5 (dc v s).1.aE (hV {(dc v s).1 with x:=dW (dc v s).1.x})).1
def dL(s:bO):aY:=!s.b'&&fW (cW s).1
def fc(x:ck)(l:ah aQ):ck:=l.foldl (λx b=>gn x (1-x.aJ) b.toNat) x
def fj(h:bG)(s:bO):ct:=if h.kind=4 then ic h.frame h.sum (s,[])else if h.kind=6 then({s with cu:=h.lead},[])else(s,[])
def iT(t:ah aQ)(s:bO):aa:=if s.b' then 12 else(cI s.aE t).2.1
def dx(t:ah aQ)(s:bO):ct:=if s.b' then(s,[])else if (cI s.aE t).2.1≠0 then({s with aE:=(cI s.aE t).2.2},[])
 else e7 (fj (cI s.aE t).1 {s with x:=fc s.x (cI s.aE t).1.a8,aE:=(cI s.aE t).2.2})
def fY(s:bO):ct:=if s.b' then(s,[])else fN 12 ({s with aE:=mA s.aE},[])
variable{w w':ai}
structure dI where
 low:aa
 high:aa
 tp:aa
 JU:aa
 k:dp
 x:aa
 y:aa
instance:Coe dI (a6 aw):=⟨λe=>#[I e.low,I e.high,I e.tp,I e.JU,I e.k.fr,I e.k.em,I e.k.bN,I e.k.cp,ag e.x,ag e.y]⟩
instance:Inhabited dI:=⟨⟨0,0,0,0,⟨0,0,0,0⟩,0,0⟩⟩
def lA(p:dI):a6 aw:=p
def dI.bt(p:dI):ah aw:=(lA p).toList
def d'(l:ah dI):ah aw:=l.flatMap dI.bt
def rZ(l:ah dI):(d' l).length=l.length*10:=by unfold d';exact tm (k:=10) (λ_=>rfl) l
def Ug(l:ah dI)(i:J)(h:i<l.length)(j:J)(a:j<10):(d' l)[i*10+j]?=l[i].bt[j]?:=by unfold d';exact xF (k:=10) (λ_=>rfl) l i h j a
def ID(e:dI):(lA e).toList.all (λv=>v.oneCell')=true:=rfl
def BM:∀ x:dI,∀ v∈x.bt,v.oneCell'=true:=λx=>ff.1 (ID x)
def Vk(w:ai):(Instr.alloc 296 true (aV #[])).run prog w=.ok w.heap.size (w.alloc (ae #[I 0,I 0,I 0,I 0,I 0,I 0,I 0,I 0,ag 0,ag 0] 296)):=aH
def IF:Go.Shelf.Ren:=⟨fun|6=>228|n=>n,fun|0=>0|3=>3|4=>4|22=>289|23=>296|25=>297|n=>n,fun|n=>n⟩
def Uf:SlLaysH0.n6 prog IF:={
 mixed:=aH
 f6:=⟨f228.name,bq,func228.trans (cV some aH)⟩
 t0:=underlying0
 a0:=isAgg0
 z0:=sizeOf0
 v0:=zeroValue0
 t3:=underlying3
 a3:=isAgg3
 z3:=sizeOf3
 v3:=zeroValue3
 t4:=underlying4
 a4:=isAgg4
 z4:=sizeOf4
 v4:=zeroValue4
 t22:=underlying289
 a22:=isAgg289
 z22:=sizeOf289
 v22:=zeroValue289
 t25:=underlying297
 a25:=isAgg297
 z25:=sizeOf297
 v25:=zeroValue297}
abbrev ND(g:J)(lb:a6 aw)(p:dI->aY)(w:ai):ak:=PredBelow prog g lb (λx:dI=>.agg x.bt.toArray) p w
def IE{base:J}{v:aw}{xs:ah dI}(h:w.ownsRow base 296 10 v xs.length (d' xs))(au:xs.length<=1000)(p:dI->aY)(g:J)(lb:a6 aw)(n:∀ args w,(callFunc g args).run prog w=.ok (.enter g args) w)(ar:ND g lb p w):az 228 #[v,.func (.func g) #[] lb] w λe w'=>Below w w w'/\((e=.returned (I (-1))/\∀ x∈xs,p x=false)\/∃ i,∃ av:i<xs.length,e=.returned (I i)/\p xs[i]=true/\∀ j (k:j<xs.length),j<i->p xs[j]=false):=by
 rcases h.2 with⟨rfl,q⟩|⟨b,cap,D,rfl,a1,aR,aq,hm,ax,aN⟩
 .obtain rfl:=jn.1 q;clear ar h
  go_in
  exact Ea
 obtain⟨A,C,s,aX,_⟩:=cP h;cases s;refine(AnyQ.slices_IndexFunc (P:=prog) (ρ:=IF) Uf 10 isAgg296 sizeOf296 dI.bt (λ_=>rfl) p g lb n b 0 xs.length cap xs w ar bA U (bR aR) (λj k i u m=>?_)).mono ?_
 .have av:i<10:=by
   have:=(hf.1 m).1
   exact this
  have⟨B,o,e,r⟩:=aX.at' U;cases e;rw[show 0+j*10+i=0+(j*10+i)by omega];refine r (j*10+i) u ?_;rw[Ug xs j k i av]
  rwa [jb xs j k]at m
 rintro e w' ⟨rfl,h2⟩;rw[nk];refine⟨h2,?_⟩;rcases idxByFrom_spec (λ_ y=>p y) default xs 0 with⟨a,l⟩|⟨f,d,a,aN,l⟩
 .refine .inl ⟨D_,λx c=>?_⟩;obtain⟨t,aN,rfl⟩:=sD.1 c
  have:=l t aN
  rwa [jb xs t aN]at this
 refine .inr ⟨f,d,D3,DV,λj k z=>?_⟩
 have:=l j z
 rwa [jb xs j k]at this
def Jf(W:ai):(zeroValue 296).run prog W=.ok (aM #[I 0,I 0,I 0,I 0,I 0,I 0,I 0,I 0,ag 0,ag 0]) W:=aH
def Ny(w:ai)(base:J)(v:aw)(ys:ah dI)(e:Ending)(w':ai):ak:=
 ∃ v',e=.returned v'/\w'.ownsRow base 296 10 v' ys.length (d' ys)/\Keeps (λj=>v.ownBlock=some j) w w'/\v'.ownBlock=v.ownBlock
def Ud{base:J}{v:aw}{xs:ah dI}(h:w.ownsRow base 296 10 v xs.length (d' xs))(au:xs.length<=1000)(p:dI->aY)(g:J)(lb:a6 aw)(v':∀ args w,(callFunc g args).run prog w=.ok (.enter g args) w)(ar:∀ W,Keeps (λj=>v.ownBlock=some j) w W->∀ x:dI,Calls prog g (#[.agg x.bt.toArray]++lb) W λe W'=>e=.returned (.bool (p x))/\Below W W W'):az 153 #[v,.func (.func g) #[] lb] w (Ny w base v (xs.filter λx=>!p x)):=by
 have a':=IE h au p g lb v' (λW x aj=>(ar W (Keeps.bE aj a7) x).mono λ_ _ h=>⟨h.1,aj.trans (h.2.mono aj.size)⟩);have F:=af a';have s':=af ar;have sd:=af h;clear a' ar;rcases h.2 with⟨rfl,Z⟩|⟨r,cap,Y5,rfl,a1,aR,aq,hm,ax,aN⟩
 .obtain rfl:=jn.1 Z;clear h Z au
  go_in
  exact Mr
 have CW:=bR aR;clear a1 aR hm ax aN h
 go_in
 go_wp2_with fail;refine F.out.mono ?_;rintro e an ⟨aj,h1⟩;have A:Keeps (λj=>(ao (some (ad r 0 ab)) xs.length cap).ownBlock=some j) w an:=Keeps.bE aj a7;have B:=b3 sd.out (Keeps.bE (S:=aG) aj a7) (λ_ _=>id);clear aj F;rcases h1 with⟨rfl,q⟩|⟨K,zd,rfl,l',q⟩
 .exact MD
 have c:KeptI (λx=>!p x) xs xs K (K+1):=KeptI.start zd (by simp[l']) (λj z zp=>by simp[q j z zp]);have St:((K:aa) == -1)=false:=er.2 U;have m:=af (bD c (bD B A));clear l' q c B A;go_wp2_with fail;go_loopg [5,6,7] xs.length (λgl V' iH _ wr=>∃ (i j:J) (ys:ah dI),V'=I i/\iH=I j/\xs.length-j<=gl/\KeptI (λx=>!p x) xs ys i j/\wr.ownsRow base 296 10 (ao (some (ad r 0 ab)) xs.length cap) xs.length (d' ys)/\Keeps (λj=>(ao (some (ad r 0 ab)) xs.length cap).ownBlock=some j) w wr)
 case atStart=>exact⟨K,K+1,xs,rfl,by go_num,U,m.o⟩
 obtain⟨i,j,ys,rfl,rfl,Y6,a,G,H⟩:=hrel;have Y7:=a.lt;have Y8:=a.le;have T':=a.len;clear m St;by_cases t:j<xs.length
 .have f:=nW (P:=prog) (enc:=dI.bt) (λ_=>rfl) isAgg296 sizeOf296 G j U;rw[a.at' t]at f;have dF:=Vk wr;have O:=aW wr (ae #[I 0,I 0,I 0,I 0,I 0,I 0,I 0,I 0,ag 0,ag 0] 296);obtain⟨c,Y9,m'⟩:=dO (wr.alloc (ae #[I 0,I 0,I 0,I 0,I 0,I 0,I 0,I 0,ag 0,ag 0] 296)) 296 10 wr.heap.size (lA xs[j]) _ sizeOf296 rfl rfl O (ID xs[j]);have N:=fe (wr.alloc (ae #[I 0,I 0,I 0,I 0,I 0,I 0,I 0,I 0,ag 0,ag 0] 296)) wr.heap.size _ (lA xs[j]) 296 O;have R:=cK ((a_ wr).alloc (ae #[I 0,I 0,I 0,I 0,I 0,I 0,I 0,I 0,ag 0,ag 0] 296)) m' a7;generalize (wr.alloc (ae #[I 0,I 0,I 0,I 0,I 0,I 0,I 0,I 0,ag 0,ag 0] 296)).setRow wr.heap.size (lA xs[j])=Y2 at *;have V:=H.trans (R.mono λ_ _ x=>x.elim);have fr:=b3 G R (λ_ _=>id);have Q:=s'.out Y2 V xs[j];have n:=gq (P:=prog) 296 10 wr.heap.size 0 (lA xs[j]) _ _ isAgg296 sizeOf296 rfl N (λj u z=>jS);have Y_:=lT CW H.size;have Q':(j:aa)<(xs.length:aa):=U;have M:=af a;have vl:=af N;have l:=af (bD V fr);clear a G H O m' R V fr N;obtain⟨y,X⟩:∃ y,y=xs[j]:=⟨_,rfl⟩;rw[<-X]at f c n Q;have D:=af Q;have E:=af X;clear X Q;cases s:p y with
  | false=>
   go_wp2_with first|refine dm f rfl rfl rfl ?_|refine ea dF rfl rfl ?_|refine c8 c rfl rfl rfl rfl ?_|(go_at_fn g;refine D.out.mono ?_;rintro e Y ⟨rfl,k⟩;rw[s];have b:=Keeps.bE (S:=aG) k a7;have g':=b.heap vl.out id;have gf:=b3 l.out.2 b (λ_ _=>id);obtain⟨Y3,Tq,C,L⟩:=yA (P:=prog) (enc:=dI.bt) (λ_=>rfl) BM sizeOf296 gf i U y;have Aw:=gq (P:=prog) 296 10 wr.heap.size 0 (lA y) _ _ isAgg296 sizeOf296 rfl g' (λj u z=>D4);have d:=af (bD C ((l.out.1.trans (b.mono λ_ _ x=>x.elim)).trans (L.mono λ_ _ x=>uT)));clear C L gf g' b k)|refine dm Aw rfl rfl rfl ?_|refine dm n rfl rfl rfl ?_|refine c8 Tq rfl rfl rfl rfl ?_
   exact Eb
  | true=>
   exact DN
 obtain rfl:j=xs.length:=U;have Q':¬ (xs.length:aa)<(xs.length:aa):=U;obtain⟨Y3,w',C,L⟩:=yz (P:=prog) (TS:=289) (enc:=dI.bt) (λ_=>rfl) underlying289 Jf rfl bq G i U T';have ps:=H.trans (L.mono (T:=λj=>(ao (some (ad r 0 ab)) xs.length cap).ownBlock=some j) λ_ _ x=>uT);have h2:=a.done;have hd:=a.count;rw[h2]at C;have d:=af (bD C (bD ps hd));clear C ps hd h2 a G H;go_wp2_with refine wm (w' _ _) rfl rfl rfl ?_
 go_ret;exact⟨_,rfl,D5,d.o.2.1,rfl⟩
structure eN where
 v:j'
 ok:v.wf
instance:Inhabited eN:=⟨⟨⟨⟨⟨0,0,1,0⟩,1,0,0,0,0⟩,0,0⟩,⟨bq,bq,bq,bq⟩⟩⟩
def mo(x:eN):a6 aw:=x.v
def eN.bt(x:eN):ah aw:=(mo x).toList
def vcs(l:ah eN):ah aw:=l.flatMap eN.bt
def Ya(l:ah eN)(i:J)(h:i<l.length)(j:J)(a:j<12):(vcs l)[i*12+j]?=l[i].bt[j]?:=by unfold vcs;exact xF (k:=12) (λ_=>rfl) l i h j a
def Kq(e:eN):(mo e).toList.all (λv=>v.oneCell')=true:=rfl
def yU:∀ x:eN,∀ v∈x.bt,v.oneCell'=true:=λx=>ff.1 (Kq x)
def Vl(w:ai):(Instr.alloc 175 true (aV #[])).run prog w=.ok w.heap.size (w.alloc (ae n' 175)):=aH
def Kt:Go.Shelf.Ren:=⟨fun|6=>295|n=>n,fun|0=>0|3=>3|4=>4|22=>71|23=>175|25=>362|n=>n,fun|n=>n⟩
def X':SlLaysH0.n6 prog Kt:={
 mixed:=aH
 f6:=⟨f295.name,bq,func295.trans (cV some aH)⟩
 t0:=underlying0
 a0:=isAgg0
 z0:=sizeOf0
 v0:=zeroValue0
 t3:=underlying3
 a3:=isAgg3
 z3:=sizeOf3
 v3:=zeroValue3
 t4:=underlying4
 a4:=isAgg4
 z4:=sizeOf4
 v4:=zeroValue4
 t22:=underlying71
 a22:=isAgg71
 z22:=sizeOf71
 v22:=zeroValue71
 t25:=underlying362
 a25:=isAgg362
 z25:=sizeOf362
 v25:=zeroValue362}
abbrev NF(g:J)(lb:a6 aw)(p:eN->aY)(w:ai):ak:=PredBelow prog g lb (λx:eN=>.agg x.bt.toArray) p w
def Kr{base:J}{v:aw}{xs:ah eN}(h:w.ownsRow base 175 12 v xs.length (vcs xs))(au:xs.length<=1000)(p:eN->aY)(g:J)(lb:a6 aw)(n:∀ args w,(callFunc g args).run prog w=.ok (.enter g args) w)(ar:NF g lb p w):az 295 #[v,.func (.func g) #[] lb] w λe w'=>Below w w w'/\((e=.returned (I (-1))/\∀ x∈xs,p x=false)\/∃ i,∃ av:i<xs.length,e=.returned (I i)/\p xs[i]=true/\∀ j (k:j<xs.length),j<i->p xs[j]=false):=by
 rcases h.2 with⟨rfl,q⟩|⟨b,cap,D,rfl,a1,aR,aq,hm,ax,aN⟩
 .obtain rfl:=jn.1 q
  go_in
  exact Ea
 obtain⟨A,C,s,aX,_⟩:=cP h;cases s;refine(AnyQ.slices_IndexFunc (P:=prog) (ρ:=Kt) X' 12 isAgg175 sizeOf175 eN.bt (λ_=>rfl) p g lb n b 0 xs.length cap xs w ar bA U (bR aR) (λj k i u m=>?_)).mono ?_
 .have av:i<12:=by
   have:=(hf.1 m).1
   exact this
  have⟨B,o,e,r⟩:=aX.at' U;cases e;rw[show 0+j*12+i=0+(j*12+i)by omega];refine r (j*12+i) u ?_;rw[Ya xs j k i av]
  rwa [jb xs j k]at m
 rintro e w' ⟨rfl,h2⟩;rw[nk];refine⟨h2,?_⟩;rcases idxByFrom_spec (λ_ y=>p y) default xs 0 with⟨a,l⟩|⟨f,d,a,aN,l⟩
 .refine .inl ⟨D_,λx c=>?_⟩;obtain⟨t,aN,rfl⟩:=sD.1 c
  have:=l t aN
  rwa [jb xs t aN]at this
 refine .inr ⟨f,d,D3,DV,λj k z=>?_⟩
 have:=l j z
 rwa [jb xs j k]at this
def VK(W:ai):(zeroValue 175).run prog W=.ok (aM n') W:=aH
def Nz(w:ai)(base:J)(v:aw)(ys:ah eN)(e:Ending)(w':ai):ak:=
 ∃ v',e=.returned v'/\w'.ownsRow base 175 12 v' ys.length (vcs ys)/\Keeps (λj=>v.ownBlock=some j) w w'/\v'.ownBlock=v.ownBlock
def X3{base:J}{v:aw}{xs:ah eN}(h:w.ownsRow base 175 12 v xs.length (vcs xs))(au:xs.length<=1000)(p:eN->aY)(g:J)(lb:a6 aw)(v':∀ args w,(callFunc g args).run prog w=.ok (.enter g args) w)(ar:∀ W,Keeps (λj=>v.ownBlock=some j) w W->∀ x:eN,Calls prog g (#[.agg x.bt.toArray]++lb) W λe W'=>e=.returned (.bool (p x))/\Below W W W'):az 232 #[v,.func (.func g) #[] lb] w (Nz w base v (xs.filter λx=>!p x)):=by
 have zd:=Kr h au p g lb v' (λW x aj=>(ar W (Keeps.bE aj a7) x).mono λ_ _ h=>⟨h.1,aj.trans (h.2.mono aj.size)⟩);have Z:=af zd;have s':=af ar;have sd:=af h;rcases h.2 with⟨rfl,w'⟩|⟨r,cap,Y6,rfl,a1,aR,aq,hm,ax,aN⟩
 .obtain rfl:=jn.1 w'
  go_in
  go_wp2_with fail;refine Z.out.mono ?_;rintro e an ⟨aj,h1⟩;obtain rfl:e=.returned (I (-1)):=by
   rcases h1 with h1|⟨i,av,_⟩
   .exact h1.1
   simp at av
  have r':=af aj;go_wp2;go_ret;exact⟨_,rfl,gB _ _ _ _,Keeps.bE r'.o a7,rfl⟩
 have St:=bR aR
 go_in
 go_wp2_with fail;refine Z.out.mono ?_;rintro e an ⟨aj,h1⟩;have H:Keeps (λj=>(ao (some (ad r 0 ab)) xs.length cap).ownBlock=some j) w an:=Keeps.bE aj a7;have L:=b3 sd.out (Keeps.bE (S:=aG) aj a7) (λ_ _=>id);rcases h1 with⟨rfl,C⟩|⟨G,Aw,rfl,l',C⟩
 .have h2:(xs.filter λx=>!p x)=xs:=ni.2 λa bj=>by simp[C a bj]
  have q:=b8 h2 (bD L H);clear C h2 L H;go_wp2;go_ret;exact⟨_,rfl,by rw[q.o.1];exact q.o.2.1,q.o.2.2,rfl⟩
 have c:KeptI (λx=>!p x) xs xs G (G+1):=KeptI.start Aw (by simp[l']) (λj z CW=>by simp[C j z CW]);have T':((G:aa) == -1)=false:=er.2 U;have q:=b8 c (bD L H);clear l' C c L H;go_wp2_with fail;go_loopg [5,6,7] xs.length (λgl Y3 iH _ wr=>∃ (i j:J) (ys:ah eN),Y3=I i/\iH=I j/\xs.length-j<=gl/\KeptI (λx=>!p x) xs ys i j/\wr.ownsRow base 175 12 (ao (some (ad r 0 ab)) xs.length cap) xs.length (vcs ys)/\Keeps (λj=>(ao (some (ad r 0 ab)) xs.length cap).ownBlock=some j) w wr)
 case atStart=>exact⟨G,G+1,xs,rfl,by go_num,U,q.o⟩
 obtain⟨i,j,ys,rfl,rfl,Y7,m,B,F⟩:=hrel;have Y8:=m.lt;have Y9:=m.le;have Y2:=m.len;clear q T';by_cases t:j<xs.length
 .have f:=nW (P:=prog) (enc:=eN.bt) (λ_=>rfl) isAgg175 sizeOf175 B j U;rw[m.at' t]at f;have dF:=Vl wr;have O:=aW wr (ae n' 175);obtain⟨c,Y_,m'⟩:=dO (wr.alloc (ae n' 175)) 175 12 wr.heap.size (mo xs[j]) _ sizeOf175 rfl rfl O (Kq xs[j]);have N:=fe (wr.alloc (ae n' 175)) wr.heap.size _ (mo xs[j]) 175 O;have R:=cK ((a_ wr).alloc (ae n' 175)) m' a7;generalize (wr.alloc (ae n' 175)).setRow wr.heap.size (mo xs[j])=Y4 at *;have V:=F.trans (R.mono λ_ _ x=>x.elim);have a':=b3 B R (λ_ _=>id);have Q:=s'.out Y4 V xs[j];have n:=gq (P:=prog) 175 12 wr.heap.size 0 (mo xs[j]) _ _ isAgg175 sizeOf175 rfl N (λj u z=>jS);have Y':=lT St F.size;have Tq:(j:aa)<(xs.length:aa):=U;have M:=af m;have vl:=af N;have l:=b8 V a';clear m B F O m' R V a' N;obtain⟨y,X⟩:=cQ xs[j];rw[<-X]at f c n Q;have D:=af Q;have E:=af X;clear X Q;cases s:p y with
  | false=>
   go_wp2_with first|refine dm f rfl rfl rfl ?_|refine ea dF rfl rfl ?_|refine c8 c rfl rfl rfl rfl ?_|(go_at_fn g;refine D.out.mono ?_;rintro e Y ⟨rfl,k⟩;rw[s];have b:=Keeps.bE (S:=aG) k a7;have gf:=b.heap vl.out id;have fr:=b3 l.out.2 b (λ_ _=>id);obtain⟨Y5,V',A,K⟩:=yA (P:=prog) (enc:=eN.bt) (λ_=>rfl) yU sizeOf175 fr i U y;have Q':=gq (P:=prog) 175 12 wr.heap.size 0 (mo y) _ _ isAgg175 sizeOf175 rfl gf (λj u z=>D4);have d:=af (bD A ((l.out.1.trans (b.mono λ_ _ x=>x.elim)).trans (K.mono λ_ _ x=>uT)));clear A K fr gf b k)|refine dm Q' rfl rfl rfl ?_|refine dm n rfl rfl rfl ?_|refine c8 V' rfl rfl rfl rfl ?_
   exact Eb
  | true=>
   exact DN
 obtain rfl:j=xs.length:=U;have Tq:¬ (xs.length:aa)<(xs.length:aa):=U;obtain⟨Y5,zp,A,K⟩:=yz (P:=prog) (TS:=71) (enc:=eN.bt) (λ_=>rfl) underlying71 VK rfl bq B i U Y2;have ps:=F.trans (K.mono (T:=λj=>(ao (some (ad r 0 ab)) xs.length cap).ownBlock=some j) λ_ _ x=>uT);have hd:=m.done;have g':=m.count;rw[hd]at A;have d:=b8 A (bD ps g');clear A ps g' hd m B F;go_wp2_with refine wm (zp _ _) rfl rfl rfl ?_
 go_ret;exact⟨_,rfl,D5,d.o.2.1,rfl⟩
section
variable{P:Program}{o:Oper}{a:Act}{C:ai->ak}
def KL{ops:a6 Oper}{Q:Act->ak}{rest:ah Oper}{t:TypeId}{m x:Operand}{c:aY}{bh key v:aw}(hrun:∀ w,C w->(Instr.lookup t bh key c).run P w=.ok v w)(a1:o.guard=none)(b:o.op=.lookup t m x c)(hm:a.eval m=bh)(e:a.eval x=key)(hk:wpQuiet P ops C Q rest (a.put o.dst v)):wpQuiet P ops C Q (o :: rest) a:=by
 unfold wpQuiet;rw[aD D1];refine⟨v,λw d=>?_,hk⟩;unfold Oper.quietAt execOp;simp only[b,hm,e,hz,hrun w d,hg,h5];exact⟨rfl,rfl⟩
def CQ{K:Act->ai->ak}{Q:Exit->Act->ai->ak}{t:TypeId}{m x y:Operand}{bh key v:aw}(b:o.op=.mapUpdate t m x y)(hm:a.eval m=bh)(c:a.eval x=key)(d:a.eval y=v)(hrun:(Instr.mapUpdate t bh key v).run P w=.ok () w')(h:K (a.put o.dst undef) w'):o.wp P a w K Q:=by
 unfold Oper.wp;simp only[execOp,b,hm,c,d,hz,hrun,hg,h5];exact h
end
def vo:aC:=⟨⟨0,0,0,0⟩,0,0,0,0,0⟩
def px:cg:=⟨0,vo,0,false⟩
structure ql(w:ai)(B:dE)(s:cH)(e:aC)(W:ai):ak where
 ld:IsLd W B s
 bM:W.heap[w.heap.size]?=some (ae e 45 (0,0))
 rs:W.heap[w.heap.size+1]?=some (ae nb 47 (0,0))
 cv:Keeps aG w W
def ql.keep{B:dE}{s:cH}{e:aC}{W W':ai}(h:ql w B s e W)(hk:Keeps aG W W'):ql w B s e W':=⟨h.ld.ki hk,hk.heap h.bM id,hk.heap h.rs id,h.cv.trans hk⟩
def IsLd.find{B:dE}{s:cH}(h:IsLd w B s)(k:dp)(hk:ht k=true):(Instr.lookup 115 (.map (some B.db)) (aM k) true).run prog w=.ok (aV #[.agg (dU ((iS s.bd k).getD vo)),.bool (iS s.bd k).isSome]) w:=by
 have h1:=h.bd.look qE (x:=k) hk underlying115 (z:=aM z9) (λw=>aH);rw[P9]at h1;refine h1.trans ?_;cases iS s.bd k<;>rfl
def IsLd.put{B:dE}{s:cH}(h:IsLd w B s)(e:aC)(b:ht e.k=true)(c:((ll s.bd e).length:aa)<=s.most):∃ w',(Instr.mapUpdate 115 (.map (some B.db)) (aM e.k) (aM e)).run prog w=.ok () w'/\IsLd w' B {s with bd:=ll s.bd e}/\Keeps (λj=>j=B.db) w w':=by
 have au:=h.cy;have⟨w',h1,h2,a⟩:=h.bd.store qE (x:=e.k) b underlying115 (by unfold h_ maxLen;rw[hh];omega) (.agg e.bt.toArray);exact⟨w',h1,h.B' (h2.perm (Uh s.bd e)) a (Ht h.ef e) c,a⟩
def EV(w:ai)(B:dE)(s:cH)(e:aC)(now:aa)(r:Ending)(w':ai):ak:=
 r=aV #[.agg (di ((k3 s.most now s.bd e).getD px)),.bool (k3 s.most now s.bd e).isSome]/\IsLd w' B {s with bd:=lJ s.most s.bd e}/\Keeps (λj=>j=B.db) w w'
def Vo(w:ai):(Instr.build 47 #[]).run prog w=.ok (.agg (di px)) w:=aH
def Yv{P:Program}{o:Oper}{a:Act}{C:ai->ak}{ops:a6 Oper}{Q:Act->ak}{rest:ah Oper}{t:TypeId}{m:Operand}{bh v:aw}(hrun:∀ w,C w->(Builtin.len_ #[t] o.type #[bh]).run P w=.ok v w)(a1:o.guard=none)(b:o.op=Op.call {callee:=Callee.builtin Builtin.len,args:=#[m],argTypes:=#[t]})(hm:a.eval m=bh)(hk:wpQuiet P ops C Q rest (a.put o.dst v)):wpQuiet P ops C Q (o :: rest) a:=by
 unfold wpQuiet;rw[aD D1];refine⟨v,λw c=>?_,hk⟩;unfold Oper.quietAt;simp[execOp,b,resolve,invoke,builtin,hm,hrun w c,Result.andThen];exact⟨rfl,rfl⟩
theorem IsLd.len{B:dE}{s:cH}(h:IsLd w B s)(ty:TypeId):(Builtin.len_ #[115] ty #[.map (some B.db)]).run prog w=.ok (I s.bd.length) w:=by
 have h1:=h.bd.len underlying115 ty;unfold h_ at h1;rw[hh]at h1;exact h1
def Su{B:dE}{s:cH}(h:IsLd w B s)(e:aC)(he:ht e.k=true)(now:aa)(Y4:0<=now/\now<=1000000):az 275 #[B.b,aM e,I now] w (EV w B s e now):=by
 have Tq:∀ r w',EV w B s e now r w'↔(r=aV #[.agg (di ((k3 s.most now s.bd e).getD px)),.bool (k3 s.most now s.bd e).isSome]/\IsLd w' B {s with bd:=lJ s.most s.bd e}/\Keeps (λj=>j=B.db) w w'):=λ_ _=>Iff.rfl;have V':=af Tq;clear Tq;obtain⟨o,D⟩:=cQ ((iS s.bd e.k).getD vo);obtain⟨p,ar⟩:=cQ (iS s.bd e.k).isSome;have r':=((a_ w).alloc (ae e 45)).alloc (ae nb 47);have T':(w.alloc (ae e 45)).heap.size=w.heap.size+1:=aI;have Aw:=cm (aW w (ae e 45)) (ae nb 47);have ps:=aW (w.alloc (ae e 45)) (ae nb 47);rw[T']at ps;have al:ql w B s e _:=⟨h.ki r',Aw,ps,r'⟩;have v':=af al;clear r' T' Aw ps al
 go_in
 go_wp2_with fail;generalize World.alloc (World.alloc w _) _=an at *;have gf:=v'.o.keep (a_ an).drew;have H:=λx:bp (λW=>ql w B s e W)=>aP x.held.ld.fZ;have a':=λx:bp (λW=>ql w B s e W)=>aP x.held.bM;have Q':∀ W,(∃ x:bp (λW=>ql w B s e W),W=x.to)->(Instr.lookup 115 (.map (some B.db)) (aM e.k) true).run prog W=.ok (aV #[.agg (dU o),.bool p]) W:=λW ⟨x,G⟩=>by
  rw[G,D,ar];exact x.held.ld.find e.k he
 have dF:=qP an.drew;have⟨aB,TS,zp,CW,Y5⟩:=tb an.drew o;have zd:=gf.keep ((a_ an.drew).alloc (ae z9 45));have a:=gf.keep CW;have l:=af a;have ys:=b8 D ar;have vl:=af h;clear v' CW D ar h;go_wp2_with fail;refine cB 13 ?_;refine cC (λW=>ql w B s e W) (.range 13) 0 13 ?_;refine pM (gf) (.range 10) 3 λhne=>?_
 repeat (first|(refine KL Q' rfl rfl rfl rfl ?_;simp only[Act.put,c_])|go_big_quiet_step (fail))
 refine wpQuiet_nil ?_;clear hne;refine qL 10 zd (p5 rfl dF) ?_;refine qL 11 a (na rfl rfl rfl TS) ?_;simp only[Act.put];refine hX 12 a ?_;clear zd a gf;clear H a' Q' TS dF;have h:=vl.o;have hd:=ys.o;clear ys vl;cases f:iS s.bd e.k with
 | some W'=>
  rw[f]at hd;obtain⟨D,ar⟩:o=W'/\p=true:=hd;subst D ar;have d:lJ s.most s.bd e=if o=e then s.bd else ll s.bd e:=by unfold lJ;rw[f]
  have c:k3 s.most now s.bd e=if o=e then none else some ⟨2,e,0,false⟩:=by unfold k3;rw[f]
  by_cases N:o=e
  .rw[aD N]at d c;have L:=b8 d c;have E:=F5 o e;rw[ed N]at E;have lb:=af E;clear d c N E f h;have bm:=jG zp;have le:=jG (e:=e) l.out.bM;have A:=Jb aB;obtain⟨F,O,g⟩:=dO aB 47 12 (w.heap.size+1) (di px) _ sizeOf47 rfl rfl (l.out.rs) (rz _);have m:∀ j,(λj=>j=w.heap.size+1) j->po aB B j:=λj C=>by
    cases C;exact(l.out.ld).free (l.out.rs) bq bq
   have q:=(l.out.ld).keep g m;have t:=cK (l.out.cv) g a7;have K:=b8 q t;clear q t g m;generalize World.setRow aB (w.heap.size+1) (di px)=sd at *;go_wp2_with first|((with_reducible refine y2 bm ?_ rfl ?_ ?_);(first|rfl|simp[go_sem]);exact rfl)|((with_reducible refine y2 le ?_ rfl ?_ ?_);(first|rfl|simp[go_sem]);exact rfl)|((with_reducible refine uo (tv GW _ _ _ _ _) (lb.o _) ?_ rfl ?_ ?_ ?_);(first|rfl|simp[go_sem]);exact rfl;exact rfl)|(with_reducible refine CM A rfl rfl ?_)|((with_reducible refine c8 F rfl rfl ?_ ?_ ?_);exact rfl;exact rfl)
   exact MU
  rw[aA N]at d c;have L:=b8 d c;have E:=F5 o e;rw[cZ N]at E;have lb:=af E;have h2:=af (show((ll s.bd e).length:aa)<=s.most by rw[Hv h.ef f];exact h.n.1);clear d c N E f h;have bm:=jG zp;have le:=jG (e:=e) l.out.bM;go_upto_region 5 with(first|((with_reducible refine y2 bm ?_ rfl ?_ ?_);(first|rfl|simp[go_sem]);exact rfl)|((with_reducible refine y2 le ?_ rfl ?_ ?_);(first|rfl|simp[go_sem]);exact rfl)|((with_reducible refine uo (tv GW _ _ _ _ _) (lb.o _) ?_ rfl ?_ ?_ ?_);(first|rfl|simp[go_sem]);exact rfl;exact rfl)|fail)
  clear bm le;have a:=l.out.keep (a_ aB).drew;have H:=ie (S:=aG) (w:=aB.drew) a.ld.fZ id;have a':=ie (S:=aG) (w:=aB.drew) a.bM id;have Z:∀ W,(∃ x:gU aG aB.drew,W=x.to)->(Instr.loadAt 45 w.heap.size).run prog W=.ok (aM e) W:=λW ⟨x,G⟩=>by rw[G];exact jG (e:=e) (x.keeps.heap a.bM id)
  have⟨y,V,Q,u⟩:=a.ld.put e he h2.o;have P:=u.heap a.bM (λe=>mS a.ld.bd _ _ _ (e▸a.bM));have X:=u.heap a.rs (λe=>mS a.ld.bd _ _ _ (e▸a.rs));have Y:=(a.cv.mono (T:=λj=>j=B.db) (λ_ _ x=>x.elim)).trans u;have i:=b8 Q (bD P (bD X Y));clear a Q u P X Y;refine cB 8 ?_;refine oS (λ_=>False) (.range 7) [] 1 ?_
  repeat (first|(refine j7 Z rfl rfl rfl ?_;simp only[Act.put,c_])|go_big_quiet_step (fail))
  refine wpQuiet_nil ?_;refine hC ?_;refine cC (λ_=>True) [7] 0 1 ?_;refine oW 7 trivial (CQ rfl rfl rfl rfl V) ?_;simp only[Act.put];clear H a' Z V;have le:=jG (e:=e) i.o.2.1;have A:=Vu e;obtain⟨F,O,g⟩:=dO y 47 12 (w.heap.size+1) (di ⟨2,e,0,false⟩) _ sizeOf47 rfl rfl (i.o.2.2.1) (rz _);have m:∀ j,(λj=>j=w.heap.size+1) j->po y B j:=λj C=>by
   cases C;exact(i.o.1).free (i.o.2.2.1) bq bq
  have q:=(i.o.1).keep g m;have t:=cK (i.o.2.2.2) g a7;have K:=b8 q t;clear q t g m;generalize World.setRow y (w.heap.size+1) (di ⟨2,e,0,false⟩)=sd at *;go_wp2_with first|((with_reducible refine dm le rfl rfl ?_ ?_);exact rfl)|((with_reducible refine su (A _) rfl rfl ?_ ?_ ?_);exact rfl;exact rfl)|((with_reducible refine c8 F rfl rfl ?_ ?_ ?_);exact rfl;exact rfl)
  refine dn (v:=aV #[.agg (di ⟨2,e,0,false⟩),true]) O ?_;exact LB
 | none=>
  rw[f]at hd;obtain⟨D,ar⟩:o=vo/\p=false:=hd;subst D ar;have d:lJ s.most s.bd e=if s.most<=s.bd.length then s.bd else ll s.bd e:=by unfold lJ;rw[f]
  have c:k3 s.most now s.bd e=if s.most<=s.bd.length then none else some ⟨1,e,now-e.k.fr,false⟩:=by unfold k3;rw[f]
  have R:=h.n;have s':=b8 d (bD c (bD R f));clear d c R f h;go_upto_region 7 with fail
  have g':=l.out.keep (a_ aB).drew;have H:=ie (S:=aG) (w:=aB.drew) g'.ld.fZ id;have St:∀ W,(∃ x:gU aG aB.drew,W=x.to)->(Builtin.len_ #[115] 3 #[.map (some B.db)]).run prog W=.ok (I s.bd.length) W:=λW ⟨x,G⟩=>by rw[G];exact(g'.ld.ki x.keeps).len 3
  have z:=af g';clear g' l;refine cB 11 ?_;refine oS (λ_=>False) (.range 11) [] 0 ?_
  repeat (first|(refine Yv St rfl rfl rfl ?_;simp only[Act.put,c_])|go_big_quiet_step (fail))
  refine wpQuiet_nil ?_;refine hC ?_;refine ih ?_;clear H St;generalize aB.drew=bn at *;have⟨d,c,R,f⟩:=s'.o;clear s';by_cases M:s.most<=s.bd.length
  .rw[aD M]at d c;have L:=b8 d c;have l':=ed M;rw[l'];clear d c M R f;have A:=Vo bn;obtain⟨F,O,g⟩:=dO bn 47 12 (w.heap.size+1) (di px) _ sizeOf47 rfl rfl (z.o.rs) (rz _);have m:∀ j,(λj=>j=w.heap.size+1) j->po bn B j:=λj C=>by
    cases C;exact(z.o.ld).free (z.o.rs) bq bq
   have q:=(z.o.ld).keep g m;have t:=cK (z.o.cv) g a7;have K:=b8 q t;clear q t g m;generalize World.setRow bn (w.heap.size+1) (di px)=sd at *;go_wp2_with first|(with_reducible refine CM A rfl rfl ?_)|((with_reducible refine c8 F rfl rfl ?_ ?_ ?_);exact rfl;exact rfl)
   exact MU
  rw[aA M]at d c;have L:=b8 d c;have l':=cZ M;rw[l'];have h2:=af (show((ll s.bd e).length:aa)<=s.most by rw[Hu f];omega);have Y2:0<=e.k.fr/\e.k.fr<=1073741824:=by
   have m':=he;unfold ht fO at m';simp only[ee,gg]at m';exact m'.1.1.1
  have Y3:IntKind.i64.wrap (now-e.k.fr)=now-e.k.fr:=et _ U;clear d c M R Y2 f;go_upto_region 9 with fail
  have l:=z;clear z;have a:=l.out.keep (a_ bn).drew;have H:=ie (S:=aG) (w:=bn.drew) a.ld.fZ id;have a':=ie (S:=aG) (w:=bn.drew) a.bM id;have Z:∀ W,(∃ x:gU aG bn.drew,W=x.to)->(Instr.loadAt 45 w.heap.size).run prog W=.ok (aM e) W:=λW ⟨x,G⟩=>by rw[G];exact jG (e:=e) (x.keeps.heap a.bM id)
  have⟨y,V,Q,u⟩:=a.ld.put e he h2.o;have P:=u.heap a.bM (λe=>mS a.ld.bd _ _ _ (e▸a.bM));have X:=u.heap a.rs (λe=>mS a.ld.bd _ _ _ (e▸a.rs));have Y:=(a.cv.mono (T:=λj=>j=B.db) (λ_ _ x=>x.elim)).trans u;have i:=b8 Q (bD P (bD X Y));clear a Q u P X Y;refine cB 8 ?_;refine oS (λ_=>False) (.range 7) [] 1 ?_
  repeat (first|(refine j7 Z rfl rfl rfl ?_;simp only[Act.put,c_])|go_big_quiet_step (fail))
  refine wpQuiet_nil ?_;refine hC ?_;refine cC (λ_=>True) [7] 0 1 ?_;refine oW 7 trivial (CQ rfl rfl rfl rfl V) ?_;simp only[Act.put];clear H a' Z V;have le:=jG (e:=e) i.o.2.1;have bu:=aP i.o.2.1;have A:=Vt e (now-e.k.fr) y;obtain⟨F,O,g⟩:=dO y 47 12 (w.heap.size+1) (di ⟨1,e,now-e.k.fr,false⟩) _ sizeOf47 rfl rfl (i.o.2.2.1) (rz _);have m:∀ j,(λj=>j=w.heap.size+1) j->po y B j:=λj C=>by
   cases C;exact(i.o.1).free (i.o.2.2.1) bq bq
  have q:=(i.o.1).keep g m;have t:=cK (i.o.2.2.2) g a7;have K:=b8 q t;clear q t g m;generalize World.setRow y (w.heap.size+1) (di ⟨1,e,now-e.k.fr,false⟩)=sd at *;go_wp2_with first|((with_reducible refine dm le rfl rfl ?_ ?_);exact rfl)|((with_reducible refine CN A rfl rfl ?_ ?_ ?_ ?_);exact rfl;exact rfl;exact rfl)|((with_reducible refine c8 F rfl rfl ?_ ?_ ?_);exact rfl;exact rfl)
  refine dn (v:=aV #[.agg (di ⟨1,e,now-e.k.fr,false⟩),true]) O ?_;exact LB
theorem filter_one(a:aa):∀ L:ah aa,L.Pairwise (·≠·)->L.length<=(L.filter λy=>!decide (y=a)).length+1
 | [],_=>by simp
 | b :: l,h=>by
  obtain⟨h1,h2⟩:=jP.1 h;by_cases e:b=a
  .subst e;rw[oc aI,ni.2 λy d=>by simpa using λc=>h1 y d c.symm];simp
  rw[q6 (by simpa using e)]
  have:=filter_one a l h2
  simp only[dr];omega
theorem AG:∀ (N:J) (L:ah aa),L.Pairwise (·≠·)->(∀ x∈L,0<=x/\x<N)->L.length<=N
 | 0,L,_,b=>by
  cases L with
  | nil=>simp
  | cons a l=>have:=b a oh;omega
 | N+1,L,h,b=>by
  have h1:=filter_one N L h;have h2:=AG N (L.filter λy=>!decide (y=(N:aa))) (h.filter _) λx e=>by
   obtain⟨c,d⟩:=fR.1 e
   have:=b x c
   simp at d;omega
  omega
section
variable{dw:Type}[DecidableEq dw]
def Gn(M:ah (dw×aw))(k x:dw):hU (kM M k) x=if x=k then none else hU M x:=by
 unfold hU kM;rw[find?_filter];split
 .rename_i e;subst e;rw[zk.2 aI];rfl
 rename_i e;refine cV (Option.map Prod.snd) (cV (λq=>find? q M) (funext λp=>?_));by_cases h:p.1=x
 .simp[h,e]
 simp[h]
def P8(M:ah (dw×aw))(k x:dw)(v:aw):hU (lC M k v) x=if x=k then some v else hU M x:=by
 have h:=Gn M k x;unfold hU lC at *;rw[find?_append];split
 .rename_i e;rw[aD e]at h;rw[Option.map_eq_none_iff.1 h,e];simp
 rename_i e;rw[aA e]at h;rw[<-h]
 have:([(k,v)]:ah (dw×aw)).find? (λp=>decide (p.1=x))=none:=by simpa using λc:k=x=>e c.symm
 rw[this,Option.or_none]
end
def IsLd.AM{B:dE}{s:cH}(h:IsLd w B s){j:J}(a:po w B j):¬ B.S j:=by
 rintro(e|e|e|⟨p,ar,e⟩)
 .exact a.1 e
 .exact a.2.1 e
 .exact a.2.2.1 e
 have⟨b,aq⟩:=Ir (h.row ar) e;exact a.2.2.2 b aq
def IsLd.S0{B:dE}{s:cH}(h:IsLd w B s):B.M.length<=1000001:=by
 have:=AG 1000001 (B.M.map Prod.fst) (uA.2 h.b2.1.pz) λx a=>by
  obtain⟨p,ar,rfl⟩:=fu.1 a
  have:=h.b2.2.2 p ar
  omega
 rwa [hh]at this
def IsLd.note{B:dE}{s:cH}(h:IsLd w B s){fr:aa}{xs:ah aC}{base:J}{v:aw}(aX:w.ownsRow base 45 9 v xs.length (bX xs))(ar:eH fr xs)(g:0<=fr/\fr<=1000000):∃ w',(Instr.mapUpdate 116 (.map (some B.hb)) (I fr) v).run prog w=.ok () w'/\IsLd w' {B with M:=lC B.M fr v} {s with b2:=h4 s.b2 fr xs}/\Keeps (λj=>j=B.hb) w w':=by
 have⟨w',h1,h2,b⟩:=h.b2.1.store tx (x:=fr) (wf_i64 U) underlying116 (by have:=h.S0;unfold maxLen;omega) v;refine⟨w',h1,h.JD h2 b (λx=>?_) (λp ar=>?_) (λx=>?_),b⟩
 .rw[P8];have d:∀ {u:aw} {l:ah aw} {n c:J},w.ownsRow c 45 9 u n l->w'.ownsRow c 45 9 u n l:=λf=>b3 f b λj i e=>mb f h.b2.1 i e;unfold h4;by_cases e:x=fr
  .rw[aD e,aD e];exact d (kr aX (c' _))
  rw[aA e,aA e];have a:=h.b2.2.1 x;cases aq:hU B.M x with
  | none=>rw[aq]at a;exact a
  | some u=>rw[aq]at a;exact d a
 .unfold lC at ar;rcases ft.1 ar with ar|ar
  .exact h.b2.2.2 p (fR.1 ar).1
  rw[h6.1 ar];exact g
 unfold h4;split
 .rename_i e;rw[e];exact ar
 exact h.bg x
structure w6(w:ai)(B:dE)(w':ai)(js:dE)(s':cH):ak where
 ld:IsLd w' js s'
 b:js.b=B.b
 db:js.db=B.db
 hb:js.hb=B.hb
 S:∀ j,js.S j->B.S j\/w.heap.size<=j
 cv:Keeps B.S w w'
def EY(w:ai)(B:dE)(s:cH)(fr:aa)(xs:ah aC)(now:aa)(e:Ending)(w':ai):ak:=
 ∃ v js,e=aV #[v,I 0]/\w'.ownsRow w.heap.size 47 12 v (ks s fr xs now).length (eA (ks s fr xs now))/\w6 w B w' js (o6 s fr xs)/\∀ j,v.ownBlock=some j->¬ js.S j
def Ci(most now:aa)(L xs:ah aC):(fp most now L xs).2.length<=xs.length:=by
 rw[<-oo xs]
 induction xs.reverse with
 | nil=>simp[fp]
 | cons e l a=>
  rw[om,se,cx,cx,iM]
  have:(k3 most now (fp most now L l.reverse).1 e).toList.length<=1:=by cases k3 most now (fp most now L l.reverse).1 e<;>simp
  omega
def yB(w:ai):(Instr.alloc 47 true (aV #[])).run prog w=.ok w.heap.size (w.alloc (ae nb 47)):=aH
def xk(w:ai)(c:cg):∃ w',(Instr.storeAt 47 w.heap.size (.agg (di c))).run prog (w.alloc (ae nb 47))=.ok () w'/\w'.heap[w.heap.size]?=some (ae (di c) 47 (0,0))/\Keeps aG w w'/\w'.heap.size=w.heap.size+1:=by
 have a:=aW w (ae nb 47);obtain⟨d,e,b⟩:=dO (w.alloc (ae nb 47)) 47 12 w.heap.size (di c) _ sizeOf47 rfl rfl a (rz c);refine⟨_,d,fe (w.alloc (ae nb 47)) w.heap.size _ (di c) 47 a,cK ((a_ w).alloc (ae nb 47)) b a7,?_⟩;simp[World.setRow]
theorem HY{b:J}{c:cg}(h:w.heap[b]?=some (ae (di c) 47 (0,0))):(Instr.loadAt 47 b).run prog w=.ok (.agg (di c)) w:=
 gq (P:=prog) 47 12 b 0 (di c) _ _ isAgg47 sizeOf47 rfl h (λj u z=>jS)
structure oD(w:ai)(B:dE)(s:cH)(L:ah aC)(cs:ah cg)(xs:ah aC)(fr now:aa)(v:aw)(pre:ah aC)(cw:aw)(W:ai):ak where
 out:W.ownsRow (w.heap.size+1) 47 12 cw (cs++(fp s.most now L pre).2).length (eA (cs++(fp s.most now L pre).2))
 ld:IsLd W B {s with bd:=(fp s.most now L pre).1}
 cv:Keeps (λj=>j=B.db) w W
 bg:W.heap[w.heap.size]?=some (ae #[I fr,v] 271 (0,0))
 rx:∃ base,W.ownsRow base 45 9 v xs.length (bX xs)
 cD:w.heap.size+1<=W.heap.size
def oD.keep{B:dE}{s:cH}{L:ah aC}{cs:ah cg}{xs:ah aC}{fr now:aa}{v:aw}{pre:ah aC}{cw:aw}{W W':ai}(h:oD w B s L cs xs fr now v pre cw W)(hk:Keeps aG W W'):oD w B s L cs xs fr now v pre cw W':=by
 have⟨base,a⟩:=h.rx;exact⟨b3 h.out hk (λ_ _=>id),h.ld.ki hk,h.cv.trans (hk.mono λ_ _ x=>x.elim),hk.heap h.bg id,⟨base,b3 a hk (λ_ _=>id)⟩,b7 h.cD hk.size⟩
theorem oD.bd{B:dE}{s:cH}{L:ah aC}{cs:ah cg}{xs:ah aC}{fr now:aa}{v:aw}{pre:ah aC}{cw:aw}{W W':ai}(h:oD w B s L cs xs fr now v pre cw W)(hk:Keeps (λj=>j=B.db) W W'):W'.ownsRow (w.heap.size+1) 47 12 cw (cs++(fp s.most now L pre).2).length (eA (cs++(fp s.most now L pre).2))/\Keeps (λj=>j=B.db) w W'/\W'.heap[w.heap.size]?=some (ae #[I fr,v] 271 (0,0))/\(∃ base,W'.ownsRow base 45 9 v xs.length (bX xs))/\w.heap.size+1<=W'.heap.size:=by
 have⟨base,b⟩:=h.rx;have hm:=h.ld.bd;exact⟨b3 h.out hk (λj a e=>mb h.out hm a e),h.cv.trans hk,hk.heap h.bg (λe=>mS hm _ _ _ (e▸h.bg)),⟨base,b3 b hk (λj a e=>mb b hm a e)⟩,b7 h.cD hk.size⟩
def Sk{B:dE}{s:cH}(h:IsLd w B s)(aR:s.hd=false){fr now:aa}{xs:ah aC}{base:J}{v:aw}(aX:w.ownsRow base 45 9 v xs.length (bX xs))(ar:eH fr xs)(ZI:0<=fr)(au:fr<=now/\now<=1000000)(aq:s.aS<fr):az 210 #[B.b,aM #[I fr,v],I now] w (EY w B s fr xs now):=by
 have CW:Keeps aG w (w.alloc (ae #[I fr,v] 271)):=(Keeps.refl _ w).alloc _;have Zb:=b3 aX CW (λ_ _=>id);have Y2:=aW w (ae #[I fr,v] 271);have h1:=h.ki CW;have ZK:(w.alloc (ae #[I fr,v] 271)).heap.size=w.heap.size+1:=aI;have V':=af (Sn h1 aR Zb ar au aq);have Zv:∀ e∈xs,ht e.k=true:=λe y=>(tU (ar.2.2 e y).1).1;have Zs:∀ e∈s.bd,ht e.k=true:=λe y=>h.bd.ok (e.k,.agg e.bt.toArray) (fu.2 ⟨e,y,rfl⟩);have l:=b8 h1 (bD Zb (bD Y2 (bD CW (bD Zv (bD Zs ar)))));have Zr:=ar.2.1;have Zl:=af (show ∀ j,B.S j->j<w.heap.size from λj a=>h.lt a);obtain⟨A,cap,rfl,_,_⟩:=cP aX;have Zf:=aP Y2
 go_in
 go_wp2_with fail;generalize w.alloc _=an at *;refine aT V'.o λaB m=>?_;have Aw:=b3 l.o.2.1 m (λ_ _=>id);have sd:=m.heap l.o.2.2.1 id;have aU:=af (Sl (l.o.1.ki m) (fr:=fr) Aw U l.o.2.2.2.2.2.1);have t:=b8 Aw (bD sd (bD (l.o.2.2.2.1.trans m) (l.o.1.ki m).bd));have ZN:=m.size;have Zf:=aP sd;clear Aw sd m V';go_wp2_with fail;refine aU.o.mono ?_;rintro e bn ⟨cw,rfl,a',vl,Q⟩;obtain⟨L,r'⟩:=cQ (hS s.bd (gy xs (gA s.bd fr)));obtain⟨cs,X⟩:=cQ (ix xs (gA s.bd fr));rw[<-X]at a';rw[<-r']at vl;have m':oD w B s L cs xs fr now (ao A xs.length cap) [] cw bn:=by
  have TS:fp s.most now L []=(L,[]):=rfl;have Zu:w.heap.size≠B.db:=λe=>by have:=Zl.out B.db (.inr (.inl rfl));omega
  refine⟨?_,by rw[TS];exact vl,(t.out.2.2.1.mono (λ_ _ x=>x.elim)).trans Q,Q.heap t.out.2.1 Zu,⟨base,b3 t.out.1 Q (λj a e=>mb t.out.1 t.out.2.2.2 a e)⟩,by have:=Q.size;omega⟩;rw[TS,eX];exact kr a' U
 obtain⟨h2,ZF,rfl,_,_⟩:=cP a';have Q':=af m';have lb:=b8 r' X
 have Zj:=af (show cs.length<=256 by
  rw[X];unfold ix gy;rw[hh];exact b7 (mv _ _) (b7 (mv _ _) l.out.1.cy))
 have Y7:=m'.bg;have Zy:=aP Y7;clear a' vl Q m' aU t r' X Zf Y7;go_wp2_with fail;clear Zy;go_loopg [9,29] xs.length (λg cw z wr=>∃ pre rest:ah aC,xs=pre++rest/\g=rest.length/\z=I pre.length/\(∃ A n cap,cw=ao A n cap)/\oD w B s L cs xs fr now (ao A xs.length cap) pre cw wr)
 case atStart=>exact⟨[],xs,rfl,rfl,rfl,⟨_,_,_,rfl⟩,Q'.o⟩
 obtain⟨pre,rest,f,a1,rfl,⟨h2,no,co,rfl⟩,u⟩:=hrel;clear Q';cases rest with
 | nil=>
  have Zr:¬ (pre.length:aa)<(xs.length:aa):=by rw[f];simp
  have Ze:xs=pre:=by rw[f,eX]
  have H:=u.keep (a_ wr).drew;have Zz:=ie (S:=aG) (w:=wr.drew) H.ld.fZ id;have ZA:=ie (S:=aG) (w:=wr.drew) H.bg id;obtain⟨bM,E⟩:=H.rx;have T':=af (F7 E U);have V:=af H;have Hx:=af Ze;clear f Ze u H E;go_wp2_with fail;refine cB 10 ?_;refine fk (λ_=>False) (.range 8) [8] 1 ?_;refine km λK W'=>?_;go_simp;refine T'.o.mono ?_;rintro e r ⟨cL,rfl,w',Y4⟩;have q:=Keeps.bE (S:=aG) Y4 a7;obtain⟨F,Y_,Y,d⟩:=(V.out.keep q).ld.note w' l.out.2.2.2.2.2.2 U;refine W' _ _ (cX (q)) ?_;clear W' K;refine cC (λ_=>True) [9] 0 1 ?_;refine oW 9 trivial (CQ rfl rfl rfl rfl Y_) ?_;simp only[Act.put];have N:=V.out.keep q;have i:=b3 N.out d (λj a e=>mb N.out N.ld.b2.1 a e);have Za:EY w B s fr xs now (aV #[ao h2 no co,I 0]) F:=by
   have Zn:ks s fr xs now=cs++(fp s.most now L xs).2:=by unfold ks;rw[<-lb.out.1,<-lb.out.2]
   have Zo:o6 s fr xs={s with bd:=(fp s.most now L pre).1,b2:=h4 s.b2 fr xs}:=by
    unfold o6;rw[<-lb.out.1,W4 s.most 0 now,Hx.out]
   rw[<-Hx.out]at i;refine⟨_,{B with M:=lC B.M fr cL},rfl,by rw[Zn];exact kr i U,⟨by rw[Zo];exact Y,rfl,rfl,rfl,λj a=>?_,?_⟩,λj a=>Y.AM (Y.qC i bq bq a)⟩
   .rcases a with a|a|a|⟨p,ar,a⟩
    .exact .inl (.inl a)
    .exact .inl (.inr (.inl a))
    .exact .inl (.inr (.inr (.inl a)))
    unfold lC at ar;rcases ft.1 ar with ar|ar
    .exact .inl (.inr (.inr (.inr ⟨p,(fR.1 ar).1,a⟩)))
    rw[h6.1 ar]at a;have ZG:=(w'.lt j a).1;have ZH:=V.out.cD;exact .inr U
   exact(N.cv.mono (T:=B.S) (λj _ a=>.inr (.inl a))).trans (d.mono (T:=B.S) (λj _ a=>.inr (.inr (.inl a))))
  have Zk:=af Za;clear Zz ZA Y_ Za i N Y d q Y4 w' T' V;go_wp2;go_ret2;exact Zk.o
 | cons e rest=>
  have Zt:pre.length<xs.length:=by rw[f];simp
  have ZJ:(pre.length:aa)<(xs.length:aa):=U;have y:xs[pre.length]=e:=by simp[f]
  have ys:ht e.k=true:=l.out.2.2.2.2.1 e uS;have Zd:xs=(pre++[e])++rest:=by rw[f];simp
  have Zp:=a1;simp only[dr]at Zp;have ZM:=u.cD;clear a1;obtain⟨bM,E⟩:=u.rx;obtain⟨Zg,rfl⟩:=oY E U;have s':=nW (P:=prog) (enc:=aC.bt) (λ_=>rfl) isAgg45 sizeOf45 E pre.length Zt;rw[y]at s';have dF:=qP wr;obtain⟨ZO,zp,l',Y8,ZL⟩:=tb wr e;have ps:=u.keep Y8;have Y9:=jG l';have Tq:=af (Su ps.ld e ys now U);have St:=b8 ps l';have ZD:=b8 Zd ys;generalize wr.alloc (ae z9 45)=ZP at dF zp;clear u f y ys Zd ps l' Y8 E;go_wp2_with first|((with_reducible refine dm s' rfl rfl ?_ ?_);exact rfl)|(with_reducible refine ea dF rfl rfl ?_)|((with_reducible refine c8 zp rfl rfl ?_ ?_ ?_);exact rfl;exact rfl)|((with_reducible refine dm Y9 rfl rfl ?_ ?_);exact rfl)
  refine aT Tq.o ?_;rintro r ⟨Z,q⟩;have⟨t1,t2,t3,t4,t5⟩:=St.out.1.bd q;have zd:=se s.most now L pre e;have gf:(fp s.most now L (pre++[e])).1=lJ s.most (fp s.most now L pre).1 e:=by rw[zd]
  have D:(fp s.most now L (pre++[e])).2=(fp s.most now L pre).2++(k3 s.most now (fp s.most now L pre).1 e).toList:=by rw[zd]
  clear s' Y9 Tq St dF zp q zd;cases g':k3 s.most now (fp s.most now L pre).1 e with
  | none=>
   obtain⟨F,R,W,d,Zw⟩:=xk r px;have G:=yB r;rw[g',Option.toList_none,eX]at D;have O:oD w B s L cs xs fr now (ao (some (ad Zg 0 ab)) xs.length cap) (pre++[e]) (ao h2 no co) F:=oD.keep ⟨by rw[D];exact t1,by rw[gf];exact Z,t2,t3,t4,t5⟩ d;have Zh:=af O;generalize r.alloc (ae nb 47)=ZB at G R;clear t1 t2 t3 t4 t5 gf D Z O W d g';go_wp2_with first|(with_reducible refine ea G rfl rfl ?_)|((with_reducible refine c8 R rfl rfl ?_ ?_ ?_);exact rfl;exact rfl)
   exact M6
  | some c=>
   have⟨F,R,W,d,Zw⟩:=xk r c;have G:=yB r;rw[g',Option.toList_some]at D;have i:=b3 t1 d (λ_ _=>id);have Y6:(cs++(fp s.most now L pre).2).length<=10000:=by
    have:=Ci s.most now L pre
    have:=Zj.out
    rw[cx];omega
   obtain⟨ZE,ZC,Y3,Y',C,Zi,n7,c6,rfl⟩:=xm 32 i Y6 U c;have Zq:=HY W;have Y5:=yD c F;have v':=Z.ki d;have O:oD w B s L cs xs fr now (ao (some (ad Zg 0 ab)) xs.length cap) (pre++[e]) (ao Zi n7 c6) ZC:=by
    have⟨Zm,Zx⟩:=t4;have Zc:=b3 Zx d (λ_ _=>id);refine⟨by rw[D,<-dD];exact Y',by rw[gf];exact v'.keep C λj a=>v'.qC i bq bq a,?_,C.heap (d.heap t3 id) (λe=>by have:=(i.lt _ e).1;omega),⟨Zm,b3 Zc C (λj a e=>tL i Zc bq e a)⟩,by have:=d.size;have:=C.size;omega⟩;exact cK (t2.trans (d.mono λ_ _ x=>x.elim)) C (λj a e=>by have:=(i.lt _ e).1;omega)
   have Zh:=af O;generalize r.alloc (ae nb 47)=ZB at G R;generalize F.alloc (ae (di c) 47)=ZQ at Y3 Y5;clear t1 t2 t3 t4 t5 gf D Z O W d g' i Y6 Y' C v';go_wp2_with first|(with_reducible refine ea G rfl rfl ?_)|((with_reducible refine c8 R rfl rfl ?_ ?_ ?_);exact rfl;exact rfl)|((with_reducible refine dm Zq rfl rfl ?_ ?_);exact rfl)|((with_reducible refine y0 Y5 rfl rfl ?_ ?_);exact rfl)|((with_reducible refine wk Y3 rfl rfl ?_ ?_ ?_);exact rfl;exact rfl)
   exact M6
structure kB(w:ai)(b:J)(n:aa)(c7:aw)(bQ:ah eN):ak where
 hd:w.heap[b]?=some (ae #[I n,I 0,c7] 177 (0,0))
 row:w.ownsRow 0 175 12 c7 bQ.length (vcs bQ)
 fX:bQ.length<=64
def kB.keep{b:J}{n:aa}{c7:aw}{bQ:ah eN}(h:kB w b n c7 bQ)(hk:Keeps aG w w'):kB w' b n c7 bQ:=⟨hk.heap h.hd id,b3 h.row hk (λ_ _=>id),h.fX⟩
def Bc(k:dp)(x:eN):aY:=decide (x.v.cn.k=k)&&(decide (x.v.cut=-1)&&!mM x.v)
theorem Ks(v:j')(h:v.wf)(w:ai):az 234 #[aM v,I 0] w λr w'=>r=.returned (.bool (mM v))/\Below w w w':=
 (X5 v h w).mono λ_ _ aR=>⟨aR.1,aR.2.below bA (λ_ _ h2=>h2.elim)⟩
def Tm(v:j')(h:v.wf)(k:dp)(en f b:J)(n:aa)(c7:aw)(hk:w.heap[en]?=some (ae k 43 (0,0)))(hm:w.cell? (ad f 0 ab)=some (.pointer (some (ad b 0 ab))))(aj:w.heap[b]?=some (ae #[I n,I 0,c7] 177 (0,0))):az 296 #[aM v,en,f] w λr w'=>r=.returned (.bool (Bc k ⟨v,h⟩))/\Below w w w':=by
 have hcut:=h.cut;have q:=λW=>Ks v h W;have aX:Bc k ⟨v,h⟩=(decide (v.cn.k=k)&&(decide (v.cut=-1)&&!mM v)):=rfl;rw[aX];clear aX h;generalize mM v=C at *;obtain⟨e,dz,c⟩:=v;dsimp only at *;have ca:=(bY w.heap.size w).alloc bA (ae #[I e.k.fr,I e.k.em,I e.k.bN,I e.k.cp,I e.cF,I e.dq,I e.eo,I e.dJ,I e.le,I 0,I dz,I c] 175);have a:=aW w (ae #[I e.k.fr,I e.k.em,I e.k.bN,I e.k.cp,I e.cF,I e.dq,I e.eo,I e.dJ,I e.le,I 0,I dz,I c] 175);have d:=cm hk (ae #[I e.k.fr,I e.k.em,I e.k.bN,I e.k.cp,I e.cF,I e.dq,I e.eo,I e.dJ,I e.le,I 0,I dz,I c] 175);have l:=cm aj (ae #[I e.k.fr,I e.k.em,I e.k.bN,I e.k.cp,I e.cF,I e.dq,I e.eo,I e.dJ,I e.le,I 0,I dz,I c] 175);have s:f<w.heap.size:=mq w (ad f 0 ab) hm;have t:=dK ((ca.cell (p:=ad f 0 ab) s).trans hm);have o:=af (λx:kz (w.alloc (ae #[I e.k.fr,I e.k.em,I e.k.bN,I e.k.cp,I e.cF,I e.dq,I e.eo,I e.dJ,I e.le,I 0,I dz,I c] 175))=>q x.to);have D:=dK (bb (k:=0) a rfl);have E:=dK (bb (k:=1) a rfl);have F:=dK (bb (k:=2) a rfl);have G:=dK (bb (k:=3) a rfl);have H:=dK (bb (k:=4) a rfl);have K:=dK (bb (k:=5) a rfl);have L:=dK (bb (k:=6) a rfl);have M:=dK (bb (k:=7) a rfl);have N:=dK (bb (k:=8) a rfl);have O:=dK (bb (k:=9) a rfl);have P:=dK (bb (k:=10) a rfl);have Q:=dK (bb (k:=11) a rfl);have u:=dK (bb (k:=0) d rfl);have y:=dK (bb (k:=1) d rfl);have z:=dK (bb (k:=2) d rfl);have A:=dK (bb (k:=3) d rfl);have B:=dK (bb (k:=1) l rfl);have m:=Av e.k k;clear a d l hk hm aj;cases g:decide (e.k=k)with
 | false=>
  rw[g]at m;rw[CZ];clear g hcut
  go_in
  go_wp2_with fail;refine o9 aH aH ?_
  repeat (go_big_quiet_step (first|(go_at_call 234;exact Calls.ka (o.out _))))
  refine wpQuiet_nil ?_;intro _ i;have⟨x,j⟩:=i;subst j;go_wp2_with fail
  all_goals
   go_ret;exact⟨rfl,ca.trans (x.below.mono ca.size)⟩
 | true=>
  rw[g]at m;rw[sz];clear g;rcases hcut with rfl|rfl
  .go_in
   exact Mm
  go_in
  exact Mm
end Go.Proofs.YtalagblioepadaaGreatDoor
