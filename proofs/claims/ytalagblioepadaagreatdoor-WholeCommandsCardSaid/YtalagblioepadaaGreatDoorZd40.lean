/- The proof, part 40. -/
import Derived.Test.YtalagblioepadaaGreatDoorZd39
namespace Go.Proofs.YtalagblioepadaaGreatDoor
set_option linter.all false
open Proofs.Tryz List Go.RowKit Go.Shelf Go.Maps
set_option maxRecDepth 100000
set_option maxHeartbeats 2000000
def E8{p:al}(h:p:=by rw[e]at i;exact i):p:=h
def Nu{p:al}(h:p:=by unfold iq maxLen;rw[hG];omega):p:=h
def Nk{p:al}(h:p:=by simpa using λc=>mE e.k (by rw[c]at h;exact h)):p:=h
def Nf{p:al}(h:p:=by simpa using λh2=>mE _ (ri h ((la _ _).1 h2))):p:=h
def Nc{p:al}(h:p:=by rw[<-h];simpa only[gh]using λh2=>ax ((la _ _).1 h2)):p:=h
def NC{p:al}(h:p:=by
 go_wp2_with fail;refine pF aI aI ?_
 repeat (go_big_quiet_step (first|(go_at_call 234;exact Calls.kB (o.out _))))
 refine wpQuiet_nil ?_;intro _ i;have⟨x,j⟩:=i;subst j;go_wp2_with fail
 all_goals
  go_ret;exact⟨aM,b'.trans (x.below.mono b'.size)⟩
 ):p:=h
def Oa{p:al}(h:p:=by
 refine dx (v:=aY #[.agg (dg p4),false]) O ?_;exact(T'.out _ _).2 ⟨by rw[L.o.2];rfl,by rw[L.o.1];exact K.o.1,K.o.2.mono λ_ _ x=>x.elim⟩
 ):p:=h
def Om{p:al}(h:p:=by
 go_roundg rest.length
 case measure=>omega
 exact⟨pre++[e],rest,aa2.out.1,rfl,qO,⟨_,_,_,rfl⟩,aaG.o⟩
 ):p:=h
def MO{p:al}(h:p:=by
 exact(T'.out _ _).2 ⟨by rw[L.o.2];rfl,by rw[L.o.1];exact K.o.1,K.o.2⟩
 ):p:=h
def eP(L:ah aC)(k:cU):b_ aC:=L.find? λe=>decide (e.k=k)
def iv(L:ah aC)(e:aC):ah aC:=(L.filter λx=>decide (eN x.k e.k<0))++e :: L.filter λx=>decide (eN e.k x.k<0)
def Hy(L:ah aC)(k:cU):hO (iq L) k=(eP L k).map λe=>.agg e.bu.toArray:=by
 unfold hO eP iq;rw[find?_map,Ew];rfl
def vX{L:ah aC}{k:cU}{o:aC}(h:eP L k=some o):o∈L/\o.k=k:=⟨Ab h,by simpa using find?_some h⟩
def Bu{L:ah aC}{k:cU}(h:eP L k=none):∀ x∈L,x.k≠k:=λx a=>by simpa using find?_eq_none.1 h x a
def yh{L:ah aC}(h:ev L){o:aC}(d:o∈L):eP L o.k=some o:=by
 cases c:eP L o.k with
 | none=>exact absurd rfl (Bu c o d)
 | some p=>
  have⟨h1,h2⟩:=vX c;rw[B_ (h.imp λ{a b} i (e:a.k=b.k)=>mE b.k E8) h1 d h2]
def Yg(L:ah aC)(e:aC):(L.filter λx=>!decide (x.k=e.k)).Perm ((L.filter λx=>decide (eN x.k e.k<0))++L.filter λx=>decide (eN e.k x.k<0)):=by
 induction L with
 | nil=>exact zX _
 | cons a l b=>
  rcases wx a.k e.k with h|h|h
  .rw[rP Nk,rP (by simpa using(la _ _).2 h),oT Nf];exact b.cons a
  .have ax:¬ kL a.k a.k:=mE _;rw[oT ic,oT Nc,oT Nc];exact b
  rw[rP Nk,oT Nf,rP (by simpa using(la _ _).2 h)];exact(b.cons a).trans qJ.symm
def wj(L:ah aC)(e:aC):(iv L e).Perm (e :: L.filter λx=>!decide (x.k=e.k)):=by
 exact qJ.trans ((Yg L e).symm.cons e)
def JO(L:ah aC)(e:aC):(lr (iq L) e.k (.agg e.bu.toArray)).Perm (iq (iv L e)):=by
 refine Perm.trans ?_ ((wj L e).map λe=>(e.k,Value.agg e.bu.toArray)).symm;have a:kE (iq L) e.k=(L.filter λx=>!decide (x.k=e.k)).map λe=>(e.k,Value.agg e.bu.toArray):=by
  unfold kE iq;rw[rQ];rfl
 unfold lr;rw[a];exact Em _ _
def B9{L:ah aC}(h:ev L)(e:aC):ev (iv L e):=by
 refine pJ.2 ⟨h.sublist xc,kb.2 ⟨λx a=>?_,h.sublist xc⟩,λx a y b=>?_⟩
 .exact(la _ _).1 (by simpa using(fx.1 a).2)
 have h1:=(la _ _).1 (by simpa using(fx.1 a).2);rcases ff.1 b with c|b
 .rw[c];exact h1
 exact ri h1 ((la _ _).1 (by simpa using(fx.1 b).2))
def sv{L:ah aC}{e x:aC}:x∈iv L e↔x=e\/(x∈L/\x.k≠e.k):=by
 rw[(wj L e).mem_iff,ff,fx];simp
def IB{L:ah aC}{e:aC}(h:eP L e.k=none):(iv L e).length=L.length+1:=by
 rw[(wj L e).length_eq,nR,mW.2 λx a=>by simpa using Bu h x a]
def IC{L:ah aC}(h:ev L){e o:aC}(g:eP L e.k=some o):(iv L e).length=L.length:=by
 rw[(wj L e).length_eq,nR];have⟨h1,h2⟩:=vX g;have hd:=h.imp λ{a b} i (e:a.k=b.k)=>mE b.k E8;clear g h
 induction L with
 | nil=>cases h1
 | cons a l m=>
  obtain⟨d1,d2⟩:=kb.1 hd;rcases ff.1 h1 with d|f
  .rw[<-d,oT AH,nR,mW.2 λx j=>by simpa using λc=>d1 x j (by rw[<-d,h2,c])]
  rw[rP (by simpa using λc=>d1 o f (by rw[c,h2])),nR,m f d2,nR]
def lA(most:aa)(L:ah aC)(e:aC):ah aC:=match eP L e.k with
 | some o=>if o=e then L else iv L e
 | none=>if most<=L.length then L else iv L e
def kR(most now:aa)(L:ah aC)(e:aC):b_ bI:=match eP L e.k with
 | some o=>if o=e then none else some ⟨2,e,0,false⟩
 | none=>if most<=L.length then none else some ⟨1,e,now-e.k.fr,false⟩
def e6(most now:aa)(L:ah aC)(xs:ah aC):ah aC×ah bI:=xs.foldl (λp e=>(lA most p.1 e,p.2++(kR most now p.1 e).toList)) (L,[])
def rF(most now:aa)(L:ah aC)(xs:ah aC)(e:aC):e6 most now L (xs++[e])=(lA most (e6 most now L xs).1 e,(e6 most now L xs).2++(kR most now (e6 most now L xs).1 e).toList):=by
 unfold e6;rw[mX];rfl
def Yq{most:aa}{L:ah aC}(h:ev L)(e:aC):ev (lA most L e):=by
 unfold lA;split<;>split<;>first|exact h|exact B9 h e
def Yr{most:aa}{L:ah aC}(h:ev L)(a:(L.length:aa)<=most)(e:aC):((lA most L e).length:aa)<=most:=by
 unfold lA;split
 .rename_i o b;split
  .exact a
  rw[IC h b];exact a
 rename_i b;split
 .exact a
 rw[IB b];omega
def iC(T:aa->ah aC)(f:aa)(xs:ah aC):aa->ah aC:=λx=>if x=f then xs else T x
def pC(s:cO)(fr:aa)(xs:ah aC):cO:={s with bc:=(e6 s.most 0 (e_ s.bc (gp xs (gw s.bc fr))) xs).1,b9:=iC s.b9 fr xs}
def kS(s:cO)(fr:aa)(xs:ah aC)(now:aa):ah bI:=im xs (gw s.bc fr)++(e6 s.most now (e_ s.bc (gp xs (gw s.bc fr))) xs).2
def K7(most now a:aa)(L xs:ah aC):(e6 most now L xs).1=(e6 most a L xs).1:=by
 rw[<-mn xs]
 induction xs.reverse with
 | nil=>rfl
 | cons e l b=>rw[mm,rF,rF,b]
def gZ(L xs:ah aC):ah aC×ah bI:=xs.foldl (λp e=>(e_ p.1 [e],p.2++[⟨4,e,0,(eP p.1 e.k).isSome⟩])) (L,[])
def q4(L xs:ah aC)(e:aC):gZ L (xs++[e])=(e_ (gZ L xs).1 [e],(gZ L xs).2++[⟨4,e,0,(eP (gZ L xs).1 e.k).isSome⟩]):=by
 unfold gZ;rw[mX];rfl
def jX(s:cO)(f:aa):cO:={s with bc:=(gZ s.bc (s.b9 f)).1,b9:=iC s.b9 f [],aP:=f}
def h4(s:cO)(f:aa):ah bI:=(gZ s.bc (s.b9 f)).2
def j4(s:cO):ah bI:=if s.hd then []else s.bc.map λo=>⟨3,o,0,false⟩
def gq(s:cO):cO:=if s.hd then s else {s with hd:=true,bc:=[]}
structure bM where
 x:ct
 aF:cd
 ld:cO
 own:ah (aa×aa)
 wt:ah (aa×aa)
 cz:aa
 cc:a1
 reason:aa
abbrev cq:=bM×ah bI
def lV(l:ah (aa×aa))(f:aa):b_ aa:=(l.find? λp=>decide (p.1=f)).map Prod.snd
def lQ(l:ah (aa×aa))(f:aa):ah (aa×aa):=l.filter λp=>!decide (p.1=f)
def rn(l:ah (aa×aa))(f v:aa):ah (aa×aa):=lQ l f++[(f,v)]
def fQ(r:aa)(p:cq):cq:=if p.1.cc then p else({p.1 with cc:=true,reason:=r,ld:=gq p.1.ld},p.2++j4 p.1.ld)
def fj(p:cq):cq:=if p.1.aF.state=2 then fQ 12 p else p
def jt(now:aa)(p:cq)(g:J×ah aC):cq:=({p.1 with ld:=pC p.1.ld g.1 g.2},p.2++kS p.1.ld g.1 g.2 now)
def cL(s:bM):cq:=match fM s.x with
 | none=>(s,[])
 | some g=>(mK s.x g (s.x.now-g)).foldl (jt s.x.now) ({s with x:=replay s.x g (s.x.now-g)},[])
def iu(f v:aa)(p:cq):cq:=match lV p.1.own f with
 | some u=>if u=v then p else fQ 13 p
 | none=>if p.1.ld.aP+1<f/\lV p.1.wt f=none/\p.1.wt.length<8 then({p.1 with wt:=rn p.1.wt f v},p.2)else p
def sC(s:bM)(f:J):bM:={s with own:=lQ (rn s.own f (jb (hg s.x f))) (f-128),aF:=l9 s.aF f (jb (hg s.x f))}
def js(f:J)(p:cq):cq:=match lV p.1.wt f with
 | some u=>iu f u ({sC p.1 f with wt:=lQ p.1.wt f},p.2)
 | none=>(sC p.1 f,p.2)
def eR(p:cq):cq:=
 let q:cq:=({p.1 with ld:=jX p.1.ld (p.1.ld.aP+1)},p.2++h4 p.1.ld (p.1.ld.aP+1))
 if (p.1.ld.aP+2)%16=0 then js (p.1.ld.aP+2).toNat q else q
def fc:J->cq->cq
 | 0,p=>p
 | n+1,p=>if p.1.cc\/c3 p.1.x<=p.1.ld.aP then p else fc n (eR p)
def j9(p:cq):cq:=fc (c3 p.1.x-p.1.ld.aP).toNat p
def dc(s:bM):J:=(s.x.f s.x.aN).next
def bS(s:bM):J:=(fv s.x).next
def iw(s:bM):aa:=s.x.now-bS s
def sX(s:bM):a1:=decide (4<iw s-s.cz)&&decide (s.aF.cf%2=1)
def ez(s:bM)(v:aT):bM:={s with x:=gL s.x s.x.aN v.toNat,aF:=kq s.aF (dc s) v}
def mc(p:cq):cq:=jt p.1.x.now ({p.1 with x:={jr p.1.x p.1.x.now with now:=p.1.x.now+1}},p.2) (p.1.x.now,hR p.1.x p.1.x.now)
def gm(s:bM):a1:=decide (s.aF.state=1)&&(!sX s&&!j0 s.x)
def eF(v:aT)(p:cq):cq:=if gm p.1 then mc (ez p.1 v,p.2)else p
def dZ(x:ct):ct:=if c3 x<0 then x else se x (c3 x).toNat
def dj(v:aT)(s:bM):cq:=j9 (eF v (cL s))
def lT(p:cq):cq:=fj ({p.1 with x:=dZ p.1.x,aF:=(c9 p.1.aF (iw {p.1 with x:=dZ p.1.x})).2},p.2)
def cH(v:aT)(s:bM):cq:=if s.cc then({s with aF:=(c9 s.aF 0).2},[])else lT (dj v s)
def fo(v:aT)(s:bM):ah a6:=if s.cc then(c9 s.aF 0).1 else(c9 (dj v s).1.aF (iw {(dj v s).1 with x:=dZ (dj v s).1.x})).1
def d_(s:bM):a1:=!s.cc&&gm (cL s).1
def e'(x:ct)(l:ah aT):ct:=l.foldl (λx b=>gL x (1-x.aN) b.toNat) x
def fB(h:bL)(s:bM):cq:=if h.kind=4 then iu h.frame h.sum (s,[])else if h.kind=6 then({s with cz:=h.lead},[])else(s,[])
def jl(t:ah aT)(s:bM):aa:=if s.cc then 12 else(cD s.aF t).2.1
def dG(t:ah aT)(s:bM):cq:=if s.cc then(s,[])else if (cD s.aF t).2.1≠0 then({s with aF:=(cD s.aF t).2.2},[])
 else fj (fB (cD s.aF t).1 {s with x:=e' s.x (cD s.aF t).1.a_,aF:=(cD s.aF t).2.2})
def f'(s:bM):cq:=if s.cc then(s,[])else fQ 12 ({s with aF:=nd s.aF},[])
variable{w w':aj}
structure dS where
 low:aa
 high:aa
 tU:aa
 KZ:aa
 k:cU
 x:aa
 y:aa
instance:Coe dS (a7 ay):=⟨λe=>#[I e.low,I e.high,I e.tU,I e.KZ,I e.k.fr,I e.k.em,I e.k.bp,I e.k.cg,ai e.x,ai e.y]⟩
instance:Inhabited dS:=⟨⟨0,0,0,0,⟨0,0,0,0⟩,0,0⟩⟩
def l6(p:dS):a7 ay:=p
def dS.bu(p:dS):ah ay:=(l6 p).toList
def eh(l:ah dS):ah ay:=l.flatMap dS.bu
def sB(l:ah dS):(eh l).length=l.length*10:=by unfold eh;exact tR (k:=10) (λ_=>rfl) l
def Vw(l:ah dS)(i:J)(h:i<l.length)(j:J)(a:j<10):(eh l)[i*10+j]?=l[i].bu[j]?:=by unfold eh;exact yj (k:=10) (λ_=>rfl) l i h j a
def JI(e:dS):(l6 e).toList.all (λv=>v.oneCell')=true:=rfl
def CE:∀ x:dS,∀ v∈x.bu,v.oneCell'=true:=λx=>fw.1 (JI x)
def WB(w:aj):(Instr.alloc 296 true (aY #[])).run prog w=.ok w.heap.size (w.alloc (af #[I 0,I 0,I 0,I 0,I 0,I 0,I 0,I 0,ai 0,ai 0] 296)):=aI
def JK:Go.Shelf.Ren:=⟨fun|6=>228|n=>n,fun|0=>0|3=>3|4=>4|22=>289|23=>296|25=>297|n=>n,fun|n=>n⟩
def Vv:SlLaysH0.n6 prog JK:={
 mixed:=aI
 f6:=⟨f228.name,bt,func228.trans (c5 some aI)⟩
 t0:=underlying0
 a0:=isAgg0
 z0:=sizeOf0
 v0:=zeroValue0
 t3:=underlying3
 a3:=isAgg3
 z3:=sizeOf3
 v3:=zeroValue3
 t4:=underlying4
 a4:=isAgg4
 z4:=sizeOf4
 v4:=zeroValue4
 t22:=underlying289
 a22:=isAgg289
 z22:=sizeOf289
 v22:=zeroValue289
 t25:=underlying297
 a25:=isAgg297
 z25:=sizeOf297
 v25:=zeroValue297}
abbrev OX(g:J)(lb:a7 ay)(p:dS->a1)(w:aj):al:=PredBelow prog g lb (λx:dS=>.agg x.bu.toArray) p w
def JJ{base:J}{v:ay}{xs:ah dS}(h:w.ownsRow base 296 10 v xs.length (eh xs))(av:xs.length<=1000)(p:dS->a1)(g:J)(lb:a7 ay)(n:∀ args w,(callFunc g args).run prog w=.ok (.enter g args) w)(au:OX g lb p w):aA 228 #[v,.func (.func g) #[] lb] w λe w'=>Below w w w'/\((e=.returned (I (-1))/\∀ x∈xs,p x=false)\/∃ i,∃ ax:i<xs.length,e=.returned (I i)/\p xs[i]=true/\∀ j (k:j<xs.length),j<i->p xs[j]=false):=by
 rcases h.2 with⟨rfl,q⟩|⟨b,cap,D,rfl,aZ,aS,an,hm,aw,aK⟩
 .obtain rfl:=jP.1 q;clear au h
  go_in
  exact E_
 obtain⟨A,C,s,aU,_⟩:=cS h;cases s;refine(AnyQ.slices_IndexFunc (P:=prog) (ρ:=JK) Vv 10 isAgg296 sizeOf296 dS.bu (λ_=>rfl) p g lb n b 0 xs.length cap xs w au bx U (bT aS) (λj k i u m=>?_)).mono ?_
 .have ax:i<10:=by
   have:=(hD.1 m).1
   exact this
  have⟨B,o,e,r⟩:=aU.at' U;cases e;rw[show 0+j*10+i=0+(j*10+i)by omega];refine r (j*10+i) u ?_;rw[Vw xs j k i ax]
  rwa [jz xs j k]at m
 rintro e w' ⟨rfl,h2⟩;rw[nU];refine⟨h2,?_⟩;rcases idxByFrom_spec (λ_ y=>p y) default xs 0 with⟨a,l⟩|⟨f,d,a,aK,l⟩
 .refine .inl ⟨E7,λx c=>?_⟩;obtain⟨t,aK,rfl⟩:=s_.1 c
  have:=l t aK
  rwa [jz xs t aK]at this
 refine .inr ⟨f,d,E0,ET,λj k z=>?_⟩
 have:=l j z
 rwa [jz xs j k]at this
def Kk(W:aj):(zeroValue 296).run prog W=.ok (aL #[I 0,I 0,I 0,I 0,I 0,I 0,I 0,I 0,ai 0,ai 0]) W:=aI
def OR(w:aj)(base:J)(v:ay)(ys:ah dS)(e:Ending)(w':aj):al:=
 ∃ v',e=.returned v'/\w'.ownsRow base 296 10 v' ys.length (eh ys)/\Keeps (λj=>v.ownBlock=some j) w w'/\v'.ownBlock=v.ownBlock
def Vt{base:J}{v:ay}{xs:ah dS}(h:w.ownsRow base 296 10 v xs.length (eh xs))(av:xs.length<=1000)(p:dS->a1)(g:J)(lb:a7 ay)(vl:∀ args w,(callFunc g args).run prog w=.ok (.enter g args) w)(au:∀ W,Keeps (λj=>v.ownBlock=some j) w W->∀ x:dS,Calls prog g (#[.agg x.bu.toArray]++lb) W λe W'=>e=.returned (.bool (p x))/\Below W W W'):aA 153 #[v,.func (.func g) #[] lb] w (OR w base v (xs.filter λx=>!p x)):=by
 have ab:=JJ h av p g lb vl (λW x ak=>(au W (Keeps.bJ ak a8) x).mono λ_ _ h=>⟨h.1,ak.trans (h.2.mono ak.size)⟩);have F:=ag ab;have sd:=ag au;have r':=ag h;clear ab au;rcases h.2 with⟨rfl,Z⟩|⟨r,cap,cur,rfl,aZ,aS,an,hm,aw,aK⟩
 .obtain rfl:=jP.1 Z;clear h Z av
  go_in
  exact NI
 have Aw:=bT aS;clear aZ aS hm aw aK h
 go_in
 go_wp2_with fail;refine F.out.mono ?_;rintro e ao ⟨ak,h1⟩;have A:Keeps (λj=>(aq (some (ae r 0 ad)) xs.length cap).ownBlock=some j) w ao:=Keeps.bJ ak a8;have B:=b5 r'.out (Keeps.bJ (S:=aG) ak a8) (λ_ _=>id);clear ak F;rcases h1 with⟨rfl,q⟩|⟨K,w',rfl,h2,q⟩
 .exact NV
 have c:KeptI (λx=>!p x) xs xs K (K+1):=KeptI.start w' (by simp[h2]) (λj z zd=>by simp[q j z zd]);have Q':((K:aa) == -1)=false:=eA.2 U;have m:=ag (bD c (bD B A));clear h2 q c B A;go_wp2_with fail;go_loopg [5,6,7] xs.length (λgJ T' hy _ wr=>∃ (i j:J) (ys:ah dS),T'=I i/\hy=I j/\xs.length-j<=gJ/\KeptI (λx=>!p x) xs ys i j/\wr.ownsRow base 296 10 (aq (some (ae r 0 ad)) xs.length cap) xs.length (eh ys)/\Keeps (λj=>(aq (some (ae r 0 ad)) xs.length cap).ownBlock=some j) w wr)
 case atStart=>exact⟨K,K+1,xs,rfl,by go_num,U,m.o⟩
 obtain⟨i,j,ys,rfl,rfl,aas,a,G,H⟩:=hrel;have aat:=a.lt;have aau:=a.le;have Tq:=a.len;clear m Q';by_cases t:j<xs.length
 .have f:=mM (P:=prog) (enc:=dS.bu) (λ_=>rfl) isAgg296 sizeOf296 G j U;rw[a.at' t]at f;have dp:=WB wr;have O:=aX wr (af #[I 0,I 0,I 0,I 0,I 0,I 0,I 0,I 0,ai 0,ai 0] 296);obtain⟨c,aav,l'⟩:=dQ (wr.alloc (af #[I 0,I 0,I 0,I 0,I 0,I 0,I 0,I 0,ai 0,ai 0] 296)) 296 10 wr.heap.size (l6 xs[j]) _ sizeOf296 rfl rfl O (JI xs[j]);have N:=fb (wr.alloc (af #[I 0,I 0,I 0,I 0,I 0,I 0,I 0,I 0,ai 0,ai 0] 296)) wr.heap.size _ (l6 xs[j]) 296 O;have R:=cN ((bb wr).alloc (af #[I 0,I 0,I 0,I 0,I 0,I 0,I 0,I 0,ai 0,ai 0] 296)) l' a8;generalize (wr.alloc (af #[I 0,I 0,I 0,I 0,I 0,I 0,I 0,I 0,ai 0,ai 0] 296)).setRow wr.heap.size (l6 xs[j])=V' at *;have V:=H.trans (R.mono λ_ _ x=>x.elim);have a':=b5 G R (λ_ _=>id);have Q:=sd.out V' V xs[j];have n:=gd (P:=prog) 296 10 wr.heap.size 0 (l6 xs[j]) _ _ isAgg296 sizeOf296 rfl N (λj u z=>ke);have aaw:=mq Aw H.size;have CW:(j:aa)<(xs.length:aa):=U;have M:=ag a;have s':=ag N;have l:=ag (bD V a');clear a G H O l' R V a' N;obtain⟨y,X⟩:∃ y,y=xs[j]:=⟨_,rfl⟩;rw[<-X]at f c n Q;have D:=ag Q;have E:=ag X;clear X Q;cases s:p y with
  | false=>
   go_wp2_with first|refine dn f rfl rfl rfl ?_|refine dU dp rfl rfl ?_|refine c7 c rfl rfl rfl rfl ?_|(go_at_fn g;refine D.out.mono ?_;rintro e Y ⟨rfl,k⟩;rw[s];have b:=Keeps.bJ (S:=aG) k a8;have gf:=b.heap s'.out id;have fr:=b5 l.out.2 b (λ_ _=>id);obtain⟨aaq,St,C,L⟩:=zc (P:=prog) (enc:=dS.bu) (λ_=>rfl) CE sizeOf296 fr i U y;have zp:=gd (P:=prog) 296 10 wr.heap.size 0 (l6 y) _ _ isAgg296 sizeOf296 rfl gf (λj u z=>E1);have d:=ag (bD C ((l.out.1.trans (b.mono λ_ _ x=>x.elim)).trans (L.mono λ_ _ x=>vx)));clear C L fr gf b k)|refine dn zp rfl rfl rfl ?_|refine dn n rfl rfl rfl ?_|refine c7 St rfl rfl rfl rfl ?_
   exact E'
  | true=>
   exact EG
 obtain rfl:j=xs.length:=U;have CW:¬ (xs.length:aa)<(xs.length:aa):=U;obtain⟨aaq,v',C,L⟩:=zb (P:=prog) (TS:=289) (enc:=dS.bu) (λ_=>rfl) underlying289 Kk rfl bt G i U Tq;have m':=H.trans (L.mono (T:=λj=>(aq (some (ae r 0 ad)) xs.length cap).ownBlock=some j) λ_ _ x=>vx);have hd:=a.done;have g':=a.count;rw[hd]at C;have d:=ag (bD C (bD m' g'));clear C m' g' hd a G H;go_wp2_with refine wZ (v' _ _) rfl rfl rfl ?_
 go_ret;exact⟨_,rfl,E2,d.o.2.1,rfl⟩
structure eZ where
 v:kA
 ok:v.wf
instance:Inhabited eZ:=⟨⟨⟨⟨⟨0,0,1,0⟩,1,0,0,0,0⟩,0,0⟩,⟨bt,bt,bt,bt⟩⟩⟩
def mT(x:eZ):a7 ay:=x.v
def eZ.bu(x:eZ):ah ay:=(mT x).toList
def vcs(l:ah eZ):ah ay:=l.flatMap eZ.bu
def Zx(l:ah eZ)(i:J)(h:i<l.length)(j:J)(a:j<12):(vcs l)[i*12+j]?=l[i].bu[j]?:=by unfold vcs;exact yj (k:=12) (λ_=>rfl) l i h j a
def Lx(e:eZ):(mT e).toList.all (λv=>v.oneCell')=true:=rfl
def zB:∀ x:eZ,∀ v∈x.bu,v.oneCell'=true:=λx=>fw.1 (Lx x)
def WC(w:aj):(Instr.alloc 175 true (aY #[])).run prog w=.ok w.heap.size (w.alloc (af oP 175)):=aI
def LB:Go.Shelf.Ren:=⟨fun|6=>295|n=>n,fun|0=>0|3=>3|4=>4|22=>71|23=>175|25=>362|n=>n,fun|n=>n⟩
def Zw:SlLaysH0.n6 prog LB:={
 mixed:=aI
 f6:=⟨f295.name,bt,func295.trans (c5 some aI)⟩
 t0:=underlying0
 a0:=isAgg0
 z0:=sizeOf0
 v0:=zeroValue0
 t3:=underlying3
 a3:=isAgg3
 z3:=sizeOf3
 v3:=zeroValue3
 t4:=underlying4
 a4:=isAgg4
 z4:=sizeOf4
 v4:=zeroValue4
 t22:=underlying71
 a22:=isAgg71
 z22:=sizeOf71
 v22:=zeroValue71
 t25:=underlying362
 a25:=isAgg362
 z25:=sizeOf362
 v25:=zeroValue362}
abbrev OY(g:J)(lb:a7 ay)(p:eZ->a1)(w:aj):al:=PredBelow prog g lb (λx:eZ=>.agg x.bu.toArray) p w
def Ly{base:J}{v:ay}{xs:ah eZ}(h:w.ownsRow base 175 12 v xs.length (vcs xs))(av:xs.length<=1000)(p:eZ->a1)(g:J)(lb:a7 ay)(n:∀ args w,(callFunc g args).run prog w=.ok (.enter g args) w)(au:OY g lb p w):aA 295 #[v,.func (.func g) #[] lb] w λe w'=>Below w w w'/\((e=.returned (I (-1))/\∀ x∈xs,p x=false)\/∃ i,∃ ax:i<xs.length,e=.returned (I i)/\p xs[i]=true/\∀ j (k:j<xs.length),j<i->p xs[j]=false):=by
 rcases h.2 with⟨rfl,q⟩|⟨b,cap,D,rfl,aZ,aS,an,hm,aw,aK⟩
 .obtain rfl:=jP.1 q
  go_in
  exact E_
 obtain⟨A,C,s,aU,_⟩:=cS h;cases s;refine(AnyQ.slices_IndexFunc (P:=prog) (ρ:=LB) Zw 12 isAgg175 sizeOf175 eZ.bu (λ_=>rfl) p g lb n b 0 xs.length cap xs w au bx U (bT aS) (λj k i u m=>?_)).mono ?_
 .have ax:i<12:=by
   have:=(hD.1 m).1
   exact this
  have⟨B,o,e,r⟩:=aU.at' U;cases e;rw[show 0+j*12+i=0+(j*12+i)by omega];refine r (j*12+i) u ?_;rw[Zx xs j k i ax]
  rwa [jz xs j k]at m
 rintro e w' ⟨rfl,h2⟩;rw[nU];refine⟨h2,?_⟩;rcases idxByFrom_spec (λ_ y=>p y) default xs 0 with⟨a,l⟩|⟨f,d,a,aK,l⟩
 .refine .inl ⟨E7,λx c=>?_⟩;obtain⟨t,aK,rfl⟩:=s_.1 c
  have:=l t aK
  rwa [jz xs t aK]at this
 refine .inr ⟨f,d,E0,ET,λj k z=>?_⟩
 have:=l j z
 rwa [jz xs j k]at this
def W3(W:aj):(zeroValue 175).run prog W=.ok (aL oP) W:=aI
def OS(w:aj)(base:J)(v:ay)(ys:ah eZ)(e:Ending)(w':aj):al:=
 ∃ v',e=.returned v'/\w'.ownsRow base 175 12 v' ys.length (vcs ys)/\Keeps (λj=>v.ownBlock=some j) w w'/\v'.ownBlock=v.ownBlock
def Zo{base:J}{v:ay}{xs:ah eZ}(h:w.ownsRow base 175 12 v xs.length (vcs xs))(av:xs.length<=1000)(p:eZ->a1)(g:J)(lb:a7 ay)(vl:∀ args w,(callFunc g args).run prog w=.ok (.enter g args) w)(au:∀ W,Keeps (λj=>v.ownBlock=some j) w W->∀ x:eZ,Calls prog g (#[.agg x.bu.toArray]++lb) W λe W'=>e=.returned (.bool (p x))/\Below W W W'):aA 232 #[v,.func (.func g) #[] lb] w (OS w base v (xs.filter λx=>!p x)):=by
 have w':=Ly h av p g lb vl (λW x ak=>(au W (Keeps.bJ ak a8) x).mono λ_ _ h=>⟨h.1,ak.trans (h.2.mono ak.size)⟩);have Z:=ag w';have sd:=ag au;have r':=ag h;rcases h.2 with⟨rfl,v'⟩|⟨r,cap,cur,rfl,aZ,aS,an,hm,aw,aK⟩
 .obtain rfl:=jP.1 v'
  go_in
  go_wp2_with fail;refine Z.out.mono ?_;rintro e ao ⟨ak,h1⟩;obtain rfl:e=.returned (I (-1)):=by
   rcases h1 with h1|⟨i,ax,_⟩
   .exact h1.1
   simp at ax
  have ps:=ag ak;go_wp2;go_ret;exact⟨_,rfl,gx _ _ _ _,Keeps.bJ ps.o a8,rfl⟩
 have Q':=bT aS
 go_in
 go_wp2_with fail;refine Z.out.mono ?_;rintro e ao ⟨ak,h1⟩;have H:Keeps (λj=>(aq (some (ae r 0 ad)) xs.length cap).ownBlock=some j) w ao:=Keeps.bJ ak a8;have L:=b5 r'.out (Keeps.bJ (S:=aG) ak a8) (λ_ _=>id);rcases h1 with⟨rfl,C⟩|⟨G,zp,rfl,h2,C⟩
 .have hd:(xs.filter λx=>!p x)=xs:=mW.2 λa bh=>by simp[C a bh]
  have q:=bW hd (bD L H);clear C hd L H;go_wp2;go_ret;exact⟨_,rfl,by rw[q.o.1];exact q.o.2.1,q.o.2.2,rfl⟩
 have c:KeptI (λx=>!p x) xs xs G (G+1):=KeptI.start zp (by simp[h2]) (λj z Aw=>by simp[C j z Aw]);have Tq:((G:aa) == -1)=false:=eA.2 U;have q:=bW c (bD L H);clear h2 C c L H;go_wp2_with fail;go_loopg [5,6,7] xs.length (λgJ aaq hy _ wr=>∃ (i j:J) (ys:ah eZ),aaq=I i/\hy=I j/\xs.length-j<=gJ/\KeptI (λx=>!p x) xs ys i j/\wr.ownsRow base 175 12 (aq (some (ae r 0 ad)) xs.length cap) xs.length (vcs ys)/\Keeps (λj=>(aq (some (ae r 0 ad)) xs.length cap).ownBlock=some j) w wr)
 case atStart=>exact⟨G,G+1,xs,rfl,by go_num,U,q.o⟩
 obtain⟨i,j,ys,rfl,rfl,aat,m,B,F⟩:=hrel;have aau:=m.lt;have aav:=m.le;have V':=m.len;clear q Tq;by_cases t:j<xs.length
 .have f:=mM (P:=prog) (enc:=eZ.bu) (λ_=>rfl) isAgg175 sizeOf175 B j U;rw[m.at' t]at f;have dp:=WC wr;have O:=aX wr (af oP 175);obtain⟨c,aaw,l'⟩:=dQ (wr.alloc (af oP 175)) 175 12 wr.heap.size (mT xs[j]) _ sizeOf175 rfl rfl O (Lx xs[j]);have N:=fb (wr.alloc (af oP 175)) wr.heap.size _ (mT xs[j]) 175 O;have R:=cN ((bb wr).alloc (af oP 175)) l' a8;generalize (wr.alloc (af oP 175)).setRow wr.heap.size (mT xs[j])=aar at *;have V:=F.trans (R.mono λ_ _ x=>x.elim);have ab:=b5 B R (λ_ _=>id);have Q:=sd.out aar V xs[j];have n:=gd (P:=prog) 175 12 wr.heap.size 0 (mT xs[j]) _ _ isAgg175 sizeOf175 rfl N (λj u z=>ke);have aax:=mq Q' F.size;have St:(j:aa)<(xs.length:aa):=U;have M:=ag m;have s':=ag N;have l:=bW V ab;clear m B F O l' R V ab N;obtain⟨y,X⟩:=cT xs[j];rw[<-X]at f c n Q;have D:=ag Q;have E:=ag X;clear X Q;cases s:p y with
  | false=>
   go_wp2_with first|refine dn f rfl rfl rfl ?_|refine dU dp rfl rfl ?_|refine c7 c rfl rfl rfl rfl ?_|(go_at_fn g;refine D.out.mono ?_;rintro e Y ⟨rfl,k⟩;rw[s];have b:=Keeps.bJ (S:=aG) k a8;have fr:=b.heap s'.out id;have a':=b5 l.out.2 b (λ_ _=>id);obtain⟨aas,T',A,K⟩:=zc (P:=prog) (enc:=eZ.bu) (λ_=>rfl) zB sizeOf175 a' i U y;have CW:=gd (P:=prog) 175 12 wr.heap.size 0 (mT y) _ _ isAgg175 sizeOf175 rfl fr (λj u z=>E1);have d:=ag (bD A ((l.out.1.trans (b.mono λ_ _ x=>x.elim)).trans (K.mono λ_ _ x=>vx)));clear A K a' fr b k)|refine dn CW rfl rfl rfl ?_|refine dn n rfl rfl rfl ?_|refine c7 T' rfl rfl rfl rfl ?_
   exact E'
  | true=>
   exact EG
 obtain rfl:j=xs.length:=U;have St:¬ (xs.length:aa)<(xs.length:aa):=U;obtain⟨aas,zd,A,K⟩:=zb (P:=prog) (TS:=71) (enc:=eZ.bu) (λ_=>rfl) underlying71 W3 rfl bt B i U V';have m':=F.trans (K.mono (T:=λj=>(aq (some (ae r 0 ad)) xs.length cap).ownBlock=some j) λ_ _ x=>vx);have g':=m.done;have gf:=m.count;rw[g']at A;have d:=bW A (bD m' gf);clear A m' gf g' m B F;go_wp2_with refine wZ (zd _ _) rfl rfl rfl ?_
 go_ret;exact⟨_,rfl,E2,d.o.2.1,rfl⟩
section
variable{P:Program}{o:Oper}{a:Act}{C:aj->al}
def LU{ops:a7 Oper}{Q:Act->al}{rest:ah Oper}{t:TypeId}{m x:Operand}{c:a1}{bk key v:ay}(hrun:∀ w,C w->(Instr.lookup t bk key c).run P w=.ok v w)(aZ:o.guard=none)(b:o.op=.lookup t m x c)(hm:a.eval m=bk)(e:a.eval x=key)(hk:wpQuiet P ops C Q rest (a.put o.dst v)):wpQuiet P ops C Q (o :: rest) a:=by
 unfold wpQuiet;rw[aE EY];refine⟨v,λw d=>?_,hk⟩;unfold Oper.quietAt execOp;simp only[b,hm,e,hW,hrun w d,hE,iD];exact⟨rfl,rfl⟩
def DM{K:Act->aj->al}{Q:Exit->Act->aj->al}{t:TypeId}{m x y:Operand}{bk key v:ay}(b:o.op=.mapUpdate t m x y)(hm:a.eval m=bk)(c:a.eval x=key)(d:a.eval y=v)(hrun:(Instr.mapUpdate t bk key v).run P w=.ok () w')(h:K (a.put o.dst undef) w'):o.wp P a w K Q:=by
 unfold Oper.wp;simp only[execOp,b,hm,c,d,hW,hrun,hE,iD];exact h
end
def sh:aC:=⟨⟨0,0,0,0⟩,0,0,0,0,0⟩
def p4:bI:=⟨0,sh,0,false⟩
structure qW(w:aj)(B:dN)(s:cO)(e:aC)(W:aj):al where
 ld:IsLd W B s
 bN:W.heap[w.heap.size]?=some (af e 45 (0,0))
 rs:W.heap[w.heap.size+1]?=some (af nN 47 (0,0))
 cu:Keeps aG w W
def qW.keep{B:dN}{s:cO}{e:aC}{W W':aj}(h:qW w B s e W)(hk:Keeps aG W W'):qW w B s e W':=⟨h.ld.kI hk,hk.heap h.bN id,hk.heap h.rs id,h.cu.trans hk⟩
def IsLd.find{B:dN}{s:cO}(h:IsLd w B s)(k:cU)(hk:gb k=true):(Instr.lookup 115 (.map (some B.cV)) (aL k) true).run prog w=.ok (aY #[.agg (dD ((eP s.bc k).getD sh)),.bool (eP s.bc k).isSome]) w:=by
 have h1:=h.bc.look mC (x:=k) hk underlying115 (z:=aL z9) (λw=>aI);rw[Hy]at h1;refine h1.trans ?_;cases eP s.bc k<;>rfl
def IsLd.put{B:dN}{s:cO}(h:IsLd w B s)(e:aC)(b:gb e.k=true)(c:((iv s.bc e).length:aa)<=s.most):∃ w',(Instr.mapUpdate 115 (.map (some B.cV)) (aL e.k) (aL e)).run prog w=.ok () w'/\IsLd w' B {s with bc:=iv s.bc e}/\Keeps (λj=>j=B.cV) w w':=by
 have av:=h.cv;have⟨w',h1,h2,a⟩:=h.bc.store mC (x:=e.k) b underlying115 Nu (.agg e.bu.toArray);exact⟨w',h1,h.C4 (h2.perm (JO s.bc e)) a (B9 h.dz e) c,a⟩
def FW(w:aj)(B:dN)(s:cO)(e:aC)(now:aa)(r:Ending)(w':aj):al:=
 r=aY #[.agg (dg ((kR s.most now s.bc e).getD p4)),.bool (kR s.most now s.bc e).isSome]/\IsLd w' B {s with bc:=lA s.most s.bc e}/\Keeps (λj=>j=B.cV) w w'
def WG(w:aj):(Instr.build 47 #[]).run prog w=.ok (.agg (dg p4)) w:=aI
def ZS{P:Program}{o:Oper}{a:Act}{C:aj->al}{ops:a7 Oper}{Q:Act->al}{rest:ah Oper}{t:TypeId}{m:Operand}{bk v:ay}(hrun:∀ w,C w->(Builtin.len_ #[t] o.type #[bk]).run P w=.ok v w)(aZ:o.guard=none)(b:o.op=Op.call {callee:=Callee.builtin Builtin.len,args:=#[m],argTypes:=#[t]})(hm:a.eval m=bk)(hk:wpQuiet P ops C Q rest (a.put o.dst v)):wpQuiet P ops C Q (o :: rest) a:=by
 unfold wpQuiet;rw[aE EY];refine⟨v,λw c=>?_,hk⟩;unfold Oper.quietAt;simp[execOp,b,resolve,invoke,builtin,hm,hrun w c,Result.andThen];exact⟨rfl,rfl⟩
theorem IsLd.len{B:dN}{s:cO}(h:IsLd w B s)(ty:TypeId):(Builtin.len_ #[115] ty #[.map (some B.cV)]).run prog w=.ok (I s.bc.length) w:=by
 have h1:=h.bc.len underlying115 ty;unfold iq at h1;rw[hG]at h1;exact h1
def TO{B:dN}{s:cO}(h:IsLd w B s)(e:aC)(he:gb e.k=true)(now:aa)(aar:0<=now/\now<=1000000):aA 275 #[B.b,aL e,I now] w (FW w B s e now):=by
 have St:∀ r w',FW w B s e now r w'↔(r=aY #[.agg (dg ((kR s.most now s.bc e).getD p4)),.bool (kR s.most now s.bc e).isSome]/\IsLd w' B {s with bc:=lA s.most s.bc e}/\Keeps (λj=>j=B.cV) w w'):=λ_ _=>Iff.rfl;have T':=ag St;clear St;obtain⟨o,D⟩:=cT ((eP s.bc e.k).getD sh);obtain⟨p,au⟩:=cT (eP s.bc e.k).isSome;have ps:=((bb w).alloc (af e 45)).alloc (af nN 47);have TS:(w.alloc (af e 45)).heap.size=w.heap.size+1:=aM;have zp:=cw (aX w (af e 45)) (af nN 47);have m':=aX (w.alloc (af e 45)) (af nN 47);rw[TS]at m';have ar:qW w B s e _:=⟨h.kI ps,zp,m',ps⟩;have vl:=ag ar;clear ps TS zp m' ar
 go_in
 go_wp2_with fail;generalize World.alloc (World.alloc w _) _=ao at *;have a':=vl.o.keep (bb ao).drew;have H:=λx:bs (λW=>qW w B s e W)=>aO x.held.ld.gr;have ab:=λx:bs (λW=>qW w B s e W)=>aO x.held.bN;have CW:∀ W,(∃ x:bs (λW=>qW w B s e W),W=x.to)->(Instr.lookup 115 (.map (some B.cV)) (aL e.k) true).run prog W=.ok (aY #[.agg (dD o),.bool p]) W:=λW ⟨x,G⟩=>by
  rw[G,D,au];exact x.held.ld.find e.k he
 have dp:=qq ao.drew;have⟨aD,Tq,zd,Aw,aas⟩:=r9 ao.drew o;have ys:=a'.keep ((bb ao.drew).alloc (af z9 45));have a:=a'.keep Aw;have l:=ag a;have v':=bW D au;have s':=ag h;clear vl Aw D au h;go_wp2_with fail;refine cJ 13 ?_;refine cK (λW=>qW w B s e W) (.range 13) 0 13 ?_;refine qg (a') (.range 10) 3 λhne=>?_
 repeat (first|(refine LU CW rfl rfl rfl rfl ?_;simp only[Act.put,c8])|go_big_quiet_step (fail))
 refine wpQuiet_nil ?_;clear hne;refine rl 10 ys (qB rfl dp) ?_;refine rl 11 a (nM rfl rfl rfl Tq) ?_;simp only[Act.put];refine h9 12 a ?_;clear ys a a';clear H ab CW Tq dp;have h:=s'.o;have g':=v'.o;clear v' s';cases f:eP s.bc e.k with
 | some V'=>
  rw[f]at g';obtain⟨D,au⟩:o=V'/\p=true:=g';subst D au;have d:lA s.most s.bc e=if o=e then s.bc else iv s.bc e:=by unfold lA;rw[f]
  have c:kR s.most now s.bc e=if o=e then none else some ⟨2,e,0,false⟩:=by unfold kR;rw[f]
  by_cases N:o=e
  .rw[aE N]at d c;have L:=bW d c;have E:=Bj o e;rw[ei N]at E;have h2:=ag E;clear d c N E f h;have bo:=j6 zd;have le:=j6 (e:=e) l.out.bN;have A:=Kg aD;obtain⟨F,O,g⟩:=dQ aD 47 12 (w.heap.size+1) (dg p4) _ sizeOf47 rfl rfl (l.out.rs) (sa _);have m:∀ j,(λj=>j=w.heap.size+1) j->pW aD B j:=λj C=>by
    cases C;exact(l.out.ld).free (l.out.rs) bt bt
   have q:=(l.out.ld).keep g m;have t:=cN (l.out.cu) g a8;have K:=bW q t;clear q t g m;generalize World.setRow aD (w.heap.size+1) (dg p4)=r' at *;go_wp2_with first|((with_reducible refine zJ bo ?_ rfl ?_ ?_);(first|rfl|simp[go_sem]);exact rfl)|((with_reducible refine zJ le ?_ rfl ?_ ?_);(first|rfl|simp[go_sem]);exact rfl)|((with_reducible refine uV (tZ H3 _ _ _ _ _) (h2.o _) ?_ rfl ?_ ?_ ?_);(first|rfl|simp[go_sem]);exact rfl;exact rfl)|(with_reducible refine DJ A rfl rfl ?_)|((with_reducible refine c7 F rfl rfl ?_ ?_ ?_);exact rfl;exact rfl)
   exact Oa
  rw[aB N]at d c;have L:=bW d c;have E:=Bj o e;rw[di N]at E;have h2:=ag E;have hd:=ag (show((iv s.bc e).length:aa)<=s.most by rw[IC h.dz f];exact h.n.1);clear d c N E f h;have bo:=j6 zd;have le:=j6 (e:=e) l.out.bN;go_upto_region 5 with(first|((with_reducible refine zJ bo ?_ rfl ?_ ?_);(first|rfl|simp[go_sem]);exact rfl)|((with_reducible refine zJ le ?_ rfl ?_ ?_);(first|rfl|simp[go_sem]);exact rfl)|((with_reducible refine uV (tZ H3 _ _ _ _ _) (h2.o _) ?_ rfl ?_ ?_ ?_);(first|rfl|simp[go_sem]);exact rfl;exact rfl)|fail)
  clear bo le;have a:=l.out.keep (bb aD).drew;have H:=iG (S:=aG) (w:=aD.drew) a.ld.gr id;have ab:=iG (S:=aG) (w:=aD.drew) a.bN id;have Z:∀ W,(∃ x:gQ aG aD.drew,W=x.to)->(Instr.loadAt 45 w.heap.size).run prog W=.ok (aL e) W:=λW ⟨x,G⟩=>by rw[G];exact j6 (e:=e) (x.keeps.heap a.bN id)
  have⟨y,V,Q,u⟩:=a.ld.put e he hd.o;have P:=u.heap a.bN (λe=>nB a.ld.bc _ _ _ (e▸a.bN));have X:=u.heap a.rs (λe=>nB a.ld.bc _ _ _ (e▸a.rs));have Y:=(a.cu.mono (T:=λj=>j=B.cV) (λ_ _ x=>x.elim)).trans u;have i:=bW Q (bD P (bD X Y));clear a Q u P X Y;refine cJ 8 ?_;refine ow (λ_=>False) (.range 7) [] 1 ?_
  repeat (first|(refine jL Z rfl rfl rfl ?_;simp only[Act.put,c8])|go_big_quiet_step (fail))
  refine wpQuiet_nil ?_;refine hQ ?_;refine cK (λ_=>True) [7] 0 1 ?_;refine pv 7 trivial (DM rfl rfl rfl rfl V) ?_;simp only[Act.put];clear H ab Z V;have le:=j6 (e:=e) i.o.2.1;have A:=WM e;obtain⟨F,O,g⟩:=dQ y 47 12 (w.heap.size+1) (dg ⟨2,e,0,false⟩) _ sizeOf47 rfl rfl (i.o.2.2.1) (sa _);have m:∀ j,(λj=>j=w.heap.size+1) j->pW y B j:=λj C=>by
   cases C;exact(i.o.1).free (i.o.2.2.1) bt bt
  have q:=(i.o.1).keep g m;have t:=cN (i.o.2.2.2) g a8;have K:=bW q t;clear q t g m;generalize World.setRow y (w.heap.size+1) (dg ⟨2,e,0,false⟩)=r' at *;go_wp2_with first|((with_reducible refine dn le rfl rfl ?_ ?_);exact rfl)|((with_reducible refine s0 (A _) rfl rfl ?_ ?_ ?_);exact rfl;exact rfl)|((with_reducible refine c7 F rfl rfl ?_ ?_ ?_);exact rfl;exact rfl)
  refine dx (v:=aY #[.agg (dg ⟨2,e,0,false⟩),true]) O ?_;exact MO
 | none=>
  rw[f]at g';obtain⟨D,au⟩:o=sh/\p=false:=g';subst D au;have d:lA s.most s.bc e=if s.most<=s.bc.length then s.bc else iv s.bc e:=by unfold lA;rw[f]
  have c:kR s.most now s.bc e=if s.most<=s.bc.length then none else some ⟨1,e,now-e.k.fr,false⟩:=by unfold kR;rw[f]
  have R:=h.n;have sd:=bW d (bD c (bD R f));clear d c R f h;go_upto_region 7 with fail
  have gf:=l.out.keep (bb aD).drew;have H:=iG (S:=aG) (w:=aD.drew) gf.ld.gr id;have Q':∀ W,(∃ x:gQ aG aD.drew,W=x.to)->(Builtin.len_ #[115] 3 #[.map (some B.cV)]).run prog W=.ok (I s.bc.length) W:=λW ⟨x,G⟩=>by rw[G];exact(gf.ld.kI x.keeps).len 3
  have z:=ag gf;clear gf l;refine cJ 11 ?_;refine ow (λ_=>False) (.range 11) [] 0 ?_
  repeat (first|(refine ZS Q' rfl rfl rfl ?_;simp only[Act.put,c8])|go_big_quiet_step (fail))
  refine wpQuiet_nil ?_;refine hQ ?_;refine iI ?_;clear H Q';generalize aD.drew=bq at *;have⟨d,c,R,f⟩:=sd.o;clear sd;by_cases M:s.most<=s.bc.length
  .rw[aE M]at d c;have L:=bW d c;have lb:=ei M;rw[lb];clear d c M R f;have A:=WG bq;obtain⟨F,O,g⟩:=dQ bq 47 12 (w.heap.size+1) (dg p4) _ sizeOf47 rfl rfl (z.o.rs) (sa _);have m:∀ j,(λj=>j=w.heap.size+1) j->pW bq B j:=λj C=>by
    cases C;exact(z.o.ld).free (z.o.rs) bt bt
   have q:=(z.o.ld).keep g m;have t:=cN (z.o.cu) g a8;have K:=bW q t;clear q t g m;generalize World.setRow bq (w.heap.size+1) (dg p4)=r' at *;go_wp2_with first|(with_reducible refine DJ A rfl rfl ?_)|((with_reducible refine c7 F rfl rfl ?_ ?_ ?_);exact rfl;exact rfl)
   exact Oa
  rw[aB M]at d c;have L:=bW d c;have lb:=di M;rw[lb];have hd:=ag (show((iv s.bc e).length:aa)<=s.most by rw[IB f];omega);have W':0<=e.k.fr/\e.k.fr<=1073741824:=by
   have l':=he;unfold gb f_ at l';simp only[ep,gh]at l';exact l'.1.1.1
  have aaq:IntKind.i64.wrap (now-e.k.fr)=now-e.k.fr:=eG _ U;clear d c M R W' f;go_upto_region 9 with fail
  have l:=z;clear z;have a:=l.out.keep (bb bq).drew;have H:=iG (S:=aG) (w:=bq.drew) a.ld.gr id;have ab:=iG (S:=aG) (w:=bq.drew) a.bN id;have Z:∀ W,(∃ x:gQ aG bq.drew,W=x.to)->(Instr.loadAt 45 w.heap.size).run prog W=.ok (aL e) W:=λW ⟨x,G⟩=>by rw[G];exact j6 (e:=e) (x.keeps.heap a.bN id)
  have⟨y,V,Q,u⟩:=a.ld.put e he hd.o;have P:=u.heap a.bN (λe=>nB a.ld.bc _ _ _ (e▸a.bN));have X:=u.heap a.rs (λe=>nB a.ld.bc _ _ _ (e▸a.rs));have Y:=(a.cu.mono (T:=λj=>j=B.cV) (λ_ _ x=>x.elim)).trans u;have i:=bW Q (bD P (bD X Y));clear a Q u P X Y;refine cJ 8 ?_;refine ow (λ_=>False) (.range 7) [] 1 ?_
  repeat (first|(refine jL Z rfl rfl rfl ?_;simp only[Act.put,c8])|go_big_quiet_step (fail))
  refine wpQuiet_nil ?_;refine hQ ?_;refine cK (λ_=>True) [7] 0 1 ?_;refine pv 7 trivial (DM rfl rfl rfl rfl V) ?_;simp only[Act.put];clear H ab Z V;have le:=j6 (e:=e) i.o.2.1;have bz:=aO i.o.2.1;have A:=WL e (now-e.k.fr) y;obtain⟨F,O,g⟩:=dQ y 47 12 (w.heap.size+1) (dg ⟨1,e,now-e.k.fr,false⟩) _ sizeOf47 rfl rfl (i.o.2.2.1) (sa _);have m:∀ j,(λj=>j=w.heap.size+1) j->pW y B j:=λj C=>by
   cases C;exact(i.o.1).free (i.o.2.2.1) bt bt
  have q:=(i.o.1).keep g m;have t:=cN (i.o.2.2.2) g a8;have K:=bW q t;clear q t g m;generalize World.setRow y (w.heap.size+1) (dg ⟨1,e,now-e.k.fr,false⟩)=r' at *;go_wp2_with first|((with_reducible refine dn le rfl rfl ?_ ?_);exact rfl)|((with_reducible refine DK A rfl rfl ?_ ?_ ?_ ?_);exact rfl;exact rfl;exact rfl)|((with_reducible refine c7 F rfl rfl ?_ ?_ ?_);exact rfl;exact rfl)
  refine dx (v:=aY #[.agg (dg ⟨1,e,now-e.k.fr,false⟩),true]) O ?_;exact MO
theorem filter_one(a:aa):∀ L:ah aa,L.Pairwise (·≠·)->L.length<=(L.filter λy=>!decide (y=a)).length+1
 | [],_=>by simp
 | b :: l,h=>by
  obtain⟨h1,h2⟩:=kb.1 h;by_cases e:b=a
  .subst e;rw[oT aM,mW.2 λy d=>by simpa using λc=>h1 y d c.symm];simp
  rw[rP (by simpa using e)]
  have:=filter_one a l h2
  simp only[dy];omega
theorem Bt:∀ (N:J) (L:ah aa),L.Pairwise (·≠·)->(∀ x∈L,0<=x/\x<N)->L.length<=N
 | 0,L,_,b=>by
  cases L with
  | nil=>simp
  | cons a l=>have:=b a nS;omega
 | N+1,L,h,b=>by
  have h1:=filter_one N L h;have h2:=Bt N (L.filter λy=>!decide (y=(N:aa))) (h.filter _) λx e=>by
   obtain⟨c,d⟩:=fx.1 e
   have:=b x c
   simp at d;omega
  omega
section
variable{dI:Type}[DecidableEq dI]
def Hw(M:ah (dI×ay))(k x:dI):hO (kE M k) x=if x=k then none else hO M x:=by
 unfold hO kE;rw[find?_filter];split
 .rename_i e;subst e;rw[xd.2 aM];rfl
 rename_i e;refine c5 (Option.map Prod.snd) (c5 (λq=>find? q M) (funext λp=>?_));by_cases h:p.1=x
 .simp[h,e]
 simp[h]
def Rr(M:ah (dI×ay))(k x:dI)(v:ay):hO (lr M k v) x=if x=k then some v else hO M x:=by
 have h:=Hw M k x;unfold hO lr at *;rw[find?_append];split
 .rename_i e;rw[aE e]at h;rw[Option.map_eq_none_iff.1 h,e];simp
 rename_i e;rw[aB e]at h;rw[<-h]
 have:([(k,v)]:ah (dI×ay)).find? (λp=>decide (p.1=x))=none:=by simpa using λc:k=x=>e c.symm
 rw[this,Option.or_none]
end
def IsLd.BB{B:dN}{s:cO}(h:IsLd w B s){j:J}(a:pW w B j):¬ B.S j:=by
 rintro(e|e|e|⟨p,au,e⟩)
 .exact a.1 e
 .exact a.2.1 e
 .exact a.2.2.1 e
 have⟨b,an⟩:=Jw (h.row au) e;exact a.2.2.2 b an
def IsLd.Ug{B:dN}{s:cO}(h:IsLd w B s):B.M.length<=1000001:=by
 have:=Bt 1000001 (B.M.map Prod.fst) (vc.2 h.b9.1.p7) λx a=>by
  obtain⟨p,au,rfl⟩:=e9.1 a
  have:=h.b9.2.2 p au
  omega
 rwa [hG]at this
def IsLd.note{B:dN}{s:cO}(h:IsLd w B s){fr:aa}{xs:ah aC}{base:J}{v:ay}(aU:w.ownsRow base 45 9 v xs.length (b4 xs))(au:eL fr xs)(g:0<=fr/\fr<=1000000):∃ w',(Instr.mapUpdate 116 (.map (some B.hA)) (I fr) v).run prog w=.ok () w'/\IsLd w' {B with M:=lr B.M fr v} {s with b9:=iC s.b9 fr xs}/\Keeps (λj=>j=B.hA) w w':=by
 have⟨w',h1,h2,b⟩:=h.b9.1.store ua (x:=fr) (wf_i64 U) underlying116 (by have:=h.Ug;unfold maxLen;omega) v;refine⟨w',h1,h.KI h2 b (λx=>?_) (λp au=>?_) (λx=>?_),b⟩
 .rw[Rr];have d:∀ {u:ay} {l:ah ay} {n c:J},w.ownsRow c 45 9 u n l->w'.ownsRow c 45 9 u n l:=λf=>b5 f b λj i e=>mI f h.b9.1 i e;unfold iC;by_cases e:x=fr
  .rw[aE e,aE e];exact d (kQ aU (de _))
  rw[aB e,aB e];have a:=h.b9.2.1 x;cases an:hO B.M x with
  | none=>rw[an]at a;exact a
  | some u=>rw[an]at a;exact d a
 .unfold lr at au;rcases eJ.1 au with au|au
  .exact h.b9.2.2 p (fx.1 au).1
  rw[gC.1 au];exact g
 unfold iC;split
 .rename_i e;rw[e];exact au
 exact h.bl x
structure xH(w:aj)(B:dN)(w':aj)(jT:dN)(s':cO):al where
 ld:IsLd w' jT s'
 b:jT.b=B.b
 cV:jT.cV=B.cV
 hA:jT.hA=B.hA
 S:∀ j,jT.S j->B.S j\/w.heap.size<=j
 cu:Keeps B.S w w'
def FZ(w:aj)(B:dN)(s:cO)(fr:aa)(xs:ah aC)(now:aa)(e:Ending)(w':aj):al:=
 ∃ v jT,e=aY #[v,I 0]/\w'.ownsRow w.heap.size 47 12 v (kS s fr xs now).length (dC (kS s fr xs now))/\xH w B w' jT (pC s fr xs)/\∀ j,v.ownBlock=some j->¬ jT.S j
def Dc(most now:aa)(L xs:ah aC):(e6 most now L xs).2.length<=xs.length:=by
 rw[<-mn xs]
 induction xs.reverse with
 | nil=>simp[e6]
 | cons e l a=>
  rw[mm,rF,cx,cx,jd]
  have:(kR most now (e6 most now L l.reverse).1 e).toList.length<=1:=by cases kR most now (e6 most now L l.reverse).1 e<;>simp
  omega
def wK(w:aj):(Instr.alloc 47 true (aY #[])).run prog w=.ok w.heap.size (w.alloc (af nN 47)):=aI
def vO(w:aj)(c:bI):∃ w',(Instr.storeAt 47 w.heap.size (.agg (dg c))).run prog (w.alloc (af nN 47))=.ok () w'/\w'.heap[w.heap.size]?=some (af (dg c) 47 (0,0))/\Keeps aG w w'/\w'.heap.size=w.heap.size+1:=by
 have a:=aX w (af nN 47);obtain⟨d,e,b⟩:=dQ (w.alloc (af nN 47)) 47 12 w.heap.size (dg c) _ sizeOf47 rfl rfl a (sa c);refine⟨_,d,fb (w.alloc (af nN 47)) w.heap.size _ (dg c) 47 a,cN ((bb w).alloc (af nN 47)) b a8,?_⟩;simp[World.setRow]
theorem I6{b:J}{c:bI}(h:w.heap[b]?=some (af (dg c) 47 (0,0))):(Instr.loadAt 47 b).run prog w=.ok (.agg (dg c)) w:=
 gd (P:=prog) 47 12 b 0 (dg c) _ _ isAgg47 sizeOf47 rfl h (λj u z=>ke)
structure o7(w:aj)(B:dN)(s:cO)(L:ah aC)(cs:ah bI)(xs:ah aC)(fr now:aa)(v:ay)(pre:ah aC)(cA:ay)(W:aj):al where
 out:W.ownsRow (w.heap.size+1) 47 12 cA (cs++(e6 s.most now L pre).2).length (dC (cs++(e6 s.most now L pre).2))
 ld:IsLd W B {s with bc:=(e6 s.most now L pre).1}
 cu:Keeps (λj=>j=B.cV) w W
 bl:W.heap[w.heap.size]?=some (af #[I fr,v] 271 (0,0))
 rx:∃ base,W.ownsRow base 45 9 v xs.length (b4 xs)
 cM:w.heap.size+1<=W.heap.size
def o7.keep{B:dN}{s:cO}{L:ah aC}{cs:ah bI}{xs:ah aC}{fr now:aa}{v:ay}{pre:ah aC}{cA:ay}{W W':aj}(h:o7 w B s L cs xs fr now v pre cA W)(hk:Keeps aG W W'):o7 w B s L cs xs fr now v pre cA W':=by
 have⟨base,a⟩:=h.rx;exact⟨b5 h.out hk (λ_ _=>id),h.ld.kI hk,h.cu.trans (hk.mono λ_ _ x=>x.elim),hk.heap h.bl id,⟨base,b5 a hk (λ_ _=>id)⟩,ca h.cM hk.size⟩
theorem o7.bc{B:dN}{s:cO}{L:ah aC}{cs:ah bI}{xs:ah aC}{fr now:aa}{v:ay}{pre:ah aC}{cA:ay}{W W':aj}(h:o7 w B s L cs xs fr now v pre cA W)(hk:Keeps (λj=>j=B.cV) W W'):W'.ownsRow (w.heap.size+1) 47 12 cA (cs++(e6 s.most now L pre).2).length (dC (cs++(e6 s.most now L pre).2))/\Keeps (λj=>j=B.cV) w W'/\W'.heap[w.heap.size]?=some (af #[I fr,v] 271 (0,0))/\(∃ base,W'.ownsRow base 45 9 v xs.length (b4 xs))/\w.heap.size+1<=W'.heap.size:=by
 have⟨base,b⟩:=h.rx;have hm:=h.ld.bc;exact⟨b5 h.out hk (λj a e=>mI h.out hm a e),h.cu.trans hk,hk.heap h.bl (λe=>nB hm _ _ _ (e▸h.bl)),⟨base,b5 b hk (λj a e=>mI b hm a e)⟩,ca h.cM hk.size⟩
def TG{B:dN}{s:cO}(h:IsLd w B s)(aS:s.hd=false){fr now:aa}{xs:ah aC}{base:J}{v:ay}(aU:w.ownsRow base 45 9 v xs.length (b4 xs))(au:eL fr xs)(aa7:0<=fr)(av:fr<=now/\now<=1000000)(an:s.aP<fr):aA 210 #[B.b,aL #[I fr,v],I now] w (FZ w B s fr xs now):=by
 have Aw:Keeps aG w (w.alloc (af #[I fr,v] 271)):=(Keeps.refl _ w).alloc _;have aaA:=b5 aU Aw (λ_ _=>id);have W':=aX w (af #[I fr,v] 271);have h1:=h.kI Aw;have aa9:(w.alloc (af #[I fr,v] 271)).heap.size=w.heap.size+1:=aM;have T':=ag (TJ h1 aS aaA au av an);have aaU:∀ e∈xs,gb e.k=true:=λe y=>(uC (au.2.2 e y).1).1;have aaR:∀ e∈s.bc,gb e.k=true:=λe y=>h.bc.ok (e.k,.agg e.bu.toArray) (e9.2 ⟨e,y,rfl⟩);have l:=bW h1 (bD aaA (bD W' (bD Aw (bD aaU (bD aaR au)))));have aaQ:=au.2.1;have aaK:=ag (show ∀ j,B.S j->j<w.heap.size from λj a=>h.lt a);obtain⟨A,cap,rfl,_,_⟩:=cS aU;have aaE:=aO W'
 go_in
 go_wp2_with fail;generalize w.alloc _=ao at *;refine aW T'.o λaD m=>?_;have zp:=b5 l.o.2.1 m (λ_ _=>id);have r':=m.heap l.o.2.2.1 id;have aV:=ag (TH (l.o.1.kI m) (fr:=fr) zp U l.o.2.2.2.2.2.1);have t:=bW zp (bD r' (bD (l.o.2.2.2.1.trans m) (l.o.1.kI m).bc));have aba:=m.size;have aaE:=aO r';clear zp r' m T';go_wp2_with fail;refine aV.o.mono ?_;rintro e bq ⟨cA,rfl,ab,s',Q⟩;obtain⟨L,ps⟩:=cT (e_ s.bc (gp xs (gw s.bc fr)));obtain⟨cs,X⟩:=cT (im xs (gw s.bc fr));rw[<-X]at ab;rw[<-ps]at s';have l':o7 w B s L cs xs fr now (aq A xs.length cap) [] cA bq:=by
  have Tq:e6 s.most now L []=(L,[]):=rfl;have aaT:w.heap.size≠B.cV:=λe=>by have:=aaK.out B.cV (.inr (.inl rfl));omega
  refine⟨?_,by rw[Tq];exact s',(t.out.2.2.1.mono (λ_ _ x=>x.elim)).trans Q,Q.heap t.out.2.1 aaT,⟨base,b5 t.out.1 Q (λj a e=>mI t.out.1 t.out.2.2.2 a e)⟩,by have:=Q.size;omega⟩;rw[Tq,eB];exact kQ ab U
 obtain⟨g',aa4,rfl,_,_⟩:=cS ab;have CW:=ag l';have h2:=bW ps X
 have aaI:=ag (show cs.length<=256 by
  rw[X];unfold im gp;rw[hG];exact ca (ml _ _) (ca (ml _ _) l.out.1.cv))
 have aau:=l'.bl;have aaX:=aO aau;clear ab s' Q l' aV t ps X aaE aau;go_wp2_with fail;clear aaX;go_loopg [9,29] xs.length (λg cA z wr=>∃ pre rest:ah aC,xs=pre++rest/\g=rest.length/\z=I pre.length/\(∃ A n cap,cA=aq A n cap)/\o7 w B s L cs xs fr now (aq A xs.length cap) pre cA wr)
 case atStart=>exact⟨[],xs,rfl,rfl,rfl,⟨_,_,_,rfl⟩,CW.o⟩
 obtain⟨pre,rest,f,aZ,rfl,⟨g',no,co,rfl⟩,u⟩:=hrel;clear CW;cases rest with
 | nil=>
  have aaQ:¬ (pre.length:aa)<(xs.length:aa):=by rw[f];simp
  have aaD:xs=pre:=by rw[f,eB]
  have H:=u.keep (bb wr).drew;have aaY:=iG (S:=aG) (w:=wr.drew) H.ld.gr id;have aaZ:=iG (S:=aG) (w:=wr.drew) H.bl id;obtain⟨bN,E⟩:=H.rx;have TS:=ag (Hf E U);have V:=ag H;have Hx:=ag aaD;clear f aaD u H E;go_wp2_with fail;refine cJ 10 ?_;refine fu (λ_=>False) (.range 8) [8] 1 ?_;refine ko λK V'=>?_;go_simp;refine TS.o.mono ?_;rintro e r ⟨cQ,rfl,v',aar⟩;have q:=Keeps.bJ (S:=aG) aar a8;obtain⟨F,aax,Y,d⟩:=(V.out.keep q).ld.note v' l.out.2.2.2.2.2.2 U;refine V' _ _ (c6 (q)) ?_;clear V' K;refine cK (λ_=>True) [9] 0 1 ?_;refine pv 9 trivial (DM rfl rfl rfl rfl aax) ?_;simp only[Act.put];have N:=V.out.keep q;have i:=b5 N.out d (λj a e=>mI N.out N.ld.b9.1 a e);have aaz:FZ w B s fr xs now (aY #[aq g' no co,I 0]) F:=by
   have aaM:kS s fr xs now=cs++(e6 s.most now L xs).2:=by unfold kS;rw[<-h2.out.1,<-h2.out.2]
   have aaN:pC s fr xs={s with bc:=(e6 s.most now L pre).1,b9:=iC s.b9 fr xs}:=by
    unfold pC;rw[<-h2.out.1,K7 s.most 0 now,Hx.out]
   rw[<-Hx.out]at i;refine⟨_,{B with M:=lr B.M fr cQ},rfl,by rw[aaM];exact kQ i U,⟨by rw[aaN];exact Y,rfl,rfl,rfl,λj a=>?_,?_⟩,λj a=>Y.BB (Y.rb i bt bt a)⟩
   .rcases a with a|a|a|⟨p,au,a⟩
    .exact .inl (.inl a)
    .exact .inl (.inr (.inl a))
    .exact .inl (.inr (.inr (.inl a)))
    unfold lr at au;rcases eJ.1 au with au|au
    .exact .inl (.inr (.inr (.inr ⟨p,(fx.1 au).1,a⟩)))
    rw[gC.1 au]at a;have aa5:=(v'.lt j a).1;have aa6:=V.out.cM;exact .inr U
   exact(N.cu.mono (T:=B.S) (λj _ a=>.inr (.inl a))).trans (d.mono (T:=B.S) (λj _ a=>.inr (.inr (.inl a))))
  have aaJ:=ag aaz;clear aaY aaZ aax aaz i N Y d q aar v' TS V;go_wp2;go_ret2;exact aaJ.o
 | cons e rest=>
  have aaS:pre.length<xs.length:=by rw[f];simp
  have aa8:(pre.length:aa)<(xs.length:aa):=U;have y:xs[pre.length]=e:=by simp[f]
  have w':gb e.k=true:=l.out.2.2.2.2.1 e vw;have aaC:xs=(pre++[e])++rest:=by rw[f];simp
  have aaO:=aZ;simp only[dy]at aaO;have aa':=u.cM;clear aZ;obtain⟨bN,E⟩:=u.rx;obtain⟨aaF,rfl⟩:=nw E U;have sd:=mM (P:=prog) (enc:=aC.bu) (λ_=>rfl) isAgg45 sizeOf45 E pre.length aaS;rw[y]at sd;have dp:=qq wr;obtain⟨abb,zd,lb,aav,aa_⟩:=r9 wr e;have m':=u.keep aav;have aaw:=j6 lb;have St:=ag (TO m'.ld e w' now U);have Q':=bW m' lb;have aa2:=bW aaC w';generalize wr.alloc (af z9 45)=abc at dp zd;clear u f y w' aaC m' lb aav E;go_wp2_with first|((with_reducible refine dn sd rfl rfl ?_ ?_);exact rfl)|(with_reducible refine dU dp rfl rfl ?_)|((with_reducible refine c7 zd rfl rfl ?_ ?_ ?_);exact rfl;exact rfl)|((with_reducible refine dn aaw rfl rfl ?_ ?_);exact rfl)
  refine aW St.o ?_;rintro r ⟨Z,q⟩;have⟨t1,t2,t3,t4,t5⟩:=Q'.out.1.bc q;have ys:=rF s.most now L pre e;have a':(e6 s.most now L (pre++[e])).1=lA s.most (e6 s.most now L pre).1 e:=by rw[ys]
  have D:(e6 s.most now L (pre++[e])).2=(e6 s.most now L pre).2++(kR s.most now (e6 s.most now L pre).1 e).toList:=by rw[ys]
  clear sd aaw St Q' dp zd q ys;cases gf:kR s.most now (e6 s.most now L pre).1 e with
  | none=>
   obtain⟨F,R,W,d,aaV⟩:=vO r p4;have G:=wK r;rw[gf,Ex,eB]at D;have O:o7 w B s L cs xs fr now (aq (some (ae aaF 0 ad)) xs.length cap) (pre++[e]) (aq g' no co) F:=o7.keep ⟨by rw[D];exact t1,by rw[a'];exact Z,t2,t3,t4,t5⟩ d;have aaG:=ag O;generalize r.alloc (af nN 47)=aa0 at G R;clear t1 t2 t3 t4 t5 a' D Z O W d gf;go_wp2_with first|(with_reducible refine dU G rfl rfl ?_)|((with_reducible refine c7 R rfl rfl ?_ ?_ ?_);exact rfl;exact rfl)
   exact Om
  | some c=>
   have⟨F,R,W,d,aaV⟩:=vO r c;have G:=wK r;rw[gf,Option.toList_some]at D;have i:=b5 t1 d (λ_ _=>id);have aat:(cs++(e6 s.most now L pre).2).length<=10000:=by
    have:=Dc s.most now L pre
    have:=aaI.out
    rw[cx];omega
   obtain⟨aa3,aa1,aaq,aay,C,aaH,n7,c2,rfl⟩:=x0 32 i aat U c;have aaP:=I6 W;have aas:=zf c F;have vl:=Z.kI d;have O:o7 w B s L cs xs fr now (aq (some (ae aaF 0 ad)) xs.length cap) (pre++[e]) (aq aaH n7 c2) aa1:=by
    have⟨aaL,aaW⟩:=t4;have aaB:=b5 aaW d (λ_ _=>id);refine⟨by rw[D,<-dL];exact aay,by rw[a'];exact vl.keep C λj a=>vl.rb i bt bt a,?_,C.heap (d.heap t3 id) (λe=>by have:=(i.lt _ e).1;omega),⟨aaL,b5 aaB C (λj a e=>uu i aaB bt e a)⟩,by have:=d.size;have:=C.size;omega⟩;exact cN (t2.trans (d.mono λ_ _ x=>x.elim)) C (λj a e=>by have:=(i.lt _ e).1;omega)
   have aaG:=ag O;generalize r.alloc (af nN 47)=aa0 at G R;generalize F.alloc (af (dg c) 47)=abd at aaq aas;clear t1 t2 t3 t4 t5 a' D Z O W d gf i aat aay C vl;go_wp2_with first|(with_reducible refine dU G rfl rfl ?_)|((with_reducible refine c7 R rfl rfl ?_ ?_ ?_);exact rfl;exact rfl)|((with_reducible refine dn aaP rfl rfl ?_ ?_);exact rfl)|((with_reducible refine zH aas rfl rfl ?_ ?_);exact rfl)|((with_reducible refine wY aaq rfl rfl ?_ ?_ ?_);exact rfl;exact rfl)
   exact Om
structure k2(w:aj)(b:J)(n:aa)(dh:ay)(bV:ah eZ):al where
 hd:w.heap[b]?=some (af #[I n,I 0,dh] 177 (0,0))
 row:w.ownsRow 0 175 12 dh bV.length (vcs bV)
 gn:bV.length<=64
def k2.keep{b:J}{n:aa}{dh:ay}{bV:ah eZ}(h:k2 w b n dh bV)(hk:Keeps aG w w'):k2 w' b n dh bV:=⟨hk.heap h.hd id,b5 h.row hk (λ_ _=>id),h.gn⟩
def B5(k:cU)(x:eZ):a1:=decide (x.v.bg.k=k)&&(decide (x.v.cut=-1)&&!nv x.v)
theorem LA(v:kA)(h:v.wf)(w:aj):aA 234 #[aL v,I 0] w λr w'=>r=.returned (.bool (nv v))/\Below w w w':=
 (Zq v h w).mono λ_ _ aS=>⟨aS.1,aS.2.below bx (λ_ _ h2=>h2.elim)⟩
def UC(v:kA)(h:v.wf)(k:cU)(eD f b:J)(n:aa)(dh:ay)(hk:w.heap[eD]?=some (af k 43 (0,0)))(hm:w.cell? (ae f 0 ad)=some (.pointer (some (ae b 0 ad))))(ak:w.heap[b]?=some (af #[I n,I 0,dh] 177 (0,0))):aA 296 #[aL v,eD,f] w λr w'=>r=.returned (.bool (B5 k ⟨v,h⟩))/\Below w w w':=by
 have hcut:=h.cut;have q:=λW=>LA v h W;have aU:B5 k ⟨v,h⟩=(decide (v.bg.k=k)&&(decide (v.cut=-1)&&!nv v)):=rfl;rw[aU];clear aU h;generalize nv v=C at *;obtain⟨e,db,c⟩:=v;dsimp only at *;have b':=(b7 w.heap.size w).alloc bx (af #[I e.k.fr,I e.k.em,I e.k.bp,I e.k.cg,I e.cy,I e.dd,I e.dP,I e.dw,I e.le,I 0,I db,I c] 175);have a:=aX w (af #[I e.k.fr,I e.k.em,I e.k.bp,I e.k.cg,I e.cy,I e.dd,I e.dP,I e.dw,I e.le,I 0,I db,I c] 175);have d:=cw hk (af #[I e.k.fr,I e.k.em,I e.k.bp,I e.k.cg,I e.cy,I e.dd,I e.dP,I e.dw,I e.le,I 0,I db,I c] 175);have l:=cw ak (af #[I e.k.fr,I e.k.em,I e.k.bp,I e.k.cg,I e.cy,I e.dd,I e.dP,I e.dw,I e.le,I 0,I db,I c] 175);have s:f<w.heap.size:=mU w (ae f 0 ad) hm;have t:=dX ((b'.cell (p:=ae f 0 ad) s).trans hm);have o:=ag (λx:k0 (w.alloc (af #[I e.k.fr,I e.k.em,I e.k.bp,I e.k.cg,I e.cy,I e.dd,I e.dP,I e.dw,I e.le,I 0,I db,I c] 175))=>q x.to);have D:=dX (bf (k:=0) a rfl);have E:=dX (bf (k:=1) a rfl);have F:=dX (bf (k:=2) a rfl);have G:=dX (bf (k:=3) a rfl);have H:=dX (bf (k:=4) a rfl);have K:=dX (bf (k:=5) a rfl);have L:=dX (bf (k:=6) a rfl);have M:=dX (bf (k:=7) a rfl);have N:=dX (bf (k:=8) a rfl);have O:=dX (bf (k:=9) a rfl);have P:=dX (bf (k:=10) a rfl);have Q:=dX (bf (k:=11) a rfl);have u:=dX (bf (k:=0) d rfl);have y:=dX (bf (k:=1) d rfl);have z:=dX (bf (k:=2) d rfl);have A:=dX (bf (k:=3) d rfl);have B:=dX (bf (k:=1) l rfl);have m:=Bk e.k k;clear a d l hk hm ak;cases g:decide (e.k=k)with
 | false=>
  rw[g]at m;rw[DT];clear g hcut
  go_in
  go_wp2_with fail;refine pF aI aI ?_
  repeat (go_big_quiet_step (first|(go_at_call 234;exact Calls.kB (o.out _))))
  refine wpQuiet_nil ?_;intro _ i;have⟨x,j⟩:=i;subst j;go_wp2_with fail
  all_goals
   go_ret;exact⟨rfl,b'.trans (x.below.mono b'.size)⟩
 | true=>
  rw[g]at m;rw[s7];clear g;rcases hcut with rfl|rfl
  .go_in
   exact NC
  go_in
  exact NC
end Go.Proofs.YtalagblioepadaaGreatDoor
