/- The proof, part 39. -/
import Derived.Test.YtalagblioepadaaGreatDoorZc38
import Derived.Shelf.SlSortCmp.WholeK
namespace Go.Proofs.YtalagblioepadaaGreatDoor
set_option linter.all false
open Proofs.Tryz List Go.RowKit Go.Shelf Go.Sort Go.Maps
set_option maxRecDepth 100000
set_option maxHeartbeats 1000000
def vg{p:ak}(h:p:=by rw[x];rfl):p:=h
def u_{p:ak}(h:p:=by first|rfl|simp[go_sem]):p:=h
def Ez{p:ak}(h:p:=by unfold Lib.idxBy;rw[a]):p:=h
def Eu{p:ak}(h:p:=by rw[d.o.2.2];exact d.o.1):p:=h
def Et{p:ak}(h:p:=by rw[gC,<-E.out];exact z):p:=h
def Es{p:ak}(h:p:=by unfold Lib.idxBy;rw[a,gC]):p:=h
def Ej{p:ak}(h:p:=by rwa [ji xs f d]at aO):p:=h
def qx{p:ak}(h:p:=by rw[cx,iT];go_num):p:=h
def D'{p:ak}(h:p:=by
 go_wp2_with first|refine dp f rfl rfl rfl ?_|refine d_ dw rfl rfl ?_|refine c8 c rfl rfl rfl rfl ?_|refine dp n rfl rfl rfl ?_|(go_at_fn g;refine D.out.mono ?_;rintro e Y ⟨rfl,k⟩;rw[s];have b:=Keeps.bD (S:=aI) k a7;have d:=af (bB (b4 l.out.2 b (λ_ _=>id)) (l.out.1.trans (b.mono λ_ _ x=>x.elim)));clear b k)
 go_roundg (xs.length-(j+1))
 case measure=>omega
 exact⟨i,j+1,ys,rfl,by go_num,c9 _,M.out.skip t (by rw[<-E.out,s];rfl),d.out⟩
 ):p:=h
def MZ{p:ak}(h:p:=by
 go_wp2_with fail;refine F.out.mono ?_;rintro e ao ⟨aj,h1⟩;obtain rfl:e=.returned (I (-1)):=by
  rcases h1 with h1|⟨i,aw,_⟩
  .exact h1.1
  simp at aw
 have ZH:=af aj;clear h1 aj;go_wp2;go_ret;exact⟨_,rfl,gI _ _ _ _,Keeps.bD ZH.o a7,rfl⟩
 ):p:=h
def Na{p:ak}(h:p:=by
 have ps:(xs.filter λx=>!p x)=xs:=nA.2 λa bd=>by simp[q a bd]
 have m:=af (bB ps (bB B A));clear q ps B A;go_wp2;go_ret;exact⟨_,rfl,by rw[m.o.1];exact m.o.2.1,m.o.2.2,rfl⟩
 ):p:=h
def EC{p:ak}(h:p:=by
 go_wp2_with fail;go_loopg [5,8] 0 (λg _ z wr=>g=0/\z=I 0/\wr=w)
 case atStart=>exact⟨rfl,rfl,rfl⟩
 obtain⟨rfl,rfl,rfl⟩:=hrel;go_wp2;go_ret;exact⟨b3 _ _,.inl ⟨rfl,λx c=>nomatch c⟩⟩
 ):p:=h
def ED{p:ak}(h:p:=by
 go_roundg (xs.length-(j+1))
 case measure=>omega
 exact⟨i+1,j+1,ys.set i y,by go_num,by go_num,c9 _,by rw[E.out];exact M.out.keep t (by rw[<-E.out,s];rfl),d.out⟩
 ):p:=h
def LS{p:ak}(h:p:=by
 go_wp2_with fail;generalize w.alloc (ae e 45)=ao at *;go_ret;exact⟨by rw[<-a.o];rfl,cb⟩
 ):p:=h
def LW{p:ak}(h:p:=by
 go_wp2_with fail;generalize World.alloc (World.alloc w _) _=ao at *;go_ret;exact⟨aK,cb⟩
 ):p:=h
variable{w w':ai}
def GK:Go.Shelf.Ren:=⟨fun|6=>72|14=>121|15=>122|20=>179|21=>180|22=>181|23=>182|24=>183|25=>184|26=>185|27=>186|28=>187|29=>188|46=>253|47=>254|48=>255|49=>256|50=>257|57=>308|n=>n,fun|0=>0|3=>3|4=>4|5=>5|9=>9|22=>66|24=>45|25=>135|39=>227|45=>316|46=>317|50=>287|53=>22|55=>217|66=>379|70=>383|76=>436|77=>437|n=>n,fun|n=>n⟩
def Qv:SlLaysF0.n6 prog GK:={
 mixed:=aH
 f6:=⟨f72.name,bq,func72.trans (cV some aH)⟩
 f14:=⟨f121.name,bq,func121.trans (cV some aH)⟩
 f15:=func122.trans (cV some aH)
 f20:=⟨f179.name,bq,func179.trans (cV some aH)⟩
 f21:=⟨f180.name,bq,func180.trans (cV some aH)⟩
 f22:=⟨f181.name,bq,func181.trans (cV some aH)⟩
 f23:=⟨f182.name,bq,func182.trans (cV some aH)⟩
 f24:=⟨f183.name,bq,func183.trans (cV some aH)⟩
 f25:=⟨f184.name,bq,func184.trans (cV some aH)⟩
 f26:=⟨f185.name,bq,func185.trans (cV some aH)⟩
 f27:=⟨f186.name,bq,func186.trans (cV some aH)⟩
 f28:=func187.trans (cV some aH)
 f29:=func188.trans (cV some aH)
 f46:=⟨f253.name,bq,func253.trans (cV some aH)⟩
 f47:=func254.trans (cV some aH)
 f48:=func255.trans (cV some aH)
 f49:=⟨f256.name,bq,func256.trans (cV some aH)⟩
 f50:=⟨f257.name,bq,func257.trans (cV some aH)⟩
 f57:=⟨f308.name,bq,func308.trans (cV some aH)⟩
 t0:=underlying0
 a0:=isAgg0
 z0:=sizeOf0
 v0:=zeroValue0
 t3:=underlying3
 a3:=isAgg3
 z3:=sizeOf3
 v3:=zeroValue3
 t4:=underlying4
 a4:=isAgg4
 z4:=sizeOf4
 v4:=zeroValue4
 t5:=underlying5
 a5:=isAgg5
 z5:=sizeOf5
 v5:=zeroValue5
 t9:=underlying9
 a9:=isAgg9
 z9:=sizeOf9
 v9:=zeroValue9
 t22:=underlying66
 a22:=isAgg66
 z22:=sizeOf66
 v22:=zeroValue66
 t25:=underlying135
 a25:=isAgg135
 z25:=sizeOf135
 v25:=zeroValue135
 t39:=underlying227
 a39:=isAgg227
 z39:=sizeOf227
 v39:=zeroValue227
 t45:=underlying316
 a45:=isAgg316
 z45:=sizeOf316
 v45:=zeroValue316
 t46:=underlying317
 a46:=isAgg317
 z46:=sizeOf317
 v46:=zeroValue317
 t50:=underlying287
 a50:=isAgg287
 z50:=sizeOf287
 v50:=zeroValue287
 t53:=underlying22
 a53:=isAgg22
 z53:=sizeOf22
 v53:=zeroValue22
 t55:=underlying217
 a55:=isAgg217
 z55:=sizeOf217
 v55:=zeroValue217
 t66:=underlying379
 a66:=isAgg379
 z66:=sizeOf379
 v66:=zeroValue379
 t70:=underlying383
 a70:=isAgg383
 z70:=sizeOf383
 v70:=zeroValue383
 t76:=underlying436
 a76:=isAgg436
 z76:=sizeOf436
 v76:=zeroValue436
 t77:=underlying437
 a77:=isAgg437
 z77:=sizeOf437
 v77:=zeroValue437}
section
variable{α:Type}[Inhabited α]{enc:α->ah ax}{k:J}
omit [Inhabited α]in
def tC(hk:∀ x,(enc x).length=k)(l:List α):(l.flatMap enc).length=l.length*k:=by
 induction l with
 | nil=>simp
 | cons c l a=>rw[iS,pn,hk,a,mG,jX,qt]
omit [Inhabited α]in
def x3(hk:∀ x,(enc x).length=k)(l:List α)(i:J)(h:i<l.length)(j:J)(a:j<k):(l.flatMap enc)[i*k+j]?=(enc l[i])[j]?:=by
 induction l generalizing i with
 | nil=>cases h
 | cons c l b=>
  rw[iS];cases i with
  | zero=>rw[w6,qu,jU (by rw[hk];exact a)];rfl
  | succ i=>
   rw[l3 (by rw[hk,jX];omega),hk,jX,show i*k+k+j-k=i*k+j by omega];exact b i ik
def GX(hk:∀ x,(enc x).length=k)(l:List α):flatK enc k l.toArray=(l.flatMap enc).toArray:=by
 refine ext_get! (by rw[size_flatK,gW,gW,tC hk]) λt aO=>?_;have a:t<l.length*k:=by simpa using aO
 rw[get_flatK _ _ _ _ (by simpa using a)];have g:0<k:=by
  rcases rD k with h|h
  .subst h;simp at a
  exact h
 have aw:=LJ (by rw[oH];exact a);have b:t%k<k:=e2 _ g;have h2:=x3 hk l (t / k) aw (t%k) b;have e:t / k*k+t%k=t:=by rw[oH];exact pr t k
 rw[e]at h2;have f:l.toArray[t / k]! = l[t / k]:=by rw[ji _ _ (by simpa using aw)];rfl
 have c:t%k<(enc l[t / k]).length:=by rw[hk];exact b
 have d:t<(l.flatMap enc).length:=by rw[tC hk];exact a
 rw[f,ji (enc l[t / k]) (t%k) c,ji (l.flatMap enc).toArray t d,DP];rw[gl d,gl c]at h2;exact(ij h2).symm
def R8{base n:J}{e:TypeId}{v:ax}(hk:∀ x,(enc x).length=k)(cg:List α)(h:w.ownsRow base e k v n (cg.flatMap enc))(i:cg.length=n)(aW:v≠aq none 0 0):∃ g cap,v=aq (some (ad g 0 ab)) n cap/\base<=g/\g<w.heap.size/\HoldsK enc k w g 0 cg.toArray:=by
 rcases h.2 with⟨f,_⟩|⟨g,cap,d,rfl,aj,aZ,ar,hm,av,aO⟩
 .exact absurd f aW
 refine⟨g,cap,rfl,aj,bP aZ,?_⟩;unfold HoldsK;rw[GX hk];intro j b;have c:j<n*k:=by rw[<-i,<-tC hk];simpa using b
 refine⟨?_,by simp[World.frozen?,aZ]⟩;have a:(d.toList.take (n*k))[j]?=(cg.flatMap enc)[j]?:=by rw[aO]
 rw[uM,aD c,nw]at a;simp only[World.cell?,aZ,gC];simp only[oI,wN,if_false];rw[a]
 have:j<(cg.flatMap enc).length:=by simpa using b
 simp[ji,this,-length_flatMap]
def Up{base n g cap q:J}{e:TypeId}{os:Array Obj}(hk:∀ x,(enc x).length=k){cg ys:List α}(h:w.ownsRow base e k (aq (some (ad g 0 ab)) n cap) n (cg.flatMap enc))(i:ys.length=n):(sortWorldK enc k w g 0 q ys.toArray os).ownsRow base e k (aq (some (ad g 0 ab)) n cap) n (ys.flatMap enc)/\Keeps (λj=>j=g) w (sortWorldK enc k w g 0 q ys.toArray os):=by
 rcases h.2 with⟨c,_⟩|⟨g',m,b,c,aj,aZ,ar,hm,av,aO⟩
 .cases c
 injection c with a _ l
 injection a with a
 injection a with a
 subst a;subst l;have f:=tC hk ys;unfold sortWorldK putRowK;rw[GX hk];refine⟨⟨by rw[f,i],.inr ⟨g,cap,putCells id 0 (ys.flatMap enc).toArray b,rfl,aj,?_,ar,hm,by simpa[putCells]using av,?_⟩⟩,rfl,rfl,rfl,?_,?_⟩
 .rw[heap_grow_old _ _ (by simpa[putRow,mapBlock,Sort.ahead]using(bP aZ))];simp[putRow,mapBlock,Sort.ahead,Dk,aZ,onCells]
 .have p:(ys.flatMap enc).length=n*k:=by rw[f,i]
  have o:n*k<=b.size:=by rw[av];exact sV k ar
  apply ext_getElem?;intro j;by_cases d:j<n*k
  .rw[getElem?_take_of_lt d,nw];simp only[putCells,Array.getElem?_mapIdx,sI (show j<b.size by omega),pw];rw[aD (by simp only[gW];omega),gl U];simp[ji,show j<(ys.flatMap enc).length by omega,-length_flatMap]
  rw[getElem?_take_eq_none U,sN U]
 .simp[putRow,mapBlock,Sort.ahead]
 intro j d hne;rw[heap_grow_old _ _ (by simpa[putRow,mapBlock,Sort.ahead]using d)]
 have:g≠j:=λe=>hne e.symm
 simp[putRow,mapBlock,Sort.ahead,Dk,this]
end
def ki(w w':ai):ak:=∃ q os,w'=grow (w.drewN q) os
def ki.refl(w:ai):ki w w:=⟨0,#[],by rw[grow_empty];rfl⟩
def ki.trans{a b c:ai}(h:ki a b)(k:ki b c):ki a c:=by
 obtain⟨q,os,rfl⟩:=h;obtain⟨e,d,rfl⟩:=k;refine⟨q+e,os++d,?_⟩;show grow (grow ((a.drewN q).drewN e) os) d=_;rw[grow_grow]
 congr 1
 simp[ih]
theorem ki.alloc{a b:ai}(h:ki a b)(o:Obj):ki a (b.alloc o):=h.trans ⟨0,#[o],by rw[alloc_eq_grow];rfl⟩
theorem ki.drewN{a b:ai}(h:ki a b)(n:J):ki a (b.drewN n):=h.trans ⟨n,#[],by rw[grow_empty]⟩
def P_(a b:de)(w:ai):aA 48 #[aQ a,aQ b] w λe w'=>e=.returned (I (eE a b))/\ki w w':=by
 have k:(w.alloc (ae a 43)).heap.size=w.heap.size+1:=aK;have c:=aX (w.alloc (ae a 43)) (ae b 43);rw[k]at c;have gX:=af (((ki.refl w).alloc (ae a 43)).alloc (ae b 43));have g:=af (cm (aX w (ae a 43)) (ae b 43))
 go_in
 go_wp2_with fail;generalize World.alloc (World.alloc w _) _=ao at *;have l:=aS g.o;have m:=aS c;refine iR 20 aH aH ?_;simp only[hV,iy,hU,hI]
 repeat (go_big_quiet_step ((go_at_call 75;exact(F1 _ _ _).mono λ_ _ h=>⟨h.1,_,h.2.symm⟩)))
 refine wpQuiet_nil ?_;intro _ d;have⟨nq,f⟩:=d;subst f;go_wp2_with fail;refine(F2 (b:=ao.heap.size) [eV a.fr b.fr,eV a.em b.em,eV a.bL b.bL,eV a.cq b.cq] aK λi aw=>?_).mono ?_
 .have j:i=0\/i=1\/i=2\/i=3:=by simp at aw;omega
  rcases j with rfl|rfl|rfl|rfl<;>exact bb (aX (ao.drewN nq) (ae #[I (eV a.fr b.fr),I (eV a.em b.em),I (eV a.bL b.bL),I (eV a.cq b.cq)] 3)) rfl
 rintro e _ ⟨rfl,rfl⟩;go_wp2;go_ret;exact⟨rfl,((gX.out.drewN nq).alloc (ae #[I (eV a.fr b.fr),I (eV a.em b.em),I (eV a.bL b.bL),I (eV a.cq b.cq)] 3))⟩
def S2(a b:aB)(w:ai):aA 47 #[aQ a,aQ b] w λr w'=>r=.returned (I (eE a.k b.k))/\ki w w':=by
 have cb:=((ki.refl w).alloc (ae a 45)).alloc (ae b 45);have e:(w.alloc (ae a 45)).heap.size=w.heap.size+1:=aK;have f:=cm (aX w (ae a 45)) (ae b 45);have c:=aX (w.alloc (ae a 45)) (ae b 45);rw[e]at c
 go_in
 go_wp2_with fail;generalize World.alloc (World.alloc w _) _=ao at *;refine aU (P_ a.k b.k ao) λaC aj=>?_;have d:=cb.trans aj;go_wp2;go_ret;exact⟨rfl,d⟩
section
open Go.RowKit Go.Shelf Go.Sort
variable{w w':ai}
section
variable{P:Program}{α:Type}{enc:α->ah ax}{k base n cap g:J}{T:TypeId}{cg:List α}
def vL(hk:∀ x,(enc x).length=k)(i:J)(aw:i<cg.length):cg.flatMap enc=(cg.take i).flatMap enc++enc cg[i]++(cg.drop (i+1)).flatMap enc/\((cg.take i).flatMap enc).length=i*k:=by
 constructor
 .have e:cg=cg.take i++cg[i] :: cg.drop (i+1):=by rw[<-qm aw,l5]
  refine(cV (flatMap enc) e).trans ?_;rw[ry,iS,dD]
 rw[tC hk,gn,oG U]
def x4(i:J)(aw:i<cg.length)(x:α):(cg.set i x).flatMap enc=(cg.take i).flatMap enc++enc x++(cg.drop (i+1)).flatMap enc:=by
 rw[set_eq_take_append_cons_drop,aD aw];simp[ry,iS]
def Kn{n k:J}(A M B R X:ah ax)(a:A.length=n)(b:M.length=k)(c:X.length=k):((A++M++B++R).take n++X++(A++M++B++R).drop (n+k)).take (n+k+B.length)=A++X++B:=by
 have h1:(A++M++B++R).take n=A:=by rw[dD,dD,rB a]
 have h2:(A++M++B++R).drop (n+k)=B++R:=by rw[dD (A++M),wW (by rw[cx,a,b])]
 rw[h1,h2,<-dD,rB (by simp only[cx];omega)]
def sg(h:w.ownsRow base T k (aq (some (ad g 0 ab)) n cap) n (cg.flatMap enc)):∃ a rest,w.heap[g]?=some (ae a T (0,0))/\a.toList=cg.flatMap enc++rest/\base<=g/\n<=cap/\cap<=maxLen/\a.size=cap*k:=by
 rcases h.2 with⟨c,_⟩|⟨g',e,a,c,aj,aZ,ar,hm,av,aO⟩
 .cases c
 injection c with b _ d
 injection b with b
 injection b with b
 subst b;subst d;exact⟨a,a.toList.drop (n*k),aZ,by rw[<-aO,l5],aj,ar,hm,av⟩
def og(hk:∀ x,(enc x).length=k)(bd:∀ w,(isAgg T).run P w=.ok true w)(d:∀ w,(Go.sizeOf T).run P w=.ok k w)(h:w.ownsRow base T k (aq (some (ad g 0 ab)) n cap) n (cg.flatMap enc))(i:J)(aw:i<cg.length):(Instr.loadAt T (.pointer (some (ad g (i*k) ab)))).run P w=.ok (.agg (enc cg[i]).toArray) w:=by
 have⟨b,rest,aZ,al,_⟩:=sg h;refine gz T k g (i*k) (enc cg[i]).toArray b T bd d (by simpa using hk _) aZ λj v c=>?_;rw[<-nw,al];have⟨h1,h2⟩:=vL hk i aw;rw[h1,dD,dD,l3 U,h2,DU];have a:(enc cg[i])[j]?=some v:=by simpa using c
 rw[jU (hp.1 a).1];exact a
def yW(hk:∀ x,(enc x).length=k)(h1:∀ x,∀ v∈enc x,v.oneCell'=true)(c:∀ w,(Go.sizeOf T).run P w=.ok k w)(h:w.ownsRow base T k (aq (some (ad g 0 ab)) n cap) n (cg.flatMap enc))(i:J)(aw:i<cg.length)(x:α):∃ w',(Instr.storeAt T (.pointer (some (ad g (i*k) ab))) (.agg (enc x).toArray)).run P w=.ok () w'/\w'.ownsRow base T k (aq (some (ad g 0 ab)) n cap) n ((cg.set i x).flatMap enc)/\Keeps (λj=>j=g) w w':=by
 have⟨a,rest,aZ,al,aj,ar,hm,av⟩:=sg h;have⟨s1,s2⟩:=vL (enc:=enc) hk i aw;have d:a.size=i*k+k+((cg.drop (i+1)).flatMap enc).length+rest.length:=by
  rw[<-pA,al,s1];simp only[cx,s2,hk]
 refine⟨_,(q8 (P:=P) T k g (i*k) (enc x).toArray a T c (by simpa using hk x) aZ U (by simpa using h1 x)),?_,iG w g _⟩;have b:n*k=i*k+k+((cg.drop (i+1)).flatMap enc).length:=by rw[<-h.1,s1];simp only[cx,s2,hk]
 refine⟨by rw[x4 i aw];simp only[cx,s2,hk];exact b.symm,.inr ⟨g,cap,_,rfl,aj,fl w g a _ T aZ,ar,hm,by rw[(wD a (i*k) (enc x).toArray (by simp only[gW,hk];omega))];exact av,?_⟩⟩;unfold e0;rw[x4 i aw,al,s1,b];simp only[gW,hk];exact Kn _ _ _ _ _ s2 (hk _) (hk _)
def yV{TS:TypeId}{z:ax}(hk:∀ x,(enc x).length=k)(q:P.underlying TS=some (.slice T))(aW:∀ w,(zeroValue T).run P w=.ok z w)(r:z.cells.size=k)(h1:∀ v∈z.cells.toList,v.oneCell'=true)(h:w.ownsRow base T k (aq (some (ad g 0 ab)) n cap) n (cg.flatMap enc))(i:J)(aw:i<cg.length)(u:cg.length=n):∃ w',(∀ (ty:TypeId) (c:J),(Builtin.clear_ #[TS] ty #[aq (some (ad g (i*k) ab)) (n-i) c]).run P w=.ok (aV #[]) w')/\w'.ownsRow base T k (aq (some (ad g 0 ab)) i cap) i ((cg.take i).flatMap enc)/\Keeps (λj=>j=g) w w':=by
 have⟨a,rest,aZ,al,aj,ar,hm,av⟩:=sg h;have⟨s1,s2⟩:=vL (enc:=enc) hk i aw;have f:(Builtin.zeroCells z.cells (n-i)).toList.length=(n-i)*k:=by simp[Builtin.zeroCells,r]
 have o:∀ v∈(Builtin.zeroCells z.cells (n-i)).toList,v.oneCell'=true:=by
  intro v aW;simp only[Builtin.zeroCells,Array.toList_map,e3]at aW;obtain⟨t,aO,rfl⟩:=aW;have p:t<(n-i)*z.cells.size:=by simpa using aO
  have au:0<z.cells.size:=by
   rcases rD z.cells.size with e|e
   .rw[e,Nat.mul_zero]at p;omega
   exact e
  have hm:=e2 t au;rw[ji z.cells (t%z.cells.size) hm];exact h1 _ (by rw[Array.mem_toList_iff];exact Array.getElem_mem hm)
 have l:i*k+0+(n-i)*k<=a.size:=by
  have h1:i*k+(n-i)*k=n*k:=by rw[<-DS];congr 1;omega
  have h2:=sV k ar;omega
 have d:=DB (P:=P) g (i*k) T (Builtin.zeroCells z.cells (n-i)).toList 0 a w aZ (by rw[f];exact l) o;obtain⟨cs,b⟩:=cO (a.toList.take (i*k+0)++(Builtin.zeroCells z.cells (n-i)).toList++a.toList.drop (i*k+0+(Builtin.zeroCells z.cells (n-i)).toList.length)).toArray;rw[<-b]at d;refine⟨w.setRow g cs,λty c=>?_,⟨by rw[s2],.inr ⟨g,cap,cs,rfl,aj,fl w g a cs T aZ,U,hm,?_,?_⟩⟩,iG w g cs⟩
 .obtain⟨m,hm⟩:∃ m,n-i=m+1:=⟨n-i-1,U⟩;rw[hm]at d⊢;simp[Builtin.clear_,rp q,aW,d]
 .rw[<-av,b];simp only[gW,cx,gn,gm,pA,f];omega
 have s:i*k<=a.toList.length:=by rw[pA];omega
 rw[b];simp only[rC];rw[dD,zM (by rw[gn];omega),take_take,Nat.min_self,al,s1,dD,dD,rB s2]
end
section
variable{P:Program}{o:Oper}{a:Act}{Q:Exit->Act->ai->ak}{ops:a6 Oper}{rest:ah Oper}
def wL{t:TypeId}{m:Operand}{mv:ax}(hrun:(Builtin.clear_ #[t] o.type #[mv]).run P w=.ok (aV #[]) w')(aZ:o.guard=none)(c:o.op=Op.call {callee:=Callee.builtin Builtin.clear,args:=#[m],argTypes:=#[t]})(hm:a.eval m=mv)(h:wpList P ops Q rest (a.put o.dst (aV #[])) w'):wpList P ops Q (o :: rest) a w:=by
 refine nz aZ λd b=>?_;unfold Oper.wp;simp[execOp,c,resolve,invoke,builtin,hm,hrun,Result.andThen];exact b _ _ h
end
structure KeptI{α:Type}(q:α->aY)(xs ys:List α)(i j:J):ak where
 len:ys.length=xs.length
 bl:ys.take i=(xs.take j).filter q
 aw:ys.drop j=xs.drop j
 lt:i<j
 le:j<=xs.length
namespace KeptI
variable{α:Type}{q:α->aY}{xs ys:List α}{i j:J}
def start{i:J}(aw:i<xs.length)(h1:q xs[i]=false)(h2:∀ j (b:j<xs.length),j<i->q xs[j]=true):KeptI q xs xs i (i+1):=by
 refine⟨rfl,?_,rfl,U,U⟩;rw[l6 aw,rr,oB (by simp[h1]),zF,e4];refine(nA.2 λa bd=>?_).symm;obtain⟨t,aO,rfl⟩:=sQ.1 bd;rw[gn]at aO;rw[getElem_take];exact h2 t U U
def at'(h:KeptI q xs ys i j)(a:j<xs.length):ys[j]'(by rw[h.len];exact a)=xs[j]:=by
 have h1:=cV head? h.aw;rw[head?_drop,head?_drop,gl a,gl (by rw[h.len];exact a)]at h1;exact ij h1
def skip(h:KeptI q xs ys i j)(a:j<xs.length)(h1:q xs[j]=false):KeptI q xs ys i (j+1):=by
 refine⟨h.len,?_,?_,by have:=h.lt;omega,a⟩
 .rw[h.bl,l6 a,rr,oB (by simp[h1]),zF,e4]
 rw[<-mF,<-mF,h.aw]
def keep(h:KeptI q xs ys i j)(a:j<xs.length)(h1:q xs[j]=true):KeptI q xs (ys.set i xs[j]) (i+1) (j+1):=by
 have b:=h.lt;have aw:i<ys.length:=by rw[h.len];omega
 refine⟨by rw[qp];exact h.len,?_,?_,U,a⟩
 .rw[l6 (by rw[qp];exact aw),zI,take_set_of_le (c9 i),h.bl,l6 a,rr,ru h1,zF]
 rw[drop_set_of_lt U,<-mF,<-mF,h.aw]
def done(h:KeptI q xs ys i xs.length):ys.take i=xs.filter q:=by rw[h.bl,nE]
def count(h:KeptI q xs ys i xs.length):(xs.filter q).length=i:=by
 rw[<-h.done,gn,h.len]
 have:=h.lt
 omega
end KeptI
end
def C2(x:aB):(aB.br x).length=9:=rfl
def KV:∀ x:aB,∀ v∈aB.br x,v.oneCell'=true:=λx v aW=>rX [x] v (by rw[vG];exact aW)
def O9:SWO (ltOf λa b:aB=>eE a.k b.k):=by
 have h:∀ a b:aB,ltOf (λa b:aB=>eE a.k b.k) a b=true↔ku a.k b.k:=λa b=>by
  exact decide_eq_true_iff.trans (kV a.k b.k)
 have d:∀ a b:aB,ltOf (λa b:aB=>eE a.k b.k) a b=false↔¬ ku a.k b.k:=λa b=>by rw[<-h,Dp]
 refine⟨λx=>(d _ _).2 (mm x.k),λx y z h1 h2=>(h _ _).2 (q0 ((h _ _).1 h1) ((h _ _).1 h2)),λx y z h1 h2=>?_⟩;have h2:=(d _ _).1 h2;refine(d _ _).2 λc=>?_;rcases v7 x.k y.k with e|e|e
 .exact((d _ _).1 h1) e
 .rw[e]at c;exact h2 c
 rcases v7 y.k z.k with f|f|f
 .exact h2 f
 .rw[f]at e;exact mm _ (q0 e c)
 exact mm _ (q0 (q0 c f) e)
def Oq{xs ys:ah aB}(au:xs.Perm ys)(h1:en xs)(h2:en ys):xs=ys:=by
 induction xs generalizing ys with
 | nil=>exact(nil_perm.1 au).symm
 | cons a l i=>
  cases ys with
  | nil=>exact absurd au.length_eq (by simp)
  | cons b m=>
   have⟨c,d⟩:=jg.1 h1;have⟨bO,g⟩:=jg.1 h2;have h:a=b:=by
    rcases e6.1 (au.mem_iff.1 (mI))with e|e
    .exact e
    rcases e6.1 (au.mem_iff.2 (mI))with f|f
    .exact f.symm
    exact absurd (q0 (c b f) (bO a e)) (mm _)
   subst h;rw[i (Perm.cons_inv au) d g]
def Xs{ys:List aB}{d:Array aB}(hd:ys.Pairwise λa b=>a.k≠b.k)(au:PermIn 0 ys.toArray.size ys.toArray d)(av:SortedIn (ltOf λa b:aB=>eE a.k b.k) 0 ys.toArray.size d):d.toList.Perm ys/\en d.toList:=by
 have f:d.size=ys.length:=by simpa using au.1
 have m:d.toList.Perm ys:=by
  have h:=au.2.2;rw[show ys.toArray.size=d.size by simpa using f.symm,Lr]at h;rw[show d.size=ys.toArray.size by simpa using f,Lr]at h;simpa using h
 refine⟨m,?_⟩;have g:=hd.perm m.symm (λh=>hW h);unfold en;rw[sR]at g⊢;intro i j aw c l;have h1:=av i j (c' _) l (by simpa[f]using c);have h2:=g i j aw c l;have o:i<d.size:=by simpa using aw
 have p:j<d.size:=by simpa using c
 rw[ji d i o,ji d j p]at h1;have n:¬ ku d[j].k d[i].k:=λh=>by
  exact D2 h1 ((kV _ _).2 h)
 simp only[Array.getElem_toList]at h2⊢;rcases v7 d[i].k d[j].k with e|e|e
 .exact e
 .exact absurd e h2
 exact absurd e n
def Qo{base:J}{v:ax}(ys:List aB)(c:w.ownsRow base 45 9 v ys.length (bX ys))(ar:ys.length<=4096)(hd:ys.Pairwise λa b=>a.k≠b.k):aA 72 #[v,.func (.func 47) #[] #[]] w λe w'=>e=aV #[]/\∃ cg:List aB,cg.Perm ys/\en cg/\w'.ownsRow base 45 9 v cg.length (bX cg)/\Keeps (λj=>v.ownBlock=some j) w w':=by
 by_cases aW:v=aq none 0 0
 .subst aW;have⟨A,cap,s,_,_⟩:=cS c;have o:ys=[]:=by
   injection s with _ h2 _
   exact jx.1 h2.symm
  subst o;refine bA (Qn _ w) ?_;exact⟨rfl,[],zB _,Pairwise.nil,c,Keeps.refl _ _⟩
 obtain⟨g,cap,rfl,aj,t,p⟩:=R8 (enc:=aB.br) C2 ys c rfl aW
 have h:=AnyQ.slices_SortFunc (P:=prog) (ρ:=GK) Qv 9 isAgg45 sizeOf45 aB.br C2 KV (λa b=>eE a.k b.k) O9 47 #[] g 0 cap ys.toArray w (enters_of func47 aH rfl)
  (λm os z _ x y=>(S2 x y _).mono λr aC ⟨h1,q,u,h2⟩=>⟨h1,q,u,h2⟩) p t bT
 refine(h.mono ?_);rintro e aC ⟨rfl,d,n,os,au,av,rfl⟩;obtain⟨l,bd⟩:=Xs hd au av;have i:=l.length_eq;have f:=Up (enc:=aB.br) (k:=9) (q:=n) (os:=os) C2 c i;refine⟨rfl,d.toList,l,bd,by rw[i];exact f.1,?_⟩
 have:Keeps (λj=>j=g) w (sortWorldK aB.br 9 w g 0 n d os):=f.2
 exact this.mono λj _ e=>by rw[e];rfl
def Ie{b db hn:J}{m cW:aa}{aJ:aY}{L:List aB}(hd:w.heap[b]?=some (ae #[I m,.map (some db),.map (some hn),I cW,.bool aJ] 118 (0,0)))(d:RMap w mj db (il L))(bd:en L)(f:L.length<=1000):aA 23 #[b] w λe w'=>∃ v,e=.returned v/\w'.ownsRow w.heap.size 45 9 v L.length (bX L)/\Keeps aI w w':=by
 have d1:=aS hd;have C:=d.lt;have g:Keeps aI w (w.alloc (ae #[.map (some db)] 115)):=(Keeps.refl _ w).alloc _;have q:∀ (m:J) (W:ai),aA 46 #[.map (some m)] W λe w'=>e=.returned (.func (.func 73) #[] #[W.heap.size])/\W.alloc (ae #[.map (some m)] 115)=w':=by
  intro m W
  go_in
  go_wp2;go_ret;exact⟨rfl,rfl⟩
 have D:(w.alloc (ae #[.map (some db)] 115)).heap.size=w.heap.size+1:=aK;have p:=d.keeps g id;have s:tl prog 73 #[w.heap.size] (λe:aB=>#[.agg (dT e)]) (λ_ pre x _=>x∈L/\pre.length<L.length) (λys _=>ys.Perm L) (λk=>k=(w.alloc (ae #[.map (some db)] 115)).heap.size\/(w.alloc (ae #[.map (some db)] 115)).heap.size+3<k) (λk=>k=(w.alloc (ae #[.map (some db)] 115)).heap.size+3) ((w.alloc (ae #[.map (some db)] 115)).alloc (ae #[aq none 0 0] 66)):=by
  have i:=(ba (w.alloc (ae #[.map (some db)] 115))).alloc (ae #[aq none 0 0] 66);have h:=TE (p.keeps i id) (i.cell (bb (k:=0) (aX w (ae #[.map (some db)] 115)) rfl) id) (λk=>k=(w.alloc (ae #[.map (some db)] 115)).heap.size\/(w.alloc (ae #[.map (some db)] 115)).heap.size+3<k) ⟨U,aK⟩;have e:((w.alloc (ae #[.map (some db)] 115)).alloc (ae #[aq none 0 0] 66)).heap.size+2=(w.alloc (ae #[.map (some db)] 115)).heap.size+3:=aK;rw[e]at h;exact h
 have n:=P9 73 #[w.heap.size] (enters_of func73 aH rfl) f s;have j:=af (AQ d.pN);generalize B:w.alloc (ae #[.map (some db)] 115)=bk at *;have aT:aA 71 #[.func (.func 73) #[] #[w.heap.size]] bk λe w'=>∃ v ys,e=.returned v/\ys.Perm L/\w'.ownsRow (bk.heap.size+4) 45 9 v ys.length (bX ys)/\Keeps aI bk w':=by
  go_in
  go_wp2_with fail;refine n.mono ?_;rintro e ao ⟨v,ys,rfl,au,a,hk⟩;have c:=b6 au (bB a hk);obtain⟨A,cap,rfl,_,_⟩:=cS a;go_wp2;go_ret;exact⟨_,ys,rfl,c.o⟩
 have an:aA 45 #[.func (.func 73) #[] #[w.heap.size],.func (.func 47) #[] #[]] bk λe w'=>∃ v,e=.returned v/\w'.ownsRow (bk.heap.size+4) 45 9 v L.length (bX L)/\Keeps aI bk w':=by
  go_in
  go_wp2_with fail;refine aT.mono ?_;rintro e ao ⟨v,ys,rfl,au,a,hk⟩;have u:ys.length<=4096:=by rw[au.length_eq];have:=f;omega
  have c:=b6 au (bB a hk);obtain⟨A,cap,rfl,_,_⟩:=cS a;go_wp2_with fail;refine aU ((Qo ys a u (j.out.perm au.symm (λh=>hW h)))) ?_;rintro aC ⟨cg,z,r,y,t⟩;obtain rfl:=Oq (z.trans c.out.1) r bd;have l:=b6 y (cL c.out.2.2 t (λk hk e=>by have:=(c.out.2.1.lt k e).1;omega));go_wp2;go_ret;exact⟨_,rfl,l.o⟩
 go_in
 go_wp2_with fail;refine bA (q _ _) ?_;rw[B];go_wp2_with fail;refine an.mono ?_;rintro e aC ⟨v,rfl,a,hk⟩;have c:=b6 a hk;obtain⟨A,cap,rfl,_,_⟩:=cS a;go_wp2;go_ret;exact⟨_,rfl,kB c.o.1 U,g.trans c.o.2⟩
def Qc{base:J}{v:ax}{xs:ah aB}(h:w.ownsRow base 45 9 v xs.length (bX xs))(ar:xs.length<=1000)(p:aB->aY)(g:J)(lb:a6 ax)(n:∀ args w,(callFunc g args).run prog w=.ok (.enter g args) w)(au:Ak g lb p w):aA 339 #[v,.func (.func g) #[] lb] w λe w'=>Below w w w'/\((e=.returned (I (-1))/\∀ x∈xs,p x=false)\/∃ i,∃ aw:i<xs.length,e=.returned (I i)/\p xs[i]=true/\∀ j (k:j<xs.length),j<i->p xs[j]=false):=by
 rcases h.2 with⟨rfl,q⟩|⟨b,cap,D,rfl,aZ,aJ,al,hm,av,aO⟩
 .obtain rfl:=jx.1 q;clear au h
  go_in
  exact EC
 obtain⟨A,C,s,aW,_⟩:=cS h;cases s;refine(AnyQ.slices_IndexFunc (P:=prog) (ρ:=AX) {GH with} 9 isAgg45 sizeOf45 aB.br (λ_=>rfl) p g lb n b 0 xs.length cap xs w au bs U (bP aJ) (λj k i u m=>?_)).mono ?_
 .have aw:i<9:=by
   have:=(hp.1 m).1
   exact this
  have⟨B,o,e,r⟩:=aW.at' U;cases e;rw[show 0+j*9+i=0+(j*9+i)by omega];refine r (j*9+i) u ?_;rw[tw xs j k i aw]
  rwa [ji xs j k]at m
 rintro e w' ⟨rfl,h2⟩;rw[nE];refine⟨h2,?_⟩;rcases idxByFrom_spec (λ_ y=>p y) default xs 0 with⟨a,l⟩|⟨f,d,a,aO,l⟩
 .refine .inl ⟨Ez,λx c=>?_⟩;obtain⟨t,aO,rfl⟩:=sQ.1 c
  have:=l t aO
  rwa [ji xs t aO]at this
 refine .inr ⟨f,d,Es,Ej,λj k z=>?_⟩
 have:=l j z
 rwa [ji xs j k]at this
def Wh(W:ai):(zeroValue 45).run prog W=.ok (aQ z9) W:=aH
def N6(w:ai)(base:J)(v:ax)(ys:ah aB)(e:Ending)(w':ai):ak:=
 ∃ v',e=.returned v'/\w'.ownsRow base 45 9 v' ys.length (bX ys)/\Keeps (λj=>v.ownBlock=some j) w w'/\v'.ownBlock=v.ownBlock
def Qa{base:J}{v:ax}{xs:ah aB}(h:w.ownsRow base 45 9 v xs.length (bX xs))(ar:xs.length<=1000)(p:aB->aY)(g:J)(lb:a6 ax)(vl:∀ args w,(callFunc g args).run prog w=.ok (.enter g args) w)(au:∀ W,Keeps (λj=>v.ownBlock=some j) w W->∀ x:aB,Calls prog g (#[.agg x.br.toArray]++lb) W λe W'=>e=.returned (.bool (p x))/\Below W W W'):aA 340 #[v,.func (.func g) #[] lb] w (N6 w base v (xs.filter λx=>!p x)):=by
 have a':=Qc h ar p g lb vl (λW x aj=>(au W (Keeps.bD aj a7) x).mono λ_ _ h=>⟨h.1,aj.trans (h.2.mono aj.size)⟩);have F:=af a';have sd:=af au;have r':=af h;clear a' au;rcases h.2 with⟨rfl,Z⟩|⟨r,cap,ZI,rfl,aZ,aJ,al,hm,av,aO⟩
 .obtain rfl:=jx.1 Z;clear h Z ar
  go_in
  exact MZ
 have Aw:=bP aJ;clear aZ aJ hm av aO h
 go_in
 go_wp2_with fail;refine F.out.mono ?_;rintro e ao ⟨aj,h1⟩;have A:Keeps (λj=>(aq (some (ad r 0 ab)) xs.length cap).ownBlock=some j) w ao:=Keeps.bD aj a7;have B:=b4 r'.out (Keeps.bD (S:=aI) aj a7) (λ_ _=>id);clear aj F;rcases h1 with⟨rfl,q⟩|⟨K,w',rfl,l',q⟩
 .exact Na
 have c:KeptI (λx=>!p x) xs xs K (K+1):=KeptI.start w' (by simp[l']) (λj z zd=>by simp[q j z zd]);have Q':((K:aa) == -1)=false:=eu.2 U;have m:=af (bB c (bB B A));clear l' q c B A;go_wp2_with fail;go_loopg [5,6,7] xs.length (λgv T' iN _ wr=>∃ (i j:J) (ys:ah aB),T'=I i/\iN=I j/\xs.length-j<=gv/\KeptI (λx=>!p x) xs ys i j/\wr.ownsRow base 45 9 (aq (some (ad r 0 ab)) xs.length cap) xs.length (bX ys)/\Keeps (λj=>(aq (some (ad r 0 ab)) xs.length cap).ownBlock=some j) w wr)
 case atStart=>exact⟨K,K+1,xs,rfl,by go_num,U,m.o⟩
 obtain⟨i,j,ys,rfl,rfl,ZJ,a,G,H⟩:=hrel;have ZK:=a.lt;have ZL:=a.le;have Tq:=a.len;clear m Q';by_cases t:j<xs.length
 .have f:=og (P:=prog) (enc:=aB.br) (λ_=>rfl) isAgg45 sizeOf45 G j U;rw[a.at' t]at f;have dw:=q7 wr;have O:=aX wr (ae z9 45);obtain⟨c,ZM,mv⟩:=dP (wr.alloc (ae z9 45)) 45 9 wr.heap.size (dT xs[j]) _ sizeOf45 rfl rfl O (vC xs[j]);have N:=fl (wr.alloc (ae z9 45)) wr.heap.size _ (dT xs[j]) 45 O;have R:=cL ((ba wr).alloc (ae z9 45)) mv a7;generalize (wr.alloc (ae z9 45)).setRow wr.heap.size (dT xs[j])=V' at *;have V:=H.trans (R.mono λ_ _ x=>x.elim);have fr:=b4 G R (λ_ _=>id);have Q:=sd.out V' V xs[j];have n:=gz (P:=prog) 45 9 wr.heap.size 0 (dT xs[j]) _ _ isAgg45 sizeOf45 rfl N (λj u z=>jZ);have ZN:=l7 Aw H.size;have CW:(j:aa)<(xs.length:aa):=U;have M:=af a;have s':=af N;have l:=af (bB V fr);clear a G H O mv R V fr N;obtain⟨y,X⟩:∃ y,y=xs[j]:=⟨_,rfl⟩;rw[<-X]at f c n Q;have D:=af Q;have E:=af X;clear X Q;cases s:p y with
  | false=>
   go_wp2_with first|refine dp f rfl rfl rfl ?_|refine d_ dw rfl rfl ?_|refine c8 c rfl rfl rfl rfl ?_|(go_at_fn g;refine D.out.mono ?_;rintro e Y ⟨rfl,k⟩;rw[s];have b:=Keeps.bD (S:=aI) k a7;have g':=b.heap s'.out id;have gf:=b4 l.out.2 b (λ_ _=>id);obtain⟨ZG,St,C,L⟩:=yW (P:=prog) (enc:=aB.br) (λ_=>rfl) KV sizeOf45 gf i U y;have zp:=gz (P:=prog) 45 9 wr.heap.size 0 (dT y) _ _ isAgg45 sizeOf45 rfl g' (λj u z=>Et);have d:=af (bB C ((l.out.1.trans (b.mono λ_ _ x=>x.elim)).trans (L.mono λ_ _ x=>vg)));clear C L gf g' b k)|refine dp zp rfl rfl rfl ?_|refine dp n rfl rfl rfl ?_|refine c8 St rfl rfl rfl rfl ?_
   exact ED
  | true=>
   exact D'
 obtain rfl:j=xs.length:=U;have CW:¬ (xs.length:aa)<(xs.length:aa):=U;obtain⟨ZG,v',C,L⟩:=yV (P:=prog) (TS:=66) (enc:=aB.br) (λ_=>rfl) underlying66 Wh rfl bq G i U Tq;have m':=H.trans (L.mono (T:=λj=>(aq (some (ad r 0 ab)) xs.length cap).ownBlock=some j) λ_ _ x=>vg);have h2:=a.done;have hd:=a.count;rw[h2]at C;have d:=af (bB C (bB m' hd));clear C m' hd h2 a G H;go_wp2_with refine wL (v' _ _) rfl rfl rfl ?_
 go_ret;exact⟨_,rfl,Eu,d.o.2.1,rfl⟩
section
open Go.RowKit Go.Shelf Go.Maps
variable{w w':ai}
structure cD where
 most:aa
 bf:ah aB
 bW:aa->ah aB
 aN:aa
 hd:aY
structure dF where
 b:J
 db:J
 hn:J
 M:ah (aa×ax)
def mV(B:dF)(s:cD):a6 ax:=#[I s.most,.map (some B.db),.map (some B.hn),I s.aN,.bool s.hd]
def xy(w:ai)(M:ah (aa×ax))(T:aa->ah aB):ak:=
 ∀ x,match h6 M x with
  | some v=>w.ownsRow 0 45 9 v (T x).length (bX (T x))
  | none=>T x=[]
structure IsLd(w:ai)(B:dF)(s:cD):ak where
 gh:w.heap[B.b]?=some (ae (mV B s) 118 (0,0))
 bf:RMap w mj B.db (il s.bf)
 dL:en s.bf
 n:(s.bf.length:aa)<=s.most/\s.most<=256
 bW:RMap w r4 B.hn B.M/\xy w B.M s.bW/\∀ p∈B.M,0<=p.1/\p.1<=1000000
 bh:∀ x,eL x (s.bW x)
 ne:B.db≠B.hn
 cW:-1<=s.aN/\s.aN<=1000000
def pE(w:ai)(B:dF)(j:J):ak:=j≠B.b/\j≠B.db/\j≠B.hn/\∀ a,w.heap[j]?≠some (ae a 45 (0,0))
def IT{base n:J}{v:ax}{l:ah ax}(h:w.ownsRow base 45 9 v n l){j:J}(b:v.ownBlock=some j):∃ a,w.heap[j]?=some (ae a 45 (0,0)):=by
 rcases h.2 with⟨rfl,_⟩|⟨g,cap,a,rfl,_,aJ,_⟩
 .cases b
 cases b;exact⟨a,aJ⟩
def CP{M:ah (aa×ax)}{T:aa->ah aB}{S:J->ak}(h:xy w M T)(hk:Keeps S w w')(an:∀ j,S j->∀ b,w.heap[j]?≠some (ae b 45 (0,0))):xy w' M T:=by
 intro x;have a:=h x;cases c:h6 M x with
 | none=>rw[c]at a;exact a
 | some v=>
  rw[c]at a;exact b4 a hk λj d av=>by
   have⟨b,al⟩:=IT a d;exact an j av b al
def ng{P:Program}{k:TypeId}{dz:Type}{C:lu P k dz}{b:J}{M:ah (dz×ax)}(h:RMap w C b M)(a:a6 ax)(t:TypeId)(z:J×J):w.heap[b]?≠some (ae a t z):=by
 have⟨es,⟨d,c,aj,_⟩,_⟩:=h.own;rw[aj];simp
namespace IsLd
variable{B:dF}{s:cD}
def keep{T:J->ak}(h:IsLd w B s)(hk:Keeps T w w')(a:∀ j,T j->pE w B j):IsLd w' B s:=by
 obtain⟨h1,h2,b⟩:=h.bW;exact⟨hk.heap h.gh λe=>(a _ e).1 rfl,h.bf.keeps hk λe=>(a _ e).2.1 rfl,h.dL,h.n,⟨h1.keeps hk λe=>(a _ e).2.2.1 rfl,CP h2 hk λj c=>(a j c).2.2.2,b⟩,h.bh,h.ne,h.cW⟩
def kr(h:IsLd w B s)(hk:Keeps aI w w'):IsLd w' B s:=h.keep hk λ_ e=>e.elim
def FD(h:IsLd w B s):B.b≠B.db:=λe=>ng h.bf _ _ _ (e▸h.gh)
def FE(h:IsLd w B s):B.b≠B.hn:=λe=>by
 exact ng h.bW.1 _ _ _ (e▸h.gh)
def cp(h:IsLd w B s):s.bf.length<=256:=by have:=h.n;omega
def J3{s':cD}(h:IsLd w B s)(k:w'.heap[B.b]?=some (ae (mV B s') 118 (0,0)))(hk:Keeps (λj=>j=B.b) w w')(a:s'.bf=s.bf)(c:s'.bW=s.bW)(d:s'.most=s.most)(f:-1<=s'.aN/\s'.aN<=1000000):IsLd w' B s':=by
 have⟨h1,h2,g⟩:=h.bW;refine⟨k,by rw[a];exact h.bf.keeps hk λe=>h.FD e.symm,by rw[a];exact h.dL,by rw[a,d];exact h.n,⟨h1.keeps hk λe=>h.FE e.symm,?_,g⟩,by rw[c];exact h.bh,h.ne,f⟩;rw[c];refine CP h2 hk λj i l al=>?_;subst i;rw[h.gh]at al;simp only[hr,wR]at al;exact absurd al.2.1 bq
def Cx{L:ah aB}(h:IsLd w B s)(b:RMap w' mj B.db (il L))(hk:Keeps (λj=>j=B.db) w w')(bd:en L)(ar:(L.length:aa)<=s.most):IsLd w' B {s with bf:=L}:=by
 have⟨h1,h2,a⟩:=h.bW;refine⟨hk.heap h.gh λe=>h.FD e,b,bd,⟨ar,h.n.2⟩,⟨h1.keeps hk λe=>h.ne e.symm,?_,a⟩,h.bh,h.ne,h.cW⟩;refine CP h2 hk λj c d al=>?_;subst c;exact ng h.bf _ _ _ al
theorem J5{M:ah (aa×ax)}{T:aa->ah aB}(h:IsLd w B s)(a:RMap w' r4 B.hn M)(hk:Keeps (λj=>j=B.hn) w w')(b:xy w' M T)(c:∀ p∈M,0<=p.1/\p.1<=1000000)(au:∀ x,eL x (T x)):IsLd w' {B with M:=M} {s with bW:=T}:=
 ⟨hk.heap h.gh λe=>h.FE e,h.bf.keeps hk λe=>h.ne e,h.dL,h.n,⟨a,b,c⟩,au,h.ne,h.cW⟩
def _root_.Go.Proofs.YtalagblioepadaaGreatDoor.dF.S(B:dF)(j:Nat):Prop:=j=B.b\/j=B.db\/j=B.hn\/∃ p∈B.M,p.2.ownBlock=some j
theorem keeps{T:J->ak}(h:IsLd w B s)(hk:Keeps T w w')(a:∀ j,B.S j->¬ T j):IsLd w' B s:=by
 obtain⟨h1,h2,d⟩:=h.bW;refine⟨hk.heap h.gh (a _ (.inl rfl)),h.bf.keeps hk (a _ (.inr (.inl rfl))),h.dL,h.n,⟨h1.keeps hk (a _ (.inr (.inr (.inl rfl)))),λx=>?_,d⟩,h.bh,h.ne,h.cW⟩;have b:=h2 x;cases c:h6 B.M x with
 | none=>rw[c]at b;exact b
 | some v=>
  rw[c]at b;refine b4 b hk λj e=>a j (.inr (.inr (.inr ?_)));obtain⟨p,au,rfl⟩:=Option.map_eq_some_iff.1 c;exact⟨p,zJ au,e⟩
def row(h:IsLd w B s){p:aa×ax}(au:p∈B.M):w.ownsRow 0 45 9 p.2 (s.bW p.1).length (bX (s.bW p.1)):=by
 have a:=h.bW.2.1 p.1;rw[h.bW.1.A2 au]at a;exact a
theorem lt(h:IsLd w B s){j:J}(a:B.S j):j<w.heap.size:=by
 rcases a with e|e|e|⟨p,au,e⟩
 .rw[e];exact bP h.gh
 .rw[e];exact h.bf.lt
 .rw[e];exact h.bW.1.lt
 exact((h.row au).lt j e).2
end IsLd
def fX(L:ah aB)(f:aa):ah aB:=L.filter λe=>!decide (e.k.fr≠f)
def S5(e:aB)(f:aa)(B:J)(b:w.cell? (ad B 0 ab)=some (I f)):aA 341 #[aQ e,B] w λr w'=>r=.returned (.bool (decide (e.k.fr≠f)))/\Below w w w':=by
 have cb:=(b3 w.heap.size w).alloc bs (ae e 45);have c:=aX w (ae e 45);have d:B<w.heap.size:=mE w (ad B 0 ab) b;have hd:(e.k.fr != f)=decide (e.k.fr≠f):=by by_cases h:e.k.fr=f<;>simp[h]
 have a:=af hd
 go_in
 exact LS
def S6{B:dF}{s:cD}(h:IsLd w B s)(f:aa):aA 317 #[B.b,I f] w λe w'=>∃ v,e=.returned v/\w'.ownsRow w.heap.size 45 9 v (fX s.bf f).length (bX (fX s.bf f))/\Keeps aI w w':=by
 have l:Keeps aI w (w.alloc (ae #[I f] 3)):=(Keeps.refl _ w).alloc _;have h1:=h.kr l;have C:(w.alloc (ae #[I f] 3)).heap.size=w.heap.size+1:=aK;have ar:=h.cp;have q:=af (Ie h1.gh h1.bf h1.dL U);have p:=af (bb (k:=0) (aX w (ae #[I f] 3)) rfl)
 go_in
 go_wp2_with fail;generalize w.alloc (ae #[I f] 3)=ao at *;refine q.o.mono ?_;rintro e aC ⟨v,rfl,a,hk⟩;have z:∀ j,v.ownBlock=some j->j≠w.heap.size:=λj c e=>by have:=(a.lt j c).1;omega
 have g:=(Qa a U (λe=>decide (e.k.fr≠f)) 341 #[w.heap.size] (enters_of func341 aH rfl) (λW r x=>S5 x f w.heap.size (r.cell (hk.cell p.out id) (λe=>z _ e rfl))));rw[show(s.bf.filter λx=>!decide (x.k.fr≠f))=fX s.bf f from rfl]at g;have t:∀ j,v.ownBlock=some j->ao.heap.size<=j:=λj c=>(a.lt j c).1;obtain⟨A,cap,rfl,_,_⟩:=cS a;have d:=b6 t hk;go_wp2_with fail;refine g.mono ?_;rintro e bm ⟨v',rfl,i,u,_⟩;have y:=l.trans (cL d.out.2 u (λk hk e=>by have:=d.out.1 k e;omega));have n:=b6 (kB i (show w.heap.size<=ao.heap.size by omega)) y;obtain⟨cB,m,rfl,_,_⟩:=cS i;go_wp2;go_ret;exact⟨aq cB _ m,rfl,n.o⟩
end
def S7(e:aB)(f:aa)(B:J)(b:w.cell? (ad B 0 ab)=some (I f)):aA 314 #[aQ e,B] w λr w'=>r=.returned (.bool (decide (e.k.fr≠f)))/\Below w w w':=by
 have cb:=(b3 w.heap.size w).alloc bs (ae e 45);have c:=aX w (ae e 45);have d:B<w.heap.size:=mE w (ad B 0 ab) b;have hd:(e.k.fr != f)=decide (e.k.fr≠f):=by by_cases h:e.k.fr=f<;>simp[h]
 have a:=af hd
 go_in
 exact LS
def S3{B:dF}{s:cD}(h:IsLd w B s)(aJ:s.hd=false){fr now:aa}{xs:ah aB}{base:J}{v:ax}(aW:w.ownsRow base 45 9 v xs.length (bX xs))(au:eL fr xs)(ar:fr<=now/\now<=1000000)(al:s.aN<fr):aA 273 #[B.b,aQ #[I fr,v],I now] w λe w'=>e=.returned (I 0)/\Keeps aI w w':=by
 have i:Keeps aI w (w.alloc (ae #[I fr,v] 271)):=(Keeps.refl _ w).alloc _;have l:=b4 aW i (λ_ _=>id);have j:=aX w (ae #[I fr,v] 271);have c:=i.heap h.gh id;unfold mV at c;rw[aJ]at c;have n:=aS c;have D:=aS j;have r:xs.any (λe=>decide (e.k.fr≠fr))=false:=by
  rw[zC];intro e u;simp[(au.2.2 e u).2]
 have a:=b6 j (bB c i);have m:=af au.2.1;obtain⟨A,cap,rfl,_,_⟩:=cS aW
 go_in
 go_wp2_with fail;generalize w.alloc _=ao at *;refine aU (Qj au l) λaC f=>?_;have C:=b4 l f (λ_ _=>id);have d:=f.heap a.o.1 id;have aT:=AW C (by have:=m.o;omega) (λe=>decide (e.k.fr≠fr)) 314 #[w.heap.size] (enters_of func314 aH rfl) (λW x aj=>(S7 x fr w.heap.size (by have:=mE aC (ad w 0 ab) (bb (k:=0) d rfl);exact(aj.cell (p:=ad w 0 ab) this).trans (bb (k:=0) d rfl))).mono λ_ _ h=>⟨h.1,aj.trans (h.2.mono aj.size)⟩);rw[r]at aT;have E:=aS d;go_wp2_with fail;refine aU aT λbm t=>?_;have g:=f.trans (Keeps.bD (S:=aI) t a7);have q:=g.heap a.o.1 id;have z:=g.heap a.o.2.1 id;have n:=aS z;have D:=aS q;go_wp2;go_quiet (fail);have y:=(a.o.2.2.trans g).drewN nq;go_wp2;go_ret;exact⟨rfl,y⟩
def zm{P:Program}{o:Oper}{a:Act}{Q:Exit->Act->ai->ak}{ops:a6 Oper}{rest:ah Oper}{w w':ai}{v p:ax}{T:TypeId}{x:Operand}(hrun:(Instr.loadAt T p).run P w=.ok v w')(c:Region.wanted o (yielded ops a.tmps)=true)(b:o.op=.load T x)(d:a.eval x=p)(h:wpList P ops Q rest (a.put o.dst v) w'):wpList P ops Q (o :: rest) a w:=by
 unfold wpList;rw[aD c];exact .inl (Li b d hrun h)
def Hq:prog.eqGuardType prog.depth 43=false:=aH
def Ho:prog.eqGuardType prog.depth 45=false:=aH
def tK{t:TypeId}(aZ:prog.eqGuardType prog.depth t=false)(x y:Operand)(c d:a6 ax)(w:ai):(eqGuard .eql t x y (.agg c) (.agg d)).run prog w=.ok () w:=by
 simp[hG,ig,go_sem,aZ]
def uG{P:Program}{o:Oper}{a:Act}{Q:Exit->Act->ai->ak}{ops:a6 Oper}{rest:ah Oper}{w w':ai}{v c d:ax}{T e:TypeId}{x y:Operand}{b:BinOp}(aZ:(eqGuard b T x y c d).run P w=.ok () w)(hrun:(binOp b T c d).run P w=.ok v w')(g:Region.wanted o (yielded ops a.tmps)=true)(f:o.op=.binOp b T x y e)(i:a.eval x=c)(j:a.eval y=d)(h:wpList P ops Q rest (a.put o.dst v) w'):wpList P ops Q (o :: rest) a w:=by
 unfold wpList;rw[aD g];refine .inl ?_;unfold Oper.wp execOp;simp only[f,i,j,hG,aZ,hrun,hq,ig];exact h
def AR(a b:de)(w:ai):(binOp .eql 43 (aQ a) (aQ b)).run prog w=.ok (.bool (decide (a=b))) w:=by
 have h:decide (a=b)=(a.fr == b.fr&&(a.em == b.em&&(a.bL == b.bL&&a.cq == b.cq))):=by
  have⟨c,d,e,f⟩:=a;have⟨bO,g,i,j⟩:=b;rw[zr];simp
 rw[h];simp[go_sem]
 repeat' split
 all_goals simp_all
def Gz(e o:aB)(w:ai):(binOp .eql 45 (aQ e) (aQ o)).run prog w=.ok (.bool (decide (e=o))) w:=by
 have h:decide (e=o)=(e.k.fr == o.k.fr&&(e.k.em == o.k.em&&(e.k.bL == o.k.bL&&(e.k.cq == o.k.cq&&(e.cG == o.cG&&(e.dr == o.dr&&(e.et == o.et&&(e.dJ == o.dJ&&e.le == o.le)))))))):=by
  have⟨⟨a,b,c,d⟩,f,g,i,j,l⟩:=e;have⟨⟨bO,m,n,p⟩,q,r,s,t,u⟩:=o;rw[zr];simp[and_assoc]
 rw[h];simp[go_sem]
 repeat' split
 all_goals simp_all
def S4(e o:aB)(w:ai):aA 319 #[aQ e,aQ o] w λr w'=>r=.returned (.bool (e.cG == o.cG&&e.le == o.le))/\Below w w w':=by
 have cb:=((b3 w.heap.size w).alloc bs (ae e 45)).alloc aK (ae o 45);have b:(w.alloc (ae e 45)).heap.size=w.heap.size+1:=aK;have c:=cm (aX w (ae e 45)) (ae o 45);have a:=aX (w.alloc (ae e 45)) (ae o 45);rw[b]at a;cases h1:(e.cG == o.cG)with
 | false=>
  go_in
  exact LW
 | true=>
  go_in
  exact LW
def sr(o e:aB):aY:=decide (e.k=o.k)&&(e.cG == o.cG&&e.le == o.le)
def S9(e o:aB)(B:J)(c:w.heap[B]?=some (ae o 45 (0,0))):aA 318 #[aQ e,B] w λr w'=>r=.returned (.bool (sr o e))/\Below w w w':=by
 have cb:=(b3 w.heap.size w).alloc bs (ae e 45);have f:=aX w (ae e 45);have g:=aS (cm c (ae e 45));have a:=af (AR e.k o.k);have d:sr o e=(decide (e.k=o.k)&&(e.cG == o.cG&&e.le == o.le)):=rfl;have b:=af d;cases hd:decide (e.k=o.k)with
 | false=>
  rw[hd]at a
  go_in
  go_wp2_with refine uG (tK Hq _ _ _ _ _) (a.out _) u_ rfl rfl rfl ?_
  generalize w.alloc (ae e 45)=ao at *;go_ret;exact⟨by rw[b.out,hd];rfl,cb⟩
 | true=>
  rw[hd]at a
  go_in
  go_wp2_with refine uG (tK Hq _ _ _ _ _) (a.out _) u_ rfl rfl rfl ?_
  generalize w.alloc (ae e 45)=ao at *;refine aU (S4 e o ao) λaC aj=>?_;generalize (e.cG == o.cG&&e.le == o.le)=r at *;go_wp2;go_ret;exact⟨by rw[b.out,hd];rfl,(cb.trans (aj.mono cb.size))⟩
structure ca where
 bL:aa
 cn:aB
 dB:aa
 pl:aY
deriving DecidableEq
def dk(c:ca):a6 ax:=#[I c.bL,I c.cn.k.fr,I c.cn.k.em,I c.cn.k.bL,I c.cn.k.cq,I c.cn.cG,I c.cn.dr,I c.cn.et,I c.cn.dJ,I c.cn.le,I c.dB,.bool c.pl]
def ca.br(c:ca):ah ax:=(dk c).toList
def ep(l:ah ca):ah ax:=l.flatMap ca.br
def qJ(c:ca):(dk c).toList.all (λv=>v.oneCell')=true:=rfl
def O5:∀ c:ca,∀ v∈c.br,v.oneCell'=true:=λc=>fg.1 (qJ c)
def O4(l:ah ca)(c:ca):ep (l++[c])=ep l++(dk c).toList:=by simp[ep,ca.br]
def JD(e:aB)(w:ai):(Instr.build 47 #[(0,I 3),(1,.agg (dT e))]).run prog w=.ok (.agg (dk ⟨3,e,0,false⟩)) w:=aH
def V4(e:aB)(w:ai):(Instr.build 47 #[(0,I 2),(1,.agg (dT e))]).run prog w=.ok (.agg (dk ⟨2,e,0,false⟩)) w:=aH
def V3(e:aB)(n:aa)(w:ai):(Instr.build 47 #[(0,I 1),(1,.agg (dT e)),(2,I n)]).run prog w=.ok (.agg (dk ⟨1,e,n,false⟩)) w:=aH
def VZ(e:aB)(p:aY)(w:ai):(Instr.build 47 #[(0,I 4),(1,.agg (dT e)),(3,.bool p)]).run prog w=.ok (.agg (dk ⟨4,e,0,p⟩)) w:=aH
def yZ(c:ca)(W:ai):(Instr.buildSlice 32 1 #[(0,.agg (dk c))]).run prog W=.ok (aq (some (ad W 0 ab)) 1 1) (W.alloc (ae (dk c) 47)):=aH
def BD:∃ i z,prog.info? 47=some i/\i.zero=some z/\i.size=12/\i.bytes=96/\z.cells.size=12:=by
 have h:(prog.info? 47).map (λi=>(i.zero.map λz=>z.cells.size,i.size,i.bytes))=some (some 12,12,96):=aH;cases aJ:prog.info? 47 with
 | none=>rw[aJ]at h;cases h
 | some i=>
  rw[aJ]at h;simp only[pw,hr,jA]at h;cases a:i.zero with
  | none=>rw[a]at h;cases h.1
  | some z=>rw[a]at h;exact⟨i,z,rfl,a,h.2.1,h.2.2,by simpa using h.1⟩
def xJ{base:J}{v:ax}{cs:ah ca}(ty:TypeId)(g:w.ownsRow base 47 12 v cs.length (ep cs))(ar:cs.length<=10000)(aj:base<=w.heap.size)(c:ca):∃ v' ao,(Builtin.append_ #[32,32] ty #[v,aq (some (ad w 0 ab)) 1 1]).run prog (w.alloc (ae (dk c) 47))=.ok v' ao/\ao.ownsRow base 47 12 v' (cs++[c]).length (ep (cs++[c]))/\Keeps (λj=>v.ownBlock=some j) w ao/\(∃ A n cap,v'=aq A n cap):=by
 have⟨i,z,aw,k,h1,h2,d⟩:=BD
 obtain⟨v',ao,h,b,aZ,_,_⟩:=wT (P:=prog) (w.alloc (ae (dk c) 47)) base 32 ty 47 i z 12 96 underlying32 aw k h1 h2 d bq v cs.length (ep cs) (g.alloc _) (ad w 0 ab) 1 1 (dk c).toList rfl
  (λj u a=>by
   rw[h3,gC];exact bb (aX w (ae (dk c) 47)) Ae) (O5 c) jY U bT
 refine⟨v',ao,h,?_,((Keeps.refl _ w).alloc _).grown aZ (λj e=>.inl e),?_⟩
 .rw[O4,cx,iT];exact b
 have⟨A,cap,f,_⟩:=cS b;exact⟨A,_,cap,f⟩
section
variable{P:Program}{o:Oper}{a:Act}{Q:Exit->Act->ai->ak}{ops:a6 Oper}{rest:ah Oper}{v:ax}
def wK{t:TypeId}{x y:Operand}{b c:ax}(hrun:(Builtin.append_ #[t,t] o.type #[b,c]).run P w=.ok v w')(aZ:o.guard=none)(e:o.op=Op.call {callee:=Callee.builtin Builtin.append,args:=#[x,y],argTypes:=#[t,t]})(f:a.eval x=b)(g:a.eval y=c)(h:wpList P ops Q rest (a.put o.dst v) w'):wpList P ops Q (o :: rest) a w:=by
 refine nz aZ λi d=>?_;unfold Oper.wp;simp[execOp,e,resolve,invoke,builtin,f,g,hrun,Result.andThen];exact d _ _ h
def zk{t:TypeId}{n:J}{x:Operand}{u:ax}(hrun:(Instr.buildSlice t n #[(0,u)]).run P w=.ok v w')(aZ:o.guard=none)(c:o.op=.buildSlice t n #[(0,x)])(d:a.eval x=u)(h:wpList P ops Q rest (a.put o.dst v) w'):wpList P ops Q (o :: rest) a w:=by
 refine nz aZ λe b=>?_;unfold Oper.wp execOp;simp only[c,map_toArray,jz,lo,d,hG,hrun,hq,ig];exact b _ _ h
end
section
variable{P:Program}{o:Oper}{a:Act}{K:Act->ai->ak}{Q:Exit->Act->ai->ak}
def Lh{t b:TypeId}{m x:Operand}{mv key:ax}(c:o.op=Op.call {callee:=Callee.builtin Builtin.delete,args:=#[m,x],argTypes:=#[t,b]})(hm:a.eval m=mv)(d:a.eval x=key)(hrun:(Builtin.delete_ #[t,b] o.type #[mv,key]).run P w=.ok (aV #[]) w')(h:K (a.put o.dst (aV #[])) w'):o.wp P a w K Q:=by
 unfold Oper.wp;simp[execOp,c,resolve,invoke,builtin,hm,d,hrun,Result.andThen];exact h
end
def stays(xs:ah aB)(o:aB):aY:=xs.any (sr o)
def gg(xs ys:ah aB):ah aB:=ys.filter λo=>!stays xs o
def iE(xs ys:ah aB):ah ca:=(gg xs ys).map λo=>⟨3,o,0,false⟩
def hM(L G:ah aB):ah aB:=L.filter λe=>!decide (∃ g∈G,g.k=e.k)
def PN(L:ah aB):hM L []=L:=by
 exact nA.2 λ_ _=>aK
def PQ(L G:ah aB)(o:aB):hM L (G++[o])=hM (hM L G) [o]:=by
 unfold hM;rw[filter_filter];refine wX λe _=>?_;rw[zr];simp only[ll,px,d',e5,fL];constructor
 .intro h;exact⟨λ⟨g,h1,h2⟩=>h ⟨g,.inr h1,h2⟩,λ⟨g,h1,h2⟩=>h ⟨g,.inl h1,h2⟩⟩
 rintro⟨h1,h2⟩ ⟨g,a|a,b⟩
 .exact h2 ⟨g,a,b⟩
 exact h1 ⟨g,a,b⟩
def PO(L:ah aB)(o:aB):kX (il L) o.k=il (hM L [o]):=by
 unfold kX il hM;rw[rv]
 congr 1
 refine wX λe _=>?_;simp[eq_comm]
def qP(L G:ah aB):(hM L G).Sublist L:=DM
def tv{L:ah aB}(h:en L)(G:ah aB):en (hM L G):=h.sublist (qP L G)
def Hv(xs pre:ah aB)(o:aB):gg xs (pre++[o])=gg xs pre++(if stays xs o then []else [o]):=by
 unfold gg;rw[rr];cases h:stays xs o<;>simp[h]
def IsLd.Kz{B:dF}{s:cD}(h:IsLd w B s)(o:aB)(b:hC o.k=true)(ty:TypeId):∃ w',(Builtin.delete_ #[115,43] ty #[.map (some B.db),aQ o.k]).run prog w=.ok (aV #[]) w'/\IsLd w' B {s with bf:=hM s.bf [o]}/\Keeps (λj=>j=B.db) w w':=by
 have⟨w',h1,h2,a⟩:=h.bf.drop qX (x:=o.k) b underlying115 ty;rw[PO]at h2;refine⟨w',h1,h.Cx h2 a (tv h.dL _) ?_,a⟩
 have:=(qP s.bf [o]).length_le
 have:=h.n
 omega
def tq(w:ai)(e:aB):∃ w',(Instr.storeAt 45 w.heap.size (.agg (dT e))).run prog (w.alloc (ae z9 45))=.ok () w'/\w'.heap[w.heap.size]?=some (ae (dT e) 45 (0,0))/\Keeps aI w w'/\w'.heap.size=w.heap.size+1:=by
 have a:=aX w (ae z9 45);obtain⟨c,d,b⟩:=dP (w.alloc (ae z9 45)) 45 9 w.heap.size (dT e) _ sizeOf45 rfl rfl a (vC e);refine⟨_,c,fl (w.alloc (ae z9 45)) w.heap.size _ (dT e) 45 a,cL ((ba w).alloc (ae z9 45)) b a7,?_⟩;simp[World.setRow]
theorem jQ{b:J}{e:aB}(h:w.heap[b]?=some (ae (dT e) 45 (0,0))):(Instr.loadAt 45 b).run prog w=.ok (.agg (dT e)) w:=
 gz (P:=prog) 45 9 b 0 (dT e) _ _ isAgg45 sizeOf45 rfl h (λj u z=>jZ)
structure nL(w:ai)(B:dF)(s:cD)(xs ys:ah aB)(fr:aa)(v v2:ax)(pre:ah aB)(cw:ax)(W:ai):ak where
 out:W.ownsRow (w.heap.size+1) 47 12 cw (iE xs pre).length (ep (iE xs pre))
 ld:IsLd W B {s with bf:=hM s.bf (gg xs pre)}
 cv:Keeps (λj=>j=B.db) w W
 bh:W.heap[w.heap.size]?=some (ae #[I fr,v] 271 (0,0))
 rx:∃ base,W.ownsRow base 45 9 v xs.length (bX xs)
 uo:W.ownsRow (w.heap.size+1) 45 9 v2 ys.length (bX ys)
 cE:w.heap.size+1<=W.heap.size
def nL.keep{B:dF}{s:cD}{xs ys:ah aB}{fr:aa}{v v2:ax}{pre:ah aB}{cw:ax}{W W':ai}(h:nL w B s xs ys fr v v2 pre cw W)(hk:Keeps aI W W'):nL w B s xs ys fr v v2 pre cw W':=by
 have⟨base,a⟩:=h.rx;exact⟨b4 h.out hk (λ_ _=>id),h.ld.kr hk,h.cv.trans (hk.mono λ_ _ x=>x.elim),hk.heap h.bh id,⟨base,b4 a hk (λ_ _=>id)⟩,b4 h.uo hk (λ_ _=>id),b7 h.cE hk.size⟩
def mq{base n k:J}{T:TypeId}{v:ax}{l:ah ax}{P:Program}{c:TypeId}{dz:Type}{C:lu P c dz}{b:J}{M:ah (dz×ax)}(h:w.ownsRow base T k v n l)(hm:RMap w C b M){j:J}(a:v.ownBlock=some j):j≠b:=by
 rcases h.2 with⟨rfl,_⟩|⟨g,cap,d,rfl,_,aJ,_⟩
 .cases a
 cases a;intro e;subst e;exact ng hm _ _ _ aJ
def IsLd.free{B:dF}{s:cD}(h:IsLd w B s){j:J}{c:a6 ax}{T:TypeId}{z:J×J}(a:w.heap[j]?=some (ae c T z))(h1:T≠45)(h2:T≠118):pE w B j:=by
 refine⟨λe=>?_,λe=>?_,λe=>?_,λbo al=>?_⟩
 .subst e;have b:=h.gh;rw[a]at b;simp only[hr,wR]at b;exact h2 b.2.1
 .subst e;exact ng h.bf _ _ _ a
 .subst e;exact ng h.bW.1 _ _ _ a
 rw[a]at al;simp only[hr,wR]at al;exact h1 al.2.1
def IsLd.qV{B:dF}{s:cD}(h:IsLd w B s){base n k:J}{T:TypeId}{v:ax}{l:ah ax}(b:w.ownsRow base T k v n l)(h1:T≠45)(h2:T≠118){j:J}(a:v.ownBlock=some j):pE w B j:=by
 rcases b.2 with⟨rfl,_⟩|⟨g,cap,c,rfl,_,aJ,_⟩
 .cases a
 cases a;exact h.free aJ h1 h2
def nL.skip{B:dF}{s:cD}{xs ys:ah aB}{fr:aa}{v v2:ax}{pre:ah aB}{cw:ax}{W:ai}(h:nL w B s xs ys fr v v2 pre cw W){o:aB}(b:stays xs o=true):nL w B s xs ys fr v v2 (pre++[o]) cw W:=by
 have e:gg xs (pre++[o])=gg xs pre:=by rw[Hv,b];simp
 have a:iE xs (pre++[o])=iE xs pre:=by unfold iE;rw[e]
 exact⟨by rw[a];exact h.out,by rw[e];exact h.ld,h.cv,h.bh,h.rx,h.uo,h.cE⟩
def nL.step{B:dF}{s:cD}{xs ys:ah aB}{fr:aa}{v v2:ax}{pre:ah aB}{cw:ax}{W:ai}(h:nL w B s xs ys fr v v2 pre cw W){o:aB}(D:stays xs o=false)(G:hC o.k=true)(ar:pre.length<=256)(ty u:TypeId):∃ b f g,(Builtin.delete_ #[115,43] ty #[.map (some B.db),aQ o.k]).run prog W=.ok (aV #[]) b/\Keeps (λj=>j=B.db) W b/\
   (Builtin.append_ #[32,32] u #[cw,aq (some (ad b 0 ab)) 1 1]).run prog (b.alloc (ae (dk ⟨3,o,0,false⟩) 47))=.ok f g/\(∃ A n cap,f=aq A n cap)/\nL w B s xs ys fr v v2 (pre++[o]) f g:=by
 have⟨b,z,m,c⟩:=h.ld.Kz o G ty;have e:gg xs (pre++[o])=gg xs pre++[o]:=by rw[Hv,D];simp
 have x:iE xs (pre++[o])=iE xs pre++[⟨3,o,0,false⟩]:=by unfold iE;rw[e,jy];rfl
 have i:=h.ld.bf;have F:w.heap.size≠B.db:=λe=>ng i _ _ _ (e▸h.bh);have⟨base,q⟩:=h.rx;have l:=b4 h.out c (λj a e=>mq h.out i a e);have K:(iE xs pre).length<=256:=by
  have:=mH (λo=>!stays xs o) pre
  unfold iE gg;rw[gV];omega
 have L:=c.size;have⟨f,g,y,E,d,H⟩:=xJ u l U (by have:=h.cE;omega) ⟨3,o,0,false⟩;refine⟨b,f,g,z,c,y,H,?_⟩;have p:∀ j,cw.ownBlock=some j->w.heap.size+1<=j:=λj a=>(h.out.lt j a).1;have C:∀ j,cw.ownBlock=some j->pE b B j:=λj a=>m.qV l bq bq a;have r:=b4 q c (λj a e=>mq q i a e);have t:=b4 h.uo c (λj a e=>mq h.uo i a e);refine⟨by rw[x];exact E,by rw[e,PQ];exact m.keep d C,cL (h.cv.trans c) d (λj a e=>by have:=p j e;omega),d.heap (c.heap h.bh F) (λe=>by have:=p _ e;omega),⟨base,b4 r d (λj a e=>ub l r bq e a)⟩,b4 t d (λj a e=>ub l t bq e a),by have:=h.cE;have:=d.size;omega⟩
def pa{base n cap k:J}{T:TypeId}{A:b5 Addr}{l:ah ax}(h:w.ownsRow base T k (aq A n cap) n l)(ar:0<n):∃ g,A=some (ad g 0 ab):=by
 rcases h.2 with⟨e,b⟩|⟨g,bo,a,e,_⟩
 .omega
 cases e;exact⟨g,rfl⟩
def EL(w:ai)(B:dF)(s:cD)(xs:ah aB)(fr:aa)(e:Ending)(w':ai):ak:=
 ∃ cw,e=.returned cw/\w'.ownsRow w.heap.size 47 12 cw (iE xs (fX s.bf fr)).length (ep (iE xs (fX s.bf fr)))/\IsLd w' B {s with bf:=hM s.bf (gg xs (fX s.bf fr))}/\Keeps (λj=>j=B.db) w w'
def S1{B:dF}{s:cD}(h:IsLd w B s){fr:aa}{xs:ah aB}{base:J}{v:ax}(aW:w.ownsRow base 45 9 v xs.length (bX xs))(ar:xs.length<=1000)(lb:∀ e∈s.bf,hC e.k=true):aA 274 #[B.b,aQ #[I fr,v]] w (EL w B s xs fr):=by
 have u:Keeps aI w (w.alloc (ae #[I fr,v] 271)):=(Keeps.refl _ w).alloc _;have ps:=b4 aW u (λ_ _=>id);have F:=aX w (ae #[I fr,v] 271);have h1:=h.kr u;have ZS:(w.alloc (ae #[I fr,v] 271)).heap.size=w.heap.size+1:=aK;have ZK:=aS F;have E:=af (S6 h1 fr);have ZJ:(fX s.bf fr).length<=256:=b7 (mH _ _) h.cp;have l':∀ o∈fX s.bf fr,hC o.k=true:=λo ZI=>lb o (eR.1 ZI).1;have f:=b6 h1 (bB ps (bB F (bB u (bB l' ar))));have St:=af (h.bf.lt);obtain⟨ys,t⟩:=cO (fX s.bf fr);obtain⟨A,cap,rfl,_,_⟩:=cS aW;have hd:∀ e w',EL w B s xs fr e w'↔(∃ cw,e=.returned cw/\w'.ownsRow w.heap.size 47 12 cw (iE xs ys).length (ep (iE xs ys))/\IsLd w' B {s with bf:=hM s.bf (gg xs ys)}/\Keeps (λj=>j=B.db) w w'):=λe w'=>by rw[t];rfl
 have CW:=af hd;rw[<-t]at E ZJ;have Q':=af t;clear h h1 aW ps F u l' ar lb t hd
 go_in
 go_wp2_with fail;generalize w.alloc _=ao at *;clear ZK;refine E.o.mono ?_;rintro e aC ⟨v2,rfl,K,l⟩;have O:nL w B s xs ys fr (aq A xs.length cap) v2 [] (aq none 0 0) aC:=by
  refine⟨gI _ _ _ _,?_,(f.out.2.2.2.1.trans l).mono (λ_ _ x=>x.elim),l.heap f.out.2.2.1 id,⟨base,b4 f.out.2.1 l (λ_ _=>id)⟩,kB K U,by have:=l.size;omega⟩;have e:gg xs []=[]:=rfl;rw[e,PN];exact f.out.1.kr l
 obtain⟨v',Tq,rfl,_,_⟩:=cS K;have M:=af O;clear K l O E;go_wp2_with fail;go_loopg [5,14] ys.length (λg cw z wr=>∃ pre rest:ah aB,ys=pre++rest/\g=rest.length/\z=I pre.length/\(∃ A n cap,cw=aq A n cap)/\nL w B s xs ys fr (aq A xs.length cap) (aq v' ys.length Tq) pre cw wr)
 case atStart=>exact⟨[],ys,rfl,rfl,rfl,⟨_,_,_,rfl⟩,M.o⟩
 obtain⟨pre,rest,c,aZ,rfl,⟨zd,no,co,rfl⟩,d⟩:=hrel;clear M;cases rest with
 | nil=>
  have ZQ:¬ (pre.length:aa)<(ys.length:aa):=by rw[c];simp
  have s':ys=pre:=by rw[c,e4]
  have C:=af d;have Hx:=af s';clear c s' d;go_wp2_with fail;go_ret;refine(CW.out _ _).2 ⟨aq zd no co,rfl,?_⟩;rw[Hx.o];exact⟨kB C.o.out U,C.o.ld,C.o.cv⟩
 | cons o rest=>
  have ZH:pre.length<ys.length:=by rw[c];simp
  have ZR:(pre.length:aa)<(ys.length:aa):=U;have Y:ys[pre.length]=o:=by simp[c]
  have h2:hC o.k=true:=f.out.2.2.2.2.1 o (by rw[<-Q'.out,c];simp);have g':pre.length<=256:=U;have sd:ys=(pre++[o])++rest:=by rw[c];simp
  have V':=aZ;simp only[ds]at V';have ZU:=d.cE;clear aZ;obtain⟨ZV,rfl⟩:=pa d.uo U;have H:=og (P:=prog) (enc:=aB.br) (λ_=>rfl) isAgg45 sizeOf45 d.uo pre.length ZH;rw[Y]at H;have dw:=q7 wr;obtain⟨ZW,mv,p,Z,ZT⟩:=tq wr o;have r:=d.keep Z;obtain⟨bM,r'⟩:=r.rx;have W':=jQ p;have ZL:=aS r.bh;have aT:=AW r' f.out.2.2.2.2.2 (sr o) 318 #[wr.heap.size] (enters_of func318 aH rfl) (λW x aj=>(S9 x o wr.heap.size ((aj.block wr.heap.size U).trans p)).mono λ_ _ h=>⟨h.1,aj.trans (h.2.mono aj.size)⟩);have L:=af aT;have D:=b6 r p;have m:=b6 sd (bB h2 g');clear d c Y h2 g' sd r r' aT p W' Z;go_wp2_with first|refine dp H rfl rfl rfl ?_|refine d_ dw rfl rfl ?_|refine c8 mv rfl rfl rfl rfl ?_
  refine aU L.o λy V=>?_;have G:=Keeps.bD (S:=aI) V a7;have i:=D.o.1.keep G;have q:=G.heap D.o.2 id;have m':xs.any (sr o)=stays xs o:=rfl;rw[m'];clear V G L D ZL m' mv dw H;cases av:stays xs o with
  | true=>
   have zp:=af (i.skip av);clear i q;go_wp2_with fail;go_roundg rest.length
   case measure=>omega
   exact⟨pre++[o],rest,m.out.1,rfl,qx,⟨_,_,_,rfl⟩,zp.o⟩
  | false=>
   have R:=i.keep (ba y).drew;obtain⟨vl,ZO,ZY,T',a',T,⟨ZP,n7,c5,rfl⟩,Q⟩:=R.step av m.out.2.1 m.out.2.2 0 32;have N:=a'.heap (a:=y.drew) q (λe=>by have:=St.out;have:=i.cE;omega);have ZG:=jQ N;have TS:=JD o;have X:=yZ ⟨3,o,0,false⟩ vl;have gf:=i.ld.gh;have ZM:=iq (S:=aI) (w:=y.drew) gf id;have ZN:=iq (S:=aI) (w:=y.drew) q id;have Aw:=af Q;clear i q R a' N gf Q;go_wp2_with fail;refine cH 7 ?_;refine fs (λ_=>False) (.range 6) [] 1 (hP ?_);refine cI (λ_=>True) [6] 0 1 ?_;refine o_ 6 trivial (Lh rfl rfl rfl T') ?_;simp only[Act.put];clear ZM ZN;generalize vl.alloc (ae (dk ⟨3,o,0,false⟩) 47)=ZX at T X;go_wp2_with first|((with_reducible refine dp ZG rfl rfl ?_ ?_);exact rfl)|((with_reducible refine sG (TS _) rfl rfl ?_ ?_ ?_);exact rfl;exact rfl)|((with_reducible refine zk X rfl rfl ?_ ?_);exact rfl)|((with_reducible refine wK T rfl rfl ?_ ?_ ?_);exact rfl;exact rfl)
   go_roundg rest.length
   case measure=>omega
   exact⟨pre++[o],rest,m.out.1,rfl,qx,⟨_,_,_,rfl⟩,Aw.o⟩
end Go.Proofs.YtalagblioepadaaGreatDoor
