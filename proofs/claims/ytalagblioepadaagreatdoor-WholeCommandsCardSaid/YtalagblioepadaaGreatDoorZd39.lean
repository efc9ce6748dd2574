/- The proof, part 39. -/
import Derived.Test.YtalagblioepadaaGreatDoorZd38
import Derived.Shelf.SlSortCmp.WholeK
namespace Go.Proofs.YtalagblioepadaaGreatDoor
set_option linter.all false
open Proofs.Tryz List Go.RowKit Go.Shelf Go.Sort Go.Maps
set_option maxRecDepth 100000
set_option maxHeartbeats 1000000
def vx{p:al}(h:p:=by rw[x];rfl):p:=h
def vp{p:al}(h:p:=by first|rfl|simp[go_sem]):p:=h
def E7{p:al}(h:p:=by unfold Lib.idxBy;rw[a]):p:=h
def E2{p:al}(h:p:=by rw[d.o.2.2];exact d.o.1):p:=h
def E1{p:al}(h:p:=by rw[gP,<-E.out];exact z):p:=h
def E0{p:al}(h:p:=by unfold Lib.idxBy;rw[a,gP]):p:=h
def ET{p:al}(h:p:=by rwa [jz xs f d]at aK):p:=h
def qO{p:al}(h:p:=by rw[cx,jd];go_num):p:=h
def EG{p:al}(h:p:=by
 go_wp2_with first|refine dn f rfl rfl rfl ?_|refine dU dp rfl rfl ?_|refine c7 c rfl rfl rfl rfl ?_|refine dn n rfl rfl rfl ?_|(go_at_fn g;refine D.out.mono ?_;rintro e Y ⟨rfl,k⟩;rw[s];have b:=Keeps.bJ (S:=aG) k a8;have d:=ag (bD (b5 l.out.2 b (λ_ _=>id)) (l.out.1.trans (b.mono λ_ _ x=>x.elim)));clear b k)
 go_roundg (xs.length-(j+1))
 case measure=>omega
 exact⟨i,j+1,ys,rfl,by go_num,df _,M.out.skip t (by rw[<-E.out,s];rfl),d.out⟩
 ):p:=h
def NI{p:al}(h:p:=by
 go_wp2_with fail;refine F.out.mono ?_;rintro e ao ⟨ak,h1⟩;obtain rfl:e=.returned (I (-1)):=by
  rcases h1 with h1|⟨i,ax,_⟩
  .exact h1.1
  simp at ax
 have aar:=ag ak;clear h1 ak;go_wp2;go_ret;exact⟨_,rfl,gx _ _ _ _,Keeps.bJ aar.o a8,rfl⟩
 ):p:=h
def NV{p:al}(h:p:=by
 have ps:(xs.filter λx=>!p x)=xs:=mW.2 λa bh=>by simp[q a bh]
 have m:=ag (bD ps (bD B A));clear q ps B A;go_wp2;go_ret;exact⟨_,rfl,by rw[m.o.1];exact m.o.2.1,m.o.2.2,rfl⟩
 ):p:=h
def E_{p:al}(h:p:=by
 go_wp2_with fail;go_loopg [5,8] 0 (λg _ z wr=>g=0/\z=I 0/\wr=w)
 case atStart=>exact⟨rfl,rfl,rfl⟩
 obtain⟨rfl,rfl,rfl⟩:=hrel;go_wp2;go_ret;exact⟨b7 _ _,.inl ⟨rfl,λx c=>nomatch c⟩⟩
 ):p:=h
def E'{p:al}(h:p:=by
 go_roundg (xs.length-(j+1))
 case measure=>omega
 exact⟨i+1,j+1,ys.set i y,by go_num,by go_num,df _,by rw[E.out];exact M.out.keep t (by rw[<-E.out,s];rfl),d.out⟩
 ):p:=h
def Ow{p:al}(h:p:=by
 have⟨⟨a,b,c,d⟩,f,g,i,j,l⟩:=e;have⟨⟨bR,m,n,q⟩,r,s,t,u,v⟩:=o;rw[w2];simp[and_assoc]
 ):p:=h
def Mw{p:al}(h:p:=by
 go_wp2_with fail;generalize w.alloc (af e 45)=ao at *;go_ret;exact⟨by rw[<-a.o];rfl,b'⟩
 ):p:=h
def Mz{p:al}(h:p:=by
 go_wp2_with fail;generalize World.alloc (World.alloc w _) _=ao at *;go_ret;exact⟨aM,b'⟩
 ):p:=h
def MN{p:al}(h:p:=by
 have⟨c,d,e,f⟩:=a;have⟨bR,g,i,j⟩:=b;rw[w2];simp
 ):p:=h
variable{w w':aj}
def Hn:Go.Shelf.Ren:=⟨fun|6=>72|14=>121|15=>122|20=>179|21=>180|22=>181|23=>182|24=>183|25=>184|26=>185|27=>186|28=>187|29=>188|46=>253|47=>254|48=>255|49=>256|50=>257|57=>308|n=>n,fun|0=>0|3=>3|4=>4|5=>5|9=>9|22=>66|24=>45|25=>135|39=>227|45=>316|46=>317|50=>287|53=>22|55=>217|66=>379|70=>383|76=>436|77=>437|n=>n,fun|n=>n⟩
def Rf:SlLaysF0.n6 prog Hn:={
 mixed:=aI
 f6:=⟨f72.name,bt,func72.trans (c5 some aI)⟩
 f14:=⟨f121.name,bt,func121.trans (c5 some aI)⟩
 f15:=func122.trans (c5 some aI)
 f20:=⟨f179.name,bt,func179.trans (c5 some aI)⟩
 f21:=⟨f180.name,bt,func180.trans (c5 some aI)⟩
 f22:=⟨f181.name,bt,func181.trans (c5 some aI)⟩
 f23:=⟨f182.name,bt,func182.trans (c5 some aI)⟩
 f24:=⟨f183.name,bt,func183.trans (c5 some aI)⟩
 f25:=⟨f184.name,bt,func184.trans (c5 some aI)⟩
 f26:=⟨f185.name,bt,func185.trans (c5 some aI)⟩
 f27:=⟨f186.name,bt,func186.trans (c5 some aI)⟩
 f28:=func187.trans (c5 some aI)
 f29:=func188.trans (c5 some aI)
 f46:=⟨f253.name,bt,func253.trans (c5 some aI)⟩
 f47:=func254.trans (c5 some aI)
 f48:=func255.trans (c5 some aI)
 f49:=⟨f256.name,bt,func256.trans (c5 some aI)⟩
 f50:=⟨f257.name,bt,func257.trans (c5 some aI)⟩
 f57:=⟨f308.name,bt,func308.trans (c5 some aI)⟩
 t0:=underlying0
 a0:=isAgg0
 z0:=sizeOf0
 v0:=zeroValue0
 t3:=underlying3
 a3:=isAgg3
 z3:=sizeOf3
 v3:=zeroValue3
 t4:=underlying4
 a4:=isAgg4
 z4:=sizeOf4
 v4:=zeroValue4
 t5:=underlying5
 a5:=isAgg5
 z5:=sizeOf5
 v5:=zeroValue5
 t9:=underlying9
 a9:=isAgg9
 z9:=sizeOf9
 v9:=zeroValue9
 t22:=underlying66
 a22:=isAgg66
 z22:=sizeOf66
 v22:=zeroValue66
 t25:=underlying135
 a25:=isAgg135
 z25:=sizeOf135
 v25:=zeroValue135
 t39:=underlying227
 a39:=isAgg227
 z39:=sizeOf227
 v39:=zeroValue227
 t45:=underlying316
 a45:=isAgg316
 z45:=sizeOf316
 v45:=zeroValue316
 t46:=underlying317
 a46:=isAgg317
 z46:=sizeOf317
 v46:=zeroValue317
 t50:=underlying287
 a50:=isAgg287
 z50:=sizeOf287
 v50:=zeroValue287
 t53:=underlying22
 a53:=isAgg22
 z53:=sizeOf22
 v53:=zeroValue22
 t55:=underlying217
 a55:=isAgg217
 z55:=sizeOf217
 v55:=zeroValue217
 t66:=underlying379
 a66:=isAgg379
 z66:=sizeOf379
 v66:=zeroValue379
 t70:=underlying383
 a70:=isAgg383
 z70:=sizeOf383
 v70:=zeroValue383
 t76:=underlying436
 a76:=isAgg436
 z76:=sizeOf436
 v76:=zeroValue436
 t77:=underlying437
 a77:=isAgg437
 z77:=sizeOf437
 v77:=zeroValue437}
section
variable{α:Type}[Inhabited α]{enc:α->ah ay}{k:J}
omit [Inhabited α]in
def tR(hk:∀ x,(enc x).length=k)(l:List α):(l.flatMap enc).length=l.length*k:=by
 induction l with
 | nil=>simp
 | cons c l a=>rw[jc,qG,hk,a,nR,kc,qL]
omit [Inhabited α]in
def yj(hk:∀ x,(enc x).length=k)(l:List α)(i:J)(h:i<l.length)(j:J)(a:j<k):(l.flatMap enc)[i*k+j]?=(enc l[i])[j]?:=by
 induction l generalizing i with
 | nil=>cases h
 | cons c l b=>
  rw[jc];cases i with
  | zero=>rw[xn,rY,jO (by rw[hk];exact a)];rfl
  | succ i=>
   rw[lF (by rw[hk,kc];omega),hk,kc,show i*k+k+j-k=i*k+j by omega];exact b i ic
def HA(hk:∀ x,(enc x).length=k)(l:List α):flatK enc k l.toArray=(l.flatMap enc).toArray:=by
 refine ext_get! (by rw[size_flatK,hh,hh,tR hk]) λt aK=>?_;have a:t<l.length*k:=by simpa using aK
 rw[get_flatK _ _ _ _ (by simpa using a)];have g:0<k:=by
  rcases rW k with h|h
  .subst h;simp at a
  exact h
 have ax:=Mk (by rw[oZ];exact a);have b:t%k<k:=e8 _ g;have h2:=yj hk l (t / k) ax (t%k) b;have e:t / k*k+t%k=t:=by rw[oZ];exact pK t k
 rw[e]at h2;have f:l.toArray[t / k]! = l[t / k]:=by rw[jz _ _ (by simpa using ax)];rfl
 have c:t%k<(enc l[t / k]).length:=by rw[hk];exact b
 have d:t<(l.flatMap enc).length:=by rw[tR hk];exact a
 rw[f,jz (enc l[t / k]) (t%k) c,jz (l.flatMap enc).toArray t d,Ej];rw[gA d,gA c]at h2;exact(hi h2).symm
def SP{base n:J}{e:TypeId}{v:ay}(hk:∀ x,(enc x).length=k)(cn:List α)(h:w.ownsRow base e k v n (cn.flatMap enc))(i:cn.length=n)(aU:v≠aq none 0 0):∃ g cap,v=aq (some (ae g 0 ad)) n cap/\base<=g/\g<w.heap.size/\HoldsK enc k w g 0 cn.toArray:=by
 rcases h.2 with⟨f,_⟩|⟨g,cap,d,rfl,ak,aZ,av,hm,aw,aK⟩
 .exact absurd f aU
 refine⟨g,cap,rfl,ak,bT aZ,?_⟩;unfold HoldsK;rw[HA hk];intro j b;have c:j<n*k:=by rw[<-i,<-tR hk];simpa using b
 refine⟨?_,by simp[World.frozen?,aZ]⟩;have a:(d.toList.take (n*k))[j]?=(cn.flatMap enc)[j]?:=by rw[aK]
 rw[u',aE c,mh]at a;simp only[World.cell?,aZ,gP];simp only[o0,w3,if_false];rw[a]
 have:j<(cn.flatMap enc).length:=by simpa using b
 simp[jz,this,-length_flatMap]
def U4{base n g cap q:J}{e:TypeId}{os:Array Obj}(hk:∀ x,(enc x).length=k){cn ys:List α}(h:w.ownsRow base e k (aq (some (ae g 0 ad)) n cap) n (cn.flatMap enc))(i:ys.length=n):(sortWorldK enc k w g 0 q ys.toArray os).ownsRow base e k (aq (some (ae g 0 ad)) n cap) n (ys.flatMap enc)/\Keeps (λj=>j=g) w (sortWorldK enc k w g 0 q ys.toArray os):=by
 rcases h.2 with⟨c,_⟩|⟨g',m,b,c,ak,aZ,av,hm,aw,aK⟩
 .cases c
 injection c with a _ l
 injection a with a
 injection a with a
 subst a;subst l;have f:=tR hk ys;unfold sortWorldK putRowK;rw[HA hk];refine⟨⟨by rw[f,i],.inr ⟨g,cap,putCells id 0 (ys.flatMap enc).toArray b,rfl,ak,?_,av,hm,by simpa[putCells]using aw,?_⟩⟩,rfl,rfl,rfl,?_,?_⟩
 .rw[heap_grow_old _ _ (by simpa[putRow,mapBlock,Sort.ahead]using(bT aZ))];simp[putRow,mapBlock,Sort.ahead,DQ,aZ,onCells]
 .have p:(ys.flatMap enc).length=n*k:=by rw[f,i]
  have o:n*k<=b.size:=by rw[aw];exact td k av
  apply ext_getElem?;intro j;by_cases d:j<n*k
  .rw[getElem?_take_of_lt d,mh];simp only[putCells,Array.getElem?_mapIdx,s4 (show j<b.size by omega),pN];rw[aE (by simp only[hh];omega),gA U];simp[jz,show j<(ys.flatMap enc).length by omega,-length_flatMap]
  rw[getElem?_take_eq_none U,s9 U]
 .simp[putRow,mapBlock,Sort.ahead]
 intro j d hne;rw[heap_grow_old _ _ (by simpa[putRow,mapBlock,Sort.ahead]using d)]
 have:g≠j:=λe=>hne e.symm
 simp[putRow,mapBlock,Sort.ahead,DQ,this]
end
def ky(w w':aj):al:=∃ q os,w'=grow (w.drewN q) os
def ky.refl(w:aj):ky w w:=⟨0,#[],by rw[grow_empty];rfl⟩
def ky.trans{a b c:aj}(h:ky a b)(k:ky b c):ky a c:=by
 obtain⟨q,os,rfl⟩:=h;obtain⟨e,d,rfl⟩:=k;refine⟨q+e,os++d,?_⟩;show grow (grow ((a.drewN q).drewN e) os) d=_;rw[grow_grow]
 congr 1
 simp[hZ]
theorem ky.alloc{a b:aj}(h:ky a b)(o:Obj):ky a (b.alloc o):=h.trans ⟨0,#[o],by rw[alloc_eq_grow];rfl⟩
theorem ky.drewN{a b:aj}(h:ky a b)(n:J):ky a (b.drewN n):=h.trans ⟨n,#[],by rw[grow_empty]⟩
def QR(a b:cU)(w:aj):aA 48 #[aL a,aL b] w λe w'=>e=.returned (I (eN a b))/\ky w w':=by
 have k:(w.alloc (af a 43)).heap.size=w.heap.size+1:=aM;have c:=aX (w.alloc (af a 43)) (af b 43);rw[k]at c;have hj:=ag (((ky.refl w).alloc (af a 43)).alloc (af b 43));have g:=ag (cw (aX w (af a 43)) (af b 43))
 go_in
 go_wp2_with fail;generalize World.alloc (World.alloc w _) _=ao at *;have l:=aO g.o;have m:=aO c;refine iN 20 aI aI ?_;simp only[hY,iE,hX,hF]
 repeat (go_big_quiet_step ((go_at_call 75;exact(GC _ _ _).mono λ_ _ h=>⟨h.1,_,h.2.symm⟩)))
 refine wpQuiet_nil ?_;intro _ d;have⟨nq,f⟩:=d;subst f;go_wp2_with fail;refine(GD (b:=ao.heap.size) [e1 a.fr b.fr,e1 a.em b.em,e1 a.bp b.bp,e1 a.cg b.cg] aM λi ax=>?_).mono ?_
 .have j:i=0\/i=1\/i=2\/i=3:=by simp at ax;omega
  rcases j with rfl|rfl|rfl|rfl<;>exact bf (aX (ao.drewN nq) (af #[I (e1 a.fr b.fr),I (e1 a.em b.em),I (e1 a.bp b.bp),I (e1 a.cg b.cg)] 3)) rfl
 rintro e _ ⟨rfl,rfl⟩;go_wp2;go_ret;exact⟨rfl,((hj.out.drewN nq).alloc (af #[I (e1 a.fr b.fr),I (e1 a.em b.em),I (e1 a.bp b.bp),I (e1 a.cg b.cg)] 3))⟩
def TI(a b:aC)(w:aj):aA 47 #[aL a,aL b] w λr w'=>r=.returned (I (eN a.k b.k))/\ky w w':=by
 have b':=((ky.refl w).alloc (af a 45)).alloc (af b 45);have e:(w.alloc (af a 45)).heap.size=w.heap.size+1:=aM;have f:=cw (aX w (af a 45)) (af b 45);have c:=aX (w.alloc (af a 45)) (af b 45);rw[e]at c
 go_in
 go_wp2_with fail;generalize World.alloc (World.alloc w _) _=ao at *;refine aW (QR a.k b.k ao) λaD ak=>?_;have d:=b'.trans ak;go_wp2;go_ret;exact⟨rfl,d⟩
section
open Go.RowKit Go.Shelf Go.Sort
variable{w w':aj}
section
variable{P:Program}{α:Type}{enc:α->ah ay}{k base n cap g:J}{T:TypeId}{cn:List α}
def tS(hk:∀ x,(enc x).length=k)(i:J)(ax:i<cn.length):cn.flatMap enc=(cn.take i).flatMap enc++enc cn[i]++(cn.drop (i+1)).flatMap enc/\((cn.take i).flatMap enc).length=i*k:=by
 constructor
 .have e:cn=cn.take i++cn[i] :: cn.drop (i+1):=by rw[<-pH ax,mo]
  refine(c5 (flatMap enc) e).trans ?_;rw[rR,jc,dL]
 rw[tR hk,gB,oY U]
def yk(i:J)(ax:i<cn.length)(x:α):(cn.set i x).flatMap enc=(cn.take i).flatMap enc++enc x++(cn.drop (i+1)).flatMap enc:=by
 rw[set_eq_take_append_cons_drop,aE ax];simp[rR,jc]
def K0{n k:J}(A M B R X:ah ay)(a:A.length=n)(b:M.length=k)(c:X.length=k):((A++M++B++R).take n++X++(A++M++B++R).drop (n+k)).take (n+k+B.length)=A++X++B:=by
 have h1:(A++M++B++R).take n=A:=by rw[dL,dL,rU a]
 have h2:(A++M++B++R).drop (n+k)=B++R:=by rw[dL (A++M),xa (by rw[cx,a,b])]
 rw[h1,h2,<-dL,rU (by simp only[cx];omega)]
def rr(h:w.ownsRow base T k (aq (some (ae g 0 ad)) n cap) n (cn.flatMap enc)):∃ a rest,w.heap[g]?=some (af a T (0,0))/\a.toList=cn.flatMap enc++rest/\base<=g/\n<=cap/\cap<=maxLen/\a.size=cap*k:=by
 rcases h.2 with⟨c,_⟩|⟨g',e,a,c,ak,aZ,av,hm,aw,aK⟩
 .cases c
 injection c with b _ d
 injection b with b
 injection b with b
 subst b;subst d;exact⟨a,a.toList.drop (n*k),aZ,by rw[<-aK,mo],ak,av,hm,aw⟩
def mM(hk:∀ x,(enc x).length=k)(bh:∀ w,(isAgg T).run P w=.ok true w)(d:∀ w,(Go.sizeOf T).run P w=.ok k w)(h:w.ownsRow base T k (aq (some (ae g 0 ad)) n cap) n (cn.flatMap enc))(i:J)(ax:i<cn.length):(Instr.loadAt T (.pointer (some (ae g (i*k) ad)))).run P w=.ok (.agg (enc cn[i]).toArray) w:=by
 have⟨b,rest,aZ,an,_⟩:=rr h;refine gd T k g (i*k) (enc cn[i]).toArray b T bh d (by simpa using hk _) aZ λj v c=>?_;rw[<-mh,an];have⟨h1,h2⟩:=tS hk i ax;rw[h1,dL,dL,lF U,h2,Er];have a:(enc cn[i])[j]?=some v:=by simpa using c
 rw[jO (hD.1 a).1];exact a
def zc(hk:∀ x,(enc x).length=k)(h1:∀ x,∀ v∈enc x,v.oneCell'=true)(c:∀ w,(Go.sizeOf T).run P w=.ok k w)(h:w.ownsRow base T k (aq (some (ae g 0 ad)) n cap) n (cn.flatMap enc))(i:J)(ax:i<cn.length)(x:α):∃ w',(Instr.storeAt T (.pointer (some (ae g (i*k) ad))) (.agg (enc x).toArray)).run P w=.ok () w'/\w'.ownsRow base T k (aq (some (ae g 0 ad)) n cap) n ((cn.set i x).flatMap enc)/\Keeps (λj=>j=g) w w':=by
 have⟨a,rest,aZ,an,ak,av,hm,aw⟩:=rr h;have⟨s1,s2⟩:=tS (enc:=enc) hk i ax;have d:a.size=i*k+k+((cn.drop (i+1)).flatMap enc).length+rest.length:=by
  rw[<-pG,an,s1];simp only[cx,s2,hk]
 refine⟨_,(ru (P:=P) T k g (i*k) (enc x).toArray a T c (by simpa using hk x) aZ U (by simpa using h1 x)),?_,iW w g _⟩;have b:n*k=i*k+k+((cn.drop (i+1)).flatMap enc).length:=by rw[<-h.1,s1];simp only[cx,s2,hk]
 refine⟨by rw[yk i ax];simp only[cx,s2,hk];exact b.symm,.inr ⟨g,cap,_,rfl,ak,fb w g a _ T aZ,av,hm,by rw[(wT a (i*k) (enc x).toArray (by simp only[hh,hk];omega))];exact aw,?_⟩⟩;unfold e5;rw[yk i ax,an,s1,b];simp only[hh,hk];exact K0 _ _ _ _ _ s2 (hk _) (hk _)
def zb{TS:TypeId}{z:ay}(hk:∀ x,(enc x).length=k)(q:P.underlying TS=some (.slice T))(aU:∀ w,(zeroValue T).run P w=.ok z w)(r:z.cells.size=k)(h1:∀ v∈z.cells.toList,v.oneCell'=true)(h:w.ownsRow base T k (aq (some (ae g 0 ad)) n cap) n (cn.flatMap enc))(i:J)(ax:i<cn.length)(u:cn.length=n):∃ w',(∀ (ty:TypeId) (c:J),(Builtin.clear_ #[TS] ty #[aq (some (ae g (i*k) ad)) (n-i) c]).run P w=.ok (aY #[]) w')/\w'.ownsRow base T k (aq (some (ae g 0 ad)) i cap) i ((cn.take i).flatMap enc)/\Keeps (λj=>j=g) w w':=by
 have⟨a,rest,aZ,an,ak,av,hm,aw⟩:=rr h;have⟨s1,s2⟩:=tS (enc:=enc) hk i ax;have f:(Builtin.zeroCells z.cells (n-i)).toList.length=(n-i)*k:=by simp[Builtin.zeroCells,r]
 have o:∀ v∈(Builtin.zeroCells z.cells (n-i)).toList,v.oneCell'=true:=by
  intro v aU;simp only[Builtin.zeroCells,Array.toList_map,e9]at aU;obtain⟨t,aK,rfl⟩:=aU;have p:t<(n-i)*z.cells.size:=by simpa using aK
  have au:0<z.cells.size:=by
   rcases rW z.cells.size with e|e
   .rw[e,Nat.mul_zero]at p;omega
   exact e
  have hm:=e8 t au;rw[jz z.cells (t%z.cells.size) hm];exact h1 _ (by rw[Array.mem_toList_iff];exact Array.getElem_mem hm)
 have l:i*k+0+(n-i)*k<=a.size:=by
  have h1:i*k+(n-i)*k=n*k:=by rw[<-Eo];congr 1;omega
  have h2:=td k av;omega
 have d:=D6 (P:=P) g (i*k) T (Builtin.zeroCells z.cells (n-i)).toList 0 a w aZ (by rw[f];exact l) o;obtain⟨cs,b⟩:=cT (a.toList.take (i*k+0)++(Builtin.zeroCells z.cells (n-i)).toList++a.toList.drop (i*k+0+(Builtin.zeroCells z.cells (n-i)).toList.length)).toArray;rw[<-b]at d;refine⟨w.setRow g cs,λty c=>?_,⟨by rw[s2],.inr ⟨g,cap,cs,rfl,ak,fb w g a cs T aZ,U,hm,?_,?_⟩⟩,iW w g cs⟩
 .obtain⟨m,hm⟩:∃ m,n-i=m+1:=⟨n-i-1,U⟩;rw[hm]at d⊢;simp[Builtin.clear_,rM q,aU,d]
 .rw[<-aw,b];simp only[hh,cx,gB,gg,pG,f];omega
 have s:i*k<=a.toList.length:=by rw[pG];omega
 rw[b];simp only[rV];rw[dL,Ae (by rw[gB];omega),take_take,Nat.min_self,an,s1,dL,dL,rU s2]
end
section
variable{P:Program}{o:Oper}{a:Act}{Q:Exit->Act->aj->al}{ops:a7 Oper}{rest:ah Oper}
def wZ{t:TypeId}{m:Operand}{bk:ay}(hrun:(Builtin.clear_ #[t] o.type #[bk]).run P w=.ok (aY #[]) w')(aZ:o.guard=none)(c:o.op=Op.call {callee:=Callee.builtin Builtin.clear,args:=#[m],argTypes:=#[t]})(hm:a.eval m=bk)(h:wpList P ops Q rest (a.put o.dst (aY #[])) w'):wpList P ops Q (o :: rest) a w:=by
 refine nQ aZ λd b=>?_;unfold Oper.wp;simp[execOp,c,resolve,invoke,builtin,hm,hrun,Result.andThen];exact b _ _ h
end
structure KeptI{α:Type}(q:α->a1)(xs ys:List α)(i j:J):al where
 len:ys.length=xs.length
 bo:ys.take i=(xs.take j).filter q
 ax:ys.drop j=xs.drop j
 lt:i<j
 le:j<=xs.length
namespace KeptI
variable{α:Type}{q:α->a1}{xs ys:List α}{i j:J}
def start{i:J}(ax:i<xs.length)(h1:q xs[i]=false)(h2:∀ j (b:j<xs.length),j<i->q xs[j]=true):KeptI q xs xs i (i+1):=by
 refine⟨rfl,?_,rfl,U,U⟩;rw[kY ax,rO,oT (by simp[h1]),z8,eB];refine(mW.2 λa bh=>?_).symm;obtain⟨t,aK,rfl⟩:=s_.1 bh;rw[gB]at aK;rw[getElem_take];exact h2 t U U
def at'(h:KeptI q xs ys i j)(a:j<xs.length):ys[j]'(by rw[h.len];exact a)=xs[j]:=by
 have h1:=c5 head? h.ax;rw[head?_drop,head?_drop,gA a,gA (by rw[h.len];exact a)]at h1;exact hi h1
def skip(h:KeptI q xs ys i j)(a:j<xs.length)(h1:q xs[j]=false):KeptI q xs ys i (j+1):=by
 refine⟨h.len,?_,?_,by have:=h.lt;omega,a⟩
 .rw[h.bo,kY a,rO,oT (by simp[h1]),z8,eB]
 rw[<-mV,<-mV,h.ax]
def keep(h:KeptI q xs ys i j)(a:j<xs.length)(h1:q xs[j]=true):KeptI q xs (ys.set i xs[j]) (i+1) (j+1):=by
 have b:=h.lt;have ax:i<ys.length:=by rw[h.len];omega
 refine⟨by rw[qI];exact h.len,?_,?_,U,a⟩
 .rw[kY (by rw[qI];exact ax),z',take_set_of_le (df i),h.bo,kY a,rO,rP h1,z8]
 rw[drop_set_of_lt U,<-mV,<-mV,h.ax]
def done(h:KeptI q xs ys i xs.length):ys.take i=xs.filter q:=by rw[h.bo,nU]
def count(h:KeptI q xs ys i xs.length):(xs.filter q).length=i:=by
 rw[<-h.done,gB,h.len]
 have:=h.lt
 omega
end KeptI
end
def Dx(x:aC):(aC.bu x).length=9:=rfl
def Lw:∀ x:aC,∀ v∈aC.bu x,v.oneCell'=true:=λx v aU=>si [x] v (by rw[vU];exact aU)
def PW:SWO (ltOf λa b:aC=>eN a.k b.k):=by
 have h:∀ a b:aC,ltOf (λa b:aC=>eN a.k b.k) a b=true↔kL a.k b.k:=λa b=>by
  exact decide_eq_true_iff.trans (la a.k b.k)
 have d:∀ a b:aC,ltOf (λa b:aC=>eN a.k b.k) a b=false↔¬ kL a.k b.k:=λa b=>by rw[<-h,DU]
 refine⟨λx=>(d _ _).2 (mE x.k),λx y z h1 h2=>(h _ _).2 (ri ((h _ _).1 h1) ((h _ _).1 h2)),λx y z h1 h2=>?_⟩;have h2:=(d _ _).1 h2;refine(d _ _).2 λc=>?_;rcases wx x.k y.k with e|e|e
 .exact((d _ _).1 h1) e
 .rw[e]at c;exact h2 c
 rcases wx y.k z.k with f|f|f
 .exact h2 f
 .rw[f]at e;exact mE _ (ri e c)
 exact mE _ (ri (ri c f) e)
def Pb{xs ys:ah aC}(au:xs.Perm ys)(h1:ev xs)(h2:ev ys):xs=ys:=by
 induction xs generalizing ys with
 | nil=>exact(nil_perm.1 au).symm
 | cons a l i=>
  cases ys with
  | nil=>exact absurd au.length_eq n2
  | cons b m=>
   have⟨c,d⟩:=kb.1 h1;have⟨bR,g⟩:=kb.1 h2;have h:a=b:=by
    rcases ff.1 (au.mem_iff.1 (nS))with e|e
    .exact e
    rcases ff.1 (au.mem_iff.2 (nS))with f|f
    .exact f.symm
    exact absurd (ri (c b f) (bR a e)) (mE _)
   subst h;rw[i (Perm.cons_inv au) d g]
def Ye{ys:List aC}{d:Array aC}(hd:ys.Pairwise λa b=>a.k≠b.k)(au:PermIn 0 ys.toArray.size ys.toArray d)(aw:SortedIn (ltOf λa b:aC=>eN a.k b.k) 0 ys.toArray.size d):d.toList.Perm ys/\ev d.toList:=by
 have f:d.size=ys.length:=by simpa using au.1
 have m:d.toList.Perm ys:=by
  have h:=au.2.2;rw[show ys.toArray.size=d.size by simpa using f.symm,L6]at h;rw[show d.size=ys.toArray.size by simpa using f,L6]at h;simpa using h
 refine⟨m,?_⟩;have g:=hd.perm m.symm (λh=>gE h);unfold ev;rw[ta]at g⊢;intro i j ax c l;have h1:=aw i j (de _) l (by simpa[f]using c);have h2:=g i j ax c l;have o:i<d.size:=by simpa using ax
 have p:j<d.size:=by simpa using c
 rw[jz d i o,jz d j p]at h1;have n:¬ kL d[j].k d[i].k:=λh=>by
  exact Ey h1 ((la _ _).2 h)
 simp only[Array.getElem_toList]at h2⊢;rcases wx d[i].k d[j].k with e|e|e
 .exact e
 .exact absurd e h2
 exact absurd e n
def Q7{base:J}{v:ay}(ys:List aC)(c:w.ownsRow base 45 9 v ys.length (b4 ys))(av:ys.length<=4096)(hd:ys.Pairwise λa b=>a.k≠b.k):aA 72 #[v,.func (.func 47) #[] #[]] w λe w'=>e=aY #[]/\∃ cn:List aC,cn.Perm ys/\ev cn/\w'.ownsRow base 45 9 v cn.length (b4 cn)/\Keeps (λj=>v.ownBlock=some j) w w':=by
 by_cases aU:v=aq none 0 0
 .subst aU;have⟨A,cap,s,_,_⟩:=cS c;have o:ys=[]:=by
   injection s with _ h2 _
   exact jP.1 h2.symm
  subst o;refine bE (Q6 _ w) ?_;exact⟨rfl,[],zX _,Pairwise.nil,c,Keeps.refl _ _⟩
 obtain⟨g,cap,rfl,ak,t,p⟩:=SP (enc:=aC.bu) Dx ys c rfl aU
 have h:=AnyQ.slices_SortFunc (P:=prog) (ρ:=Hn) Rf 9 isAgg45 sizeOf45 aC.bu Dx Lw (λa b=>eN a.k b.k) PW 47 #[] g 0 cap ys.toArray w (enters_of func47 aI rfl)
  (λm os z _ x y=>(TI x y _).mono λr aD ⟨h1,q,u,h2⟩=>⟨h1,q,u,h2⟩) p t b1
 refine(h.mono ?_);rintro e aD ⟨rfl,d,n,os,au,aw,rfl⟩;obtain⟨l,bh⟩:=Ye hd au aw;have i:=l.length_eq;have f:=U4 (enc:=aC.bu) (k:=9) (q:=n) (os:=os) Dx c i;refine⟨rfl,d.toList,l,bh,by rw[i];exact f.1,?_⟩
 have:Keeps (λj=>j=g) w (sortWorldK aC.bu 9 w g 0 n d os):=f.2
 exact this.mono λj _ e=>by rw[e];rfl
def IT{b cV hA:J}{m c0:aa}{aS:a1}{L:List aC}(hd:w.heap[b]?=some (af #[I m,.map (some cV),.map (some hA),I c0,.bool aS] 118 (0,0)))(d:RMap w km cV (iq L))(bh:ev L)(f:L.length<=1000):aA 23 #[b] w λe w'=>∃ v,e=.returned v/\w'.ownsRow w.heap.size 45 9 v L.length (b4 L)/\Keeps aG w w':=by
 have d1:=aO hd;have C:=d.lt;have g:Keeps aG w (w.alloc (af #[.map (some cV)] 115)):=(Keeps.refl _ w).alloc _;have q:∀ (m:J) (W:aj),aA 46 #[.map (some m)] W λe w'=>e=.returned (.func (.func 73) #[] #[W.heap.size])/\W.alloc (af #[.map (some m)] 115)=w':=by
  intro m W
  go_in
  go_wp2;go_ret;exact⟨rfl,rfl⟩
 have D:(w.alloc (af #[.map (some cV)] 115)).heap.size=w.heap.size+1:=aM;have p:=d.keeps g id;have s:tB prog 73 #[w.heap.size] (λe:aC=>#[.agg (dD e)]) (λ_ pre x _=>x∈L/\pre.length<L.length) (λys _=>ys.Perm L) (λk=>k=(w.alloc (af #[.map (some cV)] 115)).heap.size\/(w.alloc (af #[.map (some cV)] 115)).heap.size+3<k) (λk=>k=(w.alloc (af #[.map (some cV)] 115)).heap.size+3) ((w.alloc (af #[.map (some cV)] 115)).alloc (af #[aq none 0 0] 66)):=by
  have i:=(bb (w.alloc (af #[.map (some cV)] 115))).alloc (af #[aq none 0 0] 66);have h:=Uj (p.keeps i id) (i.cell (bf (k:=0) (aX w (af #[.map (some cV)] 115)) rfl) id) (λk=>k=(w.alloc (af #[.map (some cV)] 115)).heap.size\/(w.alloc (af #[.map (some cV)] 115)).heap.size+3<k) ⟨U,aM⟩;have e:((w.alloc (af #[.map (some cV)] 115)).alloc (af #[aq none 0 0] 66)).heap.size+2=(w.alloc (af #[.map (some cV)] 115)).heap.size+3:=aM;rw[e]at h;exact h
 have n:=QQ 73 #[w.heap.size] (enters_of func73 aI rfl) f s;have j:=ag (Bi d.p7);generalize B:w.alloc (af #[.map (some cV)] 115)=bn at *;have aV:aA 71 #[.func (.func 73) #[] #[w.heap.size]] bn λe w'=>∃ v ys,e=.returned v/\ys.Perm L/\w'.ownsRow (bn.heap.size+4) 45 9 v ys.length (b4 ys)/\Keeps aG bn w':=by
  go_in
  go_wp2_with fail;refine n.mono ?_;rintro e ao ⟨v,ys,rfl,au,a,hk⟩;have c:=bW au (bD a hk);obtain⟨A,cap,rfl,_,_⟩:=cS a;go_wp2;go_ret;exact⟨_,ys,rfl,c.o⟩
 have ar:aA 45 #[.func (.func 73) #[] #[w.heap.size],.func (.func 47) #[] #[]] bn λe w'=>∃ v,e=.returned v/\w'.ownsRow (bn.heap.size+4) 45 9 v L.length (b4 L)/\Keeps aG bn w':=by
  go_in
  go_wp2_with fail;refine aV.mono ?_;rintro e ao ⟨v,ys,rfl,au,a,hk⟩;have u:ys.length<=4096:=by rw[au.length_eq];have:=f;omega
  have c:=bW au (bD a hk);obtain⟨A,cap,rfl,_,_⟩:=cS a;go_wp2_with fail;refine aW ((Q7 ys a u (j.out.perm au.symm (λh=>gE h)))) ?_;rintro aD ⟨cn,z,r,y,t⟩;obtain rfl:=Pb (z.trans c.out.1) r bh;have l:=bW y (cN c.out.2.2 t (λk hk e=>by have:=(c.out.2.1.lt k e).1;omega));go_wp2;go_ret;exact⟨_,rfl,l.o⟩
 go_in
 go_wp2_with fail;refine bE (q _ _) ?_;rw[B];go_wp2_with fail;refine ar.mono ?_;rintro e aD ⟨v,rfl,a,hk⟩;have c:=bW a hk;obtain⟨A,cap,rfl,_,_⟩:=cS a;go_wp2;go_ret;exact⟨_,rfl,kQ c.o.1 U,g.trans c.o.2⟩
def QV{base:J}{v:ay}{xs:ah aC}(h:w.ownsRow base 45 9 v xs.length (b4 xs))(av:xs.length<=1000)(p:aC->a1)(g:J)(lb:a7 ay)(n:∀ args w,(callFunc g args).run prog w=.ok (.enter g args) w)(au:AO g lb p w):aA 339 #[v,.func (.func g) #[] lb] w λe w'=>Below w w w'/\((e=.returned (I (-1))/\∀ x∈xs,p x=false)\/∃ i,∃ ax:i<xs.length,e=.returned (I i)/\p xs[i]=true/\∀ j (k:j<xs.length),j<i->p xs[j]=false):=by
 rcases h.2 with⟨rfl,q⟩|⟨b,cap,D,rfl,aZ,aS,an,hm,aw,aK⟩
 .obtain rfl:=jP.1 q;clear au h
  go_in
  exact E_
 obtain⟨A,C,s,aU,_⟩:=cS h;cases s;refine(AnyQ.slices_IndexFunc (P:=prog) (ρ:=Bq) {Hk with} 9 isAgg45 sizeOf45 aC.bu (λ_=>rfl) p g lb n b 0 xs.length cap xs w au bx U (bT aS) (λj k i u m=>?_)).mono ?_
 .have ax:i<9:=by
   have:=(hD.1 m).1
   exact this
  have⟨B,o,e,r⟩:=aU.at' U;cases e;rw[show 0+j*9+i=0+(j*9+i)by omega];refine r (j*9+i) u ?_;rw[tM xs j k i ax]
  rwa [jz xs j k]at m
 rintro e w' ⟨rfl,h2⟩;rw[nU];refine⟨h2,?_⟩;rcases idxByFrom_spec (λ_ y=>p y) default xs 0 with⟨a,l⟩|⟨f,d,a,aK,l⟩
 .refine .inl ⟨E7,λx c=>?_⟩;obtain⟨t,aK,rfl⟩:=s_.1 c
  have:=l t aK
  rwa [jz xs t aK]at this
 refine .inr ⟨f,d,E0,ET,λj k z=>?_⟩
 have:=l j z
 rwa [jz xs j k]at this
def W1(W:aj):(zeroValue 45).run prog W=.ok (aL z9) W:=aI
def OQ(w:aj)(base:J)(v:ay)(ys:ah aC)(e:Ending)(w':aj):al:=
 ∃ v',e=.returned v'/\w'.ownsRow base 45 9 v' ys.length (b4 ys)/\Keeps (λj=>v.ownBlock=some j) w w'/\v'.ownBlock=v.ownBlock
def QT{base:J}{v:ay}{xs:ah aC}(h:w.ownsRow base 45 9 v xs.length (b4 xs))(av:xs.length<=1000)(p:aC->a1)(g:J)(lb:a7 ay)(vl:∀ args w,(callFunc g args).run prog w=.ok (.enter g args) w)(au:∀ W,Keeps (λj=>v.ownBlock=some j) w W->∀ x:aC,Calls prog g (#[.agg x.bu.toArray]++lb) W λe W'=>e=.returned (.bool (p x))/\Below W W W'):aA 340 #[v,.func (.func g) #[] lb] w (OQ w base v (xs.filter λx=>!p x)):=by
 have ab:=QV h av p g lb vl (λW x ak=>(au W (Keeps.bJ ak a8) x).mono λ_ _ h=>⟨h.1,ak.trans (h.2.mono ak.size)⟩);have F:=ag ab;have sd:=ag au;have r':=ag h;clear ab au;rcases h.2 with⟨rfl,Z⟩|⟨r,cap,cur,rfl,aZ,aS,an,hm,aw,aK⟩
 .obtain rfl:=jP.1 Z;clear h Z av
  go_in
  exact NI
 have Aw:=bT aS;clear aZ aS hm aw aK h
 go_in
 go_wp2_with fail;refine F.out.mono ?_;rintro e ao ⟨ak,h1⟩;have A:Keeps (λj=>(aq (some (ae r 0 ad)) xs.length cap).ownBlock=some j) w ao:=Keeps.bJ ak a8;have B:=b5 r'.out (Keeps.bJ (S:=aG) ak a8) (λ_ _=>id);clear ak F;rcases h1 with⟨rfl,q⟩|⟨K,w',rfl,h2,q⟩
 .exact NV
 have c:KeptI (λx=>!p x) xs xs K (K+1):=KeptI.start w' (by simp[h2]) (λj z zd=>by simp[q j z zd]);have Q':((K:aa) == -1)=false:=eA.2 U;have m:=ag (bD c (bD B A));clear h2 q c B A;go_wp2_with fail;go_loopg [5,6,7] xs.length (λgJ T' hy _ wr=>∃ (i j:J) (ys:ah aC),T'=I i/\hy=I j/\xs.length-j<=gJ/\KeptI (λx=>!p x) xs ys i j/\wr.ownsRow base 45 9 (aq (some (ae r 0 ad)) xs.length cap) xs.length (b4 ys)/\Keeps (λj=>(aq (some (ae r 0 ad)) xs.length cap).ownBlock=some j) w wr)
 case atStart=>exact⟨K,K+1,xs,rfl,by go_num,U,m.o⟩
 obtain⟨i,j,ys,rfl,rfl,aas,a,G,H⟩:=hrel;have aat:=a.lt;have aau:=a.le;have Tq:=a.len;clear m Q';by_cases t:j<xs.length
 .have f:=mM (P:=prog) (enc:=aC.bu) (λ_=>rfl) isAgg45 sizeOf45 G j U;rw[a.at' t]at f;have dp:=qq wr;have O:=aX wr (af z9 45);obtain⟨c,aav,l'⟩:=dQ (wr.alloc (af z9 45)) 45 9 wr.heap.size (dD xs[j]) _ sizeOf45 rfl rfl O (tL xs[j]);have N:=fb (wr.alloc (af z9 45)) wr.heap.size _ (dD xs[j]) 45 O;have R:=cN ((bb wr).alloc (af z9 45)) l' a8;generalize (wr.alloc (af z9 45)).setRow wr.heap.size (dD xs[j])=V' at *;have V:=H.trans (R.mono λ_ _ x=>x.elim);have a':=b5 G R (λ_ _=>id);have Q:=sd.out V' V xs[j];have n:=gd (P:=prog) 45 9 wr.heap.size 0 (dD xs[j]) _ _ isAgg45 sizeOf45 rfl N (λj u z=>ke);have aaw:=mq Aw H.size;have CW:(j:aa)<(xs.length:aa):=U;have M:=ag a;have s':=ag N;have l:=ag (bD V a');clear a G H O l' R V a' N;obtain⟨y,X⟩:∃ y,y=xs[j]:=⟨_,rfl⟩;rw[<-X]at f c n Q;have D:=ag Q;have E:=ag X;clear X Q;cases s:p y with
  | false=>
   go_wp2_with first|refine dn f rfl rfl rfl ?_|refine dU dp rfl rfl ?_|refine c7 c rfl rfl rfl rfl ?_|(go_at_fn g;refine D.out.mono ?_;rintro e Y ⟨rfl,k⟩;rw[s];have b:=Keeps.bJ (S:=aG) k a8;have gf:=b.heap s'.out id;have fr:=b5 l.out.2 b (λ_ _=>id);obtain⟨aaq,St,C,L⟩:=zc (P:=prog) (enc:=aC.bu) (λ_=>rfl) Lw sizeOf45 fr i U y;have zp:=gd (P:=prog) 45 9 wr.heap.size 0 (dD y) _ _ isAgg45 sizeOf45 rfl gf (λj u z=>E1);have d:=ag (bD C ((l.out.1.trans (b.mono λ_ _ x=>x.elim)).trans (L.mono λ_ _ x=>vx)));clear C L fr gf b k)|refine dn zp rfl rfl rfl ?_|refine dn n rfl rfl rfl ?_|refine c7 St rfl rfl rfl rfl ?_
   exact E'
  | true=>
   exact EG
 obtain rfl:j=xs.length:=U;have CW:¬ (xs.length:aa)<(xs.length:aa):=U;obtain⟨aaq,v',C,L⟩:=zb (P:=prog) (TS:=66) (enc:=aC.bu) (λ_=>rfl) underlying66 W1 rfl bt G i U Tq;have m':=H.trans (L.mono (T:=λj=>(aq (some (ae r 0 ad)) xs.length cap).ownBlock=some j) λ_ _ x=>vx);have hd:=a.done;have g':=a.count;rw[hd]at C;have d:=ag (bD C (bD m' g'));clear C m' g' hd a G H;go_wp2_with refine wZ (v' _ _) rfl rfl rfl ?_
 go_ret;exact⟨_,rfl,E2,d.o.2.1,rfl⟩
section
open Go.RowKit Go.Shelf Go.Maps
variable{w w':aj}
structure cO where
 most:aa
 bc:ah aC
 b9:aa->ah aC
 aP:aa
 hd:a1
structure dN where
 b:J
 cV:J
 hA:J
 M:ah (aa×ay)
def np(B:dN)(s:cO):a7 ay:=#[I s.most,.map (some B.cV),.map (some B.hA),I s.aP,.bool s.hd]
def xN(w:aj)(M:ah (aa×ay))(T:aa->ah aC):al:=
 ∀ x,match hO M x with
  | some v=>w.ownsRow 0 45 9 v (T x).length (b4 (T x))
  | none=>T x=[]
structure IsLd(w:aj)(B:dN)(s:cO):al where
 gr:w.heap[B.b]?=some (af (np B s) 118 (0,0))
 bc:RMap w km B.cV (iq s.bc)
 dz:ev s.bc
 n:(s.bc.length:aa)<=s.most/\s.most<=256
 b9:RMap w sq B.hA B.M/\xN w B.M s.b9/\∀ p∈B.M,0<=p.1/\p.1<=1000000
 bl:∀ x,eL x (s.b9 x)
 ne:B.cV≠B.hA
 c0:-1<=s.aP/\s.aP<=1000000
def pW(w:aj)(B:dN)(j:J):al:=j≠B.b/\j≠B.cV/\j≠B.hA/\∀ a,w.heap[j]?≠some (af a 45 (0,0))
def Jw{base n:J}{v:ay}{l:ah ay}(h:w.ownsRow base 45 9 v n l){j:J}(b:v.ownBlock=some j):∃ a,w.heap[j]?=some (af a 45 (0,0)):=by
 rcases h.2 with⟨rfl,_⟩|⟨g,cap,a,rfl,_,aS,_⟩
 .cases b
 cases b;exact⟨a,aS⟩
def Dk{M:ah (aa×ay)}{T:aa->ah aC}{S:J->al}(h:xN w M T)(hk:Keeps S w w')(ar:∀ j,S j->∀ b,w.heap[j]?≠some (af b 45 (0,0))):xN w' M T:=by
 intro x;have a:=h x;cases c:hO M x with
 | none=>rw[c]at a;exact a
 | some v=>
  rw[c]at a;exact b5 a hk λj d aw=>by
   obtain⟨b,an⟩:=Jw a d;exact ar j aw b an
def nB{P:Program}{k:TypeId}{dI:Type}{C:lK P k dI}{b:J}{M:ah (dI×ay)}(h:RMap w C b M)(a:a7 ay)(t:TypeId)(z:J×J):w.heap[b]?≠some (af a t z):=by
 have⟨es,⟨d,c,ak,_⟩,_⟩:=h.own;rw[ak];simp
namespace IsLd
variable{B:dN}{s:cO}
def keep{T:J->al}(h:IsLd w B s)(hk:Keeps T w w')(a:∀ j,T j->pW w B j):IsLd w' B s:=by
 obtain⟨h1,h2,b⟩:=h.b9;exact⟨hk.heap h.gr λe=>(a _ e).1 rfl,h.bc.keeps hk λe=>(a _ e).2.1 rfl,h.dz,h.n,⟨h1.keeps hk λe=>(a _ e).2.2.1 rfl,Dk h2 hk λj c=>(a j c).2.2.2,b⟩,h.bl,h.ne,h.c0⟩
def kI(h:IsLd w B s)(hk:Keeps aG w w'):IsLd w' B s:=h.keep hk λ_ e=>e.elim
def Gb(h:IsLd w B s):B.b≠B.cV:=λe=>nB h.bc _ _ _ (e▸h.gr)
def Gc(h:IsLd w B s):B.b≠B.hA:=λe=>by
 exact nB h.b9.1 _ _ _ (e▸h.gr)
def cv(h:IsLd w B s):s.bc.length<=256:=by have:=h.n;omega
def KG{s':cO}(h:IsLd w B s)(k:w'.heap[B.b]?=some (af (np B s') 118 (0,0)))(hk:Keeps (λj=>j=B.b) w w')(a:s'.bc=s.bc)(c:s'.b9=s.b9)(d:s'.most=s.most)(f:-1<=s'.aP/\s'.aP<=1000000):IsLd w' B s':=by
 have⟨h1,h2,g⟩:=h.b9;refine⟨k,by rw[a];exact h.bc.keeps hk λe=>h.Gb e.symm,by rw[a];exact h.dz,by rw[a,d];exact h.n,⟨h1.keeps hk λe=>h.Gc e.symm,?_,g⟩,by rw[c];exact h.bl,h.ne,f⟩;rw[c];refine Dk h2 hk λj i l an=>?_;subst i;rw[h.gr]at an;simp only[hI,w7]at an;exact absurd an.2.1 bt
def C4{L:ah aC}(h:IsLd w B s)(b:RMap w' km B.cV (iq L))(hk:Keeps (λj=>j=B.cV) w w')(bh:ev L)(av:(L.length:aa)<=s.most):IsLd w' B {s with bc:=L}:=by
 have⟨h1,h2,a⟩:=h.b9;refine⟨hk.heap h.gr λe=>h.Gb e,b,bh,⟨av,h.n.2⟩,⟨h1.keeps hk λe=>h.ne e.symm,?_,a⟩,h.bl,h.ne,h.c0⟩;refine Dk h2 hk λj c d an=>?_;subst c;exact nB h.bc _ _ _ an
theorem KI{M:ah (aa×ay)}{T:aa->ah aC}(h:IsLd w B s)(a:RMap w' sq B.hA M)(hk:Keeps (λj=>j=B.hA) w w')(b:xN w' M T)(c:∀ p∈M,0<=p.1/\p.1<=1000000)(au:∀ x,eL x (T x)):IsLd w' {B with M:=M} {s with b9:=T}:=
 ⟨hk.heap h.gr λe=>h.Gc e,h.bc.keeps hk λe=>h.ne e,h.dz,h.n,⟨a,b,c⟩,au,h.ne,h.c0⟩
def _root_.Go.Proofs.YtalagblioepadaaGreatDoor.dN.S(B:dN)(j:Nat):Prop:=j=B.b\/j=B.cV\/j=B.hA\/∃ p∈B.M,p.2.ownBlock=some j
theorem keeps{T:J->al}(h:IsLd w B s)(hk:Keeps T w w')(a:∀ j,B.S j->¬ T j):IsLd w' B s:=by
 obtain⟨h1,h2,d⟩:=h.b9;refine⟨hk.heap h.gr (a _ (.inl rfl)),h.bc.keeps hk (a _ (.inr (.inl rfl))),h.dz,h.n,⟨h1.keeps hk (a _ (.inr (.inr (.inl rfl)))),λx=>?_,d⟩,h.bl,h.ne,h.c0⟩;have b:=h2 x;cases c:hO B.M x with
 | none=>rw[c]at b;exact b
 | some v=>
  rw[c]at b;refine b5 b hk λj e=>a j (.inr (.inr (.inr ?_)));obtain⟨p,au,rfl⟩:=Option.map_eq_some_iff.1 c;exact⟨p,Ab au,e⟩
def row(h:IsLd w B s){p:aa×ay}(au:p∈B.M):w.ownsRow 0 45 9 p.2 (s.b9 p.1).length (b4 (s.b9 p.1)):=by
 have a:=h.b9.2.1 p.1;rw[h.b9.1.Bv au]at a;exact a
theorem lt(h:IsLd w B s){j:J}(a:B.S j):j<w.heap.size:=by
 rcases a with e|e|e|⟨p,au,e⟩
 .rw[e];exact bT h.gr
 .rw[e];exact h.bc.lt
 .rw[e];exact h.b9.1.lt
 exact((h.row au).lt j e).2
end IsLd
def gw(L:ah aC)(f:aa):ah aC:=L.filter λe=>!decide (e.k.fr≠f)
def TL(e:aC)(f:aa)(B:J)(b:w.cell? (ae B 0 ad)=some (I f)):aA 341 #[aL e,B] w λr w'=>r=.returned (.bool (decide (e.k.fr≠f)))/\Below w w w':=by
 have b':=(b7 w.heap.size w).alloc bx (af e 45);have c:=aX w (af e 45);have d:B<w.heap.size:=mU w (ae B 0 ad) b;have hd:(e.k.fr != f)=decide (e.k.fr≠f):=by by_cases h:e.k.fr=f<;>simp[h]
 have a:=ag hd
 go_in
 exact Mw
def TM{B:dN}{s:cO}(h:IsLd w B s)(f:aa):aA 317 #[B.b,I f] w λe w'=>∃ v,e=.returned v/\w'.ownsRow w.heap.size 45 9 v (gw s.bc f).length (b4 (gw s.bc f))/\Keeps aG w w':=by
 have l:Keeps aG w (w.alloc (af #[I f] 3)):=(Keeps.refl _ w).alloc _;have h1:=h.kI l;have C:(w.alloc (af #[I f] 3)).heap.size=w.heap.size+1:=aM;have av:=h.cv;have q:=ag (IT h1.gr h1.bc h1.dz U);have p:=ag (bf (k:=0) (aX w (af #[I f] 3)) rfl)
 go_in
 go_wp2_with fail;generalize w.alloc (af #[I f] 3)=ao at *;refine q.o.mono ?_;rintro e aD ⟨v,rfl,a,hk⟩;have z:∀ j,v.ownBlock=some j->j≠w.heap.size:=λj c e=>by have:=(a.lt j c).1;omega
 have g:=(QT a U (λe=>decide (e.k.fr≠f)) 341 #[w.heap.size] (enters_of func341 aI rfl) (λW r x=>TL x f w.heap.size (r.cell (hk.cell p.out id) (λe=>z _ e rfl))));rw[show(s.bc.filter λx=>!decide (x.k.fr≠f))=gw s.bc f from rfl]at g;have t:∀ j,v.ownBlock=some j->ao.heap.size<=j:=λj c=>(a.lt j c).1;obtain⟨A,cap,rfl,_,_⟩:=cS a;have d:=bW t hk;go_wp2_with fail;refine g.mono ?_;rintro e bq ⟨v',rfl,i,u,_⟩;have y:=l.trans (cN d.out.2 u (λk hk e=>by have:=d.out.1 k e;omega));have n:=bW (kQ i (show w.heap.size<=ao.heap.size by omega)) y;obtain⟨cG,m,rfl,_,_⟩:=cS i;go_wp2;go_ret;exact⟨aq cG _ m,rfl,n.o⟩
end
def TN(e:aC)(f:aa)(B:J)(b:w.cell? (ae B 0 ad)=some (I f)):aA 314 #[aL e,B] w λr w'=>r=.returned (.bool (decide (e.k.fr≠f)))/\Below w w w':=by
 have b':=(b7 w.heap.size w).alloc bx (af e 45);have c:=aX w (af e 45);have d:B<w.heap.size:=mU w (ae B 0 ad) b;have hd:(e.k.fr != f)=decide (e.k.fr≠f):=by by_cases h:e.k.fr=f<;>simp[h]
 have a:=ag hd
 go_in
 exact Mw
def TJ{B:dN}{s:cO}(h:IsLd w B s)(aS:s.hd=false){fr now:aa}{xs:ah aC}{base:J}{v:ay}(aU:w.ownsRow base 45 9 v xs.length (b4 xs))(au:eL fr xs)(av:fr<=now/\now<=1000000)(an:s.aP<fr):aA 273 #[B.b,aL #[I fr,v],I now] w λe w'=>e=.returned (I 0)/\Keeps aG w w':=by
 have i:Keeps aG w (w.alloc (af #[I fr,v] 271)):=(Keeps.refl _ w).alloc _;have l:=b5 aU i (λ_ _=>id);have j:=aX w (af #[I fr,v] 271);have c:=i.heap h.gr id;unfold np at c;rw[aS]at c;have n:=aO c;have D:=aO j;have r:xs.any (λe=>decide (e.k.fr≠fr))=false:=by
  rw[zY];intro e u;simp[(au.2.2 e u).2]
 have a:=bW j (bD c i);have m:=ag au.2.1;obtain⟨A,cap,rfl,_,_⟩:=cS aU
 go_in
 go_wp2_with fail;generalize w.alloc _=ao at *;refine aW (Q2 au l) λaD f=>?_;have C:=b5 l f (λ_ _=>id);have d:=f.heap a.o.1 id;have aV:=Bp C (by have:=m.o;omega) (λe=>decide (e.k.fr≠fr)) 314 #[w.heap.size] (enters_of func314 aI rfl) (λW x ak=>(TN x fr w.heap.size (by have:=mU aD (ae w 0 ad) (bf (k:=0) d rfl);exact(ak.cell (p:=ae w 0 ad) this).trans (bf (k:=0) d rfl))).mono λ_ _ h=>⟨h.1,ak.trans (h.2.mono ak.size)⟩);rw[r]at aV;have E:=aO d;go_wp2_with fail;refine aW aV λbq t=>?_;have g:=f.trans (Keeps.bJ (S:=aG) t a8);have q:=g.heap a.o.1 id;have z:=g.heap a.o.2.1 id;have n:=aO z;have D:=aO q;go_wp2;go_quiet (fail);have y:=(a.o.2.2.trans g).drewN nq;go_wp2;go_ret;exact⟨rfl,y⟩
def zJ{P:Program}{o:Oper}{a:Act}{Q:Exit->Act->aj->al}{ops:a7 Oper}{rest:ah Oper}{w w':aj}{v p:ay}{T:TypeId}{x:Operand}(hrun:(Instr.loadAt T p).run P w=.ok v w')(c:Region.wanted o (yielded ops a.tmps)=true)(b:o.op=.load T x)(d:a.eval x=p)(h:wpList P ops Q rest (a.put o.dst v) w'):wpList P ops Q (o :: rest) a w:=by
 unfold wpList;rw[aE c];exact .inl (LX b d hrun h)
def H5:prog.eqGuardType prog.depth 43=false:=aI
def H3:prog.eqGuardType prog.depth 45=false:=aI
def tZ{t:TypeId}(aZ:prog.eqGuardType prog.depth t=false)(x y:Operand)(c d:a7 ay)(w:aj):(eqGuard .eql t x y (.agg c) (.agg d)).run prog w=.ok () w:=by
 simp[hW,iD,go_sem,aZ]
def uV{P:Program}{o:Oper}{a:Act}{Q:Exit->Act->aj->al}{ops:a7 Oper}{rest:ah Oper}{w w':aj}{v c d:ay}{T e:TypeId}{x y:Operand}{b:BinOp}(aZ:(eqGuard b T x y c d).run P w=.ok () w)(hrun:(binOp b T c d).run P w=.ok v w')(g:Region.wanted o (yielded ops a.tmps)=true)(f:o.op=.binOp b T x y e)(i:a.eval x=c)(j:a.eval y=d)(h:wpList P ops Q rest (a.put o.dst v) w'):wpList P ops Q (o :: rest) a w:=by
 unfold wpList;rw[aE g];refine .inl ?_;unfold Oper.wp execOp;simp only[f,i,j,hW,aZ,hrun,hE,iD];exact h
def Bk(a b:cU)(w:aj):(binOp .eql 43 (aL a) (aL b)).run prog w=.ok (.bool (decide (a=b))) w:=by
 have h:decide (a=b)=(a.fr == b.fr&&(a.em == b.em&&(a.bp == b.bp&&a.cg == b.cg))):=by
  exact MN
 rw[h];simp[go_sem]
 repeat' split
 all_goals simp_all
def Bj(e o:aC)(w:aj):(binOp .eql 45 (aL e) (aL o)).run prog w=.ok (.bool (decide (e=o))) w:=by
 have h:decide (e=o)=(e.k.fr == o.k.fr&&(e.k.em == o.k.em&&(e.k.bp == o.k.bp&&(e.k.cg == o.k.cg&&(e.cy == o.cy&&(e.dd == o.dd&&(e.dP == o.dP&&(e.dw == o.dw&&e.le == o.le)))))))):=by
  exact Ow
 rw[h];simp[go_sem]
 repeat' split
 all_goals simp_all
def TK(e o:aC)(w:aj):aA 319 #[aL e,aL o] w λr w'=>r=.returned (.bool (e.cy == o.cy&&e.le == o.le))/\Below w w w':=by
 have b':=((b7 w.heap.size w).alloc bx (af e 45)).alloc aM (af o 45);have b:(w.alloc (af e 45)).heap.size=w.heap.size+1:=aM;have c:=cw (aX w (af e 45)) (af o 45);have a:=aX (w.alloc (af e 45)) (af o 45);rw[b]at a;cases h1:(e.cy == o.cy)with
 | false=>
  go_in
  exact Mz
 | true=>
  go_in
  exact Mz
def uO(o e:aC):a1:=decide (e.k=o.k)&&(e.cy == o.cy&&e.le == o.le)
def TP(e o:aC)(B:J)(c:w.heap[B]?=some (af o 45 (0,0))):aA 318 #[aL e,B] w λr w'=>r=.returned (.bool (uO o e))/\Below w w w':=by
 have b':=(b7 w.heap.size w).alloc bx (af e 45);have f:=aX w (af e 45);have g:=aO (cw c (af e 45));have a:=ag (Bk e.k o.k);have d:uO o e=(decide (e.k=o.k)&&(e.cy == o.cy&&e.le == o.le)):=rfl;have b:=ag d;cases hd:decide (e.k=o.k)with
 | false=>
  rw[hd]at a
  go_in
  go_wp2_with refine uV (tZ H5 _ _ _ _ _) (a.out _) vp rfl rfl rfl ?_
  generalize w.alloc (af e 45)=ao at *;go_ret;exact⟨by rw[b.out,hd];rfl,b'⟩
 | true=>
  rw[hd]at a
  go_in
  go_wp2_with refine uV (tZ H5 _ _ _ _ _) (a.out _) vp rfl rfl rfl ?_
  generalize w.alloc (af e 45)=ao at *;refine aW (TK e o ao) λaD ak=>?_;generalize (e.cy == o.cy&&e.le == o.le)=r at *;go_wp2;go_ret;exact⟨by rw[b.out,hd];rfl,(b'.trans (ak.mono b'.size))⟩
structure bI where
 bp:aa
 bg:aC
 db:aa
 pl:a1
deriving DecidableEq
def dg(c:bI):a7 ay:=#[I c.bp,I c.bg.k.fr,I c.bg.k.em,I c.bg.k.bp,I c.bg.k.cg,I c.bg.cy,I c.bg.dd,I c.bg.dP,I c.bg.dw,I c.bg.le,I c.db,.bool c.pl]
def bI.bu(c:bI):ah ay:=(dg c).toList
def dC(l:ah bI):ah ay:=l.flatMap bI.bu
def sa(c:bI):(dg c).toList.all (λv=>v.oneCell')=true:=rfl
def PU:∀ c:bI,∀ v∈c.bu,v.oneCell'=true:=λc=>fw.1 (sa c)
def PT(l:ah bI)(c:bI):dC (l++[c])=dC l++(dg c).toList:=by simp[dC,bI.bu]
def Kf(e:aC)(w:aj):(Instr.build 47 #[(0,I 3),(1,.agg (dD e))]).run prog w=.ok (.agg (dg ⟨3,e,0,false⟩)) w:=aI
def WM(e:aC)(w:aj):(Instr.build 47 #[(0,I 2),(1,.agg (dD e))]).run prog w=.ok (.agg (dg ⟨2,e,0,false⟩)) w:=aI
def WL(e:aC)(n:aa)(w:aj):(Instr.build 47 #[(0,I 1),(1,.agg (dD e)),(2,I n)]).run prog w=.ok (.agg (dg ⟨1,e,n,false⟩)) w:=aI
def WH(e:aC)(p:a1)(w:aj):(Instr.build 47 #[(0,I 4),(1,.agg (dD e)),(3,.bool p)]).run prog w=.ok (.agg (dg ⟨4,e,0,p⟩)) w:=aI
def zf(c:bI)(W:aj):(Instr.buildSlice 32 1 #[(0,.agg (dg c))]).run prog W=.ok (aq (some (ae W 0 ad)) 1 1) (W.alloc (af (dg c) 47)):=aI
def Iv:∃ i z,prog.info? 47=some i/\i.zero=some z/\i.size=12/\i.bytes=96/\z.cells.size=12:=by
 have h:(prog.info? 47).map (λi=>(i.zero.map λz=>z.cells.size,i.size,i.bytes))=some (some 12,12,96):=aI;cases aS:prog.info? 47 with
 | none=>rw[aS]at h;cases h
 | some i=>
  rw[aS]at h;simp only[pN,hI,jR]at h;cases a:i.zero with
  | none=>rw[a]at h;cases h.1
  | some z=>rw[a]at h;exact⟨i,z,rfl,a,h.2.1,h.2.2,by simpa using h.1⟩
def x0{base:J}{v:ay}{cs:ah bI}(ty:TypeId)(g:w.ownsRow base 47 12 v cs.length (dC cs))(av:cs.length<=10000)(ak:base<=w.heap.size)(c:bI):∃ v' ao,(Builtin.append_ #[32,32] ty #[v,aq (some (ae w 0 ad)) 1 1]).run prog (w.alloc (af (dg c) 47))=.ok v' ao/\ao.ownsRow base 47 12 v' (cs++[c]).length (dC (cs++[c]))/\Keeps (λj=>v.ownBlock=some j) w ao/\(∃ A n cap,v'=aq A n cap):=by
 have⟨i,z,ax,k,h1,h2,d⟩:=Iv
 obtain⟨v',ao,h,b,aZ,_,_⟩:=w9 (P:=prog) (w.alloc (af (dg c) 47)) base 32 ty 47 i z 12 96 underlying32 ax k h1 h2 d bt v cs.length (dC cs) (g.alloc _) (ae w 0 ad) 1 1 (dg c).toList rfl
  (λj u a=>by
   rw[ij,gP];exact bf (aX w (af (dg c) 47)) AI) (PU c) kd U b1
 refine⟨v',ao,h,?_,((Keeps.refl _ w).alloc _).grown aZ (λj e=>.inl e),?_⟩
 .rw[PT,cx,jd];exact b
 have⟨A,cap,f,_⟩:=cS b;exact⟨A,_,cap,f⟩
section
variable{P:Program}{o:Oper}{a:Act}{Q:Exit->Act->aj->al}{ops:a7 Oper}{rest:ah Oper}{v:ay}
def wY{t:TypeId}{x y:Operand}{b c:ay}(hrun:(Builtin.append_ #[t,t] o.type #[b,c]).run P w=.ok v w')(aZ:o.guard=none)(e:o.op=Op.call {callee:=Callee.builtin Builtin.append,args:=#[x,y],argTypes:=#[t,t]})(f:a.eval x=b)(g:a.eval y=c)(h:wpList P ops Q rest (a.put o.dst v) w'):wpList P ops Q (o :: rest) a w:=by
 refine nQ aZ λi d=>?_;unfold Oper.wp;simp[execOp,e,resolve,invoke,builtin,f,g,hrun,Result.andThen];exact d _ _ h
def zH{t:TypeId}{n:J}{x:Operand}{u:ay}(hrun:(Instr.buildSlice t n #[(0,u)]).run P w=.ok v w')(aZ:o.guard=none)(c:o.op=.buildSlice t n #[(0,x)])(d:a.eval x=u)(h:wpList P ops Q rest (a.put o.dst v) w'):wpList P ops Q (o :: rest) a w:=by
 refine nQ aZ λe b=>?_;unfold Oper.wp execOp;simp only[c,map_toArray,jQ,lG,d,hW,hrun,hE,iD];exact b _ _ h
end
section
variable{P:Program}{o:Oper}{a:Act}{K:Act->aj->al}{Q:Exit->Act->aj->al}
def LW{t b:TypeId}{m x:Operand}{bk key:ay}(c:o.op=Op.call {callee:=Callee.builtin Builtin.delete,args:=#[m,x],argTypes:=#[t,b]})(hm:a.eval m=bk)(d:a.eval x=key)(hrun:(Builtin.delete_ #[t,b] o.type #[bk,key]).run P w=.ok (aY #[]) w')(h:K (a.put o.dst (aY #[])) w'):o.wp P a w K Q:=by
 unfold Oper.wp;simp[execOp,c,resolve,invoke,builtin,hm,d,hrun,Result.andThen];exact h
end
def stays(xs:ah aC)(o:aC):a1:=xs.any (uO o)
def gp(xs ys:ah aC):ah aC:=ys.filter λo=>!stays xs o
def im(xs ys:ah aC):ah bI:=(gp xs ys).map λo=>⟨3,o,0,false⟩
def e_(L G:ah aC):ah aC:=L.filter λe=>!decide (∃ g∈G,g.k=e.k)
def G3(L:ah aC):e_ L []=L:=by
 exact mW.2 λ_ _=>aM
def G5(L G:ah aC)(o:aC):e_ L (G++[o])=e_ (e_ L G) [o]:=by
 unfold e_;rw[filter_filter];refine xb λe _=>?_;rw[w2];simp only[lD,pO,ep,eJ,gC];constructor
 .intro h;exact⟨λ⟨g,h1,h2⟩=>h ⟨g,.inr h1,h2⟩,λ⟨g,h1,h2⟩=>h ⟨g,.inl h1,h2⟩⟩
 rintro⟨h1,h2⟩ ⟨g,a|a,b⟩
 .exact h2 ⟨g,a,b⟩
 exact h1 ⟨g,a,b⟩
def G4(L:ah aC)(o:aC):kE (iq L) o.k=iq (e_ L [o]):=by
 unfold kE iq e_;rw[rQ]
 congr 1
 refine xb λe _=>?_;simp[eq_comm]
def q7(L G:ah aC):(e_ L G).Sublist L:=xc
def p6{L:ah aC}(h:ev L)(G:ah aC):ev (e_ L G):=h.sublist (q7 L G)
def H_(xs pre:ah aC)(o:aC):gp xs (pre++[o])=gp xs pre++(if stays xs o then []else [o]):=by
 unfold gp;rw[rO];cases h:stays xs o<;>simp[h]
def IsLd.La{B:dN}{s:cO}(h:IsLd w B s)(o:aC)(b:gb o.k=true)(ty:TypeId):∃ w',(Builtin.delete_ #[115,43] ty #[.map (some B.cV),aL o.k]).run prog w=.ok (aY #[]) w'/\IsLd w' B {s with bc:=e_ s.bc [o]}/\Keeps (λj=>j=B.cV) w w':=by
 have⟨w',h1,h2,a⟩:=h.bc.drop mC (x:=o.k) b underlying115 ty;rw[G4]at h2;refine⟨w',h1,h.C4 h2 a (p6 h.dz _) ?_,a⟩
 have:=(q7 s.bc [o]).length_le
 have:=h.n
 omega
def r9(w:aj)(e:aC):∃ w',(Instr.storeAt 45 w.heap.size (.agg (dD e))).run prog (w.alloc (af z9 45))=.ok () w'/\w'.heap[w.heap.size]?=some (af (dD e) 45 (0,0))/\Keeps aG w w'/\w'.heap.size=w.heap.size+1:=by
 have a:=aX w (af z9 45);obtain⟨c,d,b⟩:=dQ (w.alloc (af z9 45)) 45 9 w.heap.size (dD e) _ sizeOf45 rfl rfl a (tL e);refine⟨_,c,fb (w.alloc (af z9 45)) w.heap.size _ (dD e) 45 a,cN ((bb w).alloc (af z9 45)) b a8,?_⟩;simp[World.setRow]
theorem j6{b:J}{e:aC}(h:w.heap[b]?=some (af (dD e) 45 (0,0))):(Instr.loadAt 45 b).run prog w=.ok (.agg (dD e)) w:=
 gd (P:=prog) 45 9 b 0 (dD e) _ _ isAgg45 sizeOf45 rfl h (λj u z=>ke)
structure n4(w:aj)(B:dN)(s:cO)(xs ys:ah aC)(fr:aa)(v v2:ay)(pre:ah aC)(cA:ay)(W:aj):al where
 out:W.ownsRow (w.heap.size+1) 47 12 cA (im xs pre).length (dC (im xs pre))
 ld:IsLd W B {s with bc:=e_ s.bc (gp xs pre)}
 cu:Keeps (λj=>j=B.cV) w W
 bl:W.heap[w.heap.size]?=some (af #[I fr,v] 271 (0,0))
 rx:∃ base,W.ownsRow base 45 9 v xs.length (b4 xs)
 uF:W.ownsRow (w.heap.size+1) 45 9 v2 ys.length (b4 ys)
 cM:w.heap.size+1<=W.heap.size
def n4.keep{B:dN}{s:cO}{xs ys:ah aC}{fr:aa}{v v2:ay}{pre:ah aC}{cA:ay}{W W':aj}(h:n4 w B s xs ys fr v v2 pre cA W)(hk:Keeps aG W W'):n4 w B s xs ys fr v v2 pre cA W':=by
 have⟨base,a⟩:=h.rx;exact⟨b5 h.out hk (λ_ _=>id),h.ld.kI hk,h.cu.trans (hk.mono λ_ _ x=>x.elim),hk.heap h.bl id,⟨base,b5 a hk (λ_ _=>id)⟩,b5 h.uF hk (λ_ _=>id),ca h.cM hk.size⟩
def mI{base n k:J}{T:TypeId}{v:ay}{l:ah ay}{P:Program}{c:TypeId}{dI:Type}{C:lK P c dI}{b:J}{M:ah (dI×ay)}(h:w.ownsRow base T k v n l)(hm:RMap w C b M){j:J}(a:v.ownBlock=some j):j≠b:=by
 rcases h.2 with⟨rfl,_⟩|⟨g,cap,d,rfl,_,aS,_⟩
 .cases a
 cases a;intro e;subst e;exact nB hm _ _ _ aS
def IsLd.free{B:dN}{s:cO}(h:IsLd w B s){j:J}{c:a7 ay}{T:TypeId}{z:J×J}(a:w.heap[j]?=some (af c T z))(h1:T≠45)(h2:T≠118):pW w B j:=by
 refine⟨λe=>?_,λe=>?_,λe=>?_,λbw an=>?_⟩
 .subst e;have b:=h.gr;rw[a]at b;simp only[hI,w7]at b;exact h2 b.2.1
 .subst e;exact nB h.bc _ _ _ a
 .subst e;exact nB h.b9.1 _ _ _ a
 rw[a]at an;simp only[hI,w7]at an;exact h1 an.2.1
def IsLd.rb{B:dN}{s:cO}(h:IsLd w B s){base n k:J}{T:TypeId}{v:ay}{l:ah ay}(b:w.ownsRow base T k v n l)(h1:T≠45)(h2:T≠118){j:J}(a:v.ownBlock=some j):pW w B j:=by
 rcases b.2 with⟨rfl,_⟩|⟨g,cap,c,rfl,_,aS,_⟩
 .cases a
 cases a;exact h.free aS h1 h2
def n4.skip{B:dN}{s:cO}{xs ys:ah aC}{fr:aa}{v v2:ay}{pre:ah aC}{cA:ay}{W:aj}(h:n4 w B s xs ys fr v v2 pre cA W){o:aC}(b:stays xs o=true):n4 w B s xs ys fr v v2 (pre++[o]) cA W:=by
 have e:gp xs (pre++[o])=gp xs pre:=by rw[H_,b];simp
 have a:im xs (pre++[o])=im xs pre:=by unfold im;rw[e]
 exact⟨by rw[a];exact h.out,by rw[e];exact h.ld,h.cu,h.bl,h.rx,h.uF,h.cM⟩
def n4.step{B:dN}{s:cO}{xs ys:ah aC}{fr:aa}{v v2:ay}{pre:ah aC}{cA:ay}{W:aj}(h:n4 w B s xs ys fr v v2 pre cA W){o:aC}(D:stays xs o=false)(G:gb o.k=true)(av:pre.length<=256)(ty u:TypeId):∃ b f g,(Builtin.delete_ #[115,43] ty #[.map (some B.cV),aL o.k]).run prog W=.ok (aY #[]) b/\Keeps (λj=>j=B.cV) W b/\
   (Builtin.append_ #[32,32] u #[cA,aq (some (ae b 0 ad)) 1 1]).run prog (b.alloc (af (dg ⟨3,o,0,false⟩) 47))=.ok f g/\(∃ A n cap,f=aq A n cap)/\n4 w B s xs ys fr v v2 (pre++[o]) f g:=by
 have⟨b,z,m,c⟩:=h.ld.La o G ty;have e:gp xs (pre++[o])=gp xs pre++[o]:=by rw[H_,D];simp
 have x:im xs (pre++[o])=im xs pre++[⟨3,o,0,false⟩]:=by unfold im;rw[e,jx];rfl
 have i:=h.ld.bc;have F:w.heap.size≠B.cV:=λe=>nB i _ _ _ (e▸h.bl);have⟨base,q⟩:=h.rx;have l:=b5 h.out c (λj a e=>mI h.out i a e);have K:(im xs pre).length<=256:=by
  have:=ml (λo=>!stays xs o) pre
  unfold im gp;rw[hG];omega
 have L:=c.size;have⟨f,g,y,E,d,H⟩:=x0 u l U (by have:=h.cM;omega) ⟨3,o,0,false⟩;refine⟨b,f,g,z,c,y,H,?_⟩;have p:∀ j,cA.ownBlock=some j->w.heap.size+1<=j:=λj a=>(h.out.lt j a).1;have C:∀ j,cA.ownBlock=some j->pW b B j:=λj a=>m.rb l bt bt a;have r:=b5 q c (λj a e=>mI q i a e);have t:=b5 h.uF c (λj a e=>mI h.uF i a e);refine⟨by rw[x];exact E,by rw[e,G5];exact m.keep d C,cN (h.cu.trans c) d (λj a e=>by have:=p j e;omega),d.heap (c.heap h.bl F) (λe=>by have:=p _ e;omega),⟨base,b5 r d (λj a e=>uu l r bt e a)⟩,b5 t d (λj a e=>uu l t bt e a),by have:=h.cM;have:=d.size;omega⟩
def nw{base n cap k:J}{T:TypeId}{A:b_ Addr}{l:ah ay}(h:w.ownsRow base T k (aq A n cap) n l)(av:0<n):∃ g,A=some (ae g 0 ad):=by
 rcases h.2 with⟨e,b⟩|⟨g,bw,a,e,_⟩
 .omega
 cases e;exact⟨g,rfl⟩
def Fi(w:aj)(B:dN)(s:cO)(xs:ah aC)(fr:aa)(e:Ending)(w':aj):al:=
 ∃ cA,e=.returned cA/\w'.ownsRow w.heap.size 47 12 cA (im xs (gw s.bc fr)).length (dC (im xs (gw s.bc fr)))/\IsLd w' B {s with bc:=e_ s.bc (gp xs (gw s.bc fr))}/\Keeps (λj=>j=B.cV) w w'
def TH{B:dN}{s:cO}(h:IsLd w B s){fr:aa}{xs:ah aC}{base:J}{v:ay}(aU:w.ownsRow base 45 9 v xs.length (b4 xs))(av:xs.length<=1000)(h2:∀ e∈s.bc,gb e.k=true):aA 274 #[B.b,aL #[I fr,v]] w (Fi w B s xs fr):=by
 have u:Keeps aG w (w.alloc (af #[I fr,v] 271)):=(Keeps.refl _ w).alloc _;have ps:=b5 aU u (λ_ _=>id);have F:=aX w (af #[I fr,v] 271);have h1:=h.kI u;have aaC:(w.alloc (af #[I fr,v] 271)).heap.size=w.heap.size+1:=aM;have aau:=aO F;have E:=ag (TM h1 fr);have aat:(gw s.bc fr).length<=256:=ca (ml _ _) h.cv;have lb:∀ o∈gw s.bc fr,gb o.k=true:=λo aas=>h2 o (fx.1 aas).1;have f:=bW h1 (bD ps (bD F (bD u (bD lb av))));have St:=ag (h.bc.lt);obtain⟨ys,t⟩:=cT (gw s.bc fr);obtain⟨A,cap,rfl,_,_⟩:=cS aU;have g':∀ e w',Fi w B s xs fr e w'↔(∃ cA,e=.returned cA/\w'.ownsRow w.heap.size 47 12 cA (im xs ys).length (dC (im xs ys))/\IsLd w' B {s with bc:=e_ s.bc (gp xs ys)}/\Keeps (λj=>j=B.cV) w w'):=λe w'=>by rw[t];rfl
 have CW:=ag g';rw[<-t]at E aat;have Q':=ag t;clear h h1 aU ps F u lb av h2 t g'
 go_in
 go_wp2_with fail;generalize w.alloc _=ao at *;clear aau;refine E.o.mono ?_;rintro e aD ⟨v2,rfl,K,l⟩;have O:n4 w B s xs ys fr (aq A xs.length cap) v2 [] (aq none 0 0) aD:=by
  refine⟨gx _ _ _ _,?_,(f.out.2.2.2.1.trans l).mono (λ_ _ x=>x.elim),l.heap f.out.2.2.1 id,⟨base,b5 f.out.2.1 l (λ_ _=>id)⟩,kQ K U,by have:=l.size;omega⟩;have e:gp xs []=[]:=rfl;rw[e,G3];exact f.out.1.kI l
 obtain⟨v',Tq,rfl,_,_⟩:=cS K;have M:=ag O;clear K l O E;go_wp2_with fail;go_loopg [5,14] ys.length (λg cA z wr=>∃ pre rest:ah aC,ys=pre++rest/\g=rest.length/\z=I pre.length/\(∃ A n cap,cA=aq A n cap)/\n4 w B s xs ys fr (aq A xs.length cap) (aq v' ys.length Tq) pre cA wr)
 case atStart=>exact⟨[],ys,rfl,rfl,rfl,⟨_,_,_,rfl⟩,M.o⟩
 obtain⟨pre,rest,c,aZ,rfl,⟨zd,no,co,rfl⟩,d⟩:=hrel;clear M;cases rest with
 | nil=>
  have aaA:¬ (pre.length:aa)<(ys.length:aa):=by rw[c];simp
  have s':ys=pre:=by rw[c,eB]
  have C:=ag d;have Hx:=ag s';clear c s' d;go_wp2_with fail;go_ret;refine(CW.out _ _).2 ⟨aq zd no co,rfl,?_⟩;rw[Hx.o];exact⟨kQ C.o.out U,C.o.ld,C.o.cu⟩
 | cons o rest=>
  have aar:pre.length<ys.length:=by rw[c];simp
  have aaB:(pre.length:aa)<(ys.length:aa):=U;have Y:ys[pre.length]=o:=by simp[c]
  have hd:gb o.k=true:=f.out.2.2.2.2.1 o (by rw[<-Q'.out,c];simp);have gf:pre.length<=256:=U;have sd:ys=(pre++[o])++rest:=by rw[c];simp
  have V':=aZ;simp only[dy]at V';have aaE:=d.cM;clear aZ;obtain⟨aaF,rfl⟩:=nw d.uF U;have H:=mM (P:=prog) (enc:=aC.bu) (λ_=>rfl) isAgg45 sizeOf45 d.uF pre.length aar;rw[Y]at H;have dp:=qq wr;obtain⟨aaG,l',p,Z,aaD⟩:=r9 wr o;have r:=d.keep Z;obtain⟨bN,r'⟩:=r.rx;have W':=j6 p;have aav:=aO r.bl;have aV:=Bp r' f.out.2.2.2.2.2 (uO o) 318 #[wr.heap.size] (enters_of func318 aI rfl) (λW x ak=>(TP x o wr.heap.size ((ak.block wr.heap.size U).trans p)).mono λ_ _ h=>⟨h.1,ak.trans (h.2.mono ak.size)⟩);have L:=ag aV;have D:=bW r p;have m:=bW sd (bD hd gf);clear d c Y hd gf sd r r' aV p W' Z;go_wp2_with first|refine dn H rfl rfl rfl ?_|refine dU dp rfl rfl ?_|refine c7 l' rfl rfl rfl rfl ?_
  refine aW L.o λy V=>?_;have G:=Keeps.bJ (S:=aG) V a8;have i:=D.o.1.keep G;have q:=G.heap D.o.2 id;have m':xs.any (uO o)=stays xs o:=rfl;rw[m'];clear V G L D aav m' l' dp H;cases aw:stays xs o with
  | true=>
   have zp:=ag (i.skip aw);clear i q;go_wp2_with fail;go_roundg rest.length
   case measure=>omega
   exact⟨pre++[o],rest,m.out.1,rfl,qO,⟨_,_,_,rfl⟩,zp.o⟩
  | false=>
   have R:=i.keep (bb y).drew;obtain⟨vl,aay,aaI,T',ab,T,⟨aaz,n7,c2,rfl⟩,Q⟩:=R.step aw m.out.2.1 m.out.2.2 0 32;have N:=ab.heap (a:=y.drew) q (λe=>by have:=St.out;have:=i.cM;omega);have aaq:=j6 N;have TS:=Kf o;have X:=zf ⟨3,o,0,false⟩ vl;have a':=i.ld.gr;have aaw:=iG (S:=aG) (w:=y.drew) a' id;have aax:=iG (S:=aG) (w:=y.drew) q id;have Aw:=ag Q;clear i q R ab N a' Q;go_wp2_with fail;refine cJ 7 ?_;refine fu (λ_=>False) (.range 6) [] 1 (hQ ?_);refine cK (λ_=>True) [6] 0 1 ?_;refine pv 6 trivial (LW rfl rfl rfl T') ?_;simp only[Act.put];clear aaw aax;generalize vl.alloc (af (dg ⟨3,o,0,false⟩) 47)=aaH at T X;go_wp2_with first|((with_reducible refine dn aaq rfl rfl ?_ ?_);exact rfl)|((with_reducible refine s0 (TS _) rfl rfl ?_ ?_ ?_);exact rfl;exact rfl)|((with_reducible refine zH X rfl rfl ?_ ?_);exact rfl)|((with_reducible refine wY T rfl rfl ?_ ?_ ?_);exact rfl;exact rfl)
   go_roundg rest.length
   case measure=>omega
   exact⟨pre++[o],rest,m.out.1,rfl,qO,⟨_,_,_,rfl⟩,Aw.o⟩
end Go.Proofs.YtalagblioepadaaGreatDoor
