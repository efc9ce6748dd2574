/- The proof, part 39. -/
import Derived.Test.YtalagblioepadaaGreatDoorZb38
import Derived.Shelf.SlSortCmp.WholeK
namespace Go.Proofs.YtalagblioepadaaGreatDoor
set_option linter.all false
open Proofs.Tryz List Go.RowKit Go.Shelf Go.Sort Go.Maps
set_option maxRecDepth 100000
set_option maxHeartbeats 1000000
def uT{p:ak}(h:p:=by rw[x];rfl):p:=h
def uL{p:ak}(h:p:=by first|rfl|simp[go_sem]):p:=h
def D_{p:ak}(h:p:=by unfold Lib.idxBy;rw[a]):p:=h
def D5{p:ak}(h:p:=by rw[d.o.2.2];exact d.o.1):p:=h
def D4{p:ak}(h:p:=by rw[gv,<-E.out];exact z):p:=h
def D3{p:ak}(h:p:=by unfold Lib.idxBy;rw[a,gv]):p:=h
def DV{p:ak}(h:p:=by rwa [jb xs f d]at aN):p:=h
def qg{p:ak}(h:p:=by rw[cx,iM];go_num):p:=h
def DN{p:ak}(h:p:=by
 go_wp2_with first|refine dm f rfl rfl rfl ?_|refine ea dF rfl rfl ?_|refine c8 c rfl rfl rfl rfl ?_|refine dm n rfl rfl rfl ?_|(go_at_fn g;refine D.out.mono ?_;rintro e Y ⟨rfl,k⟩;rw[s];have b:=Keeps.bE (S:=aG) k a7;have d:=af (bD (b3 l.out.2 b (λ_ _=>id)) (l.out.1.trans (b.mono λ_ _ x=>x.elim)));clear b k)
 go_roundg (xs.length-(j+1))
 case measure=>omega
 exact⟨i,j+1,ys,rfl,by go_num,c9 _,M.out.skip t (by rw[<-E.out,s];rfl),d.out⟩
 ):p:=h
def Mr{p:ak}(h:p:=by
 go_wp2_with fail;refine F.out.mono ?_;rintro e an ⟨aj,h1⟩;obtain rfl:e=.returned (I (-1)):=by
  rcases h1 with h1|⟨i,av,_⟩
  .exact h1.1
  simp at av
 have Y4:=af aj;clear h1 aj;go_wp2;go_ret;exact⟨_,rfl,gB _ _ _ _,Keeps.bE Y4.o a7,rfl⟩
 ):p:=h
def MD{p:ak}(h:p:=by
 have r':(xs.filter λx=>!p x)=xs:=ni.2 λa bj=>by simp[q a bj]
 have m:=af (bD r' (bD B A));clear q r' B A;go_wp2;go_ret;exact⟨_,rfl,by rw[m.o.1];exact m.o.2.1,m.o.2.2,rfl⟩
 ):p:=h
def Ea{p:ak}(h:p:=by
 go_wp2_with fail;go_loopg [5,8] 0 (λg _ z wr=>g=0/\z=I 0/\wr=w)
 case atStart=>exact⟨rfl,rfl,rfl⟩
 obtain⟨rfl,rfl,rfl⟩:=hrel;go_wp2;go_ret;exact⟨bY _ _,.inl ⟨rfl,λx c=>nomatch c⟩⟩
 ):p:=h
def Eb{p:ak}(h:p:=by
 go_roundg (xs.length-(j+1))
 case measure=>omega
 exact⟨i+1,j+1,ys.set i y,by go_num,by go_num,c9 _,by rw[E.out];exact M.out.keep t (by rw[<-E.out,s];rfl),d.out⟩
 ):p:=h
def Lk{p:ak}(h:p:=by
 go_wp2_with fail;generalize w.alloc (ae e 45)=an at *;go_ret;exact⟨by rw[<-a.o];rfl,ca⟩
 ):p:=h
def Ln{p:ak}(h:p:=by
 go_wp2_with fail;generalize World.alloc (World.alloc w _) _=an at *;go_ret;exact⟨aI,ca⟩
 ):p:=h
variable{w w':ai}
def Gd:Go.Shelf.Ren:=⟨fun|6=>72|14=>121|15=>122|20=>179|21=>180|22=>181|23=>182|24=>183|25=>184|26=>185|27=>186|28=>187|29=>188|46=>253|47=>254|48=>255|49=>256|50=>257|57=>308|n=>n,fun|0=>0|3=>3|4=>4|5=>5|9=>9|22=>66|24=>45|25=>135|39=>227|45=>316|46=>317|50=>287|53=>22|55=>217|66=>379|70=>383|76=>436|77=>437|n=>n,fun|n=>n⟩
def PV:SlLaysF0.n6 prog Gd:={
 mixed:=aH
 f6:=⟨f72.name,bq,func72.trans (cV some aH)⟩
 f14:=⟨f121.name,bq,func121.trans (cV some aH)⟩
 f15:=func122.trans (cV some aH)
 f20:=⟨f179.name,bq,func179.trans (cV some aH)⟩
 f21:=⟨f180.name,bq,func180.trans (cV some aH)⟩
 f22:=⟨f181.name,bq,func181.trans (cV some aH)⟩
 f23:=⟨f182.name,bq,func182.trans (cV some aH)⟩
 f24:=⟨f183.name,bq,func183.trans (cV some aH)⟩
 f25:=⟨f184.name,bq,func184.trans (cV some aH)⟩
 f26:=⟨f185.name,bq,func185.trans (cV some aH)⟩
 f27:=⟨f186.name,bq,func186.trans (cV some aH)⟩
 f28:=func187.trans (cV some aH)
 f29:=func188.trans (cV some aH)
 f46:=⟨f253.name,bq,func253.trans (cV some aH)⟩
 f47:=func254.trans (cV some aH)
 f48:=func255.trans (cV some aH)
 f49:=⟨f256.name,bq,func256.trans (cV some aH)⟩
 f50:=⟨f257.name,bq,func257.trans (cV some aH)⟩
 f57:=⟨f308.name,bq,func308.trans (cV some aH)⟩
 t0:=underlying0
 a0:=isAgg0
 z0:=sizeOf0
 v0:=zeroValue0
 t3:=underlying3
 a3:=isAgg3
 z3:=sizeOf3
 v3:=zeroValue3
 t4:=underlying4
 a4:=isAgg4
 z4:=sizeOf4
 v4:=zeroValue4
 t5:=underlying5
 a5:=isAgg5
 z5:=sizeOf5
 v5:=zeroValue5
 t9:=underlying9
 a9:=isAgg9
 z9:=sizeOf9
 v9:=zeroValue9
 t22:=underlying66
 a22:=isAgg66
 z22:=sizeOf66
 v22:=zeroValue66
 t25:=underlying135
 a25:=isAgg135
 z25:=sizeOf135
 v25:=zeroValue135
 t39:=underlying227
 a39:=isAgg227
 z39:=sizeOf227
 v39:=zeroValue227
 t45:=underlying316
 a45:=isAgg316
 z45:=sizeOf316
 v45:=zeroValue316
 t46:=underlying317
 a46:=isAgg317
 z46:=sizeOf317
 v46:=zeroValue317
 t50:=underlying287
 a50:=isAgg287
 z50:=sizeOf287
 v50:=zeroValue287
 t53:=underlying22
 a53:=isAgg22
 z53:=sizeOf22
 v53:=zeroValue22
 t55:=underlying217
 a55:=isAgg217
 z55:=sizeOf217
 v55:=zeroValue217
 t66:=underlying379
 a66:=isAgg379
 z66:=sizeOf379
 v66:=zeroValue379
 t70:=underlying383
 a70:=isAgg383
 z70:=sizeOf383
 v70:=zeroValue383
 t76:=underlying436
 a76:=isAgg436
 z76:=sizeOf436
 v76:=zeroValue436
 t77:=underlying437
 a77:=isAgg437
 z77:=sizeOf437
 v77:=zeroValue437}
section
variable{α:Type}[Inhabited α]{enc:α->ah aw}{k:J}
omit [Inhabited α]in
def tm(hk:∀ x,(enc x).length=k)(l:List α):(l.flatMap enc).length=l.length*k:=by
 induction l with
 | nil=>simp
 | cons c l a=>rw[iL,sC,hk,a,pg,jQ,qc]
omit [Inhabited α]in
def xF(hk:∀ x,(enc x).length=k)(l:List α)(i:J)(h:i<l.length)(j:J)(a:j<k):(l.flatMap enc)[i*k+j]?=(enc l[i])[j]?:=by
 induction l generalizing i with
 | nil=>cases h
 | cons c l b=>
  rw[iL];cases i with
  | zero=>rw[wM,sI,jL (by rw[hk];exact a)];rfl
  | succ i=>
   rw[mu (by rw[hk,jQ];omega),hk,jQ,show i*k+k+j-k=i*k+j by omega];exact b i h8
def Gq(hk:∀ x,(enc x).length=k)(l:List α):flatK enc k l.toArray=(l.flatMap enc).toArray:=by
 refine ext_get! (by rw[size_flatK,gR,gR,tm hk]) λt aN=>?_;have a:t<l.length*k:=by simpa using aN
 rw[get_flatK _ _ _ _ (by simpa using a)];have g:0<k:=by
  rcases rf k with h|h
  .subst h;simp at a
  exact h
 have av:=Lc (by rw[ot];exact a);have b:t%k<k:=eW _ g;have h2:=xF hk l (t / k) av (t%k) b;have e:t / k*k+t%k=t:=by rw[ot];exact o_ t k
 rw[e]at h2;have f:l.toArray[t / k]! = l[t / k]:=by rw[jb _ _ (by simpa using av)];rfl
 have c:t%k<(enc l[t / k]).length:=by rw[hk];exact b
 have d:t<(l.flatMap enc).length:=by rw[tm hk];exact a
 rw[f,jb (enc l[t / k]) (t%k) c,jb (l.flatMap enc).toArray t d,Dp];rw[gb d,gb c]at h2;exact(h7 h2).symm
def Rv{base n:J}{e:TypeId}{v:aw}(hk:∀ x,(enc x).length=k)(ch:List α)(h:w.ownsRow base e k v n (ch.flatMap enc))(i:ch.length=n)(aX:v≠ao none 0 0):∃ g cap,v=ao (some (ad g 0 ab)) n cap/\base<=g/\g<w.heap.size/\HoldsK enc k w g 0 ch.toArray:=by
 rcases h.2 with⟨f,_⟩|⟨g,cap,d,rfl,aj,a1,au,hm,ax,aN⟩
 .exact absurd f aX
 refine⟨g,cap,rfl,aj,bR a1,?_⟩;unfold HoldsK;rw[Gq hk];intro j b;have c:j<n*k:=by rw[<-i,<-tm hk];simpa using b
 refine⟨?_,by simp[World.frozen?,a1]⟩;have a:(d.toList.take (n*k))[j]?=(ch.flatMap enc)[j]?:=by rw[aN]
 rw[ux,aD c,nc]at a;simp only[World.cell?,a1,gv];simp only[ou,wq,if_false];rw[a]
 have:j<(ch.flatMap enc).length:=by simpa using b
 simp[jb,this,-length_flatMap]
def TN{base n g cap q:J}{e:TypeId}{os:Array Obj}(hk:∀ x,(enc x).length=k){ch ys:List α}(h:w.ownsRow base e k (ao (some (ad g 0 ab)) n cap) n (ch.flatMap enc))(i:ys.length=n):(sortWorldK enc k w g 0 q ys.toArray os).ownsRow base e k (ao (some (ad g 0 ab)) n cap) n (ys.flatMap enc)/\Keeps (λj=>j=g) w (sortWorldK enc k w g 0 q ys.toArray os):=by
 rcases h.2 with⟨c,_⟩|⟨g',m,b,c,aj,a1,au,hm,ax,aN⟩
 .cases c
 injection c with a _ l
 injection a with a
 injection a with a
 subst a;subst l;have f:=tm hk ys;unfold sortWorldK putRowK;rw[Gq hk];refine⟨⟨by rw[f,i],.inr ⟨g,cap,putCells id 0 (ys.flatMap enc).toArray b,rfl,aj,?_,au,hm,by simpa[putCells]using ax,?_⟩⟩,rfl,rfl,rfl,?_,?_⟩
 .rw[heap_grow_old _ _ (by simpa[putRow,mapBlock,Sort.ahead]using(bR a1))];simp[putRow,mapBlock,Sort.ahead,CV,a1,onCells]
 .have p:(ys.flatMap enc).length=n*k:=by rw[f,i]
  have o:n*k<=b.size:=by rw[ax];exact sH k au
  apply ext_getElem?;intro j;by_cases d:j<n*k
  .rw[getElem?_take_of_lt d,nc];simp only[putCells,Array.getElem?_mapIdx,sw (show j<b.size by omega),pb];rw[aD (by simp only[gR];omega),gb U];simp[jb,show j<(ys.flatMap enc).length by omega,-length_flatMap]
  rw[getElem?_take_eq_none U,sB U]
 .simp[putRow,mapBlock,Sort.ahead]
 intro j d hne;rw[heap_grow_old _ _ (by simpa[putRow,mapBlock,Sort.ahead]using d)]
 have:g≠j:=λe=>hne e.symm
 simp[putRow,mapBlock,Sort.ahead,CV,this]
end
def j9(w w':ai):ak:=∃ q os,w'=grow (w.drewN q) os
def j9.refl(w:ai):j9 w w:=⟨0,#[],by rw[grow_empty];rfl⟩
def j9.trans{a b c:ai}(h:j9 a b)(k:j9 b c):j9 a c:=by
 obtain⟨q,os,rfl⟩:=h;obtain⟨e,d,rfl⟩:=k;refine⟨q+e,os++d,?_⟩;show grow (grow ((a.drewN q).drewN e) os) d=_;rw[grow_grow]
 congr 1
 simp[iN]
theorem j9.alloc{a b:ai}(h:j9 a b)(o:Obj):j9 a (b.alloc o):=h.trans ⟨0,#[o],by rw[alloc_eq_grow];rfl⟩
theorem j9.drewN{a b:ai}(h:j9 a b)(n:J):j9 a (b.drewN n):=h.trans ⟨n,#[],by rw[grow_empty]⟩
def Px(a b:dp)(w:ai):az 48 #[aM a,aM b] w λe w'=>e=.returned (I (eC a b))/\j9 w w':=by
 have k:(w.alloc (ae a 43)).heap.size=w.heap.size+1:=aI;have c:=aW (w.alloc (ae a 43)) (ae b 43);rw[k]at c;have gS:=af (((j9.refl w).alloc (ae a 43)).alloc (ae b 43));have g:=af (cm (aW w (ae a 43)) (ae b 43))
 go_in
 go_wp2_with fail;generalize World.alloc (World.alloc w _) _=an at *;have l:=aP g.o;have m:=aP c;refine iK 20 aH aH ?_;simp only[hI,il,hG,hA]
 repeat (go_big_quiet_step ((go_at_call 75;exact(Fz _ _ _).mono λ_ _ h=>⟨h.1,_,h.2.symm⟩)))
 refine wpQuiet_nil ?_;intro _ d;have⟨nq,f⟩:=d;subst f;go_wp2_with fail;refine(FA (b:=an.heap.size) [eP a.fr b.fr,eP a.em b.em,eP a.bN b.bN,eP a.cp b.cp] aI λi av=>?_).mono ?_
 .have j:i=0\/i=1\/i=2\/i=3:=by simp at av;omega
  rcases j with rfl|rfl|rfl|rfl<;>exact bb (aW (an.drewN nq) (ae #[I (eP a.fr b.fr),I (eP a.em b.em),I (eP a.bN b.bN),I (eP a.cp b.cp)] 3)) rfl
 rintro e _ ⟨rfl,rfl⟩;go_wp2;go_ret;exact⟨rfl,((gS.out.drewN nq).alloc (ae #[I (eP a.fr b.fr),I (eP a.em b.em),I (eP a.bN b.bN),I (eP a.cp b.cp)] 3))⟩
def Sm(a b:aC)(w:ai):az 47 #[aM a,aM b] w λr w'=>r=.returned (I (eC a.k b.k))/\j9 w w':=by
 have ca:=((j9.refl w).alloc (ae a 45)).alloc (ae b 45);have e:(w.alloc (ae a 45)).heap.size=w.heap.size+1:=aI;have f:=cm (aW w (ae a 45)) (ae b 45);have c:=aW (w.alloc (ae a 45)) (ae b 45);rw[e]at c
 go_in
 go_wp2_with fail;generalize World.alloc (World.alloc w _) _=an at *;refine aT (Px a.k b.k an) λaB aj=>?_;have d:=ca.trans aj;go_wp2;go_ret;exact⟨rfl,d⟩
section
open Go.RowKit Go.Shelf Go.Sort
variable{w w':ai}
section
variable{P:Program}{α:Type}{enc:α->ah aw}{k base n cap g:J}{T:TypeId}{ch:List α}
def xH(hk:∀ x,(enc x).length=k)(i:J)(av:i<ch.length):ch.flatMap enc=(ch.take i).flatMap enc++enc ch[i]++(ch.drop (i+1)).flatMap enc/\((ch.take i).flatMap enc).length=i*k:=by
 constructor
 .have e:ch=ch.take i++ch[i] :: ch.drop (i+1):=by rw[<-p9 av,lR]
  refine(cV (flatMap enc) e).trans ?_;rw[q8,iL,dD]
 rw[tm hk,gw,oq U]
def xG(i:J)(av:i<ch.length)(x:α):(ch.set i x).flatMap enc=(ch.take i).flatMap enc++enc x++(ch.drop (i+1)).flatMap enc:=by
 rw[set_eq_take_append_cons_drop,aD av];simp[q8,iL]
def JV{n k:J}(A M B R X:ah aw)(a:A.length=n)(b:M.length=k)(c:X.length=k):((A++M++B++R).take n++X++(A++M++B++R).drop (n+k)).take (n+k+B.length)=A++X++B:=by
 have h1:(A++M++B++R).take n=A:=by rw[dD,dD,rb a]
 have h2:(A++M++B++R).drop (n+k)=B++R:=by rw[dD (A++M),wC (by rw[cx,a,b])]
 rw[h1,h2,<-dD,rb (by simp only[cx];omega)]
def r3(h:w.ownsRow base T k (ao (some (ad g 0 ab)) n cap) n (ch.flatMap enc)):∃ a rest,w.heap[g]?=some (ae a T (0,0))/\a.toList=ch.flatMap enc++rest/\base<=g/\n<=cap/\cap<=maxLen/\a.size=cap*k:=by
 rcases h.2 with⟨c,_⟩|⟨g',e,a,c,aj,a1,au,hm,ax,aN⟩
 .cases c
 injection c with b _ d
 injection b with b
 injection b with b
 subst b;subst d;exact⟨a,a.toList.drop (n*k),a1,by rw[<-aN,lR],aj,au,hm,ax⟩
def nW(hk:∀ x,(enc x).length=k)(bj:∀ w,(isAgg T).run P w=.ok true w)(d:∀ w,(Go.sizeOf T).run P w=.ok k w)(h:w.ownsRow base T k (ao (some (ad g 0 ab)) n cap) n (ch.flatMap enc))(i:J)(av:i<ch.length):(Instr.loadAt T (.pointer (some (ad g (i*k) ab)))).run P w=.ok (.agg (enc ch[i]).toArray) w:=by
 have⟨b,rest,a1,aq,_⟩:=r3 h;refine gq T k g (i*k) (enc ch[i]).toArray b T bj d (by simpa using hk _) a1 λj v c=>?_;rw[<-nc,aq];have⟨h1,h2⟩:=xH hk i av;rw[h1,dD,dD,mu U,h2,Lb];have a:(enc ch[i])[j]?=some v:=by simpa using c
 rw[jL (hf.1 a).1];exact a
def yA(hk:∀ x,(enc x).length=k)(h1:∀ x,∀ v∈enc x,v.oneCell'=true)(c:∀ w,(Go.sizeOf T).run P w=.ok k w)(h:w.ownsRow base T k (ao (some (ad g 0 ab)) n cap) n (ch.flatMap enc))(i:J)(av:i<ch.length)(x:α):∃ w',(Instr.storeAt T (.pointer (some (ad g (i*k) ab))) (.agg (enc x).toArray)).run P w=.ok () w'/\w'.ownsRow base T k (ao (some (ad g 0 ab)) n cap) n ((ch.set i x).flatMap enc)/\Keeps (λj=>j=g) w w':=by
 have⟨a,rest,a1,aq,aj,au,hm,ax⟩:=r3 h;have⟨s1,s2⟩:=xH (enc:=enc) hk i av;have d:a.size=i*k+k+((ch.drop (i+1)).flatMap enc).length+rest.length:=by
  rw[<-pe,aq,s1];simp only[cx,s2,hk]
 refine⟨_,(qQ (P:=P) T k g (i*k) (enc x).toArray a T c (by simpa using hk x) a1 U (by simpa using h1 x)),?_,iB w g _⟩;have b:n*k=i*k+k+((ch.drop (i+1)).flatMap enc).length:=by rw[<-h.1,s1];simp only[cx,s2,hk]
 refine⟨by rw[xG i av];simp only[cx,s2,hk];exact b.symm,.inr ⟨g,cap,_,rfl,aj,fe w g a _ T a1,au,hm,by rw[(we a (i*k) (enc x).toArray (by simp only[gR,hk];omega))];exact ax,?_⟩⟩;unfold eU;rw[xG i av,aq,s1,b];simp only[gR,hk];exact JV _ _ _ _ _ s2 (hk _) (hk _)
def yz{TS:TypeId}{z:aw}(hk:∀ x,(enc x).length=k)(q:P.underlying TS=some (.slice T))(aX:∀ w,(zeroValue T).run P w=.ok z w)(r:z.cells.size=k)(h1:∀ v∈z.cells.toList,v.oneCell'=true)(h:w.ownsRow base T k (ao (some (ad g 0 ab)) n cap) n (ch.flatMap enc))(i:J)(av:i<ch.length)(u:ch.length=n):∃ w',(∀ (ty:TypeId) (c:J),(Builtin.clear_ #[TS] ty #[ao (some (ad g (i*k) ab)) (n-i) c]).run P w=.ok (aV #[]) w')/\w'.ownsRow base T k (ao (some (ad g 0 ab)) i cap) i ((ch.take i).flatMap enc)/\Keeps (λj=>j=g) w w':=by
 have⟨a,rest,a1,aq,aj,au,hm,ax⟩:=r3 h;have⟨s1,s2⟩:=xH (enc:=enc) hk i av;have f:(Builtin.zeroCells z.cells (n-i)).toList.length=(n-i)*k:=by simp[Builtin.zeroCells,r]
 have o:∀ v∈(Builtin.zeroCells z.cells (n-i)).toList,v.oneCell'=true:=by
  intro v aX;simp only[Builtin.zeroCells,Array.toList_map,fu]at aX;obtain⟨t,aN,rfl⟩:=aX;have p:t<(n-i)*z.cells.size:=by simpa using aN
  have ar:0<z.cells.size:=by
   rcases rf z.cells.size with e|e
   .rw[e,Nat.mul_zero]at p;omega
   exact e
  have hm:=eW t ar;rw[jb z.cells (t%z.cells.size) hm];exact h1 _ (by rw[Array.mem_toList_iff];exact Array.getElem_mem hm)
 have l:i*k+0+(n-i)*k<=a.size:=by
  have h1:i*k+(n-i)*k=n*k:=by rw[<-Ds];congr 1;omega
  have h2:=sH k au;omega
 have d:=Da (P:=P) g (i*k) T (Builtin.zeroCells z.cells (n-i)).toList 0 a w a1 (by rw[f];exact l) o;obtain⟨cs,b⟩:=cQ (a.toList.take (i*k+0)++(Builtin.zeroCells z.cells (n-i)).toList++a.toList.drop (i*k+0+(Builtin.zeroCells z.cells (n-i)).toList.length)).toArray;rw[<-b]at d;refine⟨w.setRow g cs,λty c=>?_,⟨by rw[s2],.inr ⟨g,cap,cs,rfl,aj,fe w g a cs T a1,U,hm,?_,?_⟩⟩,iB w g cs⟩
 .obtain⟨m,hm⟩:∃ m,n-i=m+1:=⟨n-i-1,U⟩;rw[hm]at d⊢;simp[Builtin.clear_,q3 q,aX,d]
 .rw[<-ax,b];simp only[gR,cx,gw,gd,pe,f];omega
 have s:i*k<=a.toList.length:=by rw[pe];omega
 rw[b];simp only[re];rw[dD,zs (by rw[gw];omega),take_take,Nat.min_self,aq,s1,dD,dD,rb s2]
end
section
variable{P:Program}{o:Oper}{a:Act}{Q:Exit->Act->ai->ak}{ops:a6 Oper}{rest:ah Oper}
def wm{t:TypeId}{m:Operand}{bh:aw}(hrun:(Builtin.clear_ #[t] o.type #[bh]).run P w=.ok (aV #[]) w')(a1:o.guard=none)(c:o.op=Op.call {callee:=Callee.builtin Builtin.clear,args:=#[m],argTypes:=#[t]})(hm:a.eval m=bh)(h:wpList P ops Q rest (a.put o.dst (aV #[])) w'):wpList P ops Q (o :: rest) a w:=by
 refine nh a1 λd b=>?_;unfold Oper.wp;simp[execOp,c,resolve,invoke,builtin,hm,hrun,Result.andThen];exact b _ _ h
end
structure KeptI{α:Type}(q:α->aY)(xs ys:List α)(i j:J):ak where
 len:ys.length=xs.length
 bm:ys.take i=(xs.take j).filter q
 av:ys.drop j=xs.drop j
 lt:i<j
 le:j<=xs.length
namespace KeptI
variable{α:Type}{q:α->aY}{xs ys:List α}{i j:J}
def start{i:J}(av:i<xs.length)(h1:q xs[i]=false)(h2:∀ j (b:j<xs.length),j<i->q xs[j]=true):KeptI q xs xs i (i+1):=by
 refine⟨rfl,?_,rfl,U,U⟩;rw[lS av,q5,oc (by simp[h1]),zj,eX];refine(ni.2 λa bj=>?_).symm;obtain⟨t,aN,rfl⟩:=sD.1 bj;rw[gw]at aN;rw[getElem_take];exact h2 t U U
def at'(h:KeptI q xs ys i j)(a:j<xs.length):ys[j]'(by rw[h.len];exact a)=xs[j]:=by
 have h1:=cV head? h.av;rw[head?_drop,head?_drop,gb a,gb (by rw[h.len];exact a)]at h1;exact h7 h1
def skip(h:KeptI q xs ys i j)(a:j<xs.length)(h1:q xs[j]=false):KeptI q xs ys i (j+1):=by
 refine⟨h.len,?_,?_,by have:=h.lt;omega,a⟩
 .rw[h.bm,lS a,q5,oc (by simp[h1]),zj,eX]
 rw[<-mr,<-mr,h.av]
def keep(h:KeptI q xs ys i j)(a:j<xs.length)(h1:q xs[j]=true):KeptI q xs (ys.set i xs[j]) (i+1) (j+1):=by
 have b:=h.lt;have av:i<ys.length:=by rw[h.len];omega
 refine⟨by rw[qa];exact h.len,?_,?_,U,a⟩
 .rw[lS (by rw[qa];exact av),zm,take_set_of_le (c9 i),h.bm,lS a,q5,q6 h1,zj]
 rw[drop_set_of_lt U,<-mr,<-mr,h.av]
def done(h:KeptI q xs ys i xs.length):ys.take i=xs.filter q:=by rw[h.bm,nk]
def count(h:KeptI q xs ys i xs.length):(xs.filter q).length=i:=by
 rw[<-h.done,gw,h.len]
 have:=h.lt
 omega
end KeptI
end
def CA(x:aC):(aC.bt x).length=9:=rfl
def Kp:∀ x:aC,∀ v∈aC.bt x,v.oneCell'=true:=λx v aX=>rK [x] v (by rw[vr];exact aX)
def OD:SWO (ltOf λa b:aC=>eC a.k b.k):=by
 have h:∀ a b:aC,ltOf (λa b:aC=>eC a.k b.k) a b=true↔kl a.k b.k:=λa b=>by
  exact decide_eq_true_iff.trans (kL a.k b.k)
 have d:∀ a b:aC,ltOf (λa b:aC=>eC a.k b.k) a b=false↔¬ kl a.k b.k:=λa b=>by rw[<-h,C0]
 refine⟨λx=>(d _ _).2 (oR x.k),λx y z h1 h2=>(h _ _).2 (qH ((h _ _).1 h1) ((h _ _).1 h2)),λx y z h1 h2=>?_⟩;have h2:=(d _ _).1 h2;refine(d _ _).2 λc=>?_;rcases vJ x.k y.k with e|e|e
 .exact((d _ _).1 h1) e
 .rw[e]at c;exact h2 c
 rcases vJ y.k z.k with f|f|f
 .exact h2 f
 .rw[f]at e;exact oR _ (qH e c)
 exact oR _ (qH (qH c f) e)
def NS{xs ys:ah aC}(ar:xs.Perm ys)(h1:fg xs)(h2:fg ys):xs=ys:=by
 induction xs generalizing ys with
 | nil=>exact(nil_perm.1 ar).symm
 | cons a l i=>
  cases ys with
  | nil=>exact absurd ar.length_eq (by simp)
  | cons b m=>
   have⟨c,d⟩:=jP.1 h1;have⟨bP,g⟩:=jP.1 h2;have h:a=b:=by
    rcases e3.1 (ar.mem_iff.1 (oh))with e|e
    .exact e
    rcases e3.1 (ar.mem_iff.2 (oh))with f|f
    .exact f.symm
    exact absurd (qH (c b f) (bP a e)) (oR _)
   subst h;rw[i (Perm.cons_inv ar) d g]
def WS{ys:List aC}{d:Array aC}(hd:ys.Pairwise λa b=>a.k≠b.k)(ar:PermIn 0 ys.toArray.size ys.toArray d)(ax:SortedIn (ltOf λa b:aC=>eC a.k b.k) 0 ys.toArray.size d):d.toList.Perm ys/\fg d.toList:=by
 have f:d.size=ys.length:=by simpa using ar.1
 have m:d.toList.Perm ys:=by
  have h:=ar.2.2;rw[show ys.toArray.size=d.size by simpa using f.symm,KX]at h;rw[show d.size=ys.toArray.size by simpa using f,KX]at h;simpa using h
 refine⟨m,?_⟩;have g:=hd.perm m.symm (λh=>hJ h);unfold fg;rw[sE]at g⊢;intro i j av c l;have h1:=ax i j (c' _) l (by simpa[f]using c);have h2:=g i j av c l;have o:i<d.size:=by simpa using av
 have p:j<d.size:=by simpa using c
 rw[jb d i o,jb d j p]at h1;have n:¬ kl d[j].k d[i].k:=λh=>by
  exact DC h1 ((kL _ _).2 h)
 simp only[Array.getElem_toList]at h2⊢;rcases vJ d[i].k d[j].k with e|e|e
 .exact e
 .exact absurd e h2
 exact absurd e n
def PN{base:J}{v:aw}(ys:List aC)(c:w.ownsRow base 45 9 v ys.length (bX ys))(au:ys.length<=4096)(hd:ys.Pairwise λa b=>a.k≠b.k):az 72 #[v,.func (.func 47) #[] #[]] w λe w'=>e=aV #[]/\∃ ch:List aC,ch.Perm ys/\fg ch/\w'.ownsRow base 45 9 v ch.length (bX ch)/\Keeps (λj=>v.ownBlock=some j) w w':=by
 by_cases aX:v=ao none 0 0
 .subst aX;have⟨A,cap,s,_,_⟩:=cP c;have o:ys=[]:=by
   injection s with _ h2 _
   exact jn.1 h2.symm
  subst o;refine br (PM _ w) ?_;exact⟨rfl,[],ze _,Pairwise.nil,c,Keeps.refl _ _⟩
 obtain⟨g,cap,rfl,aj,t,p⟩:=Rv (enc:=aC.bt) CA ys c rfl aX
 have h:=AnyQ.slices_SortFunc (P:=prog) (ρ:=Gd) PV 9 isAgg45 sizeOf45 aC.bt CA Kp (λa b=>eC a.k b.k) OD 47 #[] g 0 cap ys.toArray w (enters_of func47 aH rfl)
  (λm os z _ x y=>(Sm x y _).mono λr aB ⟨h1,q,u,h2⟩=>⟨h1,q,u,h2⟩) p t bU
 refine(h.mono ?_);rintro e aB ⟨rfl,d,n,os,ar,ax,rfl⟩;obtain⟨l,bj⟩:=WS hd ar ax;have i:=l.length_eq;have f:=TN (enc:=aC.bt) (k:=9) (q:=n) (os:=os) CA c i;refine⟨rfl,d.toList,l,bj,by rw[i];exact f.1,?_⟩
 have:Keeps (λj=>j=g) w (sortWorldK aC.bt 9 w g 0 n d os):=f.2
 exact this.mono λj _ e=>by rw[e];rfl
def HL{b db hb:J}{m c3:aa}{aR:aY}{L:List aC}(hd:w.heap[b]?=some (ae #[I m,.map (some db),.map (some hb),I c3,.bool aR] 118 (0,0)))(d:RMap w l8 db (h_ L))(bj:fg L)(f:L.length<=1000):az 23 #[b] w λe w'=>∃ v,e=.returned v/\w'.ownsRow w.heap.size 45 9 v L.length (bX L)/\Keeps aG w w':=by
 have d1:=aP hd;have C:=d.lt;have g:Keeps aG w (w.alloc (ae #[.map (some db)] 115)):=(Keeps.refl _ w).alloc _;have q:∀ (m:J) (W:ai),az 46 #[.map (some m)] W λe w'=>e=.returned (.func (.func 73) #[] #[W.heap.size])/\W.alloc (ae #[.map (some m)] 115)=w':=by
  intro m W
  go_in
  go_wp2;go_ret;exact⟨rfl,rfl⟩
 have D:(w.alloc (ae #[.map (some db)] 115)).heap.size=w.heap.size+1:=aI;have p:=d.keeps g id;have s:s8 prog 73 #[w.heap.size] (λe:aC=>#[.agg (dU e)]) (λ_ pre x _=>x∈L/\pre.length<L.length) (λys _=>ys.Perm L) (λk=>k=(w.alloc (ae #[.map (some db)] 115)).heap.size\/(w.alloc (ae #[.map (some db)] 115)).heap.size+3<k) (λk=>k=(w.alloc (ae #[.map (some db)] 115)).heap.size+3) ((w.alloc (ae #[.map (some db)] 115)).alloc (ae #[ao none 0 0] 66)):=by
  have i:=(a_ (w.alloc (ae #[.map (some db)] 115))).alloc (ae #[ao none 0 0] 66);have h:=S3 (p.keeps i id) (i.cell (bb (k:=0) (aW w (ae #[.map (some db)] 115)) rfl) id) (λk=>k=(w.alloc (ae #[.map (some db)] 115)).heap.size\/(w.alloc (ae #[.map (some db)] 115)).heap.size+3<k) ⟨U,aI⟩;have e:((w.alloc (ae #[.map (some db)] 115)).alloc (ae #[ao none 0 0] 66)).heap.size+2=(w.alloc (ae #[.map (some db)] 115)).heap.size+3:=aI;rw[e]at h;exact h
 have n:=Pw 73 #[w.heap.size] (enters_of func73 aH rfl) f s;have j:=af (Au d.pz);generalize B:w.alloc (ae #[.map (some db)] 115)=bl at *;have aU:az 71 #[.func (.func 73) #[] #[w.heap.size]] bl λe w'=>∃ v ys,e=.returned v/\ys.Perm L/\w'.ownsRow (bl.heap.size+4) 45 9 v ys.length (bX ys)/\Keeps aG bl w':=by
  go_in
  go_wp2_with fail;refine n.mono ?_;rintro e an ⟨v,ys,rfl,ar,a,hk⟩;have c:=b8 ar (bD a hk);obtain⟨A,cap,rfl,_,_⟩:=cP a;go_wp2;go_ret;exact⟨_,ys,rfl,c.o⟩
 have al:az 45 #[.func (.func 73) #[] #[w.heap.size],.func (.func 47) #[] #[]] bl λe w'=>∃ v,e=.returned v/\w'.ownsRow (bl.heap.size+4) 45 9 v L.length (bX L)/\Keeps aG bl w':=by
  go_in
  go_wp2_with fail;refine aU.mono ?_;rintro e an ⟨v,ys,rfl,ar,a,hk⟩;have u:ys.length<=4096:=by rw[ar.length_eq];have:=f;omega
  have c:=b8 ar (bD a hk);obtain⟨A,cap,rfl,_,_⟩:=cP a;go_wp2_with fail;refine aT ((PN ys a u (j.out.perm ar.symm (λh=>hJ h)))) ?_;rintro aB ⟨ch,z,r,y,t⟩;obtain rfl:=NS (z.trans c.out.1) r bj;have l:=b8 y (cK c.out.2.2 t (λk hk e=>by have:=(c.out.2.1.lt k e).1;omega));go_wp2;go_ret;exact⟨_,rfl,l.o⟩
 go_in
 go_wp2_with fail;refine br (q _ _) ?_;rw[B];go_wp2_with fail;refine al.mono ?_;rintro e aB ⟨v,rfl,a,hk⟩;have c:=b8 a hk;obtain⟨A,cap,rfl,_,_⟩:=cP a;go_wp2;go_ret;exact⟨_,rfl,kr c.o.1 U,g.trans c.o.2⟩
def PB{base:J}{v:aw}{xs:ah aC}(h:w.ownsRow base 45 9 v xs.length (bX xs))(au:xs.length<=1000)(p:aC->aY)(g:J)(lb:a6 aw)(n:∀ args w,(callFunc g args).run prog w=.ok (.enter g args) w)(ar:zW g lb p w):az 339 #[v,.func (.func g) #[] lb] w λe w'=>Below w w w'/\((e=.returned (I (-1))/\∀ x∈xs,p x=false)\/∃ i,∃ av:i<xs.length,e=.returned (I i)/\p xs[i]=true/\∀ j (k:j<xs.length),j<i->p xs[j]=false):=by
 rcases h.2 with⟨rfl,q⟩|⟨b,cap,D,rfl,a1,aR,aq,hm,ax,aN⟩
 .obtain rfl:=jn.1 q;clear ar h
  go_in
  exact Ea
 obtain⟨A,C,s,aX,_⟩:=cP h;cases s;refine(AnyQ.slices_IndexFunc (P:=prog) (ρ:=AD) {Ga with} 9 isAgg45 sizeOf45 aC.bt (λ_=>rfl) p g lb n b 0 xs.length cap xs w ar bA U (bR aR) (λj k i u m=>?_)).mono ?_
 .have av:i<9:=by
   have:=(hf.1 m).1
   exact this
  have⟨B,o,e,r⟩:=aX.at' U;cases e;rw[show 0+j*9+i=0+(j*9+i)by omega];refine r (j*9+i) u ?_;rw[th xs j k i av]
  rwa [jb xs j k]at m
 rintro e w' ⟨rfl,h2⟩;rw[nk];refine⟨h2,?_⟩;rcases idxByFrom_spec (λ_ y=>p y) default xs 0 with⟨a,l⟩|⟨f,d,a,aN,l⟩
 .refine .inl ⟨D_,λx c=>?_⟩;obtain⟨t,aN,rfl⟩:=sD.1 c
  have:=l t aN
  rwa [jb xs t aN]at this
 refine .inr ⟨f,d,D3,DV,λj k z=>?_⟩
 have:=l j z
 rwa [jb xs j k]at this
def VI(W:ai):(zeroValue 45).run prog W=.ok (aM z9) W:=aH
def Nx(w:ai)(base:J)(v:aw)(ys:ah aC)(e:Ending)(w':ai):ak:=
 ∃ v',e=.returned v'/\w'.ownsRow base 45 9 v' ys.length (bX ys)/\Keeps (λj=>v.ownBlock=some j) w w'/\v'.ownBlock=v.ownBlock
def Pz{base:J}{v:aw}{xs:ah aC}(h:w.ownsRow base 45 9 v xs.length (bX xs))(au:xs.length<=1000)(p:aC->aY)(g:J)(lb:a6 aw)(v':∀ args w,(callFunc g args).run prog w=.ok (.enter g args) w)(ar:∀ W,Keeps (λj=>v.ownBlock=some j) w W->∀ x:aC,Calls prog g (#[.agg x.bt.toArray]++lb) W λe W'=>e=.returned (.bool (p x))/\Below W W W'):az 340 #[v,.func (.func g) #[] lb] w (Nx w base v (xs.filter λx=>!p x)):=by
 have a':=PB h au p g lb v' (λW x aj=>(ar W (Keeps.bE aj a7) x).mono λ_ _ h=>⟨h.1,aj.trans (h.2.mono aj.size)⟩);have F:=af a';have s':=af ar;have sd:=af h;clear a' ar;rcases h.2 with⟨rfl,Z⟩|⟨r,cap,Y5,rfl,a1,aR,aq,hm,ax,aN⟩
 .obtain rfl:=jn.1 Z;clear h Z au
  go_in
  exact Mr
 have CW:=bR aR;clear a1 aR hm ax aN h
 go_in
 go_wp2_with fail;refine F.out.mono ?_;rintro e an ⟨aj,h1⟩;have A:Keeps (λj=>(ao (some (ad r 0 ab)) xs.length cap).ownBlock=some j) w an:=Keeps.bE aj a7;have B:=b3 sd.out (Keeps.bE (S:=aG) aj a7) (λ_ _=>id);clear aj F;rcases h1 with⟨rfl,q⟩|⟨K,zd,rfl,l',q⟩
 .exact MD
 have c:KeptI (λx=>!p x) xs xs K (K+1):=KeptI.start zd (by simp[l']) (λj z zp=>by simp[q j z zp]);have St:((K:aa) == -1)=false:=er.2 U;have m:=af (bD c (bD B A));clear l' q c B A;go_wp2_with fail;go_loopg [5,6,7] xs.length (λgl V' iH _ wr=>∃ (i j:J) (ys:ah aC),V'=I i/\iH=I j/\xs.length-j<=gl/\KeptI (λx=>!p x) xs ys i j/\wr.ownsRow base 45 9 (ao (some (ad r 0 ab)) xs.length cap) xs.length (bX ys)/\Keeps (λj=>(ao (some (ad r 0 ab)) xs.length cap).ownBlock=some j) w wr)
 case atStart=>exact⟨K,K+1,xs,rfl,by go_num,U,m.o⟩
 obtain⟨i,j,ys,rfl,rfl,Y6,a,G,H⟩:=hrel;have Y7:=a.lt;have Y8:=a.le;have T':=a.len;clear m St;by_cases t:j<xs.length
 .have f:=nW (P:=prog) (enc:=aC.bt) (λ_=>rfl) isAgg45 sizeOf45 G j U;rw[a.at' t]at f;have dF:=qP wr;have O:=aW wr (ae z9 45);obtain⟨c,Y9,m'⟩:=dO (wr.alloc (ae z9 45)) 45 9 wr.heap.size (dU xs[j]) _ sizeOf45 rfl rfl O (vn xs[j]);have N:=fe (wr.alloc (ae z9 45)) wr.heap.size _ (dU xs[j]) 45 O;have R:=cK ((a_ wr).alloc (ae z9 45)) m' a7;generalize (wr.alloc (ae z9 45)).setRow wr.heap.size (dU xs[j])=Y2 at *;have V:=H.trans (R.mono λ_ _ x=>x.elim);have fr:=b3 G R (λ_ _=>id);have Q:=s'.out Y2 V xs[j];have n:=gq (P:=prog) 45 9 wr.heap.size 0 (dU xs[j]) _ _ isAgg45 sizeOf45 rfl N (λj u z=>jS);have Y_:=lT CW H.size;have Q':(j:aa)<(xs.length:aa):=U;have M:=af a;have vl:=af N;have l:=af (bD V fr);clear a G H O m' R V fr N;obtain⟨y,X⟩:∃ y,y=xs[j]:=⟨_,rfl⟩;rw[<-X]at f c n Q;have D:=af Q;have E:=af X;clear X Q;cases s:p y with
  | false=>
   go_wp2_with first|refine dm f rfl rfl rfl ?_|refine ea dF rfl rfl ?_|refine c8 c rfl rfl rfl rfl ?_|(go_at_fn g;refine D.out.mono ?_;rintro e Y ⟨rfl,k⟩;rw[s];have b:=Keeps.bE (S:=aG) k a7;have g':=b.heap vl.out id;have gf:=b3 l.out.2 b (λ_ _=>id);obtain⟨Y3,Tq,C,L⟩:=yA (P:=prog) (enc:=aC.bt) (λ_=>rfl) Kp sizeOf45 gf i U y;have Aw:=gq (P:=prog) 45 9 wr.heap.size 0 (dU y) _ _ isAgg45 sizeOf45 rfl g' (λj u z=>D4);have d:=af (bD C ((l.out.1.trans (b.mono λ_ _ x=>x.elim)).trans (L.mono λ_ _ x=>uT)));clear C L gf g' b k)|refine dm Aw rfl rfl rfl ?_|refine dm n rfl rfl rfl ?_|refine c8 Tq rfl rfl rfl rfl ?_
   exact Eb
  | true=>
   exact DN
 obtain rfl:j=xs.length:=U;have Q':¬ (xs.length:aa)<(xs.length:aa):=U;obtain⟨Y3,w',C,L⟩:=yz (P:=prog) (TS:=66) (enc:=aC.bt) (λ_=>rfl) underlying66 VI rfl bq G i U T';have ps:=H.trans (L.mono (T:=λj=>(ao (some (ad r 0 ab)) xs.length cap).ownBlock=some j) λ_ _ x=>uT);have h2:=a.done;have hd:=a.count;rw[h2]at C;have d:=af (bD C (bD ps hd));clear C ps hd h2 a G H;go_wp2_with refine wm (w' _ _) rfl rfl rfl ?_
 go_ret;exact⟨_,rfl,D5,d.o.2.1,rfl⟩
section
open Go.RowKit Go.Shelf Go.Maps
variable{w w':ai}
structure cH where
 most:aa
 bd:ah aC
 b2:aa->ah aC
 aS:aa
 hd:aY
structure dE where
 b:J
 db:J
 hb:J
 M:ah (aa×aw)
def mI(B:dE)(s:cH):a6 aw:=#[I s.most,.map (some B.db),.map (some B.hb),I s.aS,.bool s.hd]
def xc(w:ai)(M:ah (aa×aw))(T:aa->ah aC):ak:=
 ∀ x,match hU M x with
  | some v=>w.ownsRow 0 45 9 v (T x).length (bX (T x))
  | none=>T x=[]
structure IsLd(w:ai)(B:dE)(s:cH):ak where
 fZ:w.heap[B.b]?=some (ae (mI B s) 118 (0,0))
 bd:RMap w l8 B.db (h_ s.bd)
 ef:fg s.bd
 n:(s.bd.length:aa)<=s.most/\s.most<=256
 b2:RMap w rR B.hb B.M/\xc w B.M s.b2/\∀ p∈B.M,0<=p.1/\p.1<=1000000
 bg:∀ x,eH x (s.b2 x)
 ne:B.db≠B.hb
 c3:-1<=s.aS/\s.aS<=1000000
def po(w:ai)(B:dE)(j:J):ak:=j≠B.b/\j≠B.db/\j≠B.hb/\∀ a,w.heap[j]?≠some (ae a 45 (0,0))
def Ir{base n:J}{v:aw}{l:ah aw}(h:w.ownsRow base 45 9 v n l){j:J}(b:v.ownBlock=some j):∃ a,w.heap[j]?=some (ae a 45 (0,0)):=by
 rcases h.2 with⟨rfl,_⟩|⟨g,cap,a,rfl,_,aR,_⟩
 .cases b
 cases b;exact⟨a,aR⟩
def Cp{M:ah (aa×aw)}{T:aa->ah aC}{S:J->ak}(h:xc w M T)(hk:Keeps S w w')(al:∀ j,S j->∀ b,w.heap[j]?≠some (ae b 45 (0,0))):xc w' M T:=by
 intro x;have a:=h x;cases c:hU M x with
 | none=>rw[c]at a;exact a
 | some v=>
  rw[c]at a;exact b3 a hk λj d ax=>by
   obtain⟨b,aq⟩:=Ir a d;exact al j ax b aq
def mS{P:Program}{k:TypeId}{dw:Type}{C:k_ P k dw}{b:J}{M:ah (dw×aw)}(h:RMap w C b M)(a:a6 aw)(t:TypeId)(z:J×J):w.heap[b]?≠some (ae a t z):=by
 have⟨es,⟨d,c,aj,_⟩,_⟩:=h.own;rw[aj];simp
namespace IsLd
variable{B:dE}{s:cH}
def keep{T:J->ak}(h:IsLd w B s)(hk:Keeps T w w')(a:∀ j,T j->po w B j):IsLd w' B s:=by
 obtain⟨h1,h2,b⟩:=h.b2;exact⟨hk.heap h.fZ λe=>(a _ e).1 rfl,h.bd.keeps hk λe=>(a _ e).2.1 rfl,h.ef,h.n,⟨h1.keeps hk λe=>(a _ e).2.2.1 rfl,Cp h2 hk λj c=>(a j c).2.2.2,b⟩,h.bg,h.ne,h.c3⟩
def ki(h:IsLd w B s)(hk:Keeps aG w w'):IsLd w' B s:=h.keep hk λ_ e=>e.elim
def E'(h:IsLd w B s):B.b≠B.db:=λe=>mS h.bd _ _ _ (e▸h.fZ)
def Fa(h:IsLd w B s):B.b≠B.hb:=λe=>by
 exact mS h.b2.1 _ _ _ (e▸h.fZ)
def cy(h:IsLd w B s):s.bd.length<=256:=by have:=h.n;omega
def JB{s':cH}(h:IsLd w B s)(k:w'.heap[B.b]?=some (ae (mI B s') 118 (0,0)))(hk:Keeps (λj=>j=B.b) w w')(a:s'.bd=s.bd)(c:s'.b2=s.b2)(d:s'.most=s.most)(f:-1<=s'.aS/\s'.aS<=1000000):IsLd w' B s':=by
 have⟨h1,h2,g⟩:=h.b2;refine⟨k,by rw[a];exact h.bd.keeps hk λe=>h.E' e.symm,by rw[a];exact h.ef,by rw[a,d];exact h.n,⟨h1.keeps hk λe=>h.Fa e.symm,?_,g⟩,by rw[c];exact h.bg,h.ne,f⟩;rw[c];refine Cp h2 hk λj i l aq=>?_;subst i;rw[h.fZ]at aq;simp only[hi,wy]at aq;exact absurd aq.2.1 bq
def B'{L:ah aC}(h:IsLd w B s)(b:RMap w' l8 B.db (h_ L))(hk:Keeps (λj=>j=B.db) w w')(bj:fg L)(au:(L.length:aa)<=s.most):IsLd w' B {s with bd:=L}:=by
 have⟨h1,h2,a⟩:=h.b2;refine⟨hk.heap h.fZ λe=>h.E' e,b,bj,⟨au,h.n.2⟩,⟨h1.keeps hk λe=>h.ne e.symm,?_,a⟩,h.bg,h.ne,h.c3⟩;refine Cp h2 hk λj c d aq=>?_;subst c;exact mS h.bd _ _ _ aq
theorem JD{M:ah (aa×aw)}{T:aa->ah aC}(h:IsLd w B s)(a:RMap w' rR B.hb M)(hk:Keeps (λj=>j=B.hb) w w')(b:xc w' M T)(c:∀ p∈M,0<=p.1/\p.1<=1000000)(ar:∀ x,eH x (T x)):IsLd w' {B with M:=M} {s with b2:=T}:=
 ⟨hk.heap h.fZ λe=>h.Fa e,h.bd.keeps hk λe=>h.ne e,h.ef,h.n,⟨a,b,c⟩,ar,h.ne,h.c3⟩
def _root_.Go.Proofs.YtalagblioepadaaGreatDoor.dE.S(B:dE)(j:Nat):Prop:=j=B.b\/j=B.db\/j=B.hb\/∃ p∈B.M,p.2.ownBlock=some j
theorem keeps{T:J->ak}(h:IsLd w B s)(hk:Keeps T w w')(a:∀ j,B.S j->¬ T j):IsLd w' B s:=by
 obtain⟨h1,h2,d⟩:=h.b2;refine⟨hk.heap h.fZ (a _ (.inl rfl)),h.bd.keeps hk (a _ (.inr (.inl rfl))),h.ef,h.n,⟨h1.keeps hk (a _ (.inr (.inr (.inl rfl)))),λx=>?_,d⟩,h.bg,h.ne,h.c3⟩;have b:=h2 x;cases c:hU B.M x with
 | none=>rw[c]at b;exact b
 | some v=>
  rw[c]at b;refine b3 b hk λj e=>a j (.inr (.inr (.inr ?_)));obtain⟨p,ar,rfl⟩:=Option.map_eq_some_iff.1 c;exact⟨p,zo ar,e⟩
def row(h:IsLd w B s){p:aa×aw}(ar:p∈B.M):w.ownsRow 0 45 9 p.2 (s.b2 p.1).length (bX (s.b2 p.1)):=by
 have a:=h.b2.2.1 p.1;rw[h.b2.1.AI ar]at a;exact a
theorem lt(h:IsLd w B s){j:J}(a:B.S j):j<w.heap.size:=by
 rcases a with e|e|e|⟨p,ar,e⟩
 .rw[e];exact bR h.fZ
 .rw[e];exact h.bd.lt
 .rw[e];exact h.b2.1.lt
 exact((h.row ar).lt j e).2
end IsLd
def gA(L:ah aC)(f:aa):ah aC:=L.filter λe=>!decide (e.k.fr≠f)
def Sq(e:aC)(f:aa)(B:J)(b:w.cell? (ad B 0 ab)=some (I f)):az 341 #[aM e,B] w λr w'=>r=.returned (.bool (decide (e.k.fr≠f)))/\Below w w w':=by
 have ca:=(bY w.heap.size w).alloc bA (ae e 45);have c:=aW w (ae e 45);have d:B<w.heap.size:=mq w (ad B 0 ab) b;have hd:(e.k.fr != f)=decide (e.k.fr≠f):=by by_cases h:e.k.fr=f<;>simp[h]
 have a:=af hd
 go_in
 exact Lk
def Sr{B:dE}{s:cH}(h:IsLd w B s)(f:aa):az 317 #[B.b,I f] w λe w'=>∃ v,e=.returned v/\w'.ownsRow w.heap.size 45 9 v (gA s.bd f).length (bX (gA s.bd f))/\Keeps aG w w':=by
 have l:Keeps aG w (w.alloc (ae #[I f] 3)):=(Keeps.refl _ w).alloc _;have h1:=h.ki l;have C:(w.alloc (ae #[I f] 3)).heap.size=w.heap.size+1:=aI;have au:=h.cy;have q:=af (HL h1.fZ h1.bd h1.ef U);have p:=af (bb (k:=0) (aW w (ae #[I f] 3)) rfl)
 go_in
 go_wp2_with fail;generalize w.alloc (ae #[I f] 3)=an at *;refine q.o.mono ?_;rintro e aB ⟨v,rfl,a,hk⟩;have z:∀ j,v.ownBlock=some j->j≠w.heap.size:=λj c e=>by have:=(a.lt j c).1;omega
 have g:=(Pz a U (λe=>decide (e.k.fr≠f)) 341 #[w.heap.size] (enters_of func341 aH rfl) (λW r x=>Sq x f w.heap.size (r.cell (hk.cell p.out id) (λe=>z _ e rfl))));rw[show(s.bd.filter λx=>!decide (x.k.fr≠f))=gA s.bd f from rfl]at g;have t:∀ j,v.ownBlock=some j->an.heap.size<=j:=λj c=>(a.lt j c).1;obtain⟨A,cap,rfl,_,_⟩:=cP a;have d:=b8 t hk;go_wp2_with fail;refine g.mono ?_;rintro e bn ⟨v',rfl,i,u,_⟩;have y:=l.trans (cK d.out.2 u (λk hk e=>by have:=d.out.1 k e;omega));have n:=b8 (kr i (show w.heap.size<=an.heap.size by omega)) y;obtain⟨cA,m,rfl,_,_⟩:=cP i;go_wp2;go_ret;exact⟨ao cA _ m,rfl,n.o⟩
end
def Ss(e:aC)(f:aa)(B:J)(b:w.cell? (ad B 0 ab)=some (I f)):az 314 #[aM e,B] w λr w'=>r=.returned (.bool (decide (e.k.fr≠f)))/\Below w w w':=by
 have ca:=(bY w.heap.size w).alloc bA (ae e 45);have c:=aW w (ae e 45);have d:B<w.heap.size:=mq w (ad B 0 ab) b;have hd:(e.k.fr != f)=decide (e.k.fr≠f):=by by_cases h:e.k.fr=f<;>simp[h]
 have a:=af hd
 go_in
 exact Lk
def Sn{B:dE}{s:cH}(h:IsLd w B s)(aR:s.hd=false){fr now:aa}{xs:ah aC}{base:J}{v:aw}(aX:w.ownsRow base 45 9 v xs.length (bX xs))(ar:eH fr xs)(au:fr<=now/\now<=1000000)(aq:s.aS<fr):az 273 #[B.b,aM #[I fr,v],I now] w λe w'=>e=.returned (I 0)/\Keeps aG w w':=by
 have i:Keeps aG w (w.alloc (ae #[I fr,v] 271)):=(Keeps.refl _ w).alloc _;have l:=b3 aX i (λ_ _=>id);have j:=aW w (ae #[I fr,v] 271);have c:=i.heap h.fZ id;unfold mI at c;rw[aR]at c;have n:=aP c;have D:=aP j;have r:xs.any (λe=>decide (e.k.fr≠fr))=false:=by
  rw[zf];intro e u;simp[(ar.2.2 e u).2]
 have a:=b8 j (bD c i);have m:=af ar.2.1;obtain⟨A,cap,rfl,_,_⟩:=cP aX
 go_in
 go_wp2_with fail;generalize w.alloc _=an at *;refine aT (PI ar l) λaB f=>?_;have C:=b3 l f (λ_ _=>id);have d:=f.heap a.o.1 id;have aU:=AB C (by have:=m.o;omega) (λe=>decide (e.k.fr≠fr)) 314 #[w.heap.size] (enters_of func314 aH rfl) (λW x aj=>(Ss x fr w.heap.size (by have:=mq aB (ad w 0 ab) (bb (k:=0) d rfl);exact(aj.cell (p:=ad w 0 ab) this).trans (bb (k:=0) d rfl))).mono λ_ _ h=>⟨h.1,aj.trans (h.2.mono aj.size)⟩);rw[r]at aU;have E:=aP d;go_wp2_with fail;refine aT aU λbn t=>?_;have g:=f.trans (Keeps.bE (S:=aG) t a7);have q:=g.heap a.o.1 id;have z:=g.heap a.o.2.1 id;have n:=aP z;have D:=aP q;go_wp2;go_quiet (fail);have y:=(a.o.2.2.trans g).drewN nq;go_wp2;go_ret;exact⟨rfl,y⟩
def y2{P:Program}{o:Oper}{a:Act}{Q:Exit->Act->ai->ak}{ops:a6 Oper}{rest:ah Oper}{w w':ai}{v p:aw}{T:TypeId}{x:Operand}(hrun:(Instr.loadAt T p).run P w=.ok v w')(c:Region.wanted o (yielded ops a.tmps)=true)(b:o.op=.load T x)(d:a.eval x=p)(h:wpList P ops Q rest (a.put o.dst v) w'):wpList P ops Q (o :: rest) a w:=by
 unfold wpList;rw[aD c];exact .inl (KO b d hrun h)
def GY:prog.eqGuardType prog.depth 43=false:=aH
def GW:prog.eqGuardType prog.depth 45=false:=aH
def tv{t:TypeId}(a1:prog.eqGuardType prog.depth t=false)(x y:Operand)(c d:a6 aw)(w:ai):(eqGuard .eql t x y (.agg c) (.agg d)).run prog w=.ok () w:=by
 simp[hz,h5,go_sem,a1]
def uo{P:Program}{o:Oper}{a:Act}{Q:Exit->Act->ai->ak}{ops:a6 Oper}{rest:ah Oper}{w w':ai}{v c d:aw}{T e:TypeId}{x y:Operand}{b:BinOp}(a1:(eqGuard b T x y c d).run P w=.ok () w)(hrun:(binOp b T c d).run P w=.ok v w')(g:Region.wanted o (yielded ops a.tmps)=true)(f:o.op=.binOp b T x y e)(i:a.eval x=c)(j:a.eval y=d)(h:wpList P ops Q rest (a.put o.dst v) w'):wpList P ops Q (o :: rest) a w:=by
 unfold wpList;rw[aD g];refine .inl ?_;unfold Oper.wp execOp;simp only[f,i,j,hz,a1,hrun,hg,h5];exact h
def Av(a b:dp)(w:ai):(binOp .eql 43 (aM a) (aM b)).run prog w=.ok (.bool (decide (a=b))) w:=by
 have h:decide (a=b)=(a.fr == b.fr&&(a.em == b.em&&(a.bN == b.bN&&a.cp == b.cp))):=by
  have⟨c,d,e,f⟩:=a;have⟨bP,g,i,j⟩:=b;rw[y5];simp
 rw[h];simp[go_sem]
 repeat' split
 all_goals simp_all
def F5(e o:aC)(w:ai):(binOp .eql 45 (aM e) (aM o)).run prog w=.ok (.bool (decide (e=o))) w:=by
 have h:decide (e=o)=(e.k.fr == o.k.fr&&(e.k.em == o.k.em&&(e.k.bN == o.k.bN&&(e.k.cp == o.k.cp&&(e.cF == o.cF&&(e.dq == o.dq&&(e.eo == o.eo&&(e.dJ == o.dJ&&e.le == o.le)))))))):=by
  have⟨⟨a,b,c,d⟩,f,g,i,j,l⟩:=e;have⟨⟨bP,m,n,p⟩,q,r,s,t,u⟩:=o;rw[y5];simp[and_assoc]
 rw[h];simp[go_sem]
 repeat' split
 all_goals simp_all
def Sp(e o:aC)(w:ai):az 319 #[aM e,aM o] w λr w'=>r=.returned (.bool (e.cF == o.cF&&e.le == o.le))/\Below w w w':=by
 have ca:=((bY w.heap.size w).alloc bA (ae e 45)).alloc aI (ae o 45);have b:(w.alloc (ae e 45)).heap.size=w.heap.size+1:=aI;have c:=cm (aW w (ae e 45)) (ae o 45);have a:=aW (w.alloc (ae e 45)) (ae o 45);rw[b]at a;cases h1:(e.cF == o.cF)with
 | false=>
  go_in
  exact Ln
 | true=>
  go_in
  exact Ln
def uf(o e:aC):aY:=decide (e.k=o.k)&&(e.cF == o.cF&&e.le == o.le)
def Sv(e o:aC)(B:J)(c:w.heap[B]?=some (ae o 45 (0,0))):az 318 #[aM e,B] w λr w'=>r=.returned (.bool (uf o e))/\Below w w w':=by
 have ca:=(bY w.heap.size w).alloc bA (ae e 45);have f:=aW w (ae e 45);have g:=aP (cm c (ae e 45));have a:=af (Av e.k o.k);have d:uf o e=(decide (e.k=o.k)&&(e.cF == o.cF&&e.le == o.le)):=rfl;have b:=af d;cases hd:decide (e.k=o.k)with
 | false=>
  rw[hd]at a
  go_in
  go_wp2_with refine uo (tv GY _ _ _ _ _) (a.out _) uL rfl rfl rfl ?_
  generalize w.alloc (ae e 45)=an at *;go_ret;exact⟨by rw[b.out,hd];rfl,ca⟩
 | true=>
  rw[hd]at a
  go_in
  go_wp2_with refine uo (tv GY _ _ _ _ _) (a.out _) uL rfl rfl rfl ?_
  generalize w.alloc (ae e 45)=an at *;refine aT (Sp e o an) λaB aj=>?_;generalize (e.cF == o.cF&&e.le == o.le)=r at *;go_wp2;go_ret;exact⟨by rw[b.out,hd];rfl,(ca.trans (aj.mono ca.size))⟩
structure cg where
 bN:aa
 cn:aC
 dz:aa
 pl:aY
deriving DecidableEq
def di(c:cg):a6 aw:=#[I c.bN,I c.cn.k.fr,I c.cn.k.em,I c.cn.k.bN,I c.cn.k.cp,I c.cn.cF,I c.cn.dq,I c.cn.eo,I c.cn.dJ,I c.cn.le,I c.dz,.bool c.pl]
def cg.bt(c:cg):ah aw:=(di c).toList
def eA(l:ah cg):ah aw:=l.flatMap cg.bt
def rz(c:cg):(di c).toList.all (λv=>v.oneCell')=true:=rfl
def OB:∀ c:cg,∀ v∈c.bt,v.oneCell'=true:=λc=>ff.1 (rz c)
def OA(l:ah cg)(c:cg):eA (l++[c])=eA l++(di c).toList:=by simp[eA,cg.bt]
def Ja(e:aC)(w:ai):(Instr.build 47 #[(0,I 3),(1,.agg (dU e))]).run prog w=.ok (.agg (di ⟨3,e,0,false⟩)) w:=aH
def Vu(e:aC)(w:ai):(Instr.build 47 #[(0,I 2),(1,.agg (dU e))]).run prog w=.ok (.agg (di ⟨2,e,0,false⟩)) w:=aH
def Vt(e:aC)(n:aa)(w:ai):(Instr.build 47 #[(0,I 1),(1,.agg (dU e)),(2,I n)]).run prog w=.ok (.agg (di ⟨1,e,n,false⟩)) w:=aH
def Vp(e:aC)(p:aY)(w:ai):(Instr.build 47 #[(0,I 4),(1,.agg (dU e)),(3,.bool p)]).run prog w=.ok (.agg (di ⟨4,e,0,p⟩)) w:=aH
def yD(c:cg)(W:ai):(Instr.buildSlice 32 1 #[(0,.agg (di c))]).run prog W=.ok (ao (some (ad W 0 ab)) 1 1) (W.alloc (ae (di c) 47)):=aH
def Hn:∃ i z,prog.info? 47=some i/\i.zero=some z/\i.size=12/\i.bytes=96/\z.cells.size=12:=by
 have h:(prog.info? 47).map (λi=>(i.zero.map λz=>z.cells.size,i.size,i.bytes))=some (some 12,12,96):=aH;cases aR:prog.info? 47 with
 | none=>rw[aR]at h;cases h
 | some i=>
  rw[aR]at h;simp only[pb,hi,jq]at h;cases a:i.zero with
  | none=>rw[a]at h;cases h.1
  | some z=>rw[a]at h;exact⟨i,z,rfl,a,h.2.1,h.2.2,by simpa using h.1⟩
def xm{base:J}{v:aw}{cs:ah cg}(ty:TypeId)(g:w.ownsRow base 47 12 v cs.length (eA cs))(au:cs.length<=10000)(aj:base<=w.heap.size)(c:cg):∃ v' an,(Builtin.append_ #[32,32] ty #[v,ao (some (ad w 0 ab)) 1 1]).run prog (w.alloc (ae (di c) 47))=.ok v' an/\an.ownsRow base 47 12 v' (cs++[c]).length (eA (cs++[c]))/\Keeps (λj=>v.ownBlock=some j) w an/\(∃ A n cap,v'=ao A n cap):=by
 have⟨i,z,av,k,h1,h2,d⟩:=Hn
 obtain⟨v',an,h,b,a1,_,_⟩:=wA (P:=prog) (w.alloc (ae (di c) 47)) base 32 ty 47 i z 12 96 underlying32 av k h1 h2 d bq v cs.length (eA cs) (g.alloc _) (ad w 0 ab) 1 1 (di c).toList rfl
  (λj u a=>by
   rw[hN,gv];exact bb (aW w (ae (di c) 47)) zP) (OB c) jR U bU
 refine⟨v',an,h,?_,((Keeps.refl _ w).alloc _).grown a1 (λj e=>.inl e),?_⟩
 .rw[OA,cx,iM];exact b
 have⟨A,cap,f,_⟩:=cP b;exact⟨A,_,cap,f⟩
section
variable{P:Program}{o:Oper}{a:Act}{Q:Exit->Act->ai->ak}{ops:a6 Oper}{rest:ah Oper}{v:aw}
def wk{t:TypeId}{x y:Operand}{b c:aw}(hrun:(Builtin.append_ #[t,t] o.type #[b,c]).run P w=.ok v w')(a1:o.guard=none)(e:o.op=Op.call {callee:=Callee.builtin Builtin.append,args:=#[x,y],argTypes:=#[t,t]})(f:a.eval x=b)(g:a.eval y=c)(h:wpList P ops Q rest (a.put o.dst v) w'):wpList P ops Q (o :: rest) a w:=by
 refine nh a1 λi d=>?_;unfold Oper.wp;simp[execOp,e,resolve,invoke,builtin,f,g,hrun,Result.andThen];exact d _ _ h
def y0{t:TypeId}{n:J}{x:Operand}{u:aw}(hrun:(Instr.buildSlice t n #[(0,u)]).run P w=.ok v w')(a1:o.guard=none)(c:o.op=.buildSlice t n #[(0,x)])(d:a.eval x=u)(h:wpList P ops Q rest (a.put o.dst v) w'):wpList P ops Q (o :: rest) a w:=by
 refine nh a1 λe b=>?_;unfold Oper.wp execOp;simp only[c,map_toArray,jo,k6,d,hz,hrun,hg,h5];exact b _ _ h
end
section
variable{P:Program}{o:Oper}{a:Act}{K:Act->ai->ak}{Q:Exit->Act->ai->ak}
def KN{t b:TypeId}{m x:Operand}{bh key:aw}(c:o.op=Op.call {callee:=Callee.builtin Builtin.delete,args:=#[m,x],argTypes:=#[t,b]})(hm:a.eval m=bh)(d:a.eval x=key)(hrun:(Builtin.delete_ #[t,b] o.type #[bh,key]).run P w=.ok (aV #[]) w')(h:K (a.put o.dst (aV #[])) w'):o.wp P a w K Q:=by
 unfold Oper.wp;simp[execOp,c,resolve,invoke,builtin,hm,d,hrun,Result.andThen];exact h
end
def stays(xs:ah aC)(o:aC):aY:=xs.any (uf o)
def gy(xs ys:ah aC):ah aC:=ys.filter λo=>!stays xs o
def ix(xs ys:ah aC):ah cg:=(gy xs ys).map λo=>⟨3,o,0,false⟩
def hS(L G:ah aC):ah aC:=L.filter λe=>!decide (∃ g∈G,g.k=e.k)
def O'(L:ah aC):hS L []=L:=by
 exact ni.2 λ_ _=>aI
def Pc(L G:ah aC)(o:aC):hS L (G++[o])=hS (hS L G) [o]:=by
 unfold hS;rw[filter_filter];refine wD λe _=>?_;rw[y5];simp only[nd,sJ,ee,ft,h6];constructor
 .intro h;exact⟨λ⟨g,h1,h2⟩=>h ⟨g,.inr h1,h2⟩,λ⟨g,h1,h2⟩=>h ⟨g,.inl h1,h2⟩⟩
 rintro⟨h1,h2⟩ ⟨g,a|a,b⟩
 .exact h2 ⟨g,a,b⟩
 exact h1 ⟨g,a,b⟩
def Pb(L:ah aC)(o:aC):kM (h_ L) o.k=h_ (hS L [o]):=by
 unfold kM h_ hS;rw[q7]
 congr 1
 refine wD λe _=>?_;simp[eq_comm]
def rG(L G:ah aC):(hS L G).Sublist L:=Dl
def vm{L:ah aC}(h:fg L)(G:ah aC):fg (hS L G):=h.sublist (rG L G)
def G4(xs pre:ah aC)(o:aC):gy xs (pre++[o])=gy xs pre++(if stays xs o then []else [o]):=by
 unfold gy;rw[q5];cases h:stays xs o<;>simp[h]
def IsLd.J5{B:dE}{s:cH}(h:IsLd w B s)(o:aC)(b:ht o.k=true)(ty:TypeId):∃ w',(Builtin.delete_ #[115,43] ty #[.map (some B.db),aM o.k]).run prog w=.ok (aV #[]) w'/\IsLd w' B {s with bd:=hS s.bd [o]}/\Keeps (λj=>j=B.db) w w':=by
 have⟨w',h1,h2,a⟩:=h.bd.drop qE (x:=o.k) b underlying115 ty;rw[Pb]at h2;refine⟨w',h1,h.B' h2 a (vm h.ef _) ?_,a⟩
 have:=(rG s.bd [o]).length_le
 have:=h.n
 omega
def tb(w:ai)(e:aC):∃ w',(Instr.storeAt 45 w.heap.size (.agg (dU e))).run prog (w.alloc (ae z9 45))=.ok () w'/\w'.heap[w.heap.size]?=some (ae (dU e) 45 (0,0))/\Keeps aG w w'/\w'.heap.size=w.heap.size+1:=by
 have a:=aW w (ae z9 45);obtain⟨c,d,b⟩:=dO (w.alloc (ae z9 45)) 45 9 w.heap.size (dU e) _ sizeOf45 rfl rfl a (vn e);refine⟨_,c,fe (w.alloc (ae z9 45)) w.heap.size _ (dU e) 45 a,cK ((a_ w).alloc (ae z9 45)) b a7,?_⟩;simp[World.setRow]
theorem jG{b:J}{e:aC}(h:w.heap[b]?=some (ae (dU e) 45 (0,0))):(Instr.loadAt 45 b).run prog w=.ok (.agg (dU e)) w:=
 gq (P:=prog) 45 9 b 0 (dU e) _ _ isAgg45 sizeOf45 rfl h (λj u z=>jS)
structure nu(w:ai)(B:dE)(s:cH)(xs ys:ah aC)(fr:aa)(v v2:aw)(pre:ah aC)(cw:aw)(W:ai):ak where
 out:W.ownsRow (w.heap.size+1) 47 12 cw (ix xs pre).length (eA (ix xs pre))
 ld:IsLd W B {s with bd:=hS s.bd (gy xs pre)}
 cv:Keeps (λj=>j=B.db) w W
 bg:W.heap[w.heap.size]?=some (ae #[I fr,v] 271 (0,0))
 rx:∃ base,W.ownsRow base 45 9 v xs.length (bX xs)
 tY:W.ownsRow (w.heap.size+1) 45 9 v2 ys.length (bX ys)
 cD:w.heap.size+1<=W.heap.size
def nu.keep{B:dE}{s:cH}{xs ys:ah aC}{fr:aa}{v v2:aw}{pre:ah aC}{cw:aw}{W W':ai}(h:nu w B s xs ys fr v v2 pre cw W)(hk:Keeps aG W W'):nu w B s xs ys fr v v2 pre cw W':=by
 have⟨base,a⟩:=h.rx;exact⟨b3 h.out hk (λ_ _=>id),h.ld.ki hk,h.cv.trans (hk.mono λ_ _ x=>x.elim),hk.heap h.bg id,⟨base,b3 a hk (λ_ _=>id)⟩,b3 h.tY hk (λ_ _=>id),b7 h.cD hk.size⟩
def mb{base n k:J}{T:TypeId}{v:aw}{l:ah aw}{P:Program}{c:TypeId}{dw:Type}{C:k_ P c dw}{b:J}{M:ah (dw×aw)}(h:w.ownsRow base T k v n l)(hm:RMap w C b M){j:J}(a:v.ownBlock=some j):j≠b:=by
 rcases h.2 with⟨rfl,_⟩|⟨g,cap,d,rfl,_,aR,_⟩
 .cases a
 cases a;intro e;subst e;exact mS hm _ _ _ aR
def IsLd.free{B:dE}{s:cH}(h:IsLd w B s){j:J}{c:a6 aw}{T:TypeId}{z:J×J}(a:w.heap[j]?=some (ae c T z))(h1:T≠45)(h2:T≠118):po w B j:=by
 refine⟨λe=>?_,λe=>?_,λe=>?_,λbs aq=>?_⟩
 .subst e;have b:=h.fZ;rw[a]at b;simp only[hi,wy]at b;exact h2 b.2.1
 .subst e;exact mS h.bd _ _ _ a
 .subst e;exact mS h.b2.1 _ _ _ a
 rw[a]at aq;simp only[hi,wy]at aq;exact h1 aq.2.1
def IsLd.qC{B:dE}{s:cH}(h:IsLd w B s){base n k:J}{T:TypeId}{v:aw}{l:ah aw}(b:w.ownsRow base T k v n l)(h1:T≠45)(h2:T≠118){j:J}(a:v.ownBlock=some j):po w B j:=by
 rcases b.2 with⟨rfl,_⟩|⟨g,cap,c,rfl,_,aR,_⟩
 .cases a
 cases a;exact h.free aR h1 h2
def nu.skip{B:dE}{s:cH}{xs ys:ah aC}{fr:aa}{v v2:aw}{pre:ah aC}{cw:aw}{W:ai}(h:nu w B s xs ys fr v v2 pre cw W){o:aC}(b:stays xs o=true):nu w B s xs ys fr v v2 (pre++[o]) cw W:=by
 have e:gy xs (pre++[o])=gy xs pre:=by rw[G4,b];simp
 have a:ix xs (pre++[o])=ix xs pre:=by unfold ix;rw[e]
 exact⟨by rw[a];exact h.out,by rw[e];exact h.ld,h.cv,h.bg,h.rx,h.tY,h.cD⟩
def nu.step{B:dE}{s:cH}{xs ys:ah aC}{fr:aa}{v v2:aw}{pre:ah aC}{cw:aw}{W:ai}(h:nu w B s xs ys fr v v2 pre cw W){o:aC}(D:stays xs o=false)(G:ht o.k=true)(au:pre.length<=256)(ty u:TypeId):∃ b f g,(Builtin.delete_ #[115,43] ty #[.map (some B.db),aM o.k]).run prog W=.ok (aV #[]) b/\Keeps (λj=>j=B.db) W b/\
   (Builtin.append_ #[32,32] u #[cw,ao (some (ad b 0 ab)) 1 1]).run prog (b.alloc (ae (di ⟨3,o,0,false⟩) 47))=.ok f g/\(∃ A n cap,f=ao A n cap)/\nu w B s xs ys fr v v2 (pre++[o]) f g:=by
 have⟨b,z,m,c⟩:=h.ld.J5 o G ty;have e:gy xs (pre++[o])=gy xs pre++[o]:=by rw[G4,D];simp
 have x:ix xs (pre++[o])=ix xs pre++[⟨3,o,0,false⟩]:=by unfold ix;rw[e,jO];rfl
 have i:=h.ld.bd;have F:w.heap.size≠B.db:=λe=>mS i _ _ _ (e▸h.bg);have⟨base,q⟩:=h.rx;have l:=b3 h.out c (λj a e=>mb h.out i a e);have K:(ix xs pre).length<=256:=by
  have:=mv (λo=>!stays xs o) pre
  unfold ix gy;rw[hh];omega
 have L:=c.size;have⟨f,g,y,E,d,H⟩:=xm u l U (by have:=h.cD;omega) ⟨3,o,0,false⟩;refine⟨b,f,g,z,c,y,H,?_⟩;have p:∀ j,cw.ownBlock=some j->w.heap.size+1<=j:=λj a=>(h.out.lt j a).1;have C:∀ j,cw.ownBlock=some j->po b B j:=λj a=>m.qC l bq bq a;have r:=b3 q c (λj a e=>mb q i a e);have t:=b3 h.tY c (λj a e=>mb h.tY i a e);refine⟨by rw[x];exact E,by rw[e,Pc];exact m.keep d C,cK (h.cv.trans c) d (λj a e=>by have:=p j e;omega),d.heap (c.heap h.bg F) (λe=>by have:=p _ e;omega),⟨base,b3 r d (λj a e=>tL l r bq e a)⟩,b3 t d (λj a e=>tL l t bq e a),by have:=h.cD;have:=d.size;omega⟩
def oY{base n cap k:J}{T:TypeId}{A:b4 Addr}{l:ah aw}(h:w.ownsRow base T k (ao A n cap) n l)(au:0<n):∃ g,A=some (ad g 0 ab):=by
 rcases h.2 with⟨e,b⟩|⟨g,bs,a,e,_⟩
 .omega
 cases e;exact⟨g,rfl⟩
def Ej(w:ai)(B:dE)(s:cH)(xs:ah aC)(fr:aa)(e:Ending)(w':ai):ak:=
 ∃ cw,e=.returned cw/\w'.ownsRow w.heap.size 47 12 cw (ix xs (gA s.bd fr)).length (eA (ix xs (gA s.bd fr)))/\IsLd w' B {s with bd:=hS s.bd (gy xs (gA s.bd fr))}/\Keeps (λj=>j=B.db) w w'
def Sl{B:dE}{s:cH}(h:IsLd w B s){fr:aa}{xs:ah aC}{base:J}{v:aw}(aX:w.ownsRow base 45 9 v xs.length (bX xs))(au:xs.length<=1000)(lb:∀ e∈s.bd,ht e.k=true):az 274 #[B.b,aM #[I fr,v]] w (Ej w B s xs fr):=by
 have u:Keeps aG w (w.alloc (ae #[I fr,v] 271)):=(Keeps.refl _ w).alloc _;have r':=b3 aX u (λ_ _=>id);have F:=aW w (ae #[I fr,v] 271);have h1:=h.ki u;have Zd:(w.alloc (ae #[I fr,v] 271)).heap.size=w.heap.size+1:=aI;have Y7:=aP F;have E:=af (Sr h1 fr);have Y6:(gA s.bd fr).length<=256:=b7 (mv _ _) h.cy;have l':∀ o∈gA s.bd fr,ht o.k=true:=λo Y5=>lb o (fR.1 Y5).1;have f:=b8 h1 (bD r' (bD F (bD u (bD l' au))));have Tq:=af (h.bd.lt);obtain⟨ys,t⟩:=cQ (gA s.bd fr);obtain⟨A,cap,rfl,_,_⟩:=cP aX;have hd:∀ e w',Ej w B s xs fr e w'↔(∃ cw,e=.returned cw/\w'.ownsRow w.heap.size 47 12 cw (ix xs ys).length (eA (ix xs ys))/\IsLd w' B {s with bd:=hS s.bd (gy xs ys)}/\Keeps (λj=>j=B.db) w w'):=λe w'=>by rw[t];rfl
 have Q':=af hd;rw[<-t]at E Y6;have St:=af t;clear h h1 aX r' F u l' au lb t hd
 go_in
 go_wp2_with fail;generalize w.alloc _=an at *;clear Y7;refine E.o.mono ?_;rintro e aB ⟨v2,rfl,K,l⟩;have O:nu w B s xs ys fr (ao A xs.length cap) v2 [] (ao none 0 0) aB:=by
  refine⟨gB _ _ _ _,?_,(f.out.2.2.2.1.trans l).mono (λ_ _ x=>x.elim),l.heap f.out.2.2.1 id,⟨base,b3 f.out.2.1 l (λ_ _=>id)⟩,kr K U,by have:=l.size;omega⟩;have e:gy xs []=[]:=rfl;rw[e,O'];exact f.out.1.ki l
 obtain⟨zd,TS,rfl,_,_⟩:=cP K;have M:=af O;clear K l O E;go_wp2_with fail;go_loopg [5,14] ys.length (λg cw z wr=>∃ pre rest:ah aC,ys=pre++rest/\g=rest.length/\z=I pre.length/\(∃ A n cap,cw=ao A n cap)/\nu w B s xs ys fr (ao A xs.length cap) (ao zd ys.length TS) pre cw wr)
 case atStart=>exact⟨[],ys,rfl,rfl,rfl,⟨_,_,_,rfl⟩,M.o⟩
 obtain⟨pre,rest,c,a1,rfl,⟨zp,no,co,rfl⟩,d⟩:=hrel;clear M;cases rest with
 | nil=>
  have Zb:¬ (pre.length:aa)<(ys.length:aa):=by rw[c];simp
  have vl:ys=pre:=by rw[c,eX]
  have C:=af d;have Hx:=af vl;clear c vl d;go_wp2_with fail;go_ret;refine(Q'.out _ _).2 ⟨ao zp no co,rfl,?_⟩;rw[Hx.o];exact⟨kr C.o.out U,C.o.ld,C.o.cv⟩
 | cons o rest=>
  have Y4:pre.length<ys.length:=by rw[c];simp
  have Zc:(pre.length:aa)<(ys.length:aa):=U;have Y:ys[pre.length]=o:=by simp[c]
  have h2:ht o.k=true:=f.out.2.2.2.2.1 o (by rw[<-St.out,c];simp);have g':pre.length<=256:=U;have s':ys=(pre++[o])++rest:=by rw[c];simp
  have W':=a1;simp only[dr]at W';have Zf:=d.cD;clear a1;obtain⟨Zg,rfl⟩:=oY d.tY U;have H:=nW (P:=prog) (enc:=aC.bt) (λ_=>rfl) isAgg45 sizeOf45 d.tY pre.length Y4;rw[Y]at H;have dF:=qP wr;obtain⟨Zh,m',p,Z,Ze⟩:=tb wr o;have r:=d.keep Z;obtain⟨bM,sd⟩:=r.rx;have Y2:=jG p;have Y8:=aP r.bg;have aU:=AB sd f.out.2.2.2.2.2 (uf o) 318 #[wr.heap.size] (enters_of func318 aH rfl) (λW x aj=>(Sv x o wr.heap.size ((aj.block wr.heap.size U).trans p)).mono λ_ _ h=>⟨h.1,aj.trans (h.2.mono aj.size)⟩);have L:=af aU;have D:=b8 r p;have m:=b8 s' (bD h2 g');clear d c Y h2 g' s' r sd aU p Y2 Z;go_wp2_with first|refine dm H rfl rfl rfl ?_|refine ea dF rfl rfl ?_|refine c8 m' rfl rfl rfl rfl ?_
  refine aT L.o λy V=>?_;have G:=Keeps.bE (S:=aG) V a7;have i:=D.o.1.keep G;have q:=G.heap D.o.2 id;have ps:xs.any (uf o)=stays xs o:=rfl;rw[ps];clear V G L D Y8 ps m' dF H;cases ax:stays xs o with
  | true=>
   have Aw:=af (i.skip ax);clear i q;go_wp2_with fail;go_roundg rest.length
   case measure=>omega
   exact⟨pre++[o],rest,m.out.1,rfl,qg,⟨_,_,_,rfl⟩,Aw.o⟩
  | false=>
   have R:=i.keep (a_ y).drew;obtain⟨v',Y',Zj,V',a',T,⟨Za,n7,c6,rfl⟩,Q⟩:=R.step ax m.out.2.1 m.out.2.2 0 32;have N:=a'.heap (a:=y.drew) q (λe=>by have:=Tq.out;have:=i.cD;omega);have Y3:=jG N;have T':=Ja o;have X:=yD ⟨3,o,0,false⟩ v';have gf:=i.ld.fZ;have Y9:=ie (S:=aG) (w:=y.drew) gf id;have Y_:=ie (S:=aG) (w:=y.drew) q id;have CW:=af Q;clear i q R a' N gf Q;go_wp2_with fail;refine cB 7 ?_;refine fk (λ_=>False) (.range 6) [] 1 (hC ?_);refine cC (λ_=>True) [6] 0 1 ?_;refine oW 6 trivial (KN rfl rfl rfl V') ?_;simp only[Act.put];clear Y9 Y_;generalize v'.alloc (ae (di ⟨3,o,0,false⟩) 47)=Zi at T X;go_wp2_with first|((with_reducible refine dm Y3 rfl rfl ?_ ?_);exact rfl)|((with_reducible refine su (T' _) rfl rfl ?_ ?_ ?_);exact rfl;exact rfl)|((with_reducible refine y0 X rfl rfl ?_ ?_);exact rfl)|((with_reducible refine wk T rfl rfl ?_ ?_ ?_);exact rfl;exact rfl)
   go_roundg rest.length
   case measure=>omega
   exact⟨pre++[o],rest,m.out.1,rfl,qg,⟨_,_,_,rfl⟩,CW.o⟩
end Go.Proofs.YtalagblioepadaaGreatDoor
