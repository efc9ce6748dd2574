/- The proof, part 30. -/
import Derived.Test.YtalagblioepadaaGreatDoorZc20
import Derived.Test.YtalagblioepadaaGreatDoorZc18
import Derived.Test.YtalagblioepadaaGreatDoorZc12
namespace Go.Proofs.YtalagblioepadaaGreatDoor
set_option linter.all false
open Proofs.Tryz List Go.RowKit
set_option maxRecDepth 100000
set_option maxHeartbeats 1600000
def MT{p:ak}(h:p:=by
 go_wp2;go_quiet ((go_at_call 49;first|(with_reducible exact Calls.quiet_of (nc (a.o _)))|(with_reducible exact iK (nc (a.o _)))|(with_reducible exact Calls.quiet_of (nc (d.o _)))|(with_reducible exact iK (nc (d.o _)))));go_wp2;go_ret;exact⟨rfl,_,rfl⟩
 ):p:=h
def Ni{p:ak}(h:p:=by
 rintro aC ⟨q,rfl⟩;go_wp2_with fail;go_roundw
 case rel=>exact⟨k+1,U,by go_num,i,j,a.drew q,MD,x⟩
 simp[intOf];omega
 ):p:=h
section
def hE(v:J->aa)(b:aY):a6 ax:=(bn v).push (.bool b)
def uw(v:J->aa)(b:aY):(hE v b).size=61:=by simp[hE,eg]
def Xw(v:J->aa)(b:aY)(j:J)(a:j<60):(hE v b)[j]?=(bn v)[j]?:=by
 rw[hE,pz,az (by rw[eg];omega)]
def Xx(v:J->aa)(b:aY):(hE v b)[60]?=some (.bool b):=by
 rw[hE,pz,aD (by rw[eg])]
def gA(S:ah ((J->aa)×aY)):ah ax:=S.flatMap λp=>(hE p.1 p.2).toList
def wv(S:ah ((J->aa)×aY)):(gA S).length=S.length*61:=by
 induction S with
 | nil=>rfl
 | cons c S a=>
  simp only[gA,iS,cx,ds]at a⊢;rw[a,pA,uw];omega
def wu(S:ah ((J->aa)×aY))(i:J)(h:i<S.length)(j:J)(d:j<61):(gA S)[i*61+j]?=(hE S[i].1 S[i].2)[j]?:=by
 induction S generalizing i with
 | nil=>exact absurd h (lp _)
 | cons c S b=>
  simp only[gA,iS]at b⊢;have a:(hE c.1 c.2).toList.length=61:=by rw[pA,uw]
  cases i with
  | zero=>
   rw[w6,gC,jU U];simp
  | succ i=>
   rw[l3 (by rw[a,jX];omega),a,show(i+1)*61+j-61=i*61+j by rw[jX];omega];exact b i ik
def Wv(S:ah ((J->aa)×aY))(i:J)(h:i<S.length):(gA S)[i*61+60]?=some (.bool S[i].2):=by
 rw[wu S i h 60 U,Xx]
def Ww(S:ah ((J->aa)×aY))(i:J)(h:i<S.length)(x:(J->aa))(b:aY):e0 (gA S).toArray (i*61) (hE x b)=(gA (S.set i (x,b))).toArray:=by
 have av:(gA S).toArray.size=S.length*61:=by rw[gW,wv]
 have aw:i*61+61<=S.length*61:=by have:=sV 61 h;rw[jX]at this;omega
 apply py;intro m;rw[so _ _ _ (by rw[uw,av];exact aw),uw];have e:=pr m 61;have hm:=e2 m (show 0<61 by omega);have em:m / 61*61+m%61=m:=U;by_cases c:m / 61<S.length
 .have g1:=wu S (m / 61) c (m%61) hm;have a:=wu (S.set i (x,b)) (m / 61) Ad (m%61) hm;rw[em]at g1 a;rw[show(gA S).toArray[m]?=(gA S)[m]? from by simp,show(gA (S.set i (x,b))).toArray[m]?=(gA (S.set i (x,b)))[m]? from by simp,g1,a];by_cases al:m / 61=i
  .rw[aD U];subst al;rw[zI]
   congr 1
   omega
  rw[az U,w1 U]
 rw[az U,show(gA S).toArray[m]?=(gA S)[m]? from by simp,show(gA (S.set i (x,b))).toArray[m]?=(gA (S.set i (x,b)))[m]? from by simp,sN (by rw[wv];omega),sN (by rw[wv,qp];omega)]
structure SWinAt(w:ai)(r B size first:J)(S:ah ((J->aa)×aY)):ak where
 head:w.heap[r]?=some (ae #[I first,aq (some (ad B 0 ab)) size size] 233 (0,0))
 body:w.heap[B]?=some (ae (gA S).toArray 237 (0,0))
 fG:S.length=size
 pos:0<size
 most:size<=4096
 fst:first<=1073741824
 ne:r≠B
namespace SWinAt
variable{w w':ai}{r B size first:J}{S:ah ((J->aa)×aY)}
theorem keeps{T:J->ak}(h:SWinAt w r B size first S)(hk:Keeps T w w')(h1:¬ T r)(h2:¬ T B):SWinAt w' r B size first S:=
 ⟨hk.heap h.head h1,hk.heap h.body h2,h.fG,h.pos,h.most,h.fst,h.ne⟩
def drew(h:SWinAt w r B size first S)(n:J):SWinAt (w.drewN n) r B size first S:=⟨h.head,h.body,h.fG,h.pos,h.most,h.fst,h.ne⟩
def bt(h:SWinAt w r B size first S):w.cell? (ad r 0 ab)=some (I first):=bb h.head rfl
def bY(h:SWinAt w r B size first S):w.cell? (ad r 1 ab)=some (aq (some (ad B 0 ab)) size size):=bb h.head rfl
end SWinAt
section
variable{w w':ai}{r B size first:J}{S:ah ((J->aa)×aY)}
def JP(h:SWinAt w r B size first S)(f:aa)(a:¬ fc first size f)(j:-9223372036854775808<=f/\f<=9223372036854775807):aA 126 #[r,I f] w λe w'=>e=.returned (.pointer none)/\∃ q,w'=w.drewN q:=by
 have bt:=h.bt;have bY:=h.bY;have bO:=h.fst;have g:=h.most;unfold fc at a;by_cases h1:f<first
 .clear a
  go_in
  exact uU
 by_cases h2:f<first+size
 .have i:1073741824<f:=U;have b:f-first<size:=U
  have c:(first:aa)<=f:=U;have d:IntKind.i64.wrap (f-first)=f-first:=ev _ U
  clear a
  go_in
  exact uU
 have b:(size:aa)<=f-first:=U
 have c:(first:aa)<=f:=U;have d:IntKind.i64.wrap (f-first)=f-first:=ev _ U
 clear a
 go_in
 go_wp2;go_quiet (fail);go_wp2;go_ret;exact⟨rfl,_,rfl⟩
def y1(h:SWinAt w r B size first S)(n k:J)(f:aa)(a:f=n)(b:fc first size f)(hk:n%size=k):aA 126 #[r,I f] w λe w'=>e=.returned (.pointer (some (ad B (k*61) ab)))/\∃ q,w'=w.drewN q:=by
 have bt:=h.bt;have bY:=h.bY;have bO:=h.fst;have c:=h.most;have⟨h1,h2,g⟩:=b;have i:f-first<size:=U
 have l:IntKind.i64.wrap (f-first)=f-first:=ev _ U
 have j:k<size:=hk▸e2 _ h.pos;have aO:f.tmod (size:aa)=(k:aa):=by
  rw[a,oA U,<-hk];simp
 have m:((size:aa) == 0)=false:=by have:=h.pos;rw[eu];omega
 have d:0<=f:=U;clear hk a
 go_in
 go_wp2;go_quiet (fail);go_wp2;go_quiet (fail);go_wp2;go_ret;exact⟨rfl,_,by rw[Dw]⟩
end
end
section
variable{w w':ai}{r B size first:J}{S:ah ((J->aa)×aY)}
def n9(v:J->aa):∀ u∈(bn v).toList,u.oneCell'=true:=by
 intro u a;simp only[bn,e3]at a;obtain⟨j,_,rfl⟩:=a;rfl
def Xy(v:J->aa)(b:aY):∀ u∈(hE v b).toList,u.oneCell'=true:=by
 intro u a;simp only[hE,Array.toList_push,e5,fL]at a;rcases a with a|rfl
 .exact n9 v u a
 rfl
def SWinAt.has(h:SWinAt w r B size first S){k:J}{x:J->aa}{b:aY}(hk:S[k]?=some (x,b)):w.cell? (ad B (k*61+60) ab)=some (.bool b):=by
 have⟨a,c⟩:=hp.1 hk;have h1:=Wv S k a;rw[c]at h1;exact bb h.body (by simpa using h1)
def SWinAt.load(h:SWinAt w r B size first S){k:J}{x:J->aa}{b:aY}(hk:S[k]?=some (x,b)):(Instr.loadAt 99 (.pointer (some (ad B (k*61) ab)))).run prog w=.ok (.agg (bn x)) w:=by
 have⟨d,e⟩:=hp.1 hk;refine gz (P:=prog) 99 60 B (k*61) (bn x) _ _ isAgg99 sizeOf99 (eg x) h.body (λj v a=>?_);have c:j<60:=by
  have:=(kf.1 a).1
  rw[eg]at this;exact this
 have h1:=wu S k d j U;rw[e,Xw x b j c,a]at h1;simpa using h1
theorem SWinAt.wB(h:SWinAt w r B size first S)(k:J)(hk:k<S.length)(x:J->aa)(b:aY):SWinAt (w.setRow B (e0 (gA S).toArray (k*61) (hE x b))) r B size first (S.set k (x,b)):=
 ⟨(iG w B _).heap h.head h.ne,by rw[Ww S k hk];exact fl w B _ _ _ h.body,by simpa using h.fG,h.pos,h.most,h.fst,h.ne⟩
def SWinAt.store(h:SWinAt w r B size first S)(k:J)(hk:k<S.length)(x:J->aa)(b:aY):(Instr.storeAt 237 (.pointer (some (ad B (k*61) ab))) (.agg (hE x b))).run prog w=.ok () (w.setRow B (e0 (gA S).toArray (k*61) (hE x b))):=by
 have av:(gA S).toArray.size=S.length*61:=by rw[gW,wv]
 exact q8 (P:=prog) 237 61 B (k*61) (hE x b) _ _ sizeOf237 (uw x b) h.body U (Xy x b)
def cf:J->aa:=λ_=>0
def lV(w:ai):(Instr.alloc 99 true (aV #[])).run prog w=.ok w.heap.size (w.alloc (ae (bn cf) 99)):=aH
theorem n4{w:ai}{b:J}{v:J->aa}{t:TypeId}(a:w.heap[b]?=some (ae (bn v) t (0,0))):(Instr.loadAt 99 b).run prog w=.ok (.agg (bn v)) w:=
 gz (P:=prog) 99 60 b 0 (bn v) _ _ isAgg99 sizeOf99 (eg v) a (λj u z=>jZ)
def yB(v:J->aa):(bn v).toList.all (λu=>u.oneCell')=true:=fg.2 (n9 v)
structure xl(w w':ai):ak where
 res:w'.heap[w.heap.size]?=some (ae (bn cf) 99 (0,0))
 none:w'.heap[w.heap.size+1]?=some (ae (bn cf) 99 (0,0))
 keep:Keeps aI w w'
def FN(w:ai):xl w ((w.alloc (ae (bn cf) 99)).alloc (ae (bn cf) 99)):=by
 refine⟨cm (aX w _) _,?_,((Keeps.refl _ w).alloc _).alloc _⟩
 have:=aX (w.alloc (ae (bn cf) 99)) (ae (bn cf) 99)
 rwa [fK]at this
def xl.keeps{w ao aC:ai}(h:xl w ao)(hk:Keeps aI ao aC):xl w aC:=⟨hk.heap h.res id,hk.heap h.none id,h.keep.trans hk⟩
def Wz(h:SWinAt w r B size first S)(f:aa)(g:¬ fc first size f)(k:-9223372036854775808<=f/\f<=9223372036854775807):aA 271 #[r,I f] w λe w'=>e=aV #[.agg (bn cf),false]/\Keeps aI w w':=by
 have d:=lV w;have b:=lV (w.alloc (ae (bn cf) 99));have m:(w.alloc (ae (bn cf) 99)).heap.size=w.heap.size+1:=fK _ _;have aj:=FN w;rw[m]at b;generalize (w.alloc (ae (bn cf) 99)).alloc (ae (bn cf) 99)=ao at *;generalize w.alloc (ae (bn cf) 99)=bk at *
 go_in
 go_wp2_with first|refine d_ d rfl rfl ?_|refine d_ b rfl rfl ?_
 refine aU ((JP (h.keeps aj.keep id id) f g k)) ?_;rintro aC ⟨q,c⟩;have a:=aj.keeps (show Keeps aI ao aC by rw[c];exact(Keeps.refl _ _).drewN q);obtain⟨l,j,i⟩:=dP aC 99 60 w.heap.size (bn cf) (bn cf) sizeOf99 (eg _) (eg _) a.res (yB _);generalize aC.setRow w.heap.size (bn cf)=bm at *;clear c;go_wp2_with first|refine dp (n4 a.none) rfl rfl rfl ?_|refine c8 l rfl rfl rfl rfl ?_
 refine dq (v:=aV #[.agg (bn cf),false]) j ?_;exact⟨rfl,cL a.keep i a7⟩
def JO(h:SWinAt w r B size first S)(n k:J)(f:aa)(y:f=n)(u:fc first size f)(hk:n%size=k)(x:J->aa)(b:aY)(an:S[k]?=some (x,b)):aA 271 #[r,I f] w λe w'=>e=aV #[.agg (bn (if b then x else cf)),.bool b]/\Keeps aI w w':=by
 have t:=lV w;have i:=lV (w.alloc (ae (bn cf) 99));have z:(w.alloc (ae (bn cf) 99)).heap.size=w.heap.size+1:=fK _ _;have aj:=FN w;rw[z]at i;generalize (w.alloc (ae (bn cf) 99)).alloc (ae (bn cf) 99)=ao at *;have h1:=h.keeps aj.keep id id;have s:=af (y1 h1 n k f y u hk);generalize w.alloc (ae (bn cf) 99)=bk at *;have p:=af aj;have g:=af h1;clear u y hk aj z h h1;cases b with
 | false=>
  go_in
  go_wp2_with first|refine d_ t rfl rfl ?_|refine d_ i rfl rfl ?_
  refine aU s.out ?_;rintro aC ⟨q,d⟩;have a:Keeps aI ao aC:=by rw[d];exact(Keeps.refl _ _).drewN q
  have c:=p.out.keeps a;have s1:=(g.out.keeps a id id).has an;have l:=n4 c.none;obtain⟨o,m,j⟩:=dP aC 99 60 w.heap.size (bn cf) (bn cf) sizeOf99 (eg _) (eg _) c.res (yB _);generalize aC.setRow w.heap.size (bn cf)=bm at *;clear d a;go_wp2_with first|refine dp l rfl rfl rfl ?_|refine c8 o rfl rfl rfl rfl ?_
  refine dq (v:=aV #[.agg (bn cf),false]) m ?_;exact⟨rfl,cL c.keep j a7⟩
 | true=>
  go_in
  go_wp2_with first|refine d_ t rfl rfl ?_|refine d_ i rfl rfl ?_
  refine aU s.out ?_;rintro aC ⟨q,d⟩;have a:Keeps aI ao aC:=by rw[d];exact(Keeps.refl _ _).drewN q
  have c:=p.out.keeps a;have s1:=(g.out.keeps a id id).has an;have l:=(g.out.keeps a id id).load an;obtain⟨o,m,j⟩:=dP aC 99 60 w.heap.size (bn x) (bn cf) sizeOf99 (eg _) (eg _) c.res (yB _);generalize aC.setRow w.heap.size (bn x)=bm at *;clear d a;go_wp2_with first|refine dp l rfl rfl rfl ?_|refine c8 o rfl rfl rfl rfl ?_
  refine dq (v:=aV #[.agg (bn x),true]) m ?_;exact⟨rfl,cL c.keep j a7⟩
def Xo(z:a6 ax)(c:a6 ax)(b:z.size=61)(al:c.size=60):e0 (e0 z 0 c) 60 #[true]=c.push (.bool true):=by
 have h1:(e0 z 0 c).size=61:=by rw[wD _ _ _ U,b]
 apply py;intro k;rw[so _ _ _ (by simp[h1]),so _ _ _ U,pz];simp only[gW,ds,e_,gC,al];by_cases h2:k<60
 .rw[az U,aD U,az U];simp
 by_cases a:k=60
 .subst a;simp
 rw[az U,az U,az a,l0 U,l0 U]
def V1(c:a6 ax)(al:c.size=60)(w:ai):(Instr.build 237 #[(0,.agg c),(1,.bool true)]).run prog w=.ok (.agg (c.push (.bool true))) w:=by
 have u:=rp underlying237;have s2:=sizeOf4;unfold Instr.build;simp only[hG,(zeroValue237 w),hq,u];rw[show ∀ (g:a6 Field),g=#[{name:="x",type:=99,offset:=0,embedded:=false,tag:="",pkgPath:="promptbook/ring",byteOffset:=0},{name:="has",type:=4,offset:=60,embedded:=false,tag:="",pkgPath:="promptbook/ring",byteOffset:=352}]->Sem.run prog (Array.mapM (λf:Field=>do let k <-Go.sizeOf f.type;pure (f.offset,k)) g) w=.ok #[(0,60),(60,1)] w from λg aZ=>by subst aZ;simp[sizeOf99,s2]];rotate_left
 .rfl
 simp only[hq];generalize b:(Value.agg _).cells=fC;have a:fC.size=61:=by rw[<-b];rfl
 rw[GS _ _ 0 0 (.agg c) _ (by simp[Value.cells,al]) (by simp[Value.cells,al,a]),GS _ _ 1 60 (.bool true) _ (by simp[Value.cells]) (by rw[wD _ _ _ (by simp[Value.cells,al,a]),a];simp[Value.cells])];simp only[Instr.fill,ig];rw[show e0 (e0 fC 0 (Value.agg c).cells) 60 (Value.bool true).cells=c.push (.bool true)from Xo fC c a al]
def WB(h:SWinAt w r B size first S)(n k:J)(f:aa)(j:f=n)(g:fc first size f)(hk:n%size=k)(y:J->aa):aA 192 #[r,I f,.agg (bn y)] w λe w'=>e=.returned (I 0)/\SWinAt w' r B size first (S.set k (y,true))/\Keeps (λb=>b=B) w w':=by
 have i:Keeps aI w (w.alloc (ae (bn y) 99)):=(Keeps.refl _ w).alloc _;have d:=h.keeps i id id;have x:=af (y1 d n k f j g hk);have m:k<S.length:=by rw[h.fG,<-hk];exact e2 _ h.pos
 have h1:=g.1;have s:=af d;have t:=af (aX w (ae (bn y) 99));have u:=af i;clear h d i j g hk
 go_in
 go_wp2_with fail;refine aU x.o ?_;rintro ao ⟨q,p⟩;have c:Keeps aI (w.alloc (ae (bn y) 99)) ao:=by rw[p];exact(Keeps.refl _ _).drewN q
 have a:=s.out.keeps c id id;have l:=u.out.trans c;have bt:=a.bt;have z:=n4 (c.heap t.out id);have A:=a.store k m y true;have hfin:=(k2 l (S:=λb=>b=B)).trans (iG ao B (e0 (gA S).toArray (k*61) (hE y true)));have gw:=a.wB k m y true;generalize ao.setRow B (e0 (gA S).toArray (k*61) ((bn y).push (.bool true)))=aC at *;have v:=af gw;clear p c l gw a;go_wp2_with (first|(refine dp z rfl rfl rfl ?_)|(refine sG (V1 (bn y) (eg y) ao) rfl rfl rfl rfl ?_)|(refine c8 A rfl rfl rfl rfl ?_));go_ret;exact⟨rfl,v.o,hfin⟩
end
def Si:(prog.info? 237).map (λi=>(i.zero,i.size,i.bytes))=some (some (.agg (hE cf false)),61,360):=aH
def Wx(n:J):madeCells (Value.agg (hE cf false)).cells (n*61)=(gA (replicate n (cf,false))).toArray:=by
 apply py;intro m;by_cases hm:m<n*61
 .have a:m / 61<(replicate n (cf,false)).length:=bT;have h1:=wu (replicate n (cf,false)) (m / 61) a (m%61) (e2 m (show 0<61 by omega));simp only[getElem_replicate]at h1;rw[show m / 61*61+m%61=m by omega]at h1;rw[show(gA (replicate n (cf,false))).toArray[m]?=(gA (replicate n (cf,false)))[m]? from by simp,h1];simp only[Value.cells];have av:=uw cf false;unfold madeCells;simp[hm,av];rw[(sI (xs:=hE cf false) (i:=m%61) U),ji (hE cf false) (m%61) U]
 rw[l0 (by simp[madeCells];omega),l0 (by rw[gW,wv];simp;omega)]
def WA(size:J)(h1:1<=size)(h2:size<=4096)(w:ai):aA 190 #[I size,I 0] w λe w'=>e=aV #[.pointer (some (ad (w+1) 0 ab)),I 0]/\SWinAt w' (w.heap.size+1) w.heap.size size 0 (replicate size (cf,false))/\Below w w w'/\w'.heap.size=w.heap.size+2:=by
 have⟨h,aw,f,g,d⟩:=ny Si;have hd:decide (1<=(size:aa)/\(size:aa)<=4096)=true:=bT;have b:=run_make (P:=prog) w 231 237 h (.agg (hE cf false)) underlying231 aw f .i64 .i64 size size U (jw _) vd U;rw[g,rq,Wx]at b;have⟨Z,a⟩:=cO (replicate size (cf,false));have c:=af a;rw[<-a]at b;rw[<-a];clear a
 go_in
 go_wp2_with fail;refine bA (yU size w) ?_;rw[hd];go_wp2;go_ret2;refine⟨rfl,⟨?_,?_,by rw[c.o];simp,h1,h2,U,U⟩,((b3 _ w).alloc bs _).alloc aK _,aK⟩
 .have:=aX (w.alloc (ae (gA Z).toArray 237)) (ae #[I 0,aq (some (ad w 0 ab)) size size] 233)
  simpa using this
 have:=cm (aX w (ae (gA Z).toArray 237)) (ae #[I 0,aq (some (ad w 0 ab)) size size] 233)
 simpa using this
section
attribute [local go_sem] Oper.semAt_some
def p'(S:ah ((J->aa)×aY))(size f:J):aY:=decide (f<=1073741824)&&((S[f%size]?).map (·.2)).getD false
def jR(S:ah ((J->aa)×aY))(size first:J)(fr:aa)(k:J):ah J:=((range k).map (first+·)).filter λf=>decide (fr<=(f:aa))&&p' S size f
def Cr(S:ah ((J->aa)×aY))(size first:J)(fr:aa)(k:J):jR S size first fr (k+1)=jR S size first fr k++if (decide (fr<=((first+k:J):aa))&&p' S size (first+k))=true then [first+k]else []:=by
 unfold jR;exact NY
def Wp(S:ah ((J->aa)×aY))(size first:J)(fr:aa)(k:J)(hk:k<size)(h:(decide (fr<=((first+k:J):aa))&&p' S size (first+k))=true):∃ rest,jR S size first fr size=jR S size first fr k++(first+k) :: rest:=by
 have:∀ d,∃ rest,jR S size first fr (k+1+d)=jR S size first fr k++(first+k) :: rest:=by
  intro d
  induction d with
  | zero=>exact⟨[],by rw[rC,Cr,if_pos h]⟩
  | succ d b=>
   have⟨r,a⟩:=b;exact⟨r++_,by rw[<-ih,Cr,a,dD,kF]⟩
 have⟨r,a⟩:=this (size-(k+1));exact⟨r,by rw[<-a];congr 1;omega⟩
section
variable{w w':ai}{r B size first:J}{S:ah ((J->aa)×aY)}
def WG(r:J)(f:aa)(w:ai):aA 79 #[r,I f] w λe w'=>e=.returned (.func (.func 125) #[] #[w.heap.size,.pointer (some (ad (w+1) 0 ab))])/\(w.alloc (ae #[r] 127)).alloc (ae #[I f] 3)=w':=by
 go_in
 go_wp2;go_ret;exact⟨rfl,rfl⟩
def Wq(h:SWinAt w r B size first S)(n:J):p' S size n=(decide (n<=1073741824)&&(S[n%size]'(xg)).2):=by
 unfold p';rw[gl xg];rfl
def Wn(h:SWinAt w r B size first S)(s m:J)(fr:aa)(al:w.cell? (ad s 0 ab)=some (.pointer (some (ad r 0 ab))))(lb:w.cell? (ad m 0 ab)=some (I fr))(y:J->ak)(C:¬ y s/\¬ y m/\¬ y r/\¬ y B)(vl:s<w.heap.size/\m<w.heap.size):pI prog 125 #[s,m] (λf:J=>#[I f]) (jR S size first fr size) y (λ_=>False) w:=by
 intro l Y W mv hk w' u g' a';subst mv;have j9:=bP h.head;have ys:=bP h.body;have bO:=h.fst;have sd:=h.most;refine gK.2 ?_;have h2:=hk.cell al id;have K:=h.keeps hk id id;have s':=K.bY
 go_in
 go_wp2_with fail
 go_loopw [14] (λv wr=>∃ k:J,k<=size/\v=I k/\wr.cell? (ad s 0 ab)=some (.pointer (some (ad r 0 ab)))/\wr.cell? (ad m 0 ab)=some (I fr)/\SWinAt wr r B size first S/\Y (jR S size first fr k) wr/\w.heap.size+2<=wr.heap.size)
  (λv _=>size-(intOf v).toNat)
 case atStart=>exact⟨0,c' _,rfl,h2,hk.cell lb id,K,by simpa[jR]using a',U⟩
 obtain⟨k,v',rfl,i,j,a,c,x⟩:=hrel;by_cases m':k<size
 .have bt:=a.bt;have t:=Cr S size first fr k
  have E:=Wq a (first+k);have D:(first:aa)+(k:aa)=((first+k:J):aa):=U;by_cases hd:1073741824<first+k
  .have M:=af (JP a ((first:aa)+k) s4 U);have aJ:p' S size (first+k)=false:=by rw[E];simp;omega
   rw[aJ,Dm,az aK,e4]at t;have d:=af t;clear aJ E t D hd;by_cases l':fr<=(first:aa)+k
   .go_wp2_with fail;refine aU M.o ?_;exact Ni
   go_wp2_with fail;refine aU M.out ?_;exact Ni
  obtain⟨b,z⟩:∃ b,(first+k)%size=b:=⟨_,rfl⟩;have V:b<S.length:=by rw[a.fG,<-z];exact e2 _ a.pos
  have F:=af (y1 a (first+k) b ((first:aa)+k) D s4 z);have an:=gl V;have s1:=a.has an;have aJ:p' S size (first+k)=S[b].2:=by rw[E];simp only[z];rw[show decide (first+k<=1073741824)=true from ee U,sL]
  have H:=Wp S size first fr k m'
  rw[aJ]at t H;generalize S[b].2=Z at *;have X:=af H;have d:=af t;have g:=af D;clear H t E aJ an z D;by_cases l':fr<=(first:aa)+k
  .cases Z with
   | false=>
    go_wp2_with fail;refine aU F.out ?_;rintro aC ⟨q,rfl⟩;exact Nc
   | true=>
    go_wp2_with fail;refine aU F.out ?_;rintro aC ⟨q,rfl⟩;have gf:=u _ _ _ c ((Keeps.refl _ wr).drewN q);obtain⟨rest,G⟩:=X.out (by simp;have:=g.out;omega);obtain⟨fn,tmps,assign,body,N,L⟩:=g' (jR S size first fr k) (first+k) rest (wr.drewN q) G gf;have ps:=af G;clear G;rw[<-g.out]at N;go_upto_region 6 with fail
    refine(oz (n:=0)).1 ?_;gi_wp2;refine⟨rfl,L.mono ?_⟩;rintro e r' ⟨rfl,O,A⟩;clear N L;have R:=A.cell (p:=ad s 0 ab) i (λh=>h.elim C.1 (λh=>mK));have T:=A.cell (p:=ad m 0 ab) j (λh=>h.elim C.2.1 (λh=>mK));have P:=(a.drew q).keeps A (λh=>h.elim C.2.2.1 a7) (λh=>h.elim C.2.2.2 a7);have Q:=A.size;gi_wp2;exact Nv
  go_wp2_with fail;refine aU F.out ?_;rintro aC ⟨q,rfl⟩;exact M'
 have he:k=size:=U;subst he;go_wp2_with fail;go_end0;exact⟨⟨_,rfl⟩,c⟩
end
end
def Wo(S:ah ((J->aa)×aY))(size first:J)(fr:aa)(k:J):(jR S size first fr k).length<=k:=by
 exact b7 (mH _ _) aK
section
variable{w w':ai}{r B size first:J}{S:ah ((J->aa)×aY)}
def WC(h:SWinAt w r B size first S)(fr:aa):aA 78 #[.func (.func 125) #[] #[w.heap.size,.pointer (some (ad (w+1) 0 ab))]] ((w.alloc (ae #[r] 127)).alloc (ae #[I fr] 3)) λe w'=>
   ∃ v,e=.returned v/\w'.ownsRow (w.heap.size+5) 3 1 v (jR S size first fr size).length (k1 (h9 (jR S size first fr size)))/\Below w w w':=by
 obtain⟨aC,a⟩:∃ aC,(w.alloc (ae #[r] 127)).alloc (ae #[I fr] 3)=aC:=⟨_,rfl⟩;have hk:Keeps aI w aC:=by rw[<-a];exact((Keeps.refl _ w).alloc _).alloc _
 have av:aC.heap.size=w.heap.size+2:=by rw[<-a];simp
 have al:aC.cell? (ad w 0 ab)=some (.pointer (some (ad r 0 ab))):=by rw[<-a];exact qK (nS _ _ _) _
 have d:aC.cell? (ad (w+1) 0 ab)=some (I fr):=by rw[<-a];have:=nS (w.alloc (ae #[r] 127)) (I fr) 3;rw[fK]at this;exact this
 have j9:=bP h.head;have g:=bP h.body;rw[a]
 have aj:=JZ (w:=aC) (λf:J=>(f:aa)) 125 #[w.heap.size,.pointer (some (ad (w+1) 0 ab))] (enters_of func125 aH rfl) (jR S size first fr size) (b7 (Wo _ _ _ _ _) h.most)
  (Wn ((h.keeps hk id id).keeps ((ba aC).alloc _) id id) w.heap.size (w.heap.size+1) fr (qK al _) (qK d _) _ ⟨U,U,U,U⟩ ⟨bT,bT⟩)
 rw[av]at aj;exact aj.mono λe w' ⟨v,h1,b,c⟩=>⟨v,h1,b,(hk.below bs (λ_ _=>id)).trans (c.mono U)⟩
def Wy(h:SWinAt w r B size first S):aA 52 #[r] w λe w'=>
   ∃ v,e=.returned v/\w'.ownsRow (w.heap.size+5) 3 1 v (jR S size first 0 size).length (k1 (h9 (jR S size first 0 size)))/\Below w w w':=by
 go_in
 go_wp2_with fail;refine bA (WG r 0 w) ?_;go_wp2_with fail;refine(WC h 0).mono ?_;rintro e bm ⟨v,rfl,h1,h2⟩;go_wp2;go_ret;exact⟨_,rfl,h1,h2⟩
end
section
structure SSlots(S:ah ((J->aa)×aY))(size first:J)(L:ah (J×(J->aa))):ak where
 fG:S.length=size
 pos:0<size
 dL:pC L
 gG:∀ p∈L,first<=p.1/\p.1<first+size/\p.1<=1073741824
 mA:∀ f x,dE L f=some x->S[f%size]?=some (x,true)
 k7:∀ f,first<=f->f<first+size->f<=1073741824->dE L f=none->∃ y,S[f%size]?=some (y,false)
def la(S:ah ((J->aa)×aY))(size:J)(a:ah J):ah ((J->aa)×aY):=a.foldl (λS f=>S.set (f%size) (cf,false)) S
def Wl(S:ah ((J->aa)×aY))(size:J)(a:ah J):(la S size a).length=S.length:=by
 unfold la
 induction a generalizing S with
 | nil=>rfl
 | cons f a b=>rw[oC,b];simp
def Wm(S:ah ((J->aa)×aY))(size:J)(a:ah J)(f:J):la S size (a++[f])=(la S size a).set (f%size) (cf,false):=by
 unfold la;rw[nB];rfl
def JL(S:ah ((J->aa)×aY))(size first:J)(a:ah J)(av:S.length=size)(b:∀ f∈a,first<=f/\f<first+size)(g:J)(aZ:first<=g/\g<first+size):(la S size a)[g%size]?=if g∈a then some (cf,false)else S[g%size]?:=by
 have au:0<size:=U
 induction a generalizing S with
 | nil=>rfl
 | cons f a c=>
  have e:la S size (f :: a)=la (S.set (f%size) (cf,false)) size a:=rfl;exact MR
namespace SSlots
variable{S:ah ((J->aa)×aY)}{size first:J}{L:ah (J×(J->aa))}
def put(h:SSlots S size first L)(f:J)(x:(J->aa))(a:first<=f/\f<first+size/\f<=1073741824):SSlots (S.set (f%size) (x,true)) size first (e7 L f x) where
 fG:=by simpa using h.fG
 pos:=h.pos
 dL:=FA h.dL f x
 gG p au:=by
  rcases BN au with rfl|au
  .exact a
  exact h.gG p au
 mA g y aZ:=by
  exact MS
 k7 g h1 h2 b aZ:=by
  exact Nl
def has(h:SSlots S size first L)(f:J)(h1:first<=f)(h2:f<first+size):p' S size f=(dE L f).isSome:=by
 unfold p';exact M9
def tE(h:SSlots S size first L)(fr:aa):jR S size first fr size=(L.map (·.1)).filter λf:J=>decide (fr<=(f:aa)):=by
 exact M4
def drop(h:SSlots S size first L)(p:J->aY):SSlots (la S size ((L.map (·.1)).filter p)) size first (L.filter λq=>!p q.1):=by
 have g:∀ f∈(L.map (·.1)).filter p,first<=f/\f<first+size:=λf a=>by
  exact NV
 have d:∀ f,f∈(L.map (·.1)).filter p↔(dE L f).isSome=true/\p f=true:=λf=>by
  exact M5
 refine⟨by rw[Wl,h.fG],h.pos,Fz h.dL _,λq b=>h.gG q (eR.1 b).1,λf x a=>?_,λf h1 h2 e a=>?_⟩
 .rw[yx (p:=λn=>!p n)]at a;split at a
  .rename_i au;have aw:=h.gG _ (tV a);rw[JL S size first _ h.fG g f ⟨aw.1,aw.2.1⟩,az (λc=>by have:=((d f).1 c).2;simp[this]at au)];exact h.mA f x a
  cases a
 rw[JL S size first _ h.fG g f ⟨h1,h2⟩];exact M1
def move(h:SSlots S size first L)(n:J)(ar:first<=n)(a:∀ p∈L,n<=p.1):SSlots S size n L where
 fG:=h.fG
 pos:=h.pos
 dL:=h.dL
 gG p au:=⟨a p au,by have:=h.gG p au;omega,(h.gG p au).2.2⟩
 mA:=h.mA
 k7 f h1 h2 c g:=by
  by_cases k:f<first+size
  .exact h.k7 f U k c g
  have au:=h.pos;have e:=pr (f-first) size;have hm:=e2 (f-first) au;generalize o:(f-first)%size=gy at *;generalize (f-first) / size=d at *;have hd:0<d:=by
   exact L1
  have j:=zR size hd;rw[zS]at j;have i:f=first+gy+size*d:=U
  have l:f%size=(first+gy)%size:=by rw[i,LI]
  rw[l];refine h.k7 (first+gy) U U U (BI λp b m=>?_)
  have:=a p b
  omega
end SSlots
end
section
variable{w w':ai}{r B size first:J}{S:ah ((J->aa)×aY)}
def Zn(w:ai):(Instr.build 237 #[]).run prog w=.ok (.agg (hE cf false)) w:=aH
def WD(h:SWinAt w r B size first S)(a:ah J)(A:b5 Addr)(cap:J)(aW:dR w 1 A a.length cap (k1 (h9 a)))(t:0<a.length->∀ x,A=some x->x.block≠B)(u:∀ f∈a,fc first size (f:aa)):aA 224 #[r,aq A a.length cap] w λe w'=>e=.returned (I (a.length:aa))/\SWinAt w' r B size first (la S size a)/\Keeps (λb=>b=B) w w':=by
 have C:a.length<=9223372036854775807:=b7 aW.2.1 aW.2.2.1
 go_in
 go_wp2;go_loopw [9] (λi wr=>∃ k:J,k<=a.length/\i=I k/\SWinAt wr r B size first (la S size (a.take k))/\Keeps (λb=>b=B) w wr) (λi _=>a.length-(intOf i).toNat)
 case atStart=>exact⟨0,c' _,rfl,h,Keeps.refl _ w⟩
 obtain⟨k,hk,rfl,c,j⟩:=hrel;by_cases l:k<a.length
 .obtain⟨b,o,rfl,al⟩:=(aW.keeps j (λar x z=>t ar x z)).at' U;have E:=al _ _ (HY a k l);have aw:=af (y1 c a[k] (a[k]%size) _ rfl (u _ (nC l)) rfl);have v:la S size (a.take (k+1))=(la S size (a.take k)).set (a[k]%size) (cf,false):=by rw[l6 l,Wm]
  have p:a[k]%size<(la S size (a.take k)).length:=by rw[c.fG];exact e2 _ c.pos
  generalize a[k]=f at *;generalize f%size=d at *;generalize la S size (a.take k)=D at *;go_wp2_with fail;refine aU aw.o ?_;rintro aC ⟨q,m⟩;have g:=c.drew q;rw[<-m]at g;have n:Keeps (λb=>b=B) w aC:=by rw[m];exact j.drewN q
  have y:=g.store d p cf false;have hfin:=n.trans (iG aC B (e0 (gA D).toArray (d*61) (hE cf false)));have gw:=g.wB d p cf false;generalize aC.setRow B (e0 (gA D).toArray (d*61) (hE cf false))=bm at *;have s:=af gw;clear gw m g n;go_wp2_with first|refine zl (Zn _) rfl rfl rfl ?_|refine c8 y rfl rfl rfl rfl ?_
  go_roundw
  case rel=>exact⟨k+1,U,by go_num,by rw[v];exact s.o,hfin⟩
  simp[intOf];omega
 obtain rfl:k=a.length:=U;rw[nE]at c;go_wp2_with fail;go_ret;exact⟨rfl,c,j⟩
def j4(w:ai)(r B size first:J)(L:ah (J×(J->aa))):ak:=∃ S,SWinAt w r B size first S/\SSlots S size first L
theorem j4.keeps{L:ah (J×(J->aa))}{T:J->ak}(h:j4 w r B size first L)(hk:Keeps T w w')(h1:¬ T r)(h2:¬ T B):j4 w' r B size first L:=by
 have⟨S,a,b⟩:=h;exact⟨S,a.keeps hk h1 h2,b⟩
variable{L:ah (J×(J->aa))}
def j4.le(h:j4 w r B size first L):L.length<=size/\0<size/\size<=4096/\first<=1073741824/\r<w.heap.size/\B<w.heap.size/\r≠B:=by
 exact MV
def Wr(h:j4 w r B size first L):aA 52 #[r] w λe w'=>∃ v,e=.returned v/\w'.ownsRow (w.heap.size+5) 3 1 v (L.map (·.1)).length (k1 (h9 (L.map (·.1))))/\Below w w w':=by
 have⟨S,h,b⟩:=h;have a:=Wy h;rw[b.tE 0,nA.2 (λn _=>aK)]at a;exact a
def JN(h:j4 w r B size first L)(n:J)(f:aa)(d:f=n)(a:fc first size f)(x:(J->aa)):aA 192 #[r,I f,(Value.agg (bn x))] w λe w'=>e=.returned (I 0)/\j4 w' r B size first (e7 L n x)/\Keeps (λb=>b=B) w w':=by
 obtain⟨S,h,c⟩:=h;refine aU (WB h n _ f d a rfl x) ?_;rintro w' ⟨h1,h2⟩;exact⟨rfl,⟨_,h1,c.put n x rI⟩,h2⟩
end
section
variable{w w':ai}{r B size first:J}{L:ah (J×(J->aa))}
def JM(h:j4 w r B size first L)(f:aa)(d:-9223372036854775808<=f/\f<=9223372036854775807):aA 271 #[r,I f] w λe w'=>e=aV #[.agg (bn ((gQ L f).getD cf)),.bool (gQ L f).isSome]/\Keeps aI w w':=by
 have⟨S,h,b⟩:=h;by_cases a:fc first size f
 .obtain⟨n,rfl⟩:=l2 (show 0<=f by unfold fc at a;omega);rw[tU];rcases c:dE L n with _|x
  .obtain⟨y,g⟩:=b.k7 n rI rI rI c;exact JO h n _ n rfl a rfl y false g
  exact JO h n _ n rfl a rfl x true (b.mA n x c)
 rw[It (λp au e=>a (by have:=b.gG p au;unfold fc;omega))];exact Wz h f a d
def Wt(h:j4 w r B size first L)(f:aa)(b:f<first\/1073741824<f):aA 150 #[r,I f] w λe w'=>e=.returned (I 0)/\j4 w' r B size first L/\Keeps aI w w':=by
 have⟨S,h,a⟩:=h;have h1:=(h.keeps (T:=aI) ((Keeps.refl _ w).alloc (ae #[I f] 3)) id id);have bt:=h1.bt;have nT:(w.alloc (ae #[I f] 3)).cell? (ad w 0 ab)=some (I f):=nS _ _ _;have hk:Keeps aI w (w.alloc (ae #[I f] 3)):=(Keeps.refl _ w).alloc _;by_cases h2:f<first
 .clear b
  go_in
  exact NB
 have c:1073741824<f:=U
 go_in
 go_upto_region 1 with fail
 generalize w.alloc (ae #[I f] 3)=ao at *;go_quiet (fail);go_wp2;go_ret;exact⟨rfl,⟨S,h1.drew _,a⟩,hk.drewN _⟩
def Wu(a:J)(n x:aa)(W:ai)(al:W.cell? (ad a 0 ab)=some (I n)):aA 223 #[I x,a] W λe w'=>e=.returned (.bool (decide (n<=x)))/\∃ q,w'=W.drewN q:=by
 go_in
 go_wp2
 all_goals
  go_ret;exact⟨by simp_all,0,rfl⟩
theorem SWinAt.sm{S:ah ((J->aa)×aY)}(h:SWinAt w r B size first S)(n:J)(ar:n<=1073741824):SWinAt (w.setCell (ad r 0 ab) (I (n:aa))) r B size n S:=
 ⟨by simpa using bV h.head 0 (I (n:aa)),eU h.body (hW h.ne) _,h.fG,h.pos,h.most,ar,h.ne⟩
def Ws(h:j4 w r B size first L)(n:J)(f:aa)(q:f=n)(o:first<=n/\n<=1073741824):aA 150 #[r,I f] w λe w'=>e=.returned (I (((L.filter λp=>decide (p.1<n)).length:J):aa))/\j4 w' r B size n (L.filter λp=>!decide (p.1<n))/\Keeps (λb=>b=r\/b=B) w w':=by
 obtain⟨S,h,c⟩:=h;have s:Keeps aI w (w.alloc (ae #[I f] 3)):=(Keeps.refl _ w).alloc _;have h1:=h.keeps s id id;have bt:=h1.bt;have nT:(w.alloc (ae #[I f] 3)).cell? (ad w 0 ab)=some (I f):=nS _ _ _;have Y:(w.alloc (ae #[I f] 3)).heap.size=w.heap.size+1:=aK;have j9:=bP h.head;have Z:=bP h.body;have d:(first:aa)<=f:=U;have l:f<=1073741824:=U;have hm:=(c.drop λk=>decide (k<n)).move n o.1 (λp au=>MI);have u:((L.map (·.1)).filter λk:J=>decide (k<n)).length=(L.filter λp=>decide (p.1<n)).length:=by rw[rv,gV];rfl
 have G:∀ k∈(L.map (·.1)).filter λk:J=>decide (k<n),fc first size (k:aa):=λk hk=>by
  obtain⟨p,au,rfl⟩:=e3.1 (eR.1 hk).1
  have:=c.gG p au
  unfold fc;omega
 have F:((h9 (L.map (·.1))).filter λx=>!decide (f<=x))=h9 ((L.map (·.1)).filter λk:J=>decide (k<n)):=by
  unfold h9;rw[rv]
  congr 1
  exact LQ
 rw[<-u];have z:=af q;clear u q;generalize ((L.map (·.1)).filter λk:J=>decide (k<n))=j at *;have M:(h9 j).length=j.length:=by simp[h9]
 have C:=af M;have N:(L.map (·.1)).length<=4096:=by simpa using(b7 (j4.le ⟨S,h,c⟩).1 h.most)
 go_in
 go_upto_region 1 with fail
 generalize w.alloc (ae #[I f] 3)=ao at *;generalize w.heap.size=i at *;go_quiet (fail);go_wp2_with fail;refine(Wr ⟨S,h1.drew nq,c⟩).mono ?_;rintro e bm ⟨v,rfl,a,E⟩;have t:Keeps aI ao bm:=((Keeps.refl _ ao).drewN nq).fI E;have O:(ao.drewN nq).heap.size=ao.heap.size:=rfl;rw[O]at a;go_wp2_with fail
 refine(Gq (h9 (L.map (·.1))) a N (λx=>decide (f<=x)) 223 #[i] (enters_of func223 aH rfl)
  (λW x hk=>Wu i f x W (hk.cell (t.cell nT id) (λe=>by have:=(a.lt i e).1;omega)))).mono ?_
 rintro e P ⟨v4,rfl,y,H⟩;rw[F,C.out]at y;have X:∀ b,b<ao.heap.size->¬ v.ownBlock=some b:=λb aj e=>by have:=(a.lt b e).1;omega
 obtain⟨A,cap,rfl,aW,aj⟩:=cS y;have m:Keeps (λb=>ao.heap.size<=b) ao P:=(t.mono (λ_ _ h=>h.elim)).trans (H.mono λb _ e=>(a.lt b e).1 |> λh=>U);have D:=h1.keeps m U U;go_wp2_with fail;refine aU (WD D j A cap aW (λ_ x g=>z1) G) ?_;rintro Q ⟨d,l⟩;have T:=l.cell (m.cell nT bT) bT;have R:=d.bt;have V:=bI d.head;have gw:=d.sm n o.2;rw[<-z.out]at gw
 have K:Keeps (λb=>b=r\/b=B) w (Q.setCell (ad r 0 ab) (I f)):=
  (((k2 s).trans (m.mono λb aj e=>U)).trans (l.mono λb _ e=>.inr e)).setCell (p:=ad r 0 ab) (.inl rfl) _
 go_wp2_with fail;go_ret;exact⟨rfl,⟨_,gw,hm⟩,K⟩
end
section
structure Fd where
 first:J
 next:J
 last:aa
 K:ah (J×aa)
 cQ:ah (J×aa)
def pD(w:ai)(D:J)(x:Fd):ak:=IsFeed w D x.first x.next x.last x.K x.cQ
structure f' where
 c:J
 D:J->J
 r:J
 B:J
structure ck where
 aG:aa
 eF:J
 dv:J
 aL:J
 f:J->Fd
 eQ:J
 L:ah (J×(J->aa))
 now:J
def f'.S(b:f')(j:J):ak:=j=b.c\/(b.D 0<=j/\j<=b.D 0+4)\/(b.D 1<=j/\j<=b.D 1+4)\/j=b.r\/j=b.B
structure f'.ok(b:f'):ak where
 Gh:b.c≠b.r
 AA:b.c≠b.B
 bt:¬ (b.D 0<=b.c/\b.c<=b.D 0+4)
 bY:¬ (b.D 1<=b.c/\b.c<=b.D 1+4)
 eO:¬ (b.D 0<=b.r/\b.r<=b.D 0+4)
 fu:¬ (b.D 1<=b.r/\b.r<=b.D 1+4)
 gX:¬ (b.D 0<=b.B/\b.B<=b.D 0+4)
 EJ:¬ (b.D 1<=b.B/\b.B<=b.D 1+4)
 PM:b.D 0+4<b.D 1\/b.D 1+4<b.D 0
structure IsCore(w:ai)(b:f')(x:ck):ak where
 head:w.heap[b.c]?=some (ae #[aP x.aG,I x.eF,I x.dv,I x.aL,.pointer (some (ad (b.D 0+4) 0 ab)),.pointer (some (ad (b.D 1+4) 0 ab)),b.r,I x.now] 129 (0,0))
 fd:∀ k,k<2->pD w (b.D k) (x.f k)
 st:j4 w b.r b.B 81 x.eQ x.L
 ok:b.ok
 aL:x.aL<2
 gH:x.now<=1000000
 dG:∀ k,k<2->(x.f k).next<=1000000
 wn:x.dv<=1000
namespace IsCore
variable{w w':ai}{b:f'}{x:ck}
theorem keeps{T:J->ak}(h:IsCore w b x)(hk:Keeps T w w')(a:∀ j,b.S j->¬ T j):IsCore w' b x:=by
 refine⟨hk.heap h.head (a _ (.inl rfl)),λk c=>?_,h.st.keeps hk (a _ (.inr (.inr (.inr (.inl rfl))))) (a _ (.inr (.inr (.inr (.inr rfl))))),h.ok,h.aL,h.gH,h.dG,h.wn⟩
 have:k=0\/k=1:=U
 rcases this with rfl|rfl
 .exact(h.fd 0 U).keeps hk (λj h1 h2=>a _ (.inr (.inl ⟨h1,h2⟩)))
 exact(h.fd 1 U).keeps hk (λj h1 h2=>a _ (.inr (.inr (.inl ⟨h1,h2⟩))))
def keep(h:IsCore w b x)(hk:Keeps aI w w'):IsCore w' b x:=h.keeps hk (λ_ _=>id)
theorem lt(h:IsCore w b x){j:J}(a:b.S j):j<w.heap.size:=by
 have h1:=bP h.head;have h2:=(h.fd 0 U).lt;have c:=(h.fd 1 U).lt;have d:=h.st.le;rcases a with e|e|e|e|e<;>omega
def lx(h:IsCore w b x){k:J}(hk:k<2):w.cell? (ad b.c (4+k) ab)=some (.pointer (some (ad (b.D k+4) 0 ab))):=by
 have:k=0\/k=1:=U
 rcases this with rfl|rfl<;>exact bb h.head rfl
def bY(h:IsCore w b x):w.cell? (ad b.c 1 ab)=some (I x.eF):=bb h.head rfl
def bo(h:IsCore w b x):w.cell? (ad b.c 2 ab)=some (I x.dv):=bb h.head rfl
def eo(h:IsCore w b x):w.cell? (ad b.c 3 ab)=some (I x.aL):=bb h.head rfl
def eb(h:IsCore w b x):w.cell? (ad b.c 6 ab)=some (.pointer (some (ad b.r 0 ab))):=bb h.head rfl
def c5(h:IsCore w b x):w.cell? (ad b.c 7 ab)=some (I x.now):=bb h.head rfl
end IsCore
variable{w w':ai}{b:f'}{x:ck}
def vA(h:IsCore w b x):aA 22 #[b.c] w λe w'=>e=.returned (I x.now)/\w=w':=by
 have c5:=h.c5
 go_in
 go_wp2;go_ret;exact⟨rfl,rfl⟩
def vB(h:IsCore w b x):aA 56 #[b.c] w λe w'=>e=.returned (.pointer (some (ad (b.D x.aL+4) 0 ab)))/\∃ q,w'=w.drewN q:=by
 have eo:=h.eo;have lx:=h.lx h.aL;have hm:(x.aL:aa)<2:=by have:=h.aL;omega
 go_in
 exact uU
def rS(h:IsCore w b x):aA 151 #[b.c] w λe w'=>e=.returned (.pointer (some (ad (b.D (1-x.aL)+4) 0 ab)))/\∃ q,w'=w.drewN q:=by
 have eo:=h.eo;obtain⟨k,hk,a,d⟩:∃ k:J,1-x.aL=k/\k<2/\(1:aa)-(x.aL:aa)=(k:aa):=⟨1-x.aL,rfl,U,by have:=h.aL;omega⟩;rw[hk];have lx:=h.lx a
 go_in
 exact uU
def kW(x:ck):J:=min (x.f 0).next (x.f 1).next
def F_(h:IsCore w b x):aA 24 #[b.c] w λe w'=>e=.returned (I (kW x))/\∃ q,w'=w.drewN q:=by
 have i:=h.lx (k:=0) U;have d1:=h.lx (k:=1) U;have a:=af (λn=>qS ((h.fd 0 U).drew n));have d:=af (λn=>qS ((h.fd 1 U).drew n));have bO:=h.dG 1 U;unfold kW;generalize (x.f 0).next=m at *;generalize (x.f 1).next=n at *;by_cases al:m<=n
 .rw[oG al];have g:min (m:aa) (n:aa)=(m:aa):=U
  go_in
  exact MT
 rw[DX U];have g:min (m:aa) (n:aa)=(n:aa):=U
 go_in
 exact MT
end
variable{w w':ai}{b:f'}{x:ck}
def IsCore.drew(h:IsCore w b x)(n:J):IsCore (w.drewN n) b x:=h.keep ((Keeps.refl _ w).drewN n)
def jn(x:ck):aY:=decide ((x.dv:aa)<=(x.now:aa)-(kW x:aa))
def PC(h:IsCore w b x):kW x<=1000000:=by
 have:=h.dG 0 U
 unfold kW;omega
def xQ(h:IsCore w b x):aA 216 #[b.c] w λe w'=>e=.returned (.bool (jn x))/\∃ q,w'=w.drewN q:=by
 have bo:=h.bo;have c5:=h.c5;have aT:=af (λn=>F_ (h.drew n));have aj:=PC h;have ar:=h.gH;unfold jn;generalize kW x=m at *
 go_in
 go_wp2;go_quiet ((go_at_call 24;first|exact Calls.quiet_of (aT.o _)|exact iK (aT.o _)));go_wp2;go_ret;exact⟨rfl,_,rfl⟩
def Py(h:IsCore w b x):aA 156 #[b.c] w λe w'=>e=.returned (I (x.f (1-x.aL)).next)/\∃ q,w'=w.drewN q:=by
 go_in
 go_wp2_with fail;refine aU (rS h) ?_;rintro _ ⟨q,rfl⟩;go_wp2_with fail;refine bA (((λn=>qS ((h.fd (1-x.aL) U).drew n))) q) ?_;go_wp2;go_ret;exact⟨rfl,_,rfl⟩
def AF(h:IsCore w b x):aA 32 #[b.c] w λe w'=>e=.returned (I (x.f x.aL).next)/\∃ q,w'=w.drewN q:=by
 go_in
 go_wp2_with fail;refine aU (vB h) ?_;rintro _ ⟨q,rfl⟩;go_wp2_with fail;refine bA (((λn=>qS ((h.fd x.aL h.aL).drew n))) q) ?_;go_wp2;go_ret;exact⟨rfl,_,rfl⟩
def fv(x:ck):Fd:=x.f (1-x.aL)
def fJ(x:ck):b5 J:=jf (fv x).K (fv x).cQ
def cY(x:ck):aa:=match fJ x with
 | none=>(min (kW x) x.now:J)-1
 | some g=>min ((min (kW x) x.now:J)-1:aa) ((g:aa)-1)
def xO(h:IsCore w b x)(i:fJ x=none):aA 91 #[b.c] w λe w'=>e=.returned (I (cY x))/\Keeps aI w w':=by
 have ar:=h.gH;have aT:=af (λn=>F_ (h.drew n));have av:cY x=(min (kW x) x.now:J)-1:=by unfold cY;rw[i]
 rw[av];have j:=af (λ(W:ai) (hk:Keeps aI w W)=>rS (h.keep hk));have f:=af (λ(W:ai) (hk:Keeps aI w W)=>vI ((h.keep hk).fd (1-x.aL) U));unfold fJ fv at i;rw[i]at f;have c5:=h.c5;generalize kW x=cW at *;generalize x.now=gH at *;by_cases al:cW<=gH
 .rw[oG al];have l:min (cW:aa) (gH:aa)=(cW:aa):=U;have m:IntKind.i64.wrap ((cW:aa)-1)=(cW:aa)-1:=ev _ U
  go_in
  go_wp2_with fail;go_quiet ((go_at_call 24;first|exact Calls.quiet_of (aT.o _)|exact iK (aT.o _)));go_wp2_with fail;refine aU (j.o _ ((Keeps.refl _ w).drewN _)) ?_;rintro ao ⟨q,d⟩;have a:Keeps aI w ao:=by rw[d];exact((Keeps.refl _ w).drewN _).drewN q
  clear d;go_wp2_with fail;refine aU (f.out _ a) λaC g=>?_;have k:=a.trans g;simp only[pt,oI];go_wp2;go_ret;exact⟨rfl,k⟩
 rw[DX U];have l:min (cW:aa) (gH:aa)=(gH:aa):=U
 go_in
 go_wp2_with fail;go_quiet ((go_at_call 24;first|exact Calls.quiet_of (aT.out _)|exact iK (aT.out _)));go_wp2_with fail;refine aU (j.out _ ((Keeps.refl _ w).drewN _)) ?_;rintro ao ⟨q,d⟩;have a:Keeps aI w ao:=by rw[d];exact((Keeps.refl _ w).drewN _).drewN q
 clear d;go_wp2_with fail;refine aU (f.out _ a) λaC g=>?_;simp only[pt,oI];go_wp2;go_ret;exact⟨rfl,(a.trans g)⟩
def Ga(h:IsCore w b x)(f:aa)(p:-9223372036854775808<=f/\f<=9223372036854775807):aA 208 #[b.c,I f] w λe w'=>e=aV #[.agg (bn ((gQ x.L f).getD cf)),.bool (gQ x.L f).isSome]/\Keeps aI w w':=by
 have k:=lV w;have i:=aX w (ae (bn cf) 99);have a:Keeps aI w (w.alloc (ae (bn cf) 99)):=(Keeps.refl _ w).alloc _;generalize w.alloc (ae (bn cf) 99)=ao at *;have h1:=h.keep a;have eb:=h1.eb;have j:=af (JM h1.st f p);have g:=af i;generalize (gQ x.L f).getD cf=v at *;generalize (gQ x.L f).isSome=bR at *
 go_in
 go_wp2_with refine d_ k rfl rfl ?_
 refine aU j.o λaC d=>?_;have l:=a.trans d;obtain⟨q,n,m⟩:=dP aC 99 60 w.heap.size (bn v) (bn cf) sizeOf99 (eg _) (eg _) (d.heap g.o id) (yB _);generalize aC.setRow w.heap.size (bn v)=bm at *;go_wp2_with refine c8 q rfl rfl rfl rfl ?_
 refine dq (v:=aV #[.agg (bn v),.bool bR]) n ?_;exact⟨rfl,cL l m a7⟩
end Go.Proofs.YtalagblioepadaaGreatDoor
