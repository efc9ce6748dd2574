/- The proof, part 30. -/
import Derived.Test.YtalagblioepadaaGreatDoorZd20
import Derived.Test.YtalagblioepadaaGreatDoorZd18
import Derived.Test.YtalagblioepadaaGreatDoorZd12
namespace Go.Proofs.YtalagblioepadaaGreatDoor
set_option linter.all false
open Proofs.Tryz List Go.RowKit
set_option maxRecDepth 100000
set_option maxHeartbeats 1600000
def NB{p:al}(h:p:=by
 go_wp2;go_quiet ((go_at_call 49;first|(with_reducible exact Calls.quiet_of (jo (a.o _)))|(with_reducible exact hv (jo (a.o _)))|(with_reducible exact Calls.quiet_of (jo (d.o _)))|(with_reducible exact hv (jo (d.o _)))));go_wp2;go_ret;exact⟨rfl,_,rfl⟩
 ):p:=h
def N2{p:al}(h:p:=by
 rintro aD ⟨q,rfl⟩;go_wp2_with fail;go_roundw
 case rel=>exact⟨k+1,U,by go_num,i,j,a.drew q,Nj,x⟩
 simp[intOf];omega
 ):p:=h
section
def hU(v:J->aa)(b:a1):a7 ay:=(br v).push (.bool b)
def uK(v:J->aa)(b:a1):(hU v b).size=61:=by simp[hU,et]
def Yi(v:J->aa)(b:a1)(j:J)(a:j<60):(hU v b)[j]?=(br v)[j]?:=by
 rw[hU,pQ,aB (by rw[et];omega)]
def Yj(v:J->aa)(b:a1):(hU v b)[60]?=some (.bool b):=by
 rw[hU,pQ,aE (by rw[et])]
def gN(S:ah ((J->aa)×a1)):ah ay:=S.flatMap λp=>(hU p.1 p.2).toList
def wM(S:ah ((J->aa)×a1)):(gN S).length=S.length*61:=by
 induction S with
 | nil=>rfl
 | cons c S a=>
  simp only[gN,jc,cx,dy]at a⊢;rw[a,pG,uK];omega
def wL(S:ah ((J->aa)×a1))(i:J)(h:i<S.length)(j:J)(d:j<61):(gN S)[i*61+j]?=(hU S[i].1 S[i].2)[j]?:=by
 induction S generalizing i with
 | nil=>exact absurd h (kZ _)
 | cons c S b=>
  simp only[gN,jc]at b⊢;have a:(hU c.1 c.2).toList.length=61:=by rw[pG,uK]
  cases i with
  | zero=>
   rw[xn,gP,jO U];simp
  | succ i=>
   rw[lF (by rw[a,kc];omega),a,show(i+1)*61+j-61=i*61+j by rw[kc];omega];exact b i ic
def Xe(S:ah ((J->aa)×a1))(i:J)(h:i<S.length):(gN S)[i*61+60]?=some (.bool S[i].2):=by
 rw[wL S i h 60 U,Yj]
def Xf(S:ah ((J->aa)×a1))(i:J)(h:i<S.length)(x:(J->aa))(b:a1):e5 (gN S).toArray (i*61) (hU x b)=(gN (S.set i (x,b))).toArray:=by
 have aw:(gN S).toArray.size=S.length*61:=by rw[hh,wM]
 have ax:i*61+61<=S.length*61:=by have:=td 61 h;rw[kc]at this;omega
 apply pP;intro m;rw[sM _ _ _ (by rw[uK,aw];exact ax),uK];have e:=pK m 61;have hm:=e8 m (show 0<61 by omega);have em:m / 61*61+m%61=m:=U;by_cases d:m / 61<S.length
 .have g1:=wL S (m / 61) d (m%61) hm;have a:=wL (S.set i (x,b)) (m / 61) xA (m%61) hm;rw[em]at g1 a;rw[show(gN S).toArray[m]?=(gN S)[m]? from by simp,show(gN (S.set i (x,b))).toArray[m]?=(gN (S.set i (x,b)))[m]? from by simp,g1,a];by_cases an:m / 61=i
  .rw[aE U];subst an;rw[z']
   congr 1
   omega
  rw[aB U,xh U]
 rw[aB U,show(gN S).toArray[m]?=(gN S)[m]? from by simp,show(gN (S.set i (x,b))).toArray[m]?=(gN (S.set i (x,b)))[m]? from by simp,s9 (by rw[wM];omega),s9 (by rw[wM,qI];omega)]
structure SWinAt(w:aj)(r B size first:J)(S:ah ((J->aa)×a1)):al where
 head:w.heap[r]?=some (af #[I first,aq (some (ae B 0 ad)) size size] 233 (0,0))
 body:w.heap[B]?=some (af (gN S).toArray 237 (0,0))
 fR:S.length=size
 pos:0<size
 most:size<=4096
 fst:first<=1073741824
 ne:r≠B
namespace SWinAt
variable{w w':aj}{r B size first:J}{S:ah ((J->aa)×a1)}
theorem keeps{T:J->al}(h:SWinAt w r B size first S)(hk:Keeps T w w')(h1:¬ T r)(h2:¬ T B):SWinAt w' r B size first S:=
 ⟨hk.heap h.head h1,hk.heap h.body h2,h.fR,h.pos,h.most,h.fst,h.ne⟩
def drew(h:SWinAt w r B size first S)(n:J):SWinAt (w.drewN n) r B size first S:=⟨h.head,h.body,h.fR,h.pos,h.most,h.fst,h.ne⟩
def bz(h:SWinAt w r B size first S):w.cell? (ae r 0 ad)=some (I first):=bf h.head rfl
def b6(h:SWinAt w r B size first S):w.cell? (ae r 1 ad)=some (aq (some (ae B 0 ad)) size size):=bf h.head rfl
end SWinAt
section
variable{w w':aj}{r B size first:J}{S:ah ((J->aa)×a1)}
def Kr(h:SWinAt w r B size first S)(f:aa)(a:¬ fk first size f)(j:-9223372036854775808<=f/\f<=9223372036854775807):aA 126 #[r,I f] w λe w'=>e=.returned (.pointer none)/\∃ q,w'=w.drewN q:=by
 have bz:=h.bz;have b6:=h.b6;have bR:=h.fst;have g:=h.most;unfold fk at a;by_cases h1:f<first
 .clear a
  go_in
  exact vi
 by_cases h2:f<first+size
 .have i:1073741824<f:=U;have b:f-first<size:=U
  have c:(first:aa)<=f:=U;have d:IntKind.i64.wrap (f-first)=f-first:=eG _ U
  clear a
  go_in
  exact vi
 have b:(size:aa)<=f-first:=U
 have c:(first:aa)<=f:=U;have d:IntKind.i64.wrap (f-first)=f-first:=eG _ U
 clear a
 go_in
 go_wp2;go_quiet (fail);go_wp2;go_ret;exact⟨rfl,_,rfl⟩
def zh(h:SWinAt w r B size first S)(n k:J)(f:aa)(a:f=n)(b:fk first size f)(hk:n%size=k):aA 126 #[r,I f] w λe w'=>e=.returned (.pointer (some (ae B (k*61) ad)))/\∃ q,w'=w.drewN q:=by
 have bz:=h.bz;have b6:=h.b6;have bR:=h.fst;have c:=h.most;have⟨h1,h2,g⟩:=b;have i:f-first<size:=U
 have l:IntKind.i64.wrap (f-first)=f-first:=eG _ U
 have j:k<size:=hk▸e8 _ h.pos;have aK:f.tmod (size:aa)=(k:aa):=by
  rw[a,oS U,<-hk];simp
 have m:((size:aa) == 0)=false:=by have:=h.pos;rw[eA];omega
 have d:0<=f:=U;clear hk a
 go_in
 go_wp2;go_quiet (fail);go_wp2;go_quiet (fail);go_wp2;go_ret;exact⟨rfl,_,by rw[D1]⟩
end
end
section
variable{w w':aj}{r B size first:J}{S:ah ((J->aa)×a1)}
def oy(v:J->aa):∀ u∈(br v).toList,u.oneCell'=true:=by
 intro u a;simp only[br,e9]at a;obtain⟨j,_,rfl⟩:=a;rfl
def Yk(v:J->aa)(b:a1):∀ u∈(hU v b).toList,u.oneCell'=true:=by
 intro u a;simp only[hU,Array.toList_push,eJ,gC]at a;rcases a with a|rfl
 .exact oy v u a
 rfl
def SWinAt.has(h:SWinAt w r B size first S){k:J}{x:J->aa}{b:a1}(hk:S[k]?=some (x,b)):w.cell? (ae B (k*61+60) ad)=some (.bool b):=by
 have⟨a,c⟩:=hD.1 hk;have h1:=Xe S k a;rw[c]at h1;exact bf h.body (by simpa using h1)
def SWinAt.load(h:SWinAt w r B size first S){k:J}{x:J->aa}{b:a1}(hk:S[k]?=some (x,b)):(Instr.loadAt 99 (.pointer (some (ae B (k*61) ad)))).run prog w=.ok (.agg (br x)) w:=by
 have⟨d,e⟩:=hD.1 hk;refine gd (P:=prog) 99 60 B (k*61) (br x) _ _ isAgg99 sizeOf99 (et x) h.body (λj v a=>?_);have c:j<60:=by
  have:=(jv.1 a).1
  rw[et]at this;exact this
 have h1:=wL S k d j U;rw[e,Yi x b j c,a]at h1;simpa using h1
theorem SWinAt.wR(h:SWinAt w r B size first S)(k:J)(hk:k<S.length)(x:J->aa)(b:a1):SWinAt (w.setRow B (e5 (gN S).toArray (k*61) (hU x b))) r B size first (S.set k (x,b)):=
 ⟨(iW w B _).heap h.head h.ne,by rw[Xf S k hk];exact fb w B _ _ _ h.body,by simpa using h.fR,h.pos,h.most,h.fst,h.ne⟩
def SWinAt.store(h:SWinAt w r B size first S)(k:J)(hk:k<S.length)(x:J->aa)(b:a1):(Instr.storeAt 237 (.pointer (some (ae B (k*61) ad))) (.agg (hU x b))).run prog w=.ok () (w.setRow B (e5 (gN S).toArray (k*61) (hU x b))):=by
 have aw:(gN S).toArray.size=S.length*61:=by rw[hh,wM]
 exact ru (P:=prog) 237 61 B (k*61) (hU x b) _ _ sizeOf237 (uK x b) h.body U (Yk x b)
def ck:J->aa:=λ_=>0
def ma(w:aj):(Instr.alloc 99 true (aY #[])).run prog w=.ok w.heap.size (w.alloc (af (br ck) 99)):=aI
theorem ov{w:aj}{b:J}{v:J->aa}{t:TypeId}(a:w.heap[b]?=some (af (br v) t (0,0))):(Instr.loadAt 99 b).run prog w=.ok (.agg (br v)) w:=
 gd (P:=prog) 99 60 b 0 (br v) _ _ isAgg99 sizeOf99 (et v) a (λj u z=>ke)
def yS(v:J->aa):(br v).toList.all (λu=>u.oneCell')=true:=fw.2 (oy v)
structure xE(w w':aj):al where
 res:w'.heap[w.heap.size]?=some (af (br ck) 99 (0,0))
 none:w'.heap[w.heap.size+1]?=some (af (br ck) 99 (0,0))
 keep:Keeps aG w w'
def Gn(w:aj):xE w ((w.alloc (af (br ck) 99)).alloc (af (br ck) 99)):=by
 refine⟨cw (aX w _) _,?_,((Keeps.refl _ w).alloc _).alloc _⟩
 have:=aX (w.alloc (af (br ck) 99)) (af (br ck) 99)
 rwa [fH]at this
def xE.keeps{w ao aD:aj}(h:xE w ao)(hk:Keeps aG ao aD):xE w aD:=⟨hk.heap h.res id,hk.heap h.none id,h.keep.trans hk⟩
def Xi(h:SWinAt w r B size first S)(f:aa)(g:¬ fk first size f)(k:-9223372036854775808<=f/\f<=9223372036854775807):aA 271 #[r,I f] w λe w'=>e=aY #[.agg (br ck),false]/\Keeps aG w w':=by
 have d:=ma w;have b:=ma (w.alloc (af (br ck) 99));have m:(w.alloc (af (br ck) 99)).heap.size=w.heap.size+1:=fH _ _;have ak:=Gn w;rw[m]at b;generalize (w.alloc (af (br ck) 99)).alloc (af (br ck) 99)=ao at *;generalize w.alloc (af (br ck) 99)=bn at *
 go_in
 go_wp2_with first|refine dU d rfl rfl ?_|refine dU b rfl rfl ?_
 refine aW ((Kr (h.keeps ak.keep id id) f g k)) ?_;rintro aD ⟨q,c⟩;have a:=ak.keeps (show Keeps aG ao aD by rw[c];exact(Keeps.refl _ _).drewN q);obtain⟨l,j,i⟩:=dQ aD 99 60 w.heap.size (br ck) (br ck) sizeOf99 (et _) (et _) a.res (yS _);generalize aD.setRow w.heap.size (br ck)=bq at *;clear c;go_wp2_with first|refine dn (ov a.none) rfl rfl rfl ?_|refine c7 l rfl rfl rfl rfl ?_
 refine dx (v:=aY #[.agg (br ck),false]) j ?_;exact⟨rfl,cN a.keep i a8⟩
def Kq(h:SWinAt w r B size first S)(n k:J)(f:aa)(y:f=n)(u:fk first size f)(hk:n%size=k)(x:J->aa)(b:a1)(ar:S[k]?=some (x,b)):aA 271 #[r,I f] w λe w'=>e=aY #[.agg (br (if b then x else ck)),.bool b]/\Keeps aG w w':=by
 have t:=ma w;have i:=ma (w.alloc (af (br ck) 99));have z:(w.alloc (af (br ck) 99)).heap.size=w.heap.size+1:=fH _ _;have ak:=Gn w;rw[z]at i;generalize (w.alloc (af (br ck) 99)).alloc (af (br ck) 99)=ao at *;have h1:=h.keeps ak.keep id id;have s:=ag (zh h1 n k f y u hk);generalize w.alloc (af (br ck) 99)=bn at *;have p:=ag ak;have g:=ag h1;clear u y hk ak z h h1;cases b with
 | false=>
  go_in
  go_wp2_with first|refine dU t rfl rfl ?_|refine dU i rfl rfl ?_
  refine aW s.out ?_;rintro aD ⟨q,d⟩;have a:Keeps aG ao aD:=by rw[d];exact(Keeps.refl _ _).drewN q
  have c:=p.out.keeps a;have s1:=(g.out.keeps a id id).has ar;have l:=ov c.none;obtain⟨o,m,j⟩:=dQ aD 99 60 w.heap.size (br ck) (br ck) sizeOf99 (et _) (et _) c.res (yS _);generalize aD.setRow w.heap.size (br ck)=bq at *;clear d a;go_wp2_with first|refine dn l rfl rfl rfl ?_|refine c7 o rfl rfl rfl rfl ?_
  refine dx (v:=aY #[.agg (br ck),false]) m ?_;exact⟨rfl,cN c.keep j a8⟩
 | true=>
  go_in
  go_wp2_with first|refine dU t rfl rfl ?_|refine dU i rfl rfl ?_
  refine aW s.out ?_;rintro aD ⟨q,d⟩;have a:Keeps aG ao aD:=by rw[d];exact(Keeps.refl _ _).drewN q
  have c:=p.out.keeps a;have s1:=(g.out.keeps a id id).has ar;have l:=(g.out.keeps a id id).load ar;obtain⟨o,m,j⟩:=dQ aD 99 60 w.heap.size (br x) (br ck) sizeOf99 (et _) (et _) c.res (yS _);generalize aD.setRow w.heap.size (br x)=bq at *;clear d a;go_wp2_with first|refine dn l rfl rfl rfl ?_|refine c7 o rfl rfl rfl rfl ?_
  refine dx (v:=aY #[.agg (br x),true]) m ?_;exact⟨rfl,cN c.keep j a8⟩
def X7(z:a7 ay)(c:a7 ay)(b:z.size=61)(an:c.size=60):e5 (e5 z 0 c) 60 #[true]=c.push (.bool true):=by
 have h1:(e5 z 0 c).size=61:=by rw[wT _ _ _ U,b]
 apply pP;intro k;rw[sM _ _ _ (by simp[h1]),sM _ _ _ U,pQ];simp only[hh,dy,fg,gP,an];by_cases h2:k<60
 .rw[aB U,aE U,aB U];simp
 by_cases a:k=60
 .subst a;simp
 rw[aB U,aB U,aB a,mg U,mg U]
def WJ(c:a7 ay)(an:c.size=60)(w:aj):(Instr.build 237 #[(0,.agg c),(1,.bool true)]).run prog w=.ok (.agg (c.push (.bool true))) w:=by
 have u:=rM underlying237;have s2:=sizeOf4;unfold Instr.build;simp only[hW,(zeroValue237 w),hE,u];rw[show ∀ (g:a7 Field),g=#[{name:="x",type:=99,offset:=0,embedded:=false,tag:="",pkgPath:="promptbook/ring",byteOffset:=0},{name:="has",type:=4,offset:=60,embedded:=false,tag:="",pkgPath:="promptbook/ring",byteOffset:=352}]->Sem.run prog (Array.mapM (λf:Field=>do let k <-Go.sizeOf f.type;pure (f.offset,k)) g) w=.ok #[(0,60),(60,1)] w from λg aZ=>by subst aZ;simp[sizeOf99,s2]];rotate_left
 .rfl
 simp only[hE];generalize b:(Value.agg _).cells=fN;have a:fN.size=61:=by rw[<-b];rfl
 rw[Hv _ _ 0 0 (.agg c) _ (by simp[Value.cells,an]) (by simp[Value.cells,an,a]),Hv _ _ 1 60 (.bool true) _ (by simp[Value.cells]) (by rw[wT _ _ _ (by simp[Value.cells,an,a]),a];simp[Value.cells])];simp only[Instr.fill,iD];rw[show e5 (e5 fN 0 (Value.agg c).cells) 60 (Value.bool true).cells=c.push (.bool true)from X7 fN c a an]
def Xk(h:SWinAt w r B size first S)(n k:J)(f:aa)(j:f=n)(g:fk first size f)(hk:n%size=k)(y:J->aa):aA 192 #[r,I f,.agg (br y)] w λe w'=>e=.returned (I 0)/\SWinAt w' r B size first (S.set k (y,true))/\Keeps (λb=>b=B) w w':=by
 have i:Keeps aG w (w.alloc (af (br y) 99)):=(Keeps.refl _ w).alloc _;have d:=h.keeps i id id;have x:=ag (zh d n k f j g hk);have m:k<S.length:=by rw[h.fR,<-hk];exact e8 _ h.pos
 have h1:=g.1;have s:=ag d;have t:=ag (aX w (af (br y) 99));have u:=ag i;clear h d i j g hk
 go_in
 go_wp2_with fail;refine aW x.o ?_;rintro ao ⟨q,p⟩;have c:Keeps aG (w.alloc (af (br y) 99)) ao:=by rw[p];exact(Keeps.refl _ _).drewN q
 have a:=s.out.keeps c id id;have l:=u.out.trans c;have bz:=a.bz;have z:=ov (c.heap t.out id);have A:=a.store k m y true;have hfin:=(lj l (S:=λb=>b=B)).trans (iW ao B (e5 (gN S).toArray (k*61) (hU y true)));have gK:=a.wR k m y true;generalize ao.setRow B (e5 (gN S).toArray (k*61) ((br y).push (.bool true)))=aD at *;have v:=ag gK;clear p c l gK a;go_wp2_with (first|(refine dn z rfl rfl rfl ?_)|(refine s0 (WJ (br y) (et y) ao) rfl rfl rfl rfl ?_)|(refine c7 A rfl rfl rfl rfl ?_));go_ret;exact⟨rfl,v.o,hfin⟩
end
def S3:(prog.info? 237).map (λi=>(i.zero,i.size,i.bytes))=some (some (.agg (hU ck false)),61,360):=aI
def Xg(n:J):madeCells (Value.agg (hU ck false)).cells (n*61)=(gN (replicate n (ck,false))).toArray:=by
 apply pP;intro m;by_cases hm:m<n*61
 .have a:m / 61<(replicate n (ck,false)).length:=b1;have h1:=wL (replicate n (ck,false)) (m / 61) a (m%61) (e8 m (show 0<61 by omega));simp only[getElem_replicate]at h1;rw[show m / 61*61+m%61=m by omega]at h1;rw[show(gN (replicate n (ck,false))).toArray[m]?=(gN (replicate n (ck,false)))[m]? from by simp,h1];simp only[Value.cells];have aw:=uK ck false;unfold madeCells;simp[hm,aw];rw[(s4 (xs:=hU ck false) (i:=m%61) U),jz (hU ck false) (m%61) U]
 rw[mg (by simp[madeCells];omega),mg (by rw[hh,wM];simp;omega)]
def Xj(size:J)(h1:1<=size)(h2:size<=4096)(w:aj):aA 190 #[I size,I 0] w λe w'=>e=aY #[.pointer (some (ae (w+1) 0 ad)),I 0]/\SWinAt w' (w.heap.size+1) w.heap.size size 0 (replicate size (ck,false))/\Below w w w'/\w'.heap.size=w.heap.size+2:=by
 have⟨h,ax,f,g,d⟩:=nP S3;have hd:decide (1<=(size:aa)/\(size:aa)<=4096)=true:=b1;have b:=run_make (P:=prog) w 231 237 h (.agg (hU ck false)) underlying231 ax f .i64 .i64 size size U (jw _) vu U;rw[g,rN,Xg]at b;have⟨Z,a⟩:=cT (replicate size (ck,false));have c:=ag a;rw[<-a]at b;rw[<-a];clear a
 go_in
 go_wp2_with fail;refine bE (za size w) ?_;rw[hd];go_wp2;go_ret2;refine⟨rfl,⟨?_,?_,by rw[c.o];simp,h1,h2,U,U⟩,((b7 _ w).alloc bx _).alloc aM _,aM⟩
 .have:=aX (w.alloc (af (gN Z).toArray 237)) (af #[I 0,aq (some (ae w 0 ad)) size size] 233)
  simpa using this
 have:=cw (aX w (af (gN Z).toArray 237)) (af #[I 0,aq (some (ae w 0 ad)) size size] 233)
 simpa using this
section
attribute [local go_sem] Oper.semAt_some
def qs(S:ah ((J->aa)×a1))(size f:J):a1:=decide (f<=1073741824)&&((S[f%size]?).map (·.2)).getD false
def j8(S:ah ((J->aa)×a1))(size first:J)(fr:aa)(k:J):ah J:=((range k).map (first+·)).filter λf=>decide (fr<=(f:aa))&&qs S size f
def CY(S:ah ((J->aa)×a1))(size first:J)(fr:aa)(k:J):j8 S size first fr (k+1)=j8 S size first fr k++if (decide (fr<=((first+k:J):aa))&&qs S size (first+k))=true then [first+k]else []:=by
 unfold j8;exact OK
def W9(S:ah ((J->aa)×a1))(size first:J)(fr:aa)(k:J)(hk:k<size)(h:(decide (fr<=((first+k:J):aa))&&qs S size (first+k))=true):∃ rest,j8 S size first fr size=j8 S size first fr k++(first+k) :: rest:=by
 have:∀ d,∃ rest,j8 S size first fr (k+1+d)=j8 S size first fr k++(first+k) :: rest:=by
  intro d
  induction d with
  | zero=>exact⟨[],by rw[rV,CY,if_pos h]⟩
  | succ d b=>
   have⟨r,a⟩:=b;exact⟨r++_,by rw[<-hZ,CY,a,dL,kV]⟩
 have⟨r,a⟩:=this (size-(k+1));exact⟨r,by rw[<-a];congr 1;omega⟩
section
variable{w w':aj}{r B size first:J}{S:ah ((J->aa)×a1)}
def Xo(r:J)(f:aa)(w:aj):aA 79 #[r,I f] w λe w'=>e=.returned (.func (.func 125) #[] #[w.heap.size,.pointer (some (ae (w+1) 0 ad))])/\(w.alloc (af #[r] 127)).alloc (af #[I f] 3)=w':=by
 go_in
 go_wp2;go_ret;exact⟨rfl,rfl⟩
def W_(h:SWinAt w r B size first S)(n:J):qs S size n=(decide (n<=1073741824)&&(S[n%size]'(xz)).2):=by
 unfold qs;rw[gA xz];rfl
def W7(h:SWinAt w r B size first S)(s m:J)(fr:aa)(an:w.cell? (ae s 0 ad)=some (.pointer (some (ae r 0 ad))))(h2:w.cell? (ae m 0 ad)=some (I fr))(y:J->al)(C:¬ y s/\¬ y m/\¬ y r/\¬ y B)(vl:s<w.heap.size/\m<w.heap.size):p0 prog 125 #[s,m] (λf:J=>#[I f]) (j8 S size first fr size) y (λ_=>False) w:=by
 intro l Y W l' hk w' u gf ab;subst l';have kn:=bT h.head;have ys:=bT h.body;have bR:=h.fst;have sd:=h.most;refine gU.2 ?_;have hd:=hk.cell an id;have K:=h.keeps hk id id;have s':=K.b6
 go_in
 go_wp2_with fail
 go_loopw [14] (λv wr=>∃ k:J,k<=size/\v=I k/\wr.cell? (ae s 0 ad)=some (.pointer (some (ae r 0 ad)))/\wr.cell? (ae m 0 ad)=some (I fr)/\SWinAt wr r B size first S/\Y (j8 S size first fr k) wr/\w.heap.size+2<=wr.heap.size)
  (λv _=>size-(intOf v).toNat)
 case atStart=>exact⟨0,de _,rfl,hd,hk.cell h2 id,K,by simpa[j8]using ab,U⟩
 obtain⟨k,v',rfl,i,j,a,c,x⟩:=hrel;by_cases m':k<size
 .have bz:=a.bz;have t:=CY S size first fr k
  have E:=W_ a (first+k);have D:(first:aa)+(k:aa)=((first+k:J):aa):=U;by_cases g':1073741824<first+k
  .have M:=ag (Kr a ((first:aa)+k) tk U);have aS:qs S size (first+k)=false:=by rw[E];simp;omega
   rw[aS,DS,aB aM,eB]at t;have d:=ag t;clear aS E t D g';by_cases lb:fr<=(first:aa)+k
   .go_wp2_with fail;refine aW M.o ?_;exact N2
   go_wp2_with fail;refine aW M.out ?_;exact N2
  obtain⟨b,z⟩:∃ b,(first+k)%size=b:=⟨_,rfl⟩;have V:b<S.length:=by rw[a.fR,<-z];exact e8 _ a.pos
  have F:=ag (zh a (first+k) b ((first:aa)+k) D tk z);have ar:=gA V;have s1:=a.has ar;have aS:qs S size (first+k)=S[b].2:=by rw[E];simp only[z];rw[show decide (first+k<=1073741824)=true from ei U,s7]
  have H:=W9 S size first fr k m'
  rw[aS]at t H;generalize S[b].2=Z at *;have X:=ag H;have d:=ag t;have g:=ag D;clear H t E aS ar z D;by_cases lb:fr<=(first:aa)+k
  .cases Z with
   | false=>
    go_wp2_with fail;refine aW F.out ?_;rintro aD ⟨q,rfl⟩;exact NX
   | true=>
    go_wp2_with fail;refine aW F.out ?_;rintro aD ⟨q,rfl⟩;have a':=u _ _ _ c ((Keeps.refl _ wr).drewN q);obtain⟨rest,G⟩:=X.out (by simp;have:=g.out;omega);obtain⟨fn,tmps,assign,body,N,L⟩:=gf (j8 S size first fr k) (first+k) rest (wr.drewN q) G a';have ps:=ag G;clear G;rw[<-g.out]at N;go_upto_region 6 with fail
    refine(oR (n:=0)).1 ?_;gi_wp2;refine⟨rfl,L.mono ?_⟩;rintro e r' ⟨rfl,O,A⟩;clear N L;have R:=A.cell (p:=ae s 0 ad) i (λh=>h.elim C.1 (λh=>m_));have T:=A.cell (p:=ae m 0 ad) j (λh=>h.elim C.2.1 (λh=>m_));have P:=(a.drew q).keeps A (λh=>h.elim C.2.2.1 a8) (λh=>h.elim C.2.2.2 a8);have Q:=A.size;gi_wp2;exact Oc
  go_wp2_with fail;refine aW F.out ?_;rintro aD ⟨q,rfl⟩;exact NU
 have he:k=size:=U;subst he;go_wp2_with fail;go_end0;exact⟨⟨_,rfl⟩,c⟩
end
end
def W8(S:ah ((J->aa)×a1))(size first:J)(fr:aa)(k:J):(j8 S size first fr k).length<=k:=by
 exact ca (ml _ _) aM
section
variable{w w':aj}{r B size first:J}{S:ah ((J->aa)×a1)}
def Xl(h:SWinAt w r B size first S)(fr:aa):aA 78 #[.func (.func 125) #[] #[w.heap.size,.pointer (some (ae (w+1) 0 ad))]] ((w.alloc (af #[r] 127)).alloc (af #[I fr] 3)) λe w'=>
   ∃ v,e=.returned v/\w'.ownsRow (w.heap.size+5) 3 1 v (j8 S size first fr size).length (lh (ix (j8 S size first fr size)))/\Below w w w':=by
 obtain⟨aD,a⟩:∃ aD,(w.alloc (af #[r] 127)).alloc (af #[I fr] 3)=aD:=⟨_,rfl⟩;have hk:Keeps aG w aD:=by rw[<-a];exact((Keeps.refl _ w).alloc _).alloc _
 have aw:aD.heap.size=w.heap.size+2:=by rw[<-a];simp
 have an:aD.cell? (ae w 0 ad)=some (.pointer (some (ae r 0 ad))):=by rw[<-a];exact q2 (oc _ _ _) _
 have d:aD.cell? (ae (w+1) 0 ad)=some (I fr):=by rw[<-a];have:=oc (w.alloc (af #[r] 127)) (I fr) 3;rw[fH]at this;exact this
 have kn:=bT h.head;have g:=bT h.body;rw[a]
 have ak:=KC (w:=aD) (λf:J=>(f:aa)) 125 #[w.heap.size,.pointer (some (ae (w+1) 0 ad))] (enters_of func125 aI rfl) (j8 S size first fr size) (ca (W8 _ _ _ _ _) h.most)
  (W7 ((h.keeps hk id id).keeps ((bb aD).alloc _) id id) w.heap.size (w.heap.size+1) fr (q2 an _) (q2 d _) _ ⟨U,U,U,U⟩ ⟨b1,b1⟩)
 rw[aw]at ak;exact ak.mono λe w' ⟨v,h1,b,c⟩=>⟨v,h1,b,(hk.below bx (λ_ _=>id)).trans (c.mono U)⟩
def Xh(h:SWinAt w r B size first S):aA 52 #[r] w λe w'=>
   ∃ v,e=.returned v/\w'.ownsRow (w.heap.size+5) 3 1 v (j8 S size first 0 size).length (lh (ix (j8 S size first 0 size)))/\Below w w w':=by
 go_in
 go_wp2_with fail;refine bE (Xo r 0 w) ?_;go_wp2_with fail;refine(Xl h 0).mono ?_;rintro e bq ⟨v,rfl,h1,h2⟩;go_wp2;go_ret;exact⟨_,rfl,h1,h2⟩
end
section
structure SSlots(S:ah ((J->aa)×a1))(size first:J)(L:ah (J×(J->aa))):al where
 fR:S.length=size
 pos:0<size
 dz:pS L
 gR:∀ p∈L,first<=p.1/\p.1<first+size/\p.1<=1073741824
 mQ:∀ f x,dM L f=some x->S[f%size]?=some (x,true)
 lo:∀ f,first<=f->f<first+size->f<=1073741824->dM L f=none->∃ y,S[f%size]?=some (y,false)
def lx(S:ah ((J->aa)×a1))(size:J)(a:ah J):ah ((J->aa)×a1):=a.foldl (λS f=>S.set (f%size) (ck,false)) S
def W5(S:ah ((J->aa)×a1))(size:J)(a:ah J):(lx S size a).length=S.length:=by
 unfold lx
 induction a generalizing S with
 | nil=>rfl
 | cons f a b=>rw[oU,b];simp
def W6(S:ah ((J->aa)×a1))(size:J)(a:ah J)(f:J):lx S size (a++[f])=(lx S size a).set (f%size) (ck,false):=by
 unfold lx;rw[mX];rfl
def Kn(S:ah ((J->aa)×a1))(size first:J)(a:ah J)(aw:S.length=size)(b:∀ f∈a,first<=f/\f<first+size)(g:J)(aZ:first<=g/\g<first+size):(lx S size a)[g%size]?=if g∈a then some (ck,false)else S[g%size]?:=by
 have au:0<size:=U
 induction a generalizing S with
 | nil=>rfl
 | cons f a c=>
  have e:lx S size (f :: a)=lx (S.set (f%size) (ck,false)) size a:=rfl;exact Nz
namespace SSlots
variable{S:ah ((J->aa)×a1)}{size first:J}{L:ah (J×(J->aa))}
def put(h:SSlots S size first L)(f:J)(x:(J->aa))(a:first<=f/\f<first+size/\f<=1073741824):SSlots (S.set (f%size) (x,true)) size first (fa L f x) where
 fR:=by simpa using h.fR
 pos:=h.pos
 dz:=F_ h.dz f x
 gR p au:=by
  rcases Ch au with rfl|au
  .exact a
  exact h.gR p au
 mQ g y aZ:=by
  exact NA
 lo g h1 h2 b aZ:=by
  exact N5
def has(h:SSlots S size first L)(f:J)(h1:first<=f)(h2:f<first+size):qs S size f=(dM L f).isSome:=by
 unfold qs;exact NR
def tU(h:SSlots S size first L)(fr:aa):j8 S size first fr size=(L.map (·.1)).filter λf:J=>decide (fr<=(f:aa)):=by
 exact NM
def drop(h:SSlots S size first L)(p:J->a1):SSlots (lx S size ((L.map (·.1)).filter p)) size first (L.filter λq=>!p q.1):=by
 have g:∀ f∈(L.map (·.1)).filter p,first<=f/\f<first+size:=λf a=>by
  exact OH
 have d:∀ f,f∈(L.map (·.1)).filter p↔(dM L f).isSome=true/\p f=true:=λf=>by
  exact NN
 refine⟨by rw[W5,h.fR],h.pos,F9 h.dz _,λq b=>h.gR q (fx.1 b).1,λf x a=>?_,λf h1 h2 e a=>?_⟩
 .rw[yO (p:=λn=>!p n)]at a;split at a
  .rename_i au;have ax:=h.gR _ (ui a);rw[Kn S size first _ h.fR g f ⟨ax.1,ax.2.1⟩,aB (λc=>by have:=((d f).1 c).2;simp[this]at au)];exact h.mQ f x a
  cases a
 rw[Kn S size first _ h.fR g f ⟨h1,h2⟩];exact NK
def move(h:SSlots S size first L)(n:J)(av:first<=n)(a:∀ p∈L,n<=p.1):SSlots S size n L where
 fR:=h.fR
 pos:=h.pos
 dz:=h.dz
 gR p au:=⟨a p au,by have:=h.gR p au;omega,(h.gR p au).2.2⟩
 mQ:=h.mQ
 lo f h1 h2 c g:=by
  by_cases k:f<first+size
  .exact h.lo f U k c g
  have au:=h.pos;have e:=pK (f-first) size;have hm:=e8 (f-first) au;generalize o:(f-first)%size=gM at *;generalize (f-first) / size=d at *;have hd:0<d:=by
   exact ME
  have j:=Aj size hd;rw[Ak]at j;have i:f=first+gM+size*d:=U
  have l:f%size=(first+gM)%size:=by rw[i,Mj]
  rw[l];refine h.lo (first+gM) U U U (Cd λp b m=>?_)
  have:=a p b
  omega
end SSlots
end
section
variable{w w':aj}{r B size first:J}{S:ah ((J->aa)×a1)}
def Z9(w:aj):(Instr.build 237 #[]).run prog w=.ok (.agg (hU ck false)) w:=aI
def Xm(h:SWinAt w r B size first S)(a:ah J)(A:b_ Addr)(cap:J)(aU:eb w 1 A a.length cap (lh (ix a)))(t:0<a.length->∀ x,A=some x->x.block≠B)(u:∀ f∈a,fk first size (f:aa)):aA 224 #[r,aq A a.length cap] w λe w'=>e=.returned (I (a.length:aa))/\SWinAt w' r B size first (lx S size a)/\Keeps (λb=>b=B) w w':=by
 have C:a.length<=9223372036854775807:=ca aU.2.1 aU.2.2.1
 go_in
 go_wp2;go_loopw [9] (λi wr=>∃ k:J,k<=a.length/\i=I k/\SWinAt wr r B size first (lx S size (a.take k))/\Keeps (λb=>b=B) w wr) (λi _=>a.length-(intOf i).toNat)
 case atStart=>exact⟨0,de _,rfl,h,Keeps.refl _ w⟩
 obtain⟨k,hk,rfl,c,j⟩:=hrel;by_cases l:k<a.length
 .obtain⟨b,o,rfl,an⟩:=(aU.keeps j (λav x z=>t av x z)).at' U;have E:=an _ _ (ID a k l);have ax:=ag (zh c a[k] (a[k]%size) _ rfl (u _ (mY l)) rfl);have v:lx S size (a.take (k+1))=(lx S size (a.take k)).set (a[k]%size) (ck,false):=by rw[kY l,W6]
  have p:a[k]%size<(lx S size (a.take k)).length:=by rw[c.fR];exact e8 _ c.pos
  generalize a[k]=f at *;generalize f%size=d at *;generalize lx S size (a.take k)=D at *;go_wp2_with fail;refine aW ax.o ?_;rintro aD ⟨q,m⟩;have g:=c.drew q;rw[<-m]at g;have n:Keeps (λb=>b=B) w aD:=by rw[m];exact j.drewN q
  have y:=g.store d p ck false;have hfin:=n.trans (iW aD B (e5 (gN D).toArray (d*61) (hU ck false)));have gK:=g.wR d p ck false;generalize aD.setRow B (e5 (gN D).toArray (d*61) (hU ck false))=bq at *;have s:=ag gK;clear gK m g n;go_wp2_with first|refine zI (Z9 _) rfl rfl rfl ?_|refine c7 y rfl rfl rfl rfl ?_
  go_roundw
  case rel=>exact⟨k+1,U,by go_num,by rw[v];exact s.o,hfin⟩
  simp[intOf];omega
 obtain rfl:k=a.length:=U;rw[nU]at c;go_wp2_with fail;go_ret;exact⟨rfl,c,j⟩
def kj(w:aj)(r B size first:J)(L:ah (J×(J->aa))):al:=∃ S,SWinAt w r B size first S/\SSlots S size first L
theorem kj.keeps{L:ah (J×(J->aa))}{T:J->al}(h:kj w r B size first L)(hk:Keeps T w w')(h1:¬ T r)(h2:¬ T B):kj w' r B size first L:=by
 have⟨S,a,b⟩:=h;exact⟨S,a.keeps hk h1 h2,b⟩
variable{L:ah (J×(J->aa))}
def kj.le(h:kj w r B size first L):L.length<=size/\0<size/\size<=4096/\first<=1073741824/\r<w.heap.size/\B<w.heap.size/\r≠B:=by
 exact ND
def Xa(h:kj w r B size first L):aA 52 #[r] w λe w'=>∃ v,e=.returned v/\w'.ownsRow (w.heap.size+5) 3 1 v (L.map (·.1)).length (lh (ix (L.map (·.1))))/\Below w w w':=by
 have⟨S,h,b⟩:=h;have a:=Xh h;rw[b.tU 0,mW.2 (λn _=>aM)]at a;exact a
def Kp(h:kj w r B size first L)(n:J)(f:aa)(d:f=n)(a:fk first size f)(x:(J->aa)):aA 192 #[r,I f,(Value.agg (br x))] w λe w'=>e=.returned (I 0)/\kj w' r B size first (fa L n x)/\Keeps (λb=>b=B) w w':=by
 obtain⟨S,h,c⟩:=h;refine aW (Xk h n _ f d a rfl x) ?_;rintro w' ⟨h1,h2⟩;exact⟨rfl,⟨_,h1,c.put n x r1⟩,h2⟩
end
section
variable{w w':aj}{r B size first:J}{L:ah (J×(J->aa))}
def Ko(h:kj w r B size first L)(f:aa)(d:-9223372036854775808<=f/\f<=9223372036854775807):aA 271 #[r,I f] w λe w'=>e=aY #[.agg (br ((hb L f).getD ck)),.bool (hb L f).isSome]/\Keeps aG w w':=by
 have⟨S,h,b⟩:=h;by_cases a:fk first size f
 .obtain⟨n,rfl⟩:=mj (show 0<=f by unfold fk at a;omega);rw[uh];rcases c:dM L n with _|x
  .obtain⟨y,g⟩:=b.lo n r1 r1 r1 c;exact Kq h n _ n rfl a rfl y false g
  exact Kq h n _ n rfl a rfl x true (b.mQ n x c)
 rw[I8 (λp au e=>a (by have:=b.gR p au;unfold fk;omega))];exact Xi h f a d
def Xc(h:kj w r B size first L)(f:aa)(b:f<first\/1073741824<f):aA 150 #[r,I f] w λe w'=>e=.returned (I 0)/\kj w' r B size first L/\Keeps aG w w':=by
 have⟨S,h,a⟩:=h;have h1:=(h.keeps (T:=aG) ((Keeps.refl _ w).alloc (af #[I f] 3)) id id);have bz:=h1.bz;have od:(w.alloc (af #[I f] 3)).cell? (ae w 0 ad)=some (I f):=oc _ _ _;have hk:Keeps aG w (w.alloc (af #[I f] 3)):=(Keeps.refl _ w).alloc _;by_cases h2:f<first
 .clear b
  go_in
  exact Oi
 have c:1073741824<f:=U
 go_in
 go_upto_region 1 with fail
 generalize w.alloc (af #[I f] 3)=ao at *;go_quiet (fail);go_wp2;go_ret;exact⟨rfl,⟨S,h1.drew _,a⟩,hk.drewN _⟩
def Xd(a:J)(n x:aa)(W:aj)(an:W.cell? (ae a 0 ad)=some (I n)):aA 223 #[I x,a] W λe w'=>e=.returned (.bool (decide (n<=x)))/\∃ q,w'=W.drewN q:=by
 go_in
 go_wp2
 all_goals
  go_ret;exact⟨by simp_all,0,rfl⟩
theorem SWinAt.sK{S:ah ((J->aa)×a1)}(h:SWinAt w r B size first S)(n:J)(av:n<=1073741824):SWinAt (w.setCell (ae r 0 ad) (I (n:aa))) r B size n S:=
 ⟨by simpa using b3 h.head 0 (I (n:aa)),e0 h.body (gE h.ne) _,h.fR,h.pos,h.most,av,h.ne⟩
def Xb(h:kj w r B size first L)(n:J)(f:aa)(q:f=n)(o:first<=n/\n<=1073741824):aA 150 #[r,I f] w λe w'=>e=.returned (I (((L.filter λp=>decide (p.1<n)).length:J):aa))/\kj w' r B size n (L.filter λp=>!decide (p.1<n))/\Keeps (λb=>b=r\/b=B) w w':=by
 obtain⟨S,h,c⟩:=h;have s:Keeps aG w (w.alloc (af #[I f] 3)):=(Keeps.refl _ w).alloc _;have h1:=h.keeps s id id;have bz:=h1.bz;have od:(w.alloc (af #[I f] 3)).cell? (ae w 0 ad)=some (I f):=oc _ _ _;have Y:(w.alloc (af #[I f] 3)).heap.size=w.heap.size+1:=aM;have kn:=bT h.head;have Z:=bT h.body;have d:(first:aa)<=f:=U;have l:f<=1073741824:=U;have hm:=(c.drop λk=>decide (k<n)).move n o.1 (λp au=>Nq);have u:((L.map (·.1)).filter λk:J=>decide (k<n)).length=(L.filter λp=>decide (p.1<n)).length:=by rw[rQ,hG];rfl
 have G:∀ k∈(L.map (·.1)).filter λk:J=>decide (k<n),fk first size (k:aa):=λk hk=>by
  obtain⟨p,au,rfl⟩:=e9.1 (fx.1 hk).1
  have:=c.gR p au
  unfold fk;omega
 have F:((ix (L.map (·.1))).filter λx=>!decide (f<=x))=ix ((L.map (·.1)).filter λk:J=>decide (k<n)):=by
  unfold ix;rw[rQ]
  congr 1
  exact Mu
 rw[<-u];have z:=ag q;clear u q;generalize ((L.map (·.1)).filter λk:J=>decide (k<n))=j at *;have M:(ix j).length=j.length:=by simp[ix]
 have C:=ag M;have N:(L.map (·.1)).length<=4096:=by simpa using(ca (kj.le ⟨S,h,c⟩).1 h.most)
 go_in
 go_upto_region 1 with fail
 generalize w.alloc (af #[I f] 3)=ao at *;generalize w.heap.size=i at *;go_quiet (fail);go_wp2_with fail;refine(Xa ⟨S,h1.drew nq,c⟩).mono ?_;rintro e bq ⟨v,rfl,a,E⟩;have t:Keeps aG ao bq:=((Keeps.refl _ ao).drewN nq).fT E;have O:(ao.drewN nq).heap.size=ao.heap.size:=rfl;rw[O]at a;go_wp2_with fail
 refine(G7 (ix (L.map (·.1))) a N (λx=>decide (f<=x)) 223 #[i] (enters_of func223 aI rfl)
  (λW x hk=>Xd i f x W (hk.cell (t.cell od id) (λe=>by have:=(a.lt i e).1;omega)))).mono ?_
 rintro e P ⟨v4,rfl,y,H⟩;rw[F,C.out]at y;have X:∀ b,b<ao.heap.size->¬ v.ownBlock=some b:=λb ak e=>by have:=(a.lt b e).1;omega
 obtain⟨A,cap,rfl,aU,ak⟩:=cS y;have m:Keeps (λb=>ao.heap.size<=b) ao P:=(t.mono (λ_ _ h=>h.elim)).trans (H.mono λb _ e=>(a.lt b e).1 |> λh=>U);have D:=h1.keeps m U U;go_wp2_with fail;refine aW (Xm D j A cap aU (λ_ x g=>Ax) G) ?_;rintro Q ⟨d,l⟩;have T:=l.cell (m.cell od b1) b1;have R:=d.bz;have V:=bP d.head;have gK:=d.sK n o.2;rw[<-z.out]at gK
 have K:Keeps (λb=>b=r\/b=B) w (Q.setCell (ae r 0 ad) (I f)):=
  (((lj s).trans (m.mono λb ak e=>U)).trans (l.mono λb _ e=>.inr e)).setCell (p:=ae r 0 ad) (.inl rfl) _
 go_wp2_with fail;go_ret;exact⟨rfl,⟨_,gK,hm⟩,K⟩
end
section
structure Fd where
 first:J
 next:J
 last:aa
 K:ah (J×aa)
 cX:ah (J×aa)
def pU(w:aj)(D:J)(x:Fd):al:=IsFeed w D x.first x.next x.last x.K x.cX
structure gj where
 c:J
 D:J->J
 r:J
 B:J
structure ct where
 aJ:aa
 eO:J
 dE:J
 aN:J
 f:J->Fd
 e4:J
 L:ah (J×(J->aa))
 now:J
def gj.S(b:gj)(j:J):al:=j=b.c\/(b.D 0<=j/\j<=b.D 0+4)\/(b.D 1<=j/\j<=b.D 1+4)\/j=b.r\/j=b.B
structure gj.ok(b:gj):al where
 GW:b.c≠b.r
 A2:b.c≠b.B
 bz:¬ (b.D 0<=b.c/\b.c<=b.D 0+4)
 b6:¬ (b.D 1<=b.c/\b.c<=b.D 1+4)
 eV:¬ (b.D 0<=b.r/\b.r<=b.D 0+4)
 fE:¬ (b.D 1<=b.r/\b.r<=b.D 1+4)
 hj:¬ (b.D 0<=b.B/\b.B<=b.D 0+4)
 Fg:¬ (b.D 1<=b.B/\b.B<=b.D 1+4)
 Qw:b.D 0+4<b.D 1\/b.D 1+4<b.D 0
structure IsCore(w:aj)(b:gj)(x:ct):al where
 head:w.heap[b.c]?=some (af #[aR x.aJ,I x.eO,I x.dE,I x.aN,.pointer (some (ae (b.D 0+4) 0 ad)),.pointer (some (ae (b.D 1+4) 0 ad)),b.r,I x.now] 129 (0,0))
 fd:∀ k,k<2->pU w (b.D k) (x.f k)
 st:kj w b.r b.B 81 x.e4 x.L
 ok:b.ok
 aN:x.aN<2
 gS:x.now<=1000000
 dO:∀ k,k<2->(x.f k).next<=1000000
 wn:x.dE<=1000
namespace IsCore
variable{w w':aj}{b:gj}{x:ct}
theorem keeps{T:J->al}(h:IsCore w b x)(hk:Keeps T w w')(a:∀ j,b.S j->¬ T j):IsCore w' b x:=by
 refine⟨hk.heap h.head (a _ (.inl rfl)),λk c=>?_,h.st.keeps hk (a _ (.inr (.inr (.inr (.inl rfl))))) (a _ (.inr (.inr (.inr (.inr rfl))))),h.ok,h.aN,h.gS,h.dO,h.wn⟩
 have:k=0\/k=1:=U
 rcases this with rfl|rfl
 .exact(h.fd 0 U).keeps hk (λj h1 h2=>a _ (.inr (.inl ⟨h1,h2⟩)))
 exact(h.fd 1 U).keeps hk (λj h1 h2=>a _ (.inr (.inr (.inl ⟨h1,h2⟩))))
def keep(h:IsCore w b x)(hk:Keeps aG w w'):IsCore w' b x:=h.keeps hk (λ_ _=>id)
theorem lt(h:IsCore w b x){j:J}(a:b.S j):j<w.heap.size:=by
 have h1:=bT h.head;have h2:=(h.fd 0 U).lt;have c:=(h.fd 1 U).lt;have d:=h.st.le;rcases a with e|e|e|e|e<;>omega
def lP(h:IsCore w b x){k:J}(hk:k<2):w.cell? (ae b.c (4+k) ad)=some (.pointer (some (ae (b.D k+4) 0 ad))):=by
 have:k=0\/k=1:=U
 rcases this with rfl|rfl<;>exact bf h.head rfl
def b6(h:IsCore w b x):w.cell? (ae b.c 1 ad)=some (I x.eO):=bf h.head rfl
def bw(h:IsCore w b x):w.cell? (ae b.c 2 ad)=some (I x.dE):=bf h.head rfl
def eC(h:IsCore w b x):w.cell? (ae b.c 3 ad)=some (I x.aN):=bf h.head rfl
def ek(h:IsCore w b x):w.cell? (ae b.c 6 ad)=some (.pointer (some (ae b.r 0 ad))):=bf h.head rfl
def c2(h:IsCore w b x):w.cell? (ae b.c 7 ad)=some (I x.now):=bf h.head rfl
end IsCore
variable{w w':aj}{b:gj}{x:ct}
def tK(h:IsCore w b x):aA 22 #[b.c] w λe w'=>e=.returned (I x.now)/\w=w':=by
 have c2:=h.c2
 go_in
 go_wp2;go_ret;exact⟨rfl,rfl⟩
def vR(h:IsCore w b x):aA 56 #[b.c] w λe w'=>e=.returned (.pointer (some (ae (b.D x.aN+4) 0 ad)))/\∃ q,w'=w.drewN q:=by
 have eC:=h.eC;have lP:=h.lP h.aN;have hm:(x.aN:aa)<2:=by have:=h.aN;omega
 go_in
 exact vi
def sb(h:IsCore w b x):aA 151 #[b.c] w λe w'=>e=.returned (.pointer (some (ae (b.D (1-x.aN)+4) 0 ad)))/\∃ q,w'=w.drewN q:=by
 have eC:=h.eC;obtain⟨k,hk,a,d⟩:∃ k:J,1-x.aN=k/\k<2/\(1:aa)-(x.aN:aa)=(k:aa):=⟨1-x.aN,rfl,U,by have:=h.aN;omega⟩;rw[hk];have lP:=h.lP a
 go_in
 exact vi
def iU(x:ct):J:=min (x.f 0).next (x.f 1).next
def A9(h:IsCore w b x):aA 24 #[b.c] w λe w'=>e=.returned (I (iU x))/\∃ q,w'=w.drewN q:=by
 have i:=h.lP (k:=0) U;have d1:=h.lP (k:=1) U;have a:=ag (λn=>q_ ((h.fd 0 U).drew n));have d:=ag (λn=>q_ ((h.fd 1 U).drew n));have bR:=h.dO 1 U;unfold iU;generalize (x.f 0).next=m at *;generalize (x.f 1).next=n at *;by_cases an:m<=n
 .rw[oY an];have g:min (m:aa) (n:aa)=(m:aa):=U
  go_in
  exact NB
 rw[Eu U];have g:min (m:aa) (n:aa)=(n:aa):=U
 go_in
 exact NB
end
variable{w w':aj}{b:gj}{x:ct}
def IsCore.drew(h:IsCore w b x)(n:J):IsCore (w.drewN n) b x:=h.keep ((Keeps.refl _ w).drewN n)
def j0(x:ct):a1:=decide ((x.dE:aa)<=(x.now:aa)-(iU x:aa))
def Qm(h:IsCore w b x):iU x<=1000000:=by
 have:=h.dO 0 U
 unfold iU;omega
def x7(h:IsCore w b x):aA 216 #[b.c] w λe w'=>e=.returned (.bool (j0 x))/\∃ q,w'=w.drewN q:=by
 have bw:=h.bw;have c2:=h.c2;have aV:=ag (λn=>A9 (h.drew n));have ak:=Qm h;have av:=h.gS;unfold j0;generalize iU x=m at *
 go_in
 go_wp2;go_quiet ((go_at_call 24;first|exact Calls.quiet_of (aV.o _)|exact hv (aV.o _)));go_wp2;go_ret;exact⟨rfl,_,rfl⟩
def Qi(h:IsCore w b x):aA 156 #[b.c] w λe w'=>e=.returned (I (x.f (1-x.aN)).next)/\∃ q,w'=w.drewN q:=by
 go_in
 go_wp2_with fail;refine aW (sb h) ?_;rintro _ ⟨q,rfl⟩;go_wp2_with fail;refine bE (((λn=>q_ ((h.fd (1-x.aN) U).drew n))) q) ?_;go_wp2;go_ret;exact⟨rfl,_,rfl⟩
def A_(h:IsCore w b x):aA 32 #[b.c] w λe w'=>e=.returned (I (x.f x.aN).next)/\∃ q,w'=w.drewN q:=by
 go_in
 go_wp2_with fail;refine aW (vR h) ?_;rintro _ ⟨q,rfl⟩;go_wp2_with fail;refine bE (((λn=>q_ ((h.fd x.aN h.aN).drew n))) q) ?_;go_wp2;go_ret;exact⟨rfl,_,rfl⟩
def fv(x:ct):Fd:=x.f (1-x.aN)
def fM(x:ct):b_ J:=ju (fv x).K (fv x).cX
def c3(x:ct):aa:=match fM x with
 | none=>(min (iU x) x.now:J)-1
 | some g=>min ((min (iU x) x.now:J)-1:aa) ((g:aa)-1)
def x5(h:IsCore w b x)(i:fM x=none):aA 91 #[b.c] w λe w'=>e=.returned (I (c3 x))/\Keeps aG w w':=by
 have av:=h.gS;have aV:=ag (λn=>A9 (h.drew n));have aw:c3 x=(min (iU x) x.now:J)-1:=by unfold c3;rw[i]
 rw[aw];have j:=ag (λ(W:aj) (hk:Keeps aG w W)=>sb (h.keep hk));have f:=ag (λ(W:aj) (hk:Keeps aG w W)=>vW ((h.keep hk).fd (1-x.aN) U));unfold fM fv at i;rw[i]at f;have c2:=h.c2;generalize iU x=c0 at *;generalize x.now=gS at *;by_cases an:c0<=gS
 .rw[oY an];have l:min (c0:aa) (gS:aa)=(c0:aa):=U;have m:IntKind.i64.wrap ((c0:aa)-1)=(c0:aa)-1:=eG _ U
  go_in
  go_wp2_with fail;go_quiet ((go_at_call 24;first|exact Calls.quiet_of (aV.o _)|exact hv (aV.o _)));go_wp2_with fail;refine aW (j.o _ ((Keeps.refl _ w).drewN _)) ?_;rintro ao ⟨q,d⟩;have a:Keeps aG w ao:=by rw[d];exact((Keeps.refl _ w).drewN _).drewN q
  clear d;go_wp2_with fail;refine aW (f.out _ a) λaD g=>?_;have k:=a.trans g;simp only[pL,o0];go_wp2;go_ret;exact⟨rfl,k⟩
 rw[Eu U];have l:min (c0:aa) (gS:aa)=(gS:aa):=U
 go_in
 go_wp2_with fail;go_quiet ((go_at_call 24;first|exact Calls.quiet_of (aV.out _)|exact hv (aV.out _)));go_wp2_with fail;refine aW (j.out _ ((Keeps.refl _ w).drewN _)) ?_;rintro ao ⟨q,d⟩;have a:Keeps aG w ao:=by rw[d];exact((Keeps.refl _ w).drewN _).drewN q
 clear d;go_wp2_with fail;refine aW (f.out _ a) λaD g=>?_;simp only[pL,o0];go_wp2;go_ret;exact⟨rfl,(a.trans g)⟩
def GO(h:IsCore w b x)(f:aa)(p:-9223372036854775808<=f/\f<=9223372036854775807):aA 208 #[b.c,I f] w λe w'=>e=aY #[.agg (br ((hb x.L f).getD ck)),.bool (hb x.L f).isSome]/\Keeps aG w w':=by
 have k:=ma w;have i:=aX w (af (br ck) 99);have a:Keeps aG w (w.alloc (af (br ck) 99)):=(Keeps.refl _ w).alloc _;generalize w.alloc (af (br ck) 99)=ao at *;have h1:=h.keep a;have ek:=h1.ek;have j:=ag (Ko h1.st f p);have g:=ag i;generalize (hb x.L f).getD ck=v at *;generalize (hb x.L f).isSome=bX at *
 go_in
 go_wp2_with refine dU k rfl rfl ?_
 refine aW j.o λaD d=>?_;have l:=a.trans d;obtain⟨q,n,m⟩:=dQ aD 99 60 w.heap.size (br v) (br ck) sizeOf99 (et _) (et _) (d.heap g.o id) (yS _);generalize aD.setRow w.heap.size (br v)=bq at *;go_wp2_with refine c7 q rfl rfl rfl rfl ?_
 refine dx (v:=aY #[.agg (br v),.bool bX]) n ?_;exact⟨rfl,cN l m a8⟩
end Go.Proofs.YtalagblioepadaaGreatDoor
