/- The proof, part 30. -/
import Derived.Test.YtalagblioepadaaGreatDoorZb20
import Derived.Test.YtalagblioepadaaGreatDoorZb18
import Derived.Test.YtalagblioepadaaGreatDoorZb12
namespace Go.Proofs.YtalagblioepadaaGreatDoor
set_option linter.all false
open Proofs.Tryz List Go.RowKit
set_option maxRecDepth 100000
set_option maxHeartbeats 1600000
def Ml{p:ak}(h:p:=by
 go_wp2;go_quiet ((go_at_call 49;first|(with_reducible exact Calls.quiet_of (mP (a.o _)))|(with_reducible exact iF (mP (a.o _)))|(with_reducible exact Calls.quiet_of (mP (d.o _)))|(with_reducible exact iF (mP (d.o _)))));go_wp2;go_ret;exact⟨rfl,_,rfl⟩
 ):p:=h
def MK{p:ak}(h:p:=by
 rintro aB ⟨q,rfl⟩;go_wp2_with fail;go_roundw
 case rel=>exact⟨k+1,U,by go_num,i,j,a.drew q,L7,x⟩
 simp[intOf];omega
 ):p:=h
section
def hx(v:J->aa)(b:aY):a6 aw:=(bo v).push (.bool b)
def ub(v:J->aa)(b:aY):(hx v b).size=61:=by simp[hx,eh]
def WW(v:J->aa)(b:aY)(j:J)(a:j<60):(hx v b)[j]?=(bo v)[j]?:=by
 rw[hx,pd,aA (by rw[eh];omega)]
def WX(v:J->aa)(b:aY):(hx v b)[60]?=some (.bool b):=by
 rw[hx,pd,aD (by rw[eh])]
def gr(S:ah ((J->aa)×aY)):ah aw:=S.flatMap λp=>(hx p.1 p.2).toList
def vZ(S:ah ((J->aa)×aY)):(gr S).length=S.length*61:=by
 induction S with
 | nil=>rfl
 | cons c S a=>
  simp only[gr,iL,cx,dr]at a⊢;rw[a,pe,ub];omega
def vY(S:ah ((J->aa)×aY))(i:J)(h:i<S.length)(j:J)(d:j<61):(gr S)[i*61+j]?=(hx S[i].1 S[i].2)[j]?:=by
 induction S generalizing i with
 | nil=>exact absurd h (k7 _)
 | cons c S b=>
  simp only[gr,iL]at b⊢;have a:(hx c.1 c.2).toList.length=61:=by rw[pe,ub]
  cases i with
  | zero=>
   rw[wM,gv,jL U];simp
  | succ i=>
   rw[mu (by rw[a,jQ];omega),a,show(i+1)*61+j-61=i*61+j by rw[jQ];omega];exact b i h8
def VV(S:ah ((J->aa)×aY))(i:J)(h:i<S.length):(gr S)[i*61+60]?=some (.bool S[i].2):=by
 rw[vY S i h 60 U,WX]
def VW(S:ah ((J->aa)×aY))(i:J)(h:i<S.length)(x:(J->aa))(b:aY):eU (gr S).toArray (i*61) (hx x b)=(gr (S.set i (x,b))).toArray:=by
 have ax:(gr S).toArray.size=S.length*61:=by rw[gR,vZ]
 have av:i*61+61<=S.length*61:=by have:=sH 61 h;rw[jQ]at this;omega
 apply pc;intro m;rw[sb _ _ _ (by rw[ub,ax];exact av),ub];have e:=o_ m 61;have hm:=eW m (show 0<61 by omega);have em:m / 61*61+m%61=m:=U;by_cases c:m / 61<S.length
 .have g1:=vY S (m / 61) c (m%61) hm;have a:=vY (S.set i (x,b)) (m / 61) zO (m%61) hm;rw[em]at g1 a;rw[show(gr S).toArray[m]?=(gr S)[m]? from by simp,show(gr (S.set i (x,b))).toArray[m]?=(gr (S.set i (x,b)))[m]? from by simp,g1,a];by_cases aq:m / 61=i
  .rw[aD U];subst aq;rw[zm]
   congr 1
   omega
  rw[aA U,wH U]
 rw[aA U,show(gr S).toArray[m]?=(gr S)[m]? from by simp,show(gr (S.set i (x,b))).toArray[m]?=(gr (S.set i (x,b)))[m]? from by simp,sB (by rw[vZ];omega),sB (by rw[vZ,qa];omega)]
structure SWinAt(w:ai)(r B size first:J)(S:ah ((J->aa)×aY)):ak where
 head:w.heap[r]?=some (ae #[I first,ao (some (ad B 0 ab)) size size] 233 (0,0))
 body:w.heap[B]?=some (ae (gr S).toArray 237 (0,0))
 fC:S.length=size
 pos:0<size
 most:size<=4096
 fst:first<=1073741824
 ne:r≠B
namespace SWinAt
variable{w w':ai}{r B size first:J}{S:ah ((J->aa)×aY)}
theorem keeps{T:J->ak}(h:SWinAt w r B size first S)(hk:Keeps T w w')(h1:¬ T r)(h2:¬ T B):SWinAt w' r B size first S:=
 ⟨hk.heap h.head h1,hk.heap h.body h2,h.fC,h.pos,h.most,h.fst,h.ne⟩
def drew(h:SWinAt w r B size first S)(n:J):SWinAt (w.drewN n) r B size first S:=⟨h.head,h.body,h.fC,h.pos,h.most,h.fst,h.ne⟩
def bu(h:SWinAt w r B size first S):w.cell? (ad r 0 ab)=some (I first):=bb h.head rfl
def b0(h:SWinAt w r B size first S):w.cell? (ad r 1 ab)=some (ao (some (ad B 0 ab)) size size):=bb h.head rfl
end SWinAt
section
variable{w w':ai}{r B size first:J}{S:ah ((J->aa)×aY)}
def Jn(h:SWinAt w r B size first S)(f:aa)(a:¬ e8 first size f)(j:-9223372036854775808<=f/\f<=9223372036854775807):az 126 #[r,I f] w λe w'=>e=.returned (.pointer none)/\∃ q,w'=w.drewN q:=by
 have bu:=h.bu;have b0:=h.b0;have bP:=h.fst;have g:=h.most;unfold e8 at a;by_cases h1:f<first
 .clear a
  go_in
  exact uF
 by_cases h2:f<first+size
 .have i:1073741824<f:=U;have b:f-first<size:=U
  have c:(first:aa)<=f:=U;have d:IntKind.i64.wrap (f-first)=f-first:=et _ U
  clear a
  go_in
  exact uF
 have b:(size:aa)<=f-first:=U
 have c:(first:aa)<=f:=U;have d:IntKind.i64.wrap (f-first)=f-first:=et _ U
 clear a
 go_in
 go_wp2;go_quiet (fail);go_wp2;go_ret;exact⟨rfl,_,rfl⟩
def yF(h:SWinAt w r B size first S)(n k:J)(f:aa)(a:f=n)(b:e8 first size f)(hk:n%size=k):az 126 #[r,I f] w λe w'=>e=.returned (.pointer (some (ad B (k*61) ab)))/\∃ q,w'=w.drewN q:=by
 have bu:=h.bu;have b0:=h.b0;have bP:=h.fst;have c:=h.most;have⟨h1,h2,g⟩:=b;have i:f-first<size:=U
 have l:IntKind.i64.wrap (f-first)=f-first:=et _ U
 have j:k<size:=hk▸eW _ h.pos;have aN:f.tmod (size:aa)=(k:aa):=by
  rw[a,pf U,<-hk];simp
 have m:((size:aa) == 0)=false:=by have:=h.pos;rw[er];omega
 have d:0<=f:=U;clear hk a
 go_in
 go_wp2;go_quiet (fail);go_wp2;go_quiet (fail);go_wp2;go_ret;exact⟨rfl,_,by rw[C7]⟩
end
end
section
variable{w w':ai}{r B size first:J}{S:ah ((J->aa)×aY)}
def nO(v:J->aa):∀ u∈(bo v).toList,u.oneCell'=true:=by
 intro u a;simp only[bo,fu]at a;obtain⟨j,_,rfl⟩:=a;rfl
def WY(v:J->aa)(b:aY):∀ u∈(hx v b).toList,u.oneCell'=true:=by
 intro u a;simp only[hx,Array.toList_push,ft,h6]at a;rcases a with a|rfl
 .exact nO v u a
 rfl
def SWinAt.has(h:SWinAt w r B size first S){k:J}{x:J->aa}{b:aY}(hk:S[k]?=some (x,b)):w.cell? (ad B (k*61+60) ab)=some (.bool b):=by
 have⟨a,c⟩:=hf.1 hk;have h1:=VV S k a;rw[c]at h1;exact bb h.body (by simpa using h1)
def SWinAt.load(h:SWinAt w r B size first S){k:J}{x:J->aa}{b:aY}(hk:S[k]?=some (x,b)):(Instr.loadAt 99 (.pointer (some (ad B (k*61) ab)))).run prog w=.ok (.agg (bo x)) w:=by
 have⟨d,e⟩:=hf.1 hk;refine gq (P:=prog) 99 60 B (k*61) (bo x) _ _ isAgg99 sizeOf99 (eh x) h.body (λj v a=>?_);have c:j<60:=by
  have:=(j8.1 a).1
  rw[eh]at this;exact this
 have h1:=vY S k d j U;rw[e,WW x b j c,a]at h1;simpa using h1
theorem SWinAt.wb(h:SWinAt w r B size first S)(k:J)(hk:k<S.length)(x:J->aa)(b:aY):SWinAt (w.setRow B (eU (gr S).toArray (k*61) (hx x b))) r B size first (S.set k (x,b)):=
 ⟨(iB w B _).heap h.head h.ne,by rw[VW S k hk];exact fe w B _ _ _ h.body,by simpa using h.fC,h.pos,h.most,h.fst,h.ne⟩
def SWinAt.store(h:SWinAt w r B size first S)(k:J)(hk:k<S.length)(x:J->aa)(b:aY):(Instr.storeAt 237 (.pointer (some (ad B (k*61) ab))) (.agg (hx x b))).run prog w=.ok () (w.setRow B (eU (gr S).toArray (k*61) (hx x b))):=by
 have ax:(gr S).toArray.size=S.length*61:=by rw[gR,vZ]
 exact qQ (P:=prog) 237 61 B (k*61) (hx x b) _ _ sizeOf237 (ub x b) h.body U (WY x b)
def cf:J->aa:=λ_=>0
def lG(w:ai):(Instr.alloc 99 true (aV #[])).run prog w=.ok w.heap.size (w.alloc (ae (bo cf) 99)):=aH
theorem nN{w:ai}{b:J}{v:J->aa}{t:TypeId}(a:w.heap[b]?=some (ae (bo v) t (0,0))):(Instr.loadAt 99 b).run prog w=.ok (.agg (bo v)) w:=
 gq (P:=prog) 99 60 b 0 (bo v) _ _ isAgg99 sizeOf99 (eh v) a (λj u z=>jS)
def yf(v:J->aa):(bo v).toList.all (λu=>u.oneCell')=true:=ff.2 (nO v)
structure w2(w w':ai):ak where
 res:w'.heap[w.heap.size]?=some (ae (bo cf) 99 (0,0))
 none:w'.heap[w.heap.size+1]?=some (ae (bo cf) 99 (0,0))
 keep:Keeps aG w w'
def Fk(w:ai):w2 w ((w.alloc (ae (bo cf) 99)).alloc (ae (bo cf) 99)):=by
 refine⟨cm (aW w _) _,?_,((Keeps.refl _ w).alloc _).alloc _⟩
 have:=aW (w.alloc (ae (bo cf) 99)) (ae (bo cf) 99)
 rwa [fF]at this
def w2.keeps{w an aB:ai}(h:w2 w an)(hk:Keeps aG an aB):w2 w aB:=⟨hk.heap h.res id,hk.heap h.none id,h.keep.trans hk⟩
def VZ(h:SWinAt w r B size first S)(f:aa)(g:¬ e8 first size f)(k:-9223372036854775808<=f/\f<=9223372036854775807):az 271 #[r,I f] w λe w'=>e=aV #[.agg (bo cf),false]/\Keeps aG w w':=by
 have d:=lG w;have b:=lG (w.alloc (ae (bo cf) 99));have m:(w.alloc (ae (bo cf) 99)).heap.size=w.heap.size+1:=fF _ _;have aj:=Fk w;rw[m]at b;generalize (w.alloc (ae (bo cf) 99)).alloc (ae (bo cf) 99)=an at *;generalize w.alloc (ae (bo cf) 99)=bl at *
 go_in
 go_wp2_with first|refine ea d rfl rfl ?_|refine ea b rfl rfl ?_
 refine aT ((Jn (h.keeps aj.keep id id) f g k)) ?_;rintro aB ⟨q,c⟩;have a:=aj.keeps (show Keeps aG an aB by rw[c];exact(Keeps.refl _ _).drewN q);obtain⟨l,j,i⟩:=dO aB 99 60 w.heap.size (bo cf) (bo cf) sizeOf99 (eh _) (eh _) a.res (yf _);generalize aB.setRow w.heap.size (bo cf)=bn at *;clear c;go_wp2_with first|refine dm (nN a.none) rfl rfl rfl ?_|refine c8 l rfl rfl rfl rfl ?_
 refine dn (v:=aV #[.agg (bo cf),false]) j ?_;exact⟨rfl,cK a.keep i a7⟩
def Jm(h:SWinAt w r B size first S)(n k:J)(f:aa)(y:f=n)(u:e8 first size f)(hk:n%size=k)(x:J->aa)(b:aY)(al:S[k]?=some (x,b)):az 271 #[r,I f] w λe w'=>e=aV #[.agg (bo (if b then x else cf)),.bool b]/\Keeps aG w w':=by
 have t:=lG w;have i:=lG (w.alloc (ae (bo cf) 99));have z:(w.alloc (ae (bo cf) 99)).heap.size=w.heap.size+1:=fF _ _;have aj:=Fk w;rw[z]at i;generalize (w.alloc (ae (bo cf) 99)).alloc (ae (bo cf) 99)=an at *;have h1:=h.keeps aj.keep id id;have s:=af (yF h1 n k f y u hk);generalize w.alloc (ae (bo cf) 99)=bl at *;have p:=af aj;have g:=af h1;clear u y hk aj z h h1;cases b with
 | false=>
  go_in
  go_wp2_with first|refine ea t rfl rfl ?_|refine ea i rfl rfl ?_
  refine aT s.out ?_;rintro aB ⟨q,d⟩;have a:Keeps aG an aB:=by rw[d];exact(Keeps.refl _ _).drewN q
  have c:=p.out.keeps a;have s1:=(g.out.keeps a id id).has al;have l:=nN c.none;obtain⟨o,m,j⟩:=dO aB 99 60 w.heap.size (bo cf) (bo cf) sizeOf99 (eh _) (eh _) c.res (yf _);generalize aB.setRow w.heap.size (bo cf)=bn at *;clear d a;go_wp2_with first|refine dm l rfl rfl rfl ?_|refine c8 o rfl rfl rfl rfl ?_
  refine dn (v:=aV #[.agg (bo cf),false]) m ?_;exact⟨rfl,cK c.keep j a7⟩
 | true=>
  go_in
  go_wp2_with first|refine ea t rfl rfl ?_|refine ea i rfl rfl ?_
  refine aT s.out ?_;rintro aB ⟨q,d⟩;have a:Keeps aG an aB:=by rw[d];exact(Keeps.refl _ _).drewN q
  have c:=p.out.keeps a;have s1:=(g.out.keeps a id id).has al;have l:=(g.out.keeps a id id).load al;obtain⟨o,m,j⟩:=dO aB 99 60 w.heap.size (bo x) (bo cf) sizeOf99 (eh _) (eh _) c.res (yf _);generalize aB.setRow w.heap.size (bo x)=bn at *;clear d a;go_wp2_with first|refine dm l rfl rfl rfl ?_|refine c8 o rfl rfl rfl rfl ?_
  refine dn (v:=aV #[.agg (bo x),true]) m ?_;exact⟨rfl,cK c.keep j a7⟩
def WN(z:a6 aw)(c:a6 aw)(b:z.size=61)(aq:c.size=60):eU (eU z 0 c) 60 #[true]=c.push (.bool true):=by
 have h1:(eU z 0 c).size=61:=by rw[we _ _ _ U,b]
 apply pc;intro k;rw[sb _ _ _ (by simp[h1]),sb _ _ _ U,pd];simp only[gR,dr,e2,gv,aq];by_cases h2:k<60
 .rw[aA U,aD U,aA U];simp
 by_cases a:k=60
 .subst a;simp
 rw[aA U,aA U,aA a,lO U,lO U]
def Vr(c:a6 aw)(aq:c.size=60)(w:ai):(Instr.build 237 #[(0,.agg c),(1,.bool true)]).run prog w=.ok (.agg (c.push (.bool true))) w:=by
 have u:=q3 underlying237;have s2:=sizeOf4;unfold Instr.build;simp only[hz,(zeroValue237 w),hg,u];rw[show ∀ (g:a6 Field),g=#[{name:="x",type:=99,offset:=0,embedded:=false,tag:="",pkgPath:="promptbook/ring",byteOffset:=0},{name:="has",type:=4,offset:=60,embedded:=false,tag:="",pkgPath:="promptbook/ring",byteOffset:=352}]->Sem.run prog (Array.mapM (λf:Field=>do let k <-Go.sizeOf f.type;pure (f.offset,k)) g) w=.ok #[(0,60),(60,1)] w from λg a1=>by subst a1;simp[sizeOf99,s2]];rotate_left
 .rfl
 simp only[hg];generalize b:(Value.agg _).cells=fz;have a:fz.size=61:=by rw[<-b];rfl
 rw[Gl _ _ 0 0 (.agg c) _ (by simp[Value.cells,aq]) (by simp[Value.cells,aq,a]),Gl _ _ 1 60 (.bool true) _ (by simp[Value.cells]) (by rw[we _ _ _ (by simp[Value.cells,aq,a]),a];simp[Value.cells])];simp only[Instr.fill,h5];rw[show eU (eU fz 0 (Value.agg c).cells) 60 (Value.bool true).cells=c.push (.bool true)from WN fz c a aq]
def V1(h:SWinAt w r B size first S)(n k:J)(f:aa)(j:f=n)(g:e8 first size f)(hk:n%size=k)(y:J->aa):az 192 #[r,I f,.agg (bo y)] w λe w'=>e=.returned (I 0)/\SWinAt w' r B size first (S.set k (y,true))/\Keeps (λb=>b=B) w w':=by
 have i:Keeps aG w (w.alloc (ae (bo y) 99)):=(Keeps.refl _ w).alloc _;have d:=h.keeps i id id;have x:=af (yF d n k f j g hk);have m:k<S.length:=by rw[h.fC,<-hk];exact eW _ h.pos
 have h1:=g.1;have s:=af d;have t:=af (aW w (ae (bo y) 99));have u:=af i;clear h d i j g hk
 go_in
 go_wp2_with fail;refine aT x.o ?_;rintro an ⟨q,p⟩;have c:Keeps aG (w.alloc (ae (bo y) 99)) an:=by rw[p];exact(Keeps.refl _ _).drewN q
 have a:=s.out.keeps c id id;have l:=u.out.trans c;have bu:=a.bu;have z:=nN (c.heap t.out id);have A:=a.store k m y true;have hfin:=(kQ l (S:=λb=>b=B)).trans (iB an B (eU (gr S).toArray (k*61) (hx y true)));have gm:=a.wb k m y true;generalize an.setRow B (eU (gr S).toArray (k*61) ((bo y).push (.bool true)))=aB at *;have v:=af gm;clear p c l gm a;go_wp2_with (first|(refine dm z rfl rfl rfl ?_)|(refine su (Vr (bo y) (eh y) an) rfl rfl rfl rfl ?_)|(refine c8 A rfl rfl rfl rfl ?_));go_ret;exact⟨rfl,v.o,hfin⟩
end
def RH:(prog.info? 237).map (λi=>(i.zero,i.size,i.bytes))=some (some (.agg (hx cf false)),61,360):=aH
def VX(n:J):madeCells (Value.agg (hx cf false)).cells (n*61)=(gr (replicate n (cf,false))).toArray:=by
 apply pc;intro m;by_cases hm:m<n*61
 .have a:m / 61<(replicate n (cf,false)).length:=bU;have h1:=vY (replicate n (cf,false)) (m / 61) a (m%61) (eW m (show 0<61 by omega));simp only[getElem_replicate]at h1;rw[show m / 61*61+m%61=m by omega]at h1;rw[show(gr (replicate n (cf,false))).toArray[m]?=(gr (replicate n (cf,false)))[m]? from by simp,h1];simp only[Value.cells];have ax:=ub cf false;unfold madeCells;simp[hm,ax];rw[(sw (xs:=hx cf false) (i:=m%61) U),jb (hx cf false) (m%61) U]
 rw[lO (by simp[madeCells];omega),lO (by rw[gR,vZ];simp;omega)]
def V0(size:J)(h1:1<=size)(h2:size<=4096)(w:ai):az 190 #[I size,I 0] w λe w'=>e=aV #[.pointer (some (ad (w+1) 0 ab)),I 0]/\SWinAt w' (w.heap.size+1) w.heap.size size 0 (replicate size (cf,false))/\Below w w w'/\w'.heap.size=w.heap.size+2:=by
 have⟨h,av,f,g,d⟩:=ng RH;have hd:decide (1<=(size:aa)/\(size:aa)<=4096)=true:=bU;have b:=run_make (P:=prog) w 231 237 h (.agg (hx cf false)) underlying231 av f .i64 .i64 size size U (jm _) uQ U;rw[g,q4,VX]at b;have⟨Z,a⟩:=cQ (replicate size (cf,false));have c:=af a;rw[<-a]at b;rw[<-a];clear a
 go_in
 go_wp2_with fail;refine br (yy size w) ?_;rw[hd];go_wp2;go_ret2;refine⟨rfl,⟨?_,?_,by rw[c.o];simp,h1,h2,U,U⟩,((bY _ w).alloc bA _).alloc aI _,aI⟩
 .have:=aW (w.alloc (ae (gr Z).toArray 237)) (ae #[I 0,ao (some (ad w 0 ab)) size size] 233)
  simpa using this
 have:=cm (aW w (ae (gr Z).toArray 237)) (ae #[I 0,ao (some (ad w 0 ab)) size size] 233)
 simpa using this
section
attribute [local go_sem] Oper.semAt_some
def pX(S:ah ((J->aa)×aY))(size f:J):aY:=decide (f<=1073741824)&&((S[f%size]?).map (·.2)).getD false
def jH(S:ah ((J->aa)×aY))(size first:J)(fr:aa)(k:J):ah J:=((range k).map (first+·)).filter λf=>decide (fr<=(f:aa))&&pX S size f
def B5(S:ah ((J->aa)×aY))(size first:J)(fr:aa)(k:J):jH S size first fr (k+1)=jH S size first fr k++if (decide (fr<=((first+k:J):aa))&&pX S size (first+k))=true then [first+k]else []:=by
 unfold jH;exact Np
def VQ(S:ah ((J->aa)×aY))(size first:J)(fr:aa)(k:J)(hk:k<size)(h:(decide (fr<=((first+k:J):aa))&&pX S size (first+k))=true):∃ rest,jH S size first fr size=jH S size first fr k++(first+k) :: rest:=by
 have:∀ d,∃ rest,jH S size first fr (k+1+d)=jH S size first fr k++(first+k) :: rest:=by
  intro d
  induction d with
  | zero=>exact⟨[],by rw[re,B5,if_pos h]⟩
  | succ d b=>
   have⟨r,a⟩:=b;exact⟨r++_,by rw[<-iN,B5,a,dD,ku]⟩
 have⟨r,a⟩:=this (size-(k+1));exact⟨r,by rw[<-a];congr 1;omega⟩
section
variable{w w':ai}{r B size first:J}{S:ah ((J->aa)×aY)}
def V5(r:J)(f:aa)(w:ai):az 79 #[r,I f] w λe w'=>e=.returned (.func (.func 125) #[] #[w.heap.size,.pointer (some (ad (w+1) 0 ab))])/\(w.alloc (ae #[r] 127)).alloc (ae #[I f] 3)=w':=by
 go_in
 go_wp2;go_ret;exact⟨rfl,rfl⟩
def VR(h:SWinAt w r B size first S)(n:J):pX S size n=(decide (n<=1073741824)&&(S[n%size]'(wX)).2):=by
 unfold pX;rw[gb wX];rfl
def VO(h:SWinAt w r B size first S)(s m:J)(fr:aa)(aq:w.cell? (ad s 0 ab)=some (.pointer (some (ad r 0 ab))))(lb:w.cell? (ad m 0 ab)=some (I fr))(y:J->ak)(C:¬ y s/\¬ y m/\¬ y r/\¬ y B)(v':s<w.heap.size/\m<w.heap.size):pt prog 125 #[s,m] (λf:J=>#[I f]) (jH S size first fr size) y (λ_=>False) w:=by
 intro l Y W m' hk ys u g' a';subst m';have j1:=bR h.head;have zd:=bR h.body;have bP:=h.fst;have s':=h.most;refine gD.2 ?_;have h2:=hk.cell aq id;have K:=h.keeps hk id id;have vl:=K.b0
 go_in
 go_wp2_with fail
 go_loopw [14] (λv wr=>∃ k:J,k<=size/\v=I k/\wr.cell? (ad s 0 ab)=some (.pointer (some (ad r 0 ab)))/\wr.cell? (ad m 0 ab)=some (I fr)/\SWinAt wr r B size first S/\Y (jH S size first fr k) wr/\w.heap.size+2<=wr.heap.size)
  (λv _=>size-(intOf v).toNat)
 case atStart=>exact⟨0,c' _,rfl,h2,hk.cell lb id,K,by simpa[jH]using a',U⟩
 obtain⟨k,w',rfl,i,j,a,c,x⟩:=hrel;by_cases ps:k<size
 .have bu:=a.bu;have t:=B5 S size first fr k
  have E:=VR a (first+k);have D:(first:aa)+(k:aa)=((first+k:J):aa):=U;by_cases hd:1073741824<first+k
  .have M:=af (Jn a ((first:aa)+k) sQ U);have aR:pX S size (first+k)=false:=by rw[E];simp;omega
   rw[aR,CY,aA aI,eX]at t;have d:=af t;clear aR E t D hd;by_cases l':fr<=(first:aa)+k
   .go_wp2_with fail;refine aT M.o ?_;exact MK
   go_wp2_with fail;refine aT M.out ?_;exact MK
  obtain⟨b,z⟩:∃ b,(first+k)%size=b:=⟨_,rfl⟩;have V:b<S.length:=by rw[a.fC,<-z];exact eW _ a.pos
  have F:=af (yF a (first+k) b ((first:aa)+k) D sQ z);have al:=gb V;have s1:=a.has al;have aR:pX S size (first+k)=S[b].2:=by rw[E];simp only[z];rw[show decide (first+k<=1073741824)=true from ed U,sz]
  have H:=VQ S size first fr k ps
  rw[aR]at t H;generalize S[b].2=Z at *;have X:=af H;have d:=af t;have g:=af D;clear H t E aR al z D;by_cases l':fr<=(first:aa)+k
  .cases Z with
   | false=>
    go_wp2_with fail;refine aT F.out ?_;rintro aB ⟨q,rfl⟩;exact MF
   | true=>
    go_wp2_with fail;refine aT F.out ?_;rintro aB ⟨q,rfl⟩;have gf:=u _ _ _ c ((Keeps.refl _ wr).drewN q);obtain⟨rest,G⟩:=X.out (by simp;have:=g.out;omega);obtain⟨fn,tmps,assign,body,N,L⟩:=g' (jH S size first fr k) (first+k) rest (wr.drewN q) G gf;have r':=af G;clear G;rw[<-g.out]at N;go_upto_region 6 with fail
    refine(ob (n:=0)).1 ?_;gi_wp2;refine⟨rfl,L.mono ?_⟩;rintro e sd ⟨rfl,O,A⟩;clear N L;have R:=A.cell (p:=ad s 0 ab) i (λh=>h.elim C.1 (λh=>mx));have T:=A.cell (p:=ad m 0 ab) j (λh=>h.elim C.2.1 (λh=>mx));have P:=(a.drew q).keeps A (λh=>h.elim C.2.2.1 a7) (λh=>h.elim C.2.2.2 a7);have Q:=A.size;gi_wp2;exact MW
  go_wp2_with fail;refine aT F.out ?_;rintro aB ⟨q,rfl⟩;exact MC
 have he:k=size:=U;subst he;go_wp2_with fail;go_end0;exact⟨⟨_,rfl⟩,c⟩
end
end
def VP(S:ah ((J->aa)×aY))(size first:J)(fr:aa)(k:J):(jH S size first fr k).length<=k:=by
 exact b7 (mv _ _) aI
section
variable{w w':ai}{r B size first:J}{S:ah ((J->aa)×aY)}
def V2(h:SWinAt w r B size first S)(fr:aa):az 78 #[.func (.func 125) #[] #[w.heap.size,.pointer (some (ad (w+1) 0 ab))]] ((w.alloc (ae #[r] 127)).alloc (ae #[I fr] 3)) λe w'=>
   ∃ v,e=.returned v/\w'.ownsRow (w.heap.size+5) 3 1 v (jH S size first fr size).length (kP (hW (jH S size first fr size)))/\Below w w w':=by
 obtain⟨aB,a⟩:∃ aB,(w.alloc (ae #[r] 127)).alloc (ae #[I fr] 3)=aB:=⟨_,rfl⟩;have hk:Keeps aG w aB:=by rw[<-a];exact((Keeps.refl _ w).alloc _).alloc _
 have ax:aB.heap.size=w.heap.size+2:=by rw[<-a];simp
 have aq:aB.cell? (ad w 0 ab)=some (.pointer (some (ad r 0 ab))):=by rw[<-a];exact qt (nB _ _ _) _
 have d:aB.cell? (ad (w+1) 0 ab)=some (I fr):=by rw[<-a];have:=nB (w.alloc (ae #[r] 127)) (I fr) 3;rw[fF]at this;exact this
 have j1:=bR h.head;have g:=bR h.body;rw[a]
 have aj:=Jx (w:=aB) (λf:J=>(f:aa)) 125 #[w.heap.size,.pointer (some (ad (w+1) 0 ab))] (enters_of func125 aH rfl) (jH S size first fr size) (b7 (VP _ _ _ _ _) h.most)
  (VO ((h.keeps hk id id).keeps ((a_ aB).alloc _) id id) w.heap.size (w.heap.size+1) fr (qt aq _) (qt d _) _ ⟨U,U,U,U⟩ ⟨bU,bU⟩)
 rw[ax]at aj;exact aj.mono λe w' ⟨v,h1,b,c⟩=>⟨v,h1,b,(hk.below bA (λ_ _=>id)).trans (c.mono U)⟩
def VY(h:SWinAt w r B size first S):az 52 #[r] w λe w'=>
   ∃ v,e=.returned v/\w'.ownsRow (w.heap.size+5) 3 1 v (jH S size first 0 size).length (kP (hW (jH S size first 0 size)))/\Below w w w':=by
 go_in
 go_wp2_with fail;refine br (V5 r 0 w) ?_;go_wp2_with fail;refine(V2 h 0).mono ?_;rintro e bn ⟨v,rfl,h1,h2⟩;go_wp2;go_ret;exact⟨_,rfl,h1,h2⟩
end
section
structure SSlots(S:ah ((J->aa)×aY))(size first:J)(L:ah (J×(J->aa))):ak where
 fC:S.length=size
 pos:0<size
 ef:pk L
 gz:∀ p∈L,first<=p.1/\p.1<first+size/\p.1<=1073741824
 mi:∀ f x,dB L f=some x->S[f%size]?=some (x,true)
 kU:∀ f,first<=f->f<first+size->f<=1073741824->dB L f=none->∃ y,S[f%size]?=some (y,false)
def k0(S:ah ((J->aa)×aY))(size:J)(a:ah J):ah ((J->aa)×aY):=a.foldl (λS f=>S.set (f%size) (cf,false)) S
def VM(S:ah ((J->aa)×aY))(size:J)(a:ah J):(k0 S size a).length=S.length:=by
 unfold k0
 induction a generalizing S with
 | nil=>rfl
 | cons f a b=>rw[od,b];simp
def VN(S:ah ((J->aa)×aY))(size:J)(a:ah J)(f:J):k0 S size (a++[f])=(k0 S size a).set (f%size) (cf,false):=by
 unfold k0;rw[nj];rfl
def Ji(S:ah ((J->aa)×aY))(size first:J)(a:ah J)(ax:S.length=size)(b:∀ f∈a,first<=f/\f<first+size)(g:J)(a1:first<=g/\g<first+size):(k0 S size a)[g%size]?=if g∈a then some (cf,false)else S[g%size]?:=by
 have ar:0<size:=U
 induction a generalizing S with
 | nil=>rfl
 | cons f a c=>
  have e:k0 S size (f :: a)=k0 (S.set (f%size) (cf,false)) size a:=rfl;exact Mj
namespace SSlots
variable{S:ah ((J->aa)×aY)}{size first:J}{L:ah (J×(J->aa))}
def put(h:SSlots S size first L)(f:J)(x:(J->aa))(a:first<=f/\f<first+size/\f<=1073741824):SSlots (S.set (f%size) (x,true)) size first (eY L f x) where
 fC:=by simpa using h.fC
 pos:=h.pos
 ef:=E8 h.ef f x
 gz p ar:=by
  rcases Bo ar with rfl|ar
  .exact a
  exact h.gz p ar
 mi g y a1:=by
  exact Mk
 kU g h1 h2 b a1:=by
  exact MN
def has(h:SSlots S size first L)(f:J)(h1:first<=f)(h2:f<first+size):pX S size f=(dB L f).isSome:=by
 unfold pX;exact MA
def tp(h:SSlots S size first L)(fr:aa):jH S size first fr size=(L.map (·.1)).filter λf:J=>decide (fr<=(f:aa)):=by
 exact Mv
def drop(h:SSlots S size first L)(p:J->aY):SSlots (k0 S size ((L.map (·.1)).filter p)) size first (L.filter λq=>!p q.1):=by
 have g:∀ f∈(L.map (·.1)).filter p,first<=f/\f<first+size:=λf a=>by
  exact Nl
 have d:∀ f,f∈(L.map (·.1)).filter p↔(dB L f).isSome=true/\p f=true:=λf=>by
  exact Mw
 refine⟨by rw[VM,h.fC],h.pos,E7 h.ef _,λq b=>h.gz q (fR.1 b).1,λf x a=>?_,λf h1 h2 e a=>?_⟩
 .rw[yb (p:=λn=>!p n)]at a;split at a
  .rename_i ar;have av:=h.gz _ (tF a);rw[Ji S size first _ h.fC g f ⟨av.1,av.2.1⟩,aA (λc=>by have:=((d f).1 c).2;simp[this]at ar)];exact h.mi f x a
  cases a
 rw[Ji S size first _ h.fC g f ⟨h1,h2⟩];exact Mt
def move(h:SSlots S size first L)(n:J)(au:first<=n)(a:∀ p∈L,n<=p.1):SSlots S size n L where
 fC:=h.fC
 pos:=h.pos
 ef:=h.ef
 gz p ar:=⟨a p ar,by have:=h.gz p ar;omega,(h.gz p ar).2.2⟩
 mi:=h.mi
 kU f h1 h2 c g:=by
  by_cases k:f<first+size
  .exact h.kU f U k c g
  have ar:=h.pos;have e:=o_ (f-first) size;have hm:=eW (f-first) ar;generalize o:(f-first)%size=gp at *;generalize (f-first) / size=d at *;have hd:0<d:=by
   exact Ls
  have j:=zx size hd;rw[zy]at j;have i:f=first+gp+size*d:=U
  have l:f%size=(first+gp)%size:=by rw[i,La]
  rw[l];refine h.kU (first+gp) U U U (Bk λp b m=>?_)
  have:=a p b
  omega
end SSlots
end
section
variable{w w':ai}{r B size first:J}{S:ah ((J->aa)×aY)}
def YL(w:ai):(Instr.build 237 #[]).run prog w=.ok (.agg (hx cf false)) w:=aH
def V3(h:SWinAt w r B size first S)(a:ah J)(A:b4 Addr)(cap:J)(aX:dQ w 1 A a.length cap (kP (hW a)))(t:0<a.length->∀ x,A=some x->x.block≠B)(u:∀ f∈a,e8 first size (f:aa)):az 224 #[r,ao A a.length cap] w λe w'=>e=.returned (I (a.length:aa))/\SWinAt w' r B size first (k0 S size a)/\Keeps (λb=>b=B) w w':=by
 have C:a.length<=9223372036854775807:=b7 aX.2.1 aX.2.2.1
 go_in
 go_wp2;go_loopw [9] (λi wr=>∃ k:J,k<=a.length/\i=I k/\SWinAt wr r B size first (k0 S size (a.take k))/\Keeps (λb=>b=B) w wr) (λi _=>a.length-(intOf i).toNat)
 case atStart=>exact⟨0,c' _,rfl,h,Keeps.refl _ w⟩
 obtain⟨k,hk,rfl,c,j⟩:=hrel;by_cases l:k<a.length
 .obtain⟨b,o,rfl,aq⟩:=(aX.keeps j (λau x z=>t au x z)).at' U;have E:=aq _ _ (Hw a k l);have av:=af (yF c a[k] (a[k]%size) _ rfl (u _ (og l)) rfl);have v:k0 S size (a.take (k+1))=(k0 S size (a.take k)).set (a[k]%size) (cf,false):=by rw[lS l,VN]
  have p:a[k]%size<(k0 S size (a.take k)).length:=by rw[c.fC];exact eW _ c.pos
  generalize a[k]=f at *;generalize f%size=d at *;generalize k0 S size (a.take k)=D at *;go_wp2_with fail;refine aT av.o ?_;rintro aB ⟨q,m⟩;have g:=c.drew q;rw[<-m]at g;have n:Keeps (λb=>b=B) w aB:=by rw[m];exact j.drewN q
  have y:=g.store d p cf false;have hfin:=n.trans (iB aB B (eU (gr D).toArray (d*61) (hx cf false)));have gm:=g.wb d p cf false;generalize aB.setRow B (eU (gr D).toArray (d*61) (hx cf false))=bn at *;have s:=af gm;clear gm m g n;go_wp2_with first|refine y1 (YL _) rfl rfl rfl ?_|refine c8 y rfl rfl rfl rfl ?_
  go_roundw
  case rel=>exact⟨k+1,U,by go_num,by rw[v];exact s.o,hfin⟩
  simp[intOf];omega
 obtain rfl:k=a.length:=U;rw[nk]at c;go_wp2_with fail;go_ret;exact⟨rfl,c,j⟩
def jX(w:ai)(r B size first:J)(L:ah (J×(J->aa))):ak:=∃ S,SWinAt w r B size first S/\SSlots S size first L
theorem jX.keeps{L:ah (J×(J->aa))}{T:J->ak}(h:jX w r B size first L)(hk:Keeps T w w')(h1:¬ T r)(h2:¬ T B):jX w' r B size first L:=by
 have⟨S,a,b⟩:=h;exact⟨S,a.keeps hk h1 h2,b⟩
variable{L:ah (J×(J->aa))}
def jX.le(h:jX w r B size first L):L.length<=size/\0<size/\size<=4096/\first<=1073741824/\r<w.heap.size/\B<w.heap.size/\r≠B:=by
 exact Mn
def Jj(h:jX w r B size first L):az 52 #[r] w λe w'=>∃ v,e=.returned v/\w'.ownsRow (w.heap.size+5) 3 1 v (L.map (·.1)).length (kP (hW (L.map (·.1))))/\Below w w w':=by
 have⟨S,h,b⟩:=h;have a:=VY h;rw[b.tp 0,ni.2 (λn _=>aI)]at a;exact a
def Jl(h:jX w r B size first L)(n:J)(f:aa)(d:f=n)(a:e8 first size f)(x:(J->aa)):az 192 #[r,I f,(Value.agg (bo x))] w λe w'=>e=.returned (I 0)/\jX w' r B size first (eY L n x)/\Keeps (λb=>b=B) w w':=by
 obtain⟨S,h,c⟩:=h;refine aT (V1 h n _ f d a rfl x) ?_;rintro w' ⟨h1,h2⟩;exact⟨rfl,⟨_,h1,c.put n x rk⟩,h2⟩
end
section
variable{w w':ai}{r B size first:J}{L:ah (J×(J->aa))}
def Jk(h:jX w r B size first L)(f:aa)(d:-9223372036854775808<=f/\f<=9223372036854775807):az 271 #[r,I f] w λe w'=>e=aV #[.agg (bo ((gL L f).getD cf)),.bool (gL L f).isSome]/\Keeps aG w w':=by
 have⟨S,h,b⟩:=h;by_cases a:e8 first size f
 .obtain⟨n,rfl⟩:=lQ (show 0<=f by unfold e8 at a;omega);rw[tE];rcases c:dB L n with _|x
  .obtain⟨y,g⟩:=b.kU n rk rk rk c;exact Jm h n _ n rfl a rfl y false g
  exact Jm h n _ n rfl a rfl x true (b.mi n x c)
 rw[HZ (λp ar e=>a (by have:=b.gz p ar;unfold e8;omega))];exact VZ h f a d
def VT(h:jX w r B size first L)(f:aa)(b:f<first\/1073741824<f):az 150 #[r,I f] w λe w'=>e=.returned (I 0)/\jX w' r B size first L/\Keeps aG w w':=by
 have⟨S,h,a⟩:=h;have h1:=(h.keeps (T:=aG) ((Keeps.refl _ w).alloc (ae #[I f] 3)) id id);have bu:=h1.bu;have nC:(w.alloc (ae #[I f] 3)).cell? (ad w 0 ab)=some (I f):=nB _ _ _;have hk:Keeps aG w (w.alloc (ae #[I f] 3)):=(Keeps.refl _ w).alloc _;by_cases h2:f<first
 .clear b
  go_in
  exact M3
 have c:1073741824<f:=U
 go_in
 go_upto_region 1 with fail
 generalize w.alloc (ae #[I f] 3)=an at *;go_quiet (fail);go_wp2;go_ret;exact⟨rfl,⟨S,h1.drew _,a⟩,hk.drewN _⟩
def VU(a:J)(n x:aa)(W:ai)(aq:W.cell? (ad a 0 ab)=some (I n)):az 223 #[I x,a] W λe w'=>e=.returned (.bool (decide (n<=x)))/\∃ q,w'=W.drewN q:=by
 go_in
 go_wp2
 all_goals
  go_ret;exact⟨by simp_all,0,rfl⟩
theorem SWinAt.r8{S:ah ((J->aa)×aY)}(h:SWinAt w r B size first S)(n:J)(au:n<=1073741824):SWinAt (w.setCell (ad r 0 ab) (I (n:aa))) r B size n S:=
 ⟨by simpa using bW h.head 0 (I (n:aa)),eO h.body (hJ h.ne) _,h.fC,h.pos,h.most,au,h.ne⟩
def VS(h:jX w r B size first L)(n:J)(f:aa)(q:f=n)(o:first<=n/\n<=1073741824):az 150 #[r,I f] w λe w'=>e=.returned (I (((L.filter λp=>decide (p.1<n)).length:J):aa))/\jX w' r B size n (L.filter λp=>!decide (p.1<n))/\Keeps (λb=>b=r\/b=B) w w':=by
 obtain⟨S,h,c⟩:=h;have s:Keeps aG w (w.alloc (ae #[I f] 3)):=(Keeps.refl _ w).alloc _;have h1:=h.keeps s id id;have bu:=h1.bu;have nC:(w.alloc (ae #[I f] 3)).cell? (ad w 0 ab)=some (I f):=nB _ _ _;have Y:(w.alloc (ae #[I f] 3)).heap.size=w.heap.size+1:=aI;have j1:=bR h.head;have Z:=bR h.body;have d:(first:aa)<=f:=U;have l:f<=1073741824:=U;have hm:=(c.drop λk=>decide (k<n)).move n o.1 (λp ar=>Ma);have u:((L.map (·.1)).filter λk:J=>decide (k<n)).length=(L.filter λp=>decide (p.1<n)).length:=by rw[q7,hh];rfl
 have G:∀ k∈(L.map (·.1)).filter λk:J=>decide (k<n),e8 first size (k:aa):=λk hk=>by
  obtain⟨p,ar,rfl⟩:=fu.1 (fR.1 hk).1
  have:=c.gz p ar
  unfold e8;omega
 have F:((hW (L.map (·.1))).filter λx=>!decide (f<=x))=hW ((L.map (·.1)).filter λk:J=>decide (k<n)):=by
  unfold hW;rw[q7]
  congr 1
  exact Li
 rw[<-u];have z:=af q;clear u q;generalize ((L.map (·.1)).filter λk:J=>decide (k<n))=j at *;have M:(hW j).length=j.length:=by simp[hW]
 have C:=af M;have N:(L.map (·.1)).length<=4096:=by simpa using(b7 (jX.le ⟨S,h,c⟩).1 h.most)
 go_in
 go_upto_region 1 with fail
 generalize w.alloc (ae #[I f] 3)=an at *;generalize w.heap.size=i at *;go_quiet (fail);go_wp2_with fail;refine(Jj ⟨S,h1.drew nq,c⟩).mono ?_;rintro e bn ⟨v,rfl,a,E⟩;have t:Keeps aG an bn:=((Keeps.refl _ an).drewN nq).fE E;have O:(an.drewN nq).heap.size=an.heap.size:=rfl;rw[O]at a;go_wp2_with fail
 refine(FW (hW (L.map (·.1))) a N (λx=>decide (f<=x)) 223 #[i] (enters_of func223 aH rfl)
  (λW x hk=>VU i f x W (hk.cell (t.cell nC id) (λe=>by have:=(a.lt i e).1;omega)))).mono ?_
 rintro e P ⟨v4,rfl,y,H⟩;rw[F,C.out]at y;have X:∀ b,b<an.heap.size->¬ v.ownBlock=some b:=λb aj e=>by have:=(a.lt b e).1;omega
 obtain⟨A,cap,rfl,aX,aj⟩:=cP y;have m:Keeps (λb=>an.heap.size<=b) an P:=(t.mono (λ_ _ h=>h.elim)).trans (H.mono λb _ e=>(a.lt b e).1 |> λh=>U);have D:=h1.keeps m U U;go_wp2_with fail;refine aT (V3 D j A cap aX (λ_ x g=>zG) G) ?_;rintro Q ⟨d,l⟩;have T:=l.cell (m.cell nC bU) bU;have R:=d.bu;have V:=bJ d.head;have gm:=d.r8 n o.2;rw[<-z.out]at gm
 have K:Keeps (λb=>b=r\/b=B) w (Q.setCell (ad r 0 ab) (I f)):=
  (((kQ s).trans (m.mono λb aj e=>U)).trans (l.mono λb _ e=>.inr e)).setCell (p:=ad r 0 ab) (.inl rfl) _
 go_wp2_with fail;go_ret;exact⟨rfl,⟨_,gm,hm⟩,K⟩
end
section
structure Fd where
 first:J
 next:J
 last:aa
 K:ah (J×aa)
 cR:ah (J×aa)
def pn(w:ai)(D:J)(x:Fd):ak:=IsFeed w D x.first x.next x.last x.K x.cR
structure fG where
 c:J
 D:J->J
 r:J
 B:J
structure ck where
 aO:aa
 eD:J
 dA:J
 aJ:J
 f:J->Fd
 eT:J
 L:ah (J×(J->aa))
 now:J
def fG.S(b:fG)(j:J):ak:=j=b.c\/(b.D 0<=j/\j<=b.D 0+4)\/(b.D 1<=j/\j<=b.D 1+4)\/j=b.r\/j=b.B
structure fG.ok(b:fG):ak where
 FN:b.c≠b.r
 Ad:b.c≠b.B
 bu:¬ (b.D 0<=b.c/\b.c<=b.D 0+4)
 b0:¬ (b.D 1<=b.c/\b.c<=b.D 1+4)
 eJ:¬ (b.D 0<=b.r/\b.r<=b.D 0+4)
 fm:¬ (b.D 1<=b.r/\b.r<=b.D 1+4)
 gS:¬ (b.D 0<=b.B/\b.B<=b.D 0+4)
 Eh:¬ (b.D 1<=b.B/\b.B<=b.D 1+4)
 O_:b.D 0+4<b.D 1\/b.D 1+4<b.D 0
structure IsCore(w:ai)(b:fG)(x:ck):ak where
 head:w.heap[b.c]?=some (ae #[aK x.aO,I x.eD,I x.dA,I x.aJ,.pointer (some (ad (b.D 0+4) 0 ab)),.pointer (some (ad (b.D 1+4) 0 ab)),b.r,I x.now] 129 (0,0))
 fd:∀ k,k<2->pn w (b.D k) (x.f k)
 st:jX w b.r b.B 81 x.eT x.L
 ok:b.ok
 aJ:x.aJ<2
 gM:x.now<=1000000
 dG:∀ k,k<2->(x.f k).next<=1000000
 wn:x.dA<=1000
namespace IsCore
variable{w w':ai}{b:fG}{x:ck}
theorem keeps{T:J->ak}(h:IsCore w b x)(hk:Keeps T w w')(a:∀ j,b.S j->¬ T j):IsCore w' b x:=by
 refine⟨hk.heap h.head (a _ (.inl rfl)),λk c=>?_,h.st.keeps hk (a _ (.inr (.inr (.inr (.inl rfl))))) (a _ (.inr (.inr (.inr (.inr rfl))))),h.ok,h.aJ,h.gM,h.dG,h.wn⟩
 have:k=0\/k=1:=U
 rcases this with rfl|rfl
 .exact(h.fd 0 U).keeps hk (λj h1 h2=>a _ (.inr (.inl ⟨h1,h2⟩)))
 exact(h.fd 1 U).keeps hk (λj h1 h2=>a _ (.inr (.inr (.inl ⟨h1,h2⟩))))
def keep(h:IsCore w b x)(hk:Keeps aG w w'):IsCore w' b x:=h.keeps hk (λ_ _=>id)
theorem lt(h:IsCore w b x){j:J}(a:b.S j):j<w.heap.size:=by
 have h1:=bR h.head;have h2:=(h.fd 0 U).lt;have c:=(h.fd 1 U).lt;have d:=h.st.le;rcases a with e|e|e|e|e<;>omega
def la(h:IsCore w b x){k:J}(hk:k<2):w.cell? (ad b.c (4+k) ab)=some (.pointer (some (ad (b.D k+4) 0 ab))):=by
 have:k=0\/k=1:=U
 rcases this with rfl|rfl<;>exact bb h.head rfl
def b0(h:IsCore w b x):w.cell? (ad b.c 1 ab)=some (I x.eD):=bb h.head rfl
def bs(h:IsCore w b x):w.cell? (ad b.c 2 ab)=some (I x.dA):=bb h.head rfl
def ez(h:IsCore w b x):w.cell? (ad b.c 3 ab)=some (I x.aJ):=bb h.head rfl
def dS(h:IsCore w b x):w.cell? (ad b.c 6 ab)=some (.pointer (some (ad b.r 0 ab))):=bb h.head rfl
def c6(h:IsCore w b x):w.cell? (ad b.c 7 ab)=some (I x.now):=bb h.head rfl
end IsCore
variable{w w':ai}{b:fG}{x:ck}
def rB(h:IsCore w b x):az 22 #[b.c] w λe w'=>e=.returned (I x.now)/\w=w':=by
 have c6:=h.c6
 go_in
 go_wp2;go_ret;exact⟨rfl,rfl⟩
def vk(h:IsCore w b x):az 56 #[b.c] w λe w'=>e=.returned (.pointer (some (ad (b.D x.aJ+4) 0 ab)))/\∃ q,w'=w.drewN q:=by
 have ez:=h.ez;have la:=h.la h.aJ;have hm:(x.aJ:aa)<2:=by have:=h.aJ;omega
 go_in
 exact uF
def rC(h:IsCore w b x):az 151 #[b.c] w λe w'=>e=.returned (.pointer (some (ad (b.D (1-x.aJ)+4) 0 ab)))/\∃ q,w'=w.drewN q:=by
 have ez:=h.ez;obtain⟨k,hk,a,d⟩:∃ k:J,1-x.aJ=k/\k<2/\(1:aa)-(x.aJ:aa)=(k:aa):=⟨1-x.aJ,rfl,U,by have:=h.aJ;omega⟩;rw[hk];have la:=h.la a
 go_in
 exact uF
def iy(x:ck):J:=min (x.f 0).next (x.f 1).next
def Ai(h:IsCore w b x):az 24 #[b.c] w λe w'=>e=.returned (I (iy x))/\∃ q,w'=w.drewN q:=by
 have i:=h.la (k:=0) U;have d1:=h.la (k:=1) U;have a:=af (λn=>qy ((h.fd 0 U).drew n));have d:=af (λn=>qy ((h.fd 1 U).drew n));have bP:=h.dG 1 U;unfold iy;generalize (x.f 0).next=m at *;generalize (x.f 1).next=n at *;by_cases aq:m<=n
 .rw[oq aq];have g:min (m:aa) (n:aa)=(m:aa):=U
  go_in
  exact Ml
 rw[Dx U];have g:min (m:aa) (n:aa)=(n:aa):=U
 go_in
 exact Ml
end
variable{w w':ai}{b:fG}{x:ck}
def IsCore.drew(h:IsCore w b x)(n:J):IsCore (w.drewN n) b x:=h.keep ((Keeps.refl _ w).drewN n)
def jB(x:ck):aY:=decide ((x.dA:aa)<=(x.now:aa)-(iy x:aa))
def O0(h:IsCore w b x):iy x<=1000000:=by
 have:=h.dG 0 U
 unfold iy;omega
def xt(h:IsCore w b x):az 216 #[b.c] w λe w'=>e=.returned (.bool (jB x))/\∃ q,w'=w.drewN q:=by
 have bs:=h.bs;have c6:=h.c6;have aU:=af (λn=>Ai (h.drew n));have aj:=O0 h;have au:=h.gM;unfold jB;generalize iy x=m at *
 go_in
 go_wp2;go_quiet ((go_at_call 24;first|exact Calls.quiet_of (aU.o _)|exact iF (aU.o _)));go_wp2;go_ret;exact⟨rfl,_,rfl⟩
def OW(h:IsCore w b x):az 156 #[b.c] w λe w'=>e=.returned (I (x.f (1-x.aJ)).next)/\∃ q,w'=w.drewN q:=by
 go_in
 go_wp2_with fail;refine aT (rC h) ?_;rintro _ ⟨q,rfl⟩;go_wp2_with fail;refine br (((λn=>qy ((h.fd (1-x.aJ) U).drew n))) q) ?_;go_wp2;go_ret;exact⟨rfl,_,rfl⟩
def xp(h:IsCore w b x):az 32 #[b.c] w λe w'=>e=.returned (I (x.f x.aJ).next)/\∃ q,w'=w.drewN q:=by
 go_in
 go_wp2_with fail;refine aT (vk h) ?_;rintro _ ⟨q,rfl⟩;go_wp2_with fail;refine br (((λn=>qy ((h.fd x.aJ h.aJ).drew n))) q) ?_;go_wp2;go_ret;exact⟨rfl,_,rfl⟩
def fq(x:ck):Fd:=x.f (1-x.aJ)
def fQ(x:ck):b4 J:=i' (fq x).K (fq x).cR
def cY(x:ck):aa:=match fQ x with
 | none=>(min (iy x) x.now:J)-1
 | some g=>min ((min (iy x) x.now:J)-1:aa) ((g:aa)-1)
def xq(h:IsCore w b x)(i:fQ x=none):az 91 #[b.c] w λe w'=>e=.returned (I (cY x))/\Keeps aG w w':=by
 have au:=h.gM;have aU:=af (λn=>Ai (h.drew n));have ax:cY x=(min (iy x) x.now:J)-1:=by unfold cY;rw[i]
 rw[ax];have j:=af (λ(W:ai) (hk:Keeps aG w W)=>rC (h.keep hk));have f:=af (λ(W:ai) (hk:Keeps aG w W)=>vt ((h.keep hk).fd (1-x.aJ) U));unfold fQ fq at i;rw[i]at f;have c6:=h.c6;generalize iy x=c3 at *;generalize x.now=gM at *;by_cases aq:c3<=gM
 .rw[oq aq];have l:min (c3:aa) (gM:aa)=(c3:aa):=U;have m:IntKind.i64.wrap ((c3:aa)-1)=(c3:aa)-1:=et _ U
  go_in
  go_wp2_with fail;go_quiet ((go_at_call 24;first|exact Calls.quiet_of (aU.o _)|exact iF (aU.o _)));go_wp2_with fail;refine aT (j.o _ ((Keeps.refl _ w).drewN _)) ?_;rintro an ⟨q,d⟩;have a:Keeps aG w an:=by rw[d];exact((Keeps.refl _ w).drewN _).drewN q
  clear d;go_wp2_with fail;refine aT (f.out _ a) λaB g=>?_;have k:=a.trans g;simp only[o',ou];go_wp2;go_ret;exact⟨rfl,k⟩
 rw[Dx U];have l:min (c3:aa) (gM:aa)=(gM:aa):=U
 go_in
 go_wp2_with fail;go_quiet ((go_at_call 24;first|exact Calls.quiet_of (aU.out _)|exact iF (aU.out _)));go_wp2_with fail;refine aT (j.out _ ((Keeps.refl _ w).drewN _)) ?_;rintro an ⟨q,d⟩;have a:Keeps aG w an:=by rw[d];exact((Keeps.refl _ w).drewN _).drewN q
 clear d;go_wp2_with fail;refine aT (f.out _ a) λaB g=>?_;simp only[o',ou];go_wp2;go_ret;exact⟨rfl,(a.trans g)⟩
def FG(h:IsCore w b x)(f:aa)(p:-9223372036854775808<=f/\f<=9223372036854775807):az 208 #[b.c,I f] w λe w'=>e=aV #[.agg (bo ((gL x.L f).getD cf)),.bool (gL x.L f).isSome]/\Keeps aG w w':=by
 have k:=lG w;have i:=aW w (ae (bo cf) 99);have a:Keeps aG w (w.alloc (ae (bo cf) 99)):=(Keeps.refl _ w).alloc _;generalize w.alloc (ae (bo cf) 99)=an at *;have h1:=h.keep a;have dS:=h1.dS;have j:=af (Jk h1.st f p);have g:=af i;generalize (gL x.L f).getD cf=v at *;generalize (gL x.L f).isSome=bS at *
 go_in
 go_wp2_with refine ea k rfl rfl ?_
 refine aT j.o λaB d=>?_;have l:=a.trans d;obtain⟨q,n,m⟩:=dO aB 99 60 w.heap.size (bo v) (bo cf) sizeOf99 (eh _) (eh _) (d.heap g.o id) (yf _);generalize aB.setRow w.heap.size (bo v)=bn at *;go_wp2_with refine c8 q rfl rfl rfl rfl ?_
 refine dn (v:=aV #[.agg (bo v),.bool bS]) n ?_;exact⟨rfl,cK l m a7⟩
end Go.Proofs.YtalagblioepadaaGreatDoor
