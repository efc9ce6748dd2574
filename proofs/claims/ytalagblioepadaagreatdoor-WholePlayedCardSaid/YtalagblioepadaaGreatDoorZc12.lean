/- The proof, part 12. -/
import Derived.Test.YtalagblioepadaaGreatDoorZc08
import Derived.Test.YtalagblioepadaaGreatDoorZc02
namespace Go.Proofs.YtalagblioepadaaGreatDoor
set_option linter.all false
open Proofs.Tryz List Go.RowKit
set_option maxRecDepth 100000
set_option maxHeartbeats 2000000
def jZ{p:ak}(h:p:=by rw[gC];exact z):p:=h
def Ep{p:ak}(h:p:=by unfold Region.wanted;rw[aZ]):p:=h
def Mu{p:ak}(h:p:=by simp[results,results261,asAddr,loadVar,loadCells,isAgg254,sizeOf254,zp]):p:=h
section
variable{P:Program}{w:ai}
def gz(T:TypeId)(k b o:J)(c a:a6 ax)(t:TypeId)(bd:∀ w,(isAgg T).run P w=.ok true w)(e:∀ w,(Go.sizeOf T).run P w=.ok k w)(al:c.size=k)(d:w.heap[b]?=some (ae a t (0,0)))(av:∀ j v,c[j]?=some v->a[o+j]?=some v):(Instr.loadAt T (.pointer (some (ad b o ab)))).run P w=.ok (.agg c) w:=by
 have h:=wU (P:=P) w (ad b o ab) c.toList (λj v m=>by
  rw[h3];exact bb d (av j v vc))
 simp only[pA,Lu]at h;simp only[Instr.loadAt,Instr.sureAddr,loadVar,hG,ig,hq,bd,e,if_true,al▸h]
def e0(a:a6 ax)(o:J)(c:a6 ax):a6 ax:=(a.toList.take o++c.toList++a.toList.drop (o+c.size)).toArray
def wD(a:a6 ax)(o:J)(c:a6 ax)(h:o+c.size<=a.size):(e0 a o c).size=a.size:=by
 unfold e0;simp;omega
theorem iG(w:ai)(b:J)(cs:a6 ax):Keeps (λx=>x=b) w (w.setRow b cs):=
 ⟨rfl,rfl,rfl,by simp[World.setRow],λk _ av=>by simp only[World.setRow];rw[Dk];simp[show ¬ b=k from λe=>av e.symm]⟩
def q8(T:TypeId)(k b o:J)(c a:a6 ax)(t:TypeId)(e:∀ w,(Go.sizeOf T).run P w=.ok k w)(al:c.size=k)(d:w.heap[b]?=some (ae a t (0,0)))(av:o+k<=a.size)(h1:∀ v∈c.toList,v.oneCell'=true):(Instr.storeAt T (.pointer (some (ad b o ab))) (.agg c)).run P w=.ok () (w.setRow b (e0 a o c)):=by
 simp only[Instr.storeAt,Instr.sureAddr,storeVar,hG,ig,hq,e,Value.cells,al];simpa[e0]using(DB P b o t c.toList 0 a w d bT h1)
theorem GY(o:J):∀ (l:ah ax) (i:J) (a:a6 ax) (k:J),o+i+l.length<=a.size->
  ((l.zipIdx i).foldl (λcs (p:ax×J)=>cs.setIfInBounds (o+p.2) p.1) a)[k]?=if o+i<=k/\k<o+i+l.length then l[k-(o+i)]? else a[k]?
 | [],i,a,k,_=>by
  simp only[zipIdx_nil,rz,e_];rw[az U]
 | v :: l,i,a,k,h=>by
  have b:o+(i+1)+l.length<=(a.setIfInBounds (o+i) v).size:=by simp at h⊢;omega
  rw[zipIdx_cons,oC,GY o l (i+1) _ k b];simp only[ds]at h⊢;by_cases h1:k=o+i
  .subst h1;rw[az U,aD U,zq U];simp
  by_cases h2:o+i<=k/\k<o+i+(l.length+1)
  .rw[aD U,aD h2,show k-(o+i)=(k-(o+(i+1)))+1 by omega,jV]
  rw[az U,az h2,wM U]
def so(a:a6 ax)(o:J)(c:a6 ax)(h:o+c.size<=a.size)(k:J):(e0 a o c)[k]?=if o<=k/\k<o+c.size then c[k-o]? else a[k]?:=by
 unfold e0;rw[jW];by_cases h1:k<o
 .rw[az U,dD,jU bT,uM,aD h1];simp
 by_cases h2:k<o+c.size
 .rw[aD U,dD,l3 bT,jU bT];simp
  congr 1
  omega
 rw[az U,l3 bT,wY];simp
 congr 1
 omega
def QO(a:a6 ax)(o:J)(c:a6 ax)(h:o+c.size<=a.size):c.zipIdx.foldl (λcs (p:ax×J)=>cs.setIfInBounds (o+p.2) p.1) a=e0 a o c:=by
 apply py;intro k;rw[so a o c h,<-Array.foldl_toList,Array.toList_zipIdx]
 have:=GY o c.toList 0 a k ik
 rw[this];simp
def GS(b:J->b5 (J×J))(a:a6 ax)(i o:J)(v:ax)(rest:ah (J×ax))(au:b i=some (o,v.cells.size))(h:o+v.cells.size<=a.size):Instr.fill b a ((i,v) :: rest)=Instr.fill b (e0 a o v.cells) rest:=by
 rw[Instr.fill,au];simp only[ne_eq,not_true_eq_false,decide_false,wO];rw[az bT]
 congr 1
 exact QO a o v.cells h
section
variable{o:Oper}{a:Act}{K:Act->ai->ak}{Q:Exit->Act->ai->ak}{ops:a6 Oper}{rest:ah Oper}{w':ai}{v p:ax}
def Li{T:TypeId}{x:Operand}(b:o.op=.load T x)(c:a.eval x=p)(hrun:(Instr.loadAt T p).run P w=.ok v w')(h:K (a.put o.dst v) w'):o.wp P a w K Q:=by
 unfold Oper.wp execOp;simp only[b,c,hG,hrun,hq,ig];exact h
def Y'{T:TypeId}{b:a6 (J×Operand)}{bQ:a6 (J×ax)}(c:o.op=.build T b)(d:(b.map λq=>(q.1,a.eval q.2))=bQ)(hrun:(Instr.build T bQ).run P w=.ok v w')(h:K (a.put o.dst v) w'):o.wp P a w K Q:=by
 subst d;unfold Oper.wp execOp;simp only[c,hG];simp only[hrun,hq,ig];exact h
def nu{T:TypeId}{x y:Operand}{u:ax}(b:o.op=.store T x y)(c:a.eval x=p)(d:a.eval y=u)(hrun:(Instr.storeAt T p u).run P w=.ok () w')(h:K (a.put o.dst undef) w'):o.wp P a w K Q:=by
 unfold Oper.wp execOp;simp only[b,c,d,hG,hrun,hq,ig];exact h
theorem dp{T:TypeId}{x:Operand}(hrun:(Instr.loadAt T p).run P w=.ok v w')(c:o.guard=none)(d:o.op=.load T x)(e:a.eval x=p)(h:wpList P ops Q rest (a.put o.dst v) w'):wpList P ops Q (o :: rest) a w:=
 nz c λ_ b=>Li d e hrun (b _ _ h)
theorem zl{T:TypeId}{b:a6 (J×Operand)}{bQ:a6 (J×ax)}(hrun:(Instr.build T bQ).run P w=.ok v w')(d:o.guard=none)(e:o.op=.build T b)(f:(b.map λq=>(q.1,a.eval q.2))=bQ)(h:wpList P ops Q rest (a.put o.dst v) w'):wpList P ops Q (o :: rest) a w:=
 nz d λ_ c=>Y' e f hrun (c _ _ h)
theorem sG{T:TypeId}{i j:J}{x y:Operand}{u b:ax}(hrun:(Instr.build T #[(i,u),(j,b)]).run P w=.ok v w')(c:o.guard=none)(d:o.op=.build T #[(i,x),(j,y)])(e:a.eval x=u)(f:a.eval y=b)(h:wpList P ops Q rest (a.put o.dst v) w'):wpList P ops Q (o :: rest) a w:=
 zl hrun c d (by simp[e,f]) h
theorem c8{T:TypeId}{x y:Operand}{u:ax}(hrun:(Instr.storeAt T p u).run P w=.ok () w')(c:o.guard=none)(d:o.op=.store T x y)(e:a.eval x=p)(f:a.eval y=u)(h:wpList P ops Q rest (a.put o.dst undef) w'):wpList P ops Q (o :: rest) a w:=
 nz c λ_ b=>nu d e f hrun (b _ _ h)
end
end
def dx(w:ai)(b:J)(c:a6 ax)(t:TypeId)(a:w.heap[b]?=some (ae c t (0,0)))(k:J)(hk:c.size=k):(loadCellsFrom (ad b 0 ab) 0 k #[]).run prog w=.ok c w:=by
 have h:=wU (P:=prog) w (ad b 0 ab) c.toList (λj v m=>by
  rw[h3,gC];exact bb a vc)
 simp only[pA,Lu,hk,loadCells]at h;exact h
def Xt(a c:a6 ax)(h:c.size=a.size):e0 a 0 c=c:=by
 apply py;intro k;rw[so _ _ _ U];split
 .simp
 rename_i aJ;rw[l0 U,l0 U]
def fl(w:ai)(b:J)(cs c:a6 ax)(t:TypeId)(a:w.heap[b]?=some (ae cs t (0,0))):(w.setRow b c).heap[b]?=some (ae c t (0,0)):=by
 have d:=bP a;have e:w.heap[b]=ae cs t (0,0):=by simpa[sI d]using a
 show(w.heap.modify b _)[b]?=_;rw[sI (by simpa using d),Ls,e]
def dP(w:ai)(T:TypeId)(k b:J)(c a:a6 ax)(e:∀ w,(Go.sizeOf T).run prog w=.ok k w)(al:c.size=k)(f:a.size=k)(d:w.heap[b]?=some (ae a T (0,0)))(h1:c.toList.all (λv=>v.oneCell')=true):(Instr.storeAt T b (.agg c)).run prog w=.ok () (w.setRow b c)/\(loadCellsFrom (ad b 0 ab) 0 k #[]).run prog (w.setRow b c)=.ok c (w.setRow b c)/\Keeps (λx=>x=b) w (w.setRow b c):=by
 have h:=q8 (P:=prog) T k b 0 c a T e al d U (fg.1 h1);rw[Xt a c U]at h;exact⟨h,dx _ _ _ _ (fl w b a c T d) k al,iG w b c⟩
theorem cL{S T:J->ak}{a b d:ai}(h:Keeps S a b)(h2:Keeps T b d)(av:∀ k,k<a.heap.size->T k->S k):Keeps S a d:=
 ⟨h2.os.trans h.os,h2.tape.trans h.tape,h2.output.trans h.output,b7 h.size h2.size,λi aw ar=>(h2.block i (l7 aw h.size) (λt=>ar (av i aw t))).trans (h.block i aw ar)⟩
section
variable{P:Program}{o:Oper}{a:Act}{K:Act->ai->ak}{Q:Exit->Act->ai->ak}{ops:a6 Oper}{rest:ah Oper}{w w':ai}{v p:ax}
theorem d_{T:TypeId}(hrun:(Instr.alloc T true (aV #[])).run P w=.ok v w')(c:o.guard=none)(d:o.op=.alloc T)(h:wpList P ops Q rest (a.put o.dst v) w'):wpList P ops Q (o :: rest) a w:=
 nz c λ_ b=>by
  unfold Oper.wp execOp;simp only[d,hG,hrun,hq,ig];exact b _ _ h
end
section
variable{P:Program}{o:Oper}{a:Act}{C:ai->ak}{K:Act->ak}
theorem Vc{T:TypeId}{x:Operand}{p v:ax}(hrun:∀ w,C w->(Instr.loadAt T p).run P w=.ok v w)(b:o.op=.load T x)(d:a.eval x=p)(hk:K (a.put o.dst v)):o.quiet P a C K:=
 ⟨v,λw c=>by
  unfold Oper.quietAt execOp;simp only[b,d,hG,hrun w c,hq,ig];exact⟨rfl,rfl⟩,hk⟩
def ke{ops:a6 Oper}{Q:Act->ak}{rest:ah Oper}{T:TypeId}{x:Operand}{p v:ax}(hrun:∀ w,C w->(Instr.loadAt T p).run P w=.ok v w)(aZ:o.guard=none)(b:o.op=.load T x)(c:a.eval x=p)(hk:wpQuiet P ops C Q rest (a.put o.dst v)):wpQuiet P ops C Q (o :: rest) a:=by
 unfold wpQuiet;rw[aD Ep];exact Vc hrun b c hk
end
section
def bw(m:a1):a6 ax:=#[I m.kind,aP m.bK,bx m.cj,bx m.ch,aq none 0 0,aP m.sum,I m.lead]
def hQ(A:ah a1):a6 ax:=(A.flatMap λm=>(bw m).toList).toArray
def Iw(m:a1):(bw m).size=7:=rfl
def yz(A:ah a1):(hQ A).size=7*A.length:=by
 show((A.flatMap λm=>(bw m).toList)).length=_
 induction A with
 | nil=>rfl
 | cons a A b=>rw[iS,pn,b,mG,show(bw a).toList.length=7 from rfl];omega
theorem v8:∀ (A:ah a1) (k:J) (m:a1),A[k]?=some m->∀ j,j<7->(hQ A)[7*k+j]?=(bw m)[j]?
 | [],k,m,h,_,_=>by simp at h
 | a :: A,0,m,h,j,c=>by
  simp only[kG,hr]at h;subst h;unfold hQ;rw[jW,iS,jU (by show _<7;omega)];simp
 | a :: A,k+1,m,h,j,c=>by
  rw[jV]at h;have b:=v8 A k m h j c;unfold hQ at b⊢;rw[jW]at b⊢;have d:(bw a).toList.length=7:=rfl;rw[iS,l3 U,d,<-b]
  congr 1
  omega
def Tn(A:ah a1)(k:J)(hk:k<A.length)(m:a1):e0 (hQ A) (7*k) (bw m)=hQ (A.set k m):=by
 apply py;intro i;rw[so _ _ _ (by rw[yz,Iw];omega),Iw];by_cases aw:i<7*A.length
 .obtain⟨q,j,a,rfl⟩:∃ q j,j<7/\i=7*q+j:=⟨i / 7,i%7,e2 _ U,(pr i 7).symm⟩;have b:q<A.length:=U;by_cases e:q=k
  .subst e;rw[aD U,v8 (A.set q m) q m (by rw[uL b]) j a,show 7*q+j-7*q=j by omega]
  rw[az U,v8 A q A[q] (gl b) j a,v8 (A.set k m) q A[q] (by rw[qn (λh=>e h.symm),gl b]) j a]
 rw[az U,l0 (by rw[yz];omega),l0 (by rw[yz,qp];omega)]
def mX(m:a1):(bw m).toList.all (λv=>v.oneCell')=true:=aH
structure MRingAt(w:ai)(r B size:J)(A:ah a1)(first n:J):ak where
 head:w.heap[r]?=some (ae #[aq (some (ad B 0 ab)) size size,I first,I n] 388 (0,0))
 body:w.heap[B]?=some (ae (hQ A) 254 (0,0))
 gM:A.length=size
 pos:1<=size
 most:size<=4096
 fst:first<size
 fb:n<=size
 ne:r≠B
namespace MRingAt
variable{w w':ai}{r B size first n:J}{A:ah a1}
def drew(h:MRingAt w r B size A first n)(m:J):MRingAt (w.drewN m) r B size A first n:=⟨h.head,h.body,h.gM,h.pos,h.most,h.fst,h.fb,h.ne⟩
theorem keeps{S:J->ak}(h:MRingAt w r B size A first n)(hk:Keeps S w w')(b:¬ S r)(a:¬ S B):MRingAt w' r B size A first n:=
 ⟨hk.heap h.head b,hk.heap h.body a,h.gM,h.pos,h.most,h.fst,h.fb,h.ne⟩
def bt(h:MRingAt w r B size A first n):w.cell? (ad r 0 ab)=some (aq (some (ad B 0 ab)) size size):=bb h.head rfl
def bY(h:MRingAt w r B size A first n):w.cell? (ad r 1 ab)=some (I first):=bb h.head rfl
def bo(h:MRingAt w r B size A first n):w.cell? (ad r 2 ab)=some (I n):=bb h.head rfl
def f1(h:MRingAt w r B size A first n):w.frozen? (ad r 1 ab)=false:=fx h.head 1
def f2(h:MRingAt w r B size A first n):w.frozen? (ad r 2 ab)=false:=fx h.head 2
theorem load(h:MRingAt w r B size A first n){k:J}{x:a1}(b:A[k]?=some x):(Instr.loadAt 254 (.pointer (some (ad B (k*7) ab)))).run prog w=.ok (.agg (bw x)) w:=
 gz 254 7 B (k*7) (bw x) (hQ A) 254 isAgg254 sizeOf254 rfl h.body (λj v a=>by
  have:j<7:=(kf.1 a).1
  rw[oH,v8 A k x b j this];exact a)
def store(h:MRingAt w r B size A first n){k:J}(hk:k<size)(x:a1):(Instr.storeAt 254 (.pointer (some (ad B (k*7) ab))) (.agg (bw x))).run prog w=.ok () (w.setRow B (hQ (A.set k x))):=by
 have:=q8 (P:=prog) (w:=w) 254 7 B (k*7) (bw x) (hQ A) 254 sizeOf254 rfl h.body (by rw[yz,h.gM];omega) (fg.1 (mX x))
 rwa [oH k 7,Tn A k (by rw[h.gM];exact hk),oH 7 k]at this
theorem setBody(h:MRingAt w r B size A first n)(k:J)(x:a1):MRingAt (w.setRow B (hQ (A.set k x))) r B size (A.set k x) first n:=
 ⟨(iG w B _).heap h.head h.ne,fl w B _ _ _ h.body,by simpa using h.gM,h.pos,h.most,h.fst,h.fb,h.ne⟩
theorem sm(h:MRingAt w r B size A first n)(f:J)(a:f<size):MRingAt (w.setCell (ad r 1 ab) (I f)) r B size A f n:=
 ⟨MJ,eU h.body (hW h.ne) _,h.gM,h.pos,h.most,a,h.fb,h.ne⟩
theorem q_(h:MRingAt w r B size A first n)(m:J)(hm:m<=size):MRingAt (w.setCell (ad r 2 ab) (I m)) r B size A first m:=
 ⟨Ec,eU h.body (hW h.ne) _,h.gM,h.pos,h.most,h.fst,hm,h.ne⟩
end MRingAt
variable{w:ai}{r B size first n:J}{A:ah a1}
def BQ(h:MRingAt w r B size A first n)(i k:J)(x:aa)(b:x=i)(aw:i<=100000)(hk:(first+i)%size=k):aA 304 #[r,I x] w λe w'=>e=.returned (I k)/\∃ m,w'=w.drewN m:=by
 subst b;have bt:=h.bt;have bY:=h.bY;have d:((size:aa) == 0)=false:=by have:=h.pos;rw[eu];omega
 have bO:=h.fst;have c:=h.most;have a:=af hk
 go_in
 go_wp2;go_quiet (fail);go_wp2;go_ret;exact⟨q6 (by rw[<-a.o];simp),_,rfl⟩
def mM(w:ai):(Instr.alloc 254 true (aV #[])).run prog w=.ok w.heap.size (w.alloc (ae (bw a1.zero) 254)):=aH
theorem tT{w:ai}{b:J}{x:a1}(h:w.heap[b]?=some (ae (bw x) 254 (0,0))):(Instr.loadAt 254 b).run prog w=.ok (.agg (bw x)) w:=
 gz 254 7 b 0 (bw x) (bw x) 254 isAgg254 sizeOf254 rfl h (λj v z=>jZ)
def TG(h:MRingAt w r B size A first n)(x:aa)(o:x<0\/(n:aa)<=x):aA 309 #[r,I x] w λe w'=>e=aV #[.agg (bw a1.zero),false]/\Below w w w':=by
 have g:=((ba w).alloc (ae (bw a1.zero) 254)).alloc (ae (bw a1.zero) 254);have c:=h.keeps g id id;have d:=aX (w.alloc (ae (bw a1.zero) 254)) (ae (bw a1.zero) 254);have l:(w.alloc (ae (bw a1.zero) 254)).heap.size=w.heap.size+1:=aK;rw[l]at d;have i:=tT d;obtain⟨k,j,m⟩:=dP ((w.alloc (ae (bw a1.zero) 254)).alloc (ae (bw a1.zero) 254)) 254 7 w.heap.size (bw a1.zero) _ sizeOf254 rfl rfl (cm (aX w (ae (bw a1.zero) 254)) (ae (bw a1.zero) 254)) (mX _);have f:=((g.mono λ_ _ x=>x.elim).trans m).below bs a7;have bo:=c.bo;have b:=mM w;have a:=mM (w.alloc (ae (bw a1.zero) 254));rw[l]at a;generalize (w.alloc (ae (bw a1.zero) 254)).alloc (ae (bw a1.zero) 254)=bk at *;generalize bk.setRow w.heap.size (bw a1.zero)=ao at *;generalize w.alloc (ae (bw a1.zero) 254)=p at *;by_cases c:x<0
 .clear o
  go_in
  go_wp2_with (first|(refine d_ b rfl rfl ?_)|(refine d_ a rfl rfl ?_)|(refine dp i rfl rfl rfl ?_)|(refine c8 k rfl rfl rfl rfl ?_));refine dq (v:=aV #[.agg (bw a1.zero),false]) j ?_;exact⟨rfl,f⟩
 have h1:(n:aa)<=x:=U
 go_in
 go_wp2_with (first|(refine d_ b rfl rfl ?_)|(refine d_ a rfl rfl ?_)|(refine dp i rfl rfl rfl ?_)|(refine c8 k rfl rfl rfl rfl ?_));refine dq (v:=aV #[.agg (bw a1.zero),false]) j ?_;exact⟨rfl,f⟩
end
section
variable{w:ai}{r B size first n:J}{A:ah a1}
def TF(h:MRingAt w r B size A first n)(i k:J)(x:aa)(C:x=i)(aw:i<n)(hk:(first+i)%size=k)(v:a1)(aW:A[k]?=some v):aA 309 #[r,I x] w λe w'=>e=aV #[.agg (bw v),true]/\Below w w w':=by
 subst C;have c:=((ba w).alloc (ae (bw a1.zero) 254)).alloc (ae (bw a1.zero) 254);have b:=h.keeps c id id;have f:=cm (aX w (ae (bw a1.zero) 254)) (ae (bw a1.zero) 254);have l:(w.alloc (ae (bw a1.zero) 254)).heap.size=w.heap.size+1:=aK;have bt:=b.bt;have bo:=b.bo;have s:=mM w;have d:=mM (w.alloc (ae (bw a1.zero) 254));rw[l]at d;have bO:=h.fb;have E:=h.most;have F:k<size:=hk▸e2 _ h.pos;clear l h;generalize (w.alloc (ae (bw a1.zero) 254)).alloc (ae (bw a1.zero) 254)=bk at *;generalize w.alloc (ae (bw a1.zero) 254)=G at *;have au:=λa=>BQ (b.drew a) i k i rfl U hk;have q:=af au;have u:∀ w',(∃ n,w'=bk.drewN n)->(Instr.loadAt 254 (.pointer (some (ad B (k*7) ab)))).run prog w'=.ok (.agg (bw v)) w':=by
  rintro w' ⟨m,rfl⟩;exact(b.drew m).load aW
 have D:=af b;clear au hk aW b
 go_in
 go_wp2_with (first|(refine d_ s rfl rfl ?_)|(refine d_ d rfl rfl ?_));refine iR 9 aH aH ?_;simp only[hV,iy,hU,hI]
 repeat (first|(refine ke u rfl rfl rfl ?_;simp only[Act.put,c7])|go_big_quiet_step ((go_at_call 304;exact Calls.quiet_of (q.out _))))
 refine wpQuiet_nil ?_;intro _ o;obtain⟨nq,p⟩:=o;subst p;have g:(bk.drewN nq).heap[w.heap.size]?=some (ae (bw a1.zero) 254 (0,0)):=f;obtain⟨z,y,j⟩:=dP (bk.drewN nq) 254 7 w.heap.size (bw v) _ sizeOf254 rfl rfl g (mX _);have t:Below w w ((bk.drewN nq).setRow w.heap.size (bw v)):=(((c.drewN nq).mono λ_ _ x=>x.elim).trans j).below bs a7;clear c j f g;generalize (bk.drewN nq).setRow w.heap.size (bw v)=ao at *;go_wp2_with (refine c8 z rfl rfl rfl rfl ?_);refine cU (v:=aV #[.agg (bw v),true]) (by simp[results,results309,asAddr,loadVar,loadCells,isAgg254,sizeOf254,y]) rfl ?_;exact⟨rfl,t⟩
def TK(h:MRingAt w r B size A first n)(ar:n=size)(v:a1):aA 246 #[r,.agg (bw v)] w λe w'=>e=.returned (I 8)/\Below w w w':=by
 subst ar;have c:=(ba w).alloc (ae (bw v) 254);have a:=h.keeps c id id;have b:=(b3 w.heap.size w).alloc bs (ae (bw v) 254);have bt:=a.bt;have bo:=a.bo;clear c a h;unfold bw at *
 go_in
 go_wp2;go_quiet (fail);go_wp2;go_ret;exact⟨rfl,b.trans ((Keeps.drewN (ba _) _).below b.size (λ_ _ x=>x))⟩
def TJ(h:MRingAt w r B size A first n)(ar:n<size)(k:J)(hk:(first+n)%size=k)(v:a1):aA 246 #[r,.agg (bw v)] w λe w'=>e=.returned (I 0)/\MRingAt w' r B size (A.set k v) first (n+1)/\Keeps (λb=>b=r\/b=B) w w':=by
 have g:=(ba w).alloc (ae (bw v) 254);have d:=h.keeps g id id;have t:=aX w (ae (bw v) 254);have bt:=d.bt;have bo:=d.bo;have bO:=h.fb;have H:=h.most;have ne:=h.ne;have F:k<size:=hk▸e2 _ h.pos;have K:((n:aa) == (size:aa))=false:=by rw[eu];omega
 have l:=af t;have i:=af d;have E:=af hk;have j:=af g;clear hk h t d g
 go_in
 go_wp2;generalize L:w.alloc (ae (bw v) 254)=bk at *;go_quiet (fail);go_wp2;have c:=af (i.o.drew nq);have s:(bk.drewN nq).heap[w.heap.size]?=some (ae (bw v) 254 (0,0)):=l.o;have C:=af (j.o.drewN nq);clear bt bo l i j;generalize bk.drewN nq=ao at *;have bt:=c.o.bt;have bo:=c.o.bo;have u:∀ w',(∃ n,w'=ao.drewN n)->(Instr.loadAt 254 w.heap.size).run prog w'=.ok (.agg (bw v)) w':=by
  rintro w' ⟨m,rfl⟩;exact tT s
 have au:=λa=>BQ (c.out.drew a) n k n rfl U E.out;have q:=af au;clear au s;refine iR 12 aH aH ?_;simp only[hV,iy,hU,hI]
 repeat (first|(refine ke u rfl rfl rfl ?_;simp only[Act.put,c7])|go_big_quiet_step ((go_at_call 304;exact Calls.quiet_of (q.o _))))
 refine wpQuiet_nil ?_;intro _ y;obtain⟨nq,z⟩:=y;subst z;have G:=(c.out.drew nq).store F v;have f:=af ((c.out.drew nq).setBody k v);have D:=af (((C.out.drewN nq).mono (T:=λb=>b=r\/b=B) λ_ _ x=>x.elim).trans ((iG (ao.drewN nq) B (hQ (A.set k v))).mono λ_ _=>Or.inr));clear bt bo u q;generalize (ao.drewN nq).setRow B (hQ (A.set k v))=aC at *;have bo:=f.o.bo;have f2:=f.o.f2;go_wp2_with (refine c8 G rfl rfl rfl rfl ?_);go_ret;exact⟨rfl,f.o.q_ (n+1) U,D.o.setCell (p:=ad r 2 ab) (.inl rfl) _⟩
def TI(h:MRingAt w r B size A first 0):aA 261 #[r] w λe w'=>e=aV #[.agg (bw a1.zero),false]/\Below w w w':=by
 have g:=mM w;have m:=(ba w).alloc (ae (bw a1.zero) 254);have i:=h.keeps m id id;have b:=aX w (ae (bw a1.zero) 254);have a:=(b3 w.heap.size w).alloc bs (ae (bw a1.zero) 254);clear m;generalize w.alloc (ae (bw a1.zero) 254)=bk at *
 go_in
 go_wp2_with (refine d_ g rfl rfl ?_);refine(TG i 0 U).mono ?_;rintro e ao ⟨rfl,d⟩;have a:=a.trans (d.mono a.size);have b:=(Keeps.bD (S:=aI) d a7).heap b id;have u:=bP b;clear d i g h;have o:=mM ao;have c:=aX ao (ae (bw a1.zero) 254);have b:=cm b (ae (bw a1.zero) 254);have a:=a.alloc a.size (ae (bw a1.zero) 254);obtain⟨s,_,f⟩:=dP (ao.alloc (ae (bw a1.zero) 254)) 254 7 ao.heap.size (bw a1.zero) _ sizeOf254 rfl rfl c (mX _);have k:=fl (ao.alloc (ae (bw a1.zero) 254)) ao.heap.size _ (bw a1.zero) 254 c;have j:=f.heap b U;clear b;have l:=a.trans (f.below a.size a7);clear f a c;generalize (ao.alloc (ae (bw a1.zero) 254)).setRow ao.heap.size (bw a1.zero)=aC at *;generalize ao.alloc (ae (bw a1.zero) 254)=x at *;have q:=tT k;obtain⟨t,zp,n⟩:=dP aC 254 7 w.heap.size (bw a1.zero) _ sizeOf254 rfl rfl j (mX _);have p:=l.trans (n.below (B:=w.heap.size) l.size a7);clear n k j;generalize aC.setRow w.heap.size (bw a1.zero)=bm at *;go_wp2_with (first|(refine d_ o rfl rfl ?_;simp only[Act.put,c7])|(refine dp q rfl rfl rfl ?_;try simp only[Act.put,c7])|(refine c8 s rfl rfl rfl rfl ?_;try simp only[Act.put])|(refine c8 t rfl rfl rfl rfl ?_;try simp only[Act.put]));refine cU (v:=aV #[.agg (bw a1.zero),false]) Mu rfl ?_;exact⟨rfl,p⟩
def TH(h:MRingAt w r B size A first n)(ar:0<n)(a:J)(y:(first+1)%size=a)(v:a1)(aW:A[first]?=some v):aA 261 #[r] w λe w'=>e=aV #[.agg (bw v),true]/\MRingAt w' r B size (A.set first a1.zero) a (n-1)/\Keeps (λb=>b=r\/b=B) w w':=by
 have K:=mM w;have z:=(ba w).alloc (ae (bw a1.zero) 254);have k:=h.keeps z id id;have R:=aX w (ae (bw a1.zero) 254);have bO:=h.fb;have ZH:=h.most;have N:=h.fst;have ne:=h.ne;have ZJ:=bP h.head;have ZI:=bP h.body;have T':a<size:=y▸e2 _ h.pos;have G:=af (show(first+0)%size=first from jh N);have Q':=af y;have H:=af aW;clear y aW h;generalize w.alloc (ae (bw a1.zero) 254)=bk at *
 go_in
 go_wp2_with (refine d_ K rfl rfl ?_);refine(TF k 0 first 0 rfl ar G.o v H.o).mono ?_;rintro e ao ⟨rfl,g⟩;have r':=z.trans (Keeps.bD (S:=aI) g a7);have O:=k.keeps (Keeps.bD (S:=aI) g a7) id id;have s:=(Keeps.bD (S:=aI) g a7).heap R id;have ZK:=bP s;clear g k K z R H G;have L:=mM ao;have t:=aX ao (ae (bw a1.zero) 254);have gf:=cm s (ae (bw a1.zero) 254);have D:=(ba ao).alloc (ae (bw a1.zero) 254);obtain⟨m',_,i⟩:=dP (ao.alloc (ae (bw a1.zero) 254)) 254 7 ao.heap.size (bw v) _ sizeOf254 rfl rfl t (mX _);have u:=fl (ao.alloc (ae (bw a1.zero) 254)) ao.heap.size _ (bw v) 254 t;have V:=i.heap gf U;have sd:=r'.trans (cL D i a7);have P:=O.keeps (cL D i a7) id id;have ZL:ao.heap.size<((ao.alloc (ae (bw a1.zero) 254)).setRow ao.heap.size (bw v)).heap.size:=bP u;clear t gf D i O s r';generalize (ao.alloc (ae (bw a1.zero) 254)).setRow ao.heap.size (bw v)=aC at *;generalize ao.alloc (ae (bw a1.zero) 254)=ZN at *;have M:=mM aC;have l':=aX aC (ae (bw a1.zero) 254);have g':=cm u (ae (bw a1.zero) 254);have W:=cm V (ae (bw a1.zero) 254);have E:=(ba aC).alloc (ae (bw a1.zero) 254);have s':=sd.trans E;have f:=P.keeps E id id;clear u V E sd P;generalize Tq:ao.heap.size=X at *;generalize TS:aC.heap.size=Z at *;generalize aC.alloc (ae (bw a1.zero) 254)=bm at *;have mv:∀ w',(∃ n,w'=bm.drewN n)->(Instr.loadAt 254 Z).run prog w'=.ok (.agg (bw a1.zero)) w':=by
  rintro w' ⟨m,rfl⟩;exact tT l'
 have bt:=f.bt;have bY:=f.bY;have j:=af f;clear f Tq TS;go_wp2_with (first|(refine d_ L rfl rfl ?_)|(refine d_ M rfl rfl ?_)|(refine c8 m' rfl rfl rfl rfl ?_));simp only[Act.put,c7];refine iR 10 aH aH ?_;simp only[hV,iy,hU,hI]
 repeat (first|(refine ke mv rfl rfl rfl ?_;simp only[Act.put,c7])|go_big_quiet_step (fail))
 refine wpQuiet_nil ?_;intro _ Aw;have⟨nq,CW⟩:=Aw;subst CW;have ps:=(j.o.drew nq).store N a1.zero;have l:=(j.o.drew nq).setBody first a1.zero
 have vl:=((s'.drewN nq).mono (T:=λb=>b=r\/b=B) λ_ _ x=>x.elim).trans ((iG (bm.drewN nq) B (hQ (A.set first a1.zero))).mono λ_ _=>Or.inr);have hd:((bm.drewN nq).setRow B (hQ (A.set first a1.zero))).heap[X]?=some (ae (bw v) 254 (0,0)):=(iG (bm.drewN nq) B _).heap g' U;have Y:((bm.drewN nq).setRow B (hQ (A.set first a1.zero))).heap[w.heap.size]?=some (ae (bw a1.zero) 254 (0,0)):=(iG (bm.drewN nq) B _).heap W U;clear mv bt bY j s' g' W l' m' L M;generalize (bm.drewN nq).setRow B (hQ (A.set first a1.zero))=F at *;go_wp2_with (refine c8 ps rfl rfl rfl rfl ?_);refine(BQ l 1 a 1 rfl U Q'.out).mono ?_;rintro e zd ⟨rfl,d,rfl⟩;have c:=l.drew d;have h2:(F.drewN d).heap[X]?=some (ae (bw v) 254 (0,0)):=hd;have a':(F.drewN d).heap[w.heap.size]?=some (ae (bw a1.zero) 254 (0,0)):=Y;have v':=vl.drewN d;clear ps l hd Y vl;generalize F.drewN d=zd at *;have Q:=c.sm a T';have q:=Q.q_ (n-1) U;rw[show((n-1:J):aa)=(n:aa)-1 by omega]at q;have ys:=(v'.setCell (p:=ad r 1 ab) (.inl rfl) (I a)).setCell (p:=ad r 2 ab) (.inl rfl) (I ((n:aa)-1));have lb:=eU (p:=ad r 2 ab) (eU (p:=ad r 1 ab) h2 (by show X≠r;omega) (I a)) (by show X≠r;omega) (I ((n:aa)-1));have fr:=eU (p:=ad r 2 ab) (eU (p:=ad r 1 ab) a' (by show w.heap.size≠r;omega) (I a)) (by show w.heap.size≠r;omega) (I ((n:aa)-1));have f1:=c.f1;have f2:=c.f2;have bY:=c.bY;have bo:=c.bo;have V':=tT lb;obtain⟨W',zp,C⟩:=dP _ 254 7 w.heap.size (bw v) _ sizeOf254 rfl rfl fr (mX _);have St:=q.keeps C (by show r≠w.heap.size;omega) (by show B≠w.heap.size;omega);have ZG:=cL ys C a7;clear c Q q v' ys h2 a' lb fr C;generalize ((zd.setCell (ad r 1 ab) (I a)).setCell (ad r 2 ab) (I ((n:aa)-1))).setRow w.heap.size (bw v)=ZM at *;go_wp2_with (first|(refine dp V' rfl rfl rfl ?_)|(refine c8 W' rfl rfl rfl rfl ?_));refine cU (v:=aV #[.agg (bw v),true]) Mu rfl ?_;exact⟨rfl,St,ZG⟩
def iA(w:ai)(r B size:J)(L:ah a1):ak:=∃ A first,MRingAt w r B size A first L.length/\Holds A first size L
variable{L:ah a1}
def iA.keeps{w':ai}{S:J->ak}(h:iA w r B size L)(hk:Keeps S w w')(b:¬ S r)(a:¬ S B):iA w' r B size L:=by
 exact D9
def iA.le(h:iA w r B size L):L.length<=size/\1<=size/\size<=4096/\r<w.heap.size/\B<w.heap.size/\r≠B:=by
 exact D5
def IE(h:iA w r B size L)(ar:L.length<size)(v:a1):aA 246 #[r,.agg (bw v)] w λe w'=>e=.returned (I 0)/\iA w' r B size (L++[v])/\Keeps (λb=>b=r\/b=B) w w':=by
 obtain⟨A,f,h1,h2⟩:=h;refine(TJ h1 ar _ rfl v).mono ?_;rintro e w' ⟨rfl,a,c⟩;exact⟨rfl,⟨_,f,s5,h2.push h1.fst h1.gM ar v⟩,c⟩
def IF(h:iA w r B size L)(ar:L.length=size)(v:a1):aA 246 #[r,.agg (bw v)] w λe w'=>e=.returned (I 8)/\iA w' r B size L/\Keeps (λb=>b=r\/b=B) w w':=by
 have c:=h.le;have a:=h;obtain⟨A,f,h1,h2⟩:=h;refine(TK h1 ar v).mono ?_;rintro e w' ⟨rfl,aj⟩;exact⟨rfl,a.keeps (Keeps.bD (S:=aI) aj a7) id id,Keeps.bD aj a7⟩
def TM{v:a1}(h:iA w r B size (v :: L)):aA 261 #[r] w λe w'=>e=aV #[.agg (bw v),true]/\iA w' r B size L/\Keeps (λb=>b=r\/b=B) w w':=by
 obtain⟨A,f,h1,h2⟩:=h;have d:=h2 0 aK;rw[rC,jh h1.fst]at d;refine(TH h1 aK _ rfl v xh).mono ?_;rintro e w' ⟨rfl,a,c⟩;exact⟨rfl,⟨_,_,s5,h2.pop h1.fst h1.fb aK _⟩,c⟩
def TN(h:iA w r B size []):aA 261 #[r] w λe w'=>e=aV #[.agg (bw a1.zero),false]/\iA w' r B size []/\Keeps (λb=>b=r\/b=B) w w':=by
 have c:=h.le;have a:=h;obtain⟨A,f,h1,h2⟩:=h;refine(TI h1).mono ?_;rintro e w' ⟨rfl,aj⟩;exact⟨rfl,a.keeps (Keeps.bD (S:=aI) aj a7) id id,Keeps.bD aj a7⟩
end
def Sd:(prog.info? 254).map (λi=>(i.zero,i.size,i.bytes))=some (some (.agg (bw a1.zero)),7,56):=aH
def Zo:madeCells (Value.agg (bw a1.zero)).cells 56=hQ (replicate 8 a1.zero):=aH
def TL(w:ai):aA 196 #[I 8] w λe w'=>e=aV #[.pointer (some (ad (w+1) 0 ab)),I 0]/\iA w' (w.heap.size+1) w.heap.size 8 []/\Below w w w'/\w'.heap.size=w.heap.size+2:=by
 obtain⟨m,aw,k,l,d⟩:∃ i,prog.info? 254=some i/\i.zero=some (.agg (bw a1.zero))/\i.size=7/\i.bytes=56:=by
  have h:=Sd;cases aJ:prog.info? 254 with
  | none=>rw[aJ]at h;cases h
  | some i=>rw[aJ]at h;simp only[pw,hr,jA]at h;exact⟨i,rfl,h.1,h.2.1,h.2.2⟩
 have g:=run_make (P:=prog) w 250 254 m (.agg (bw a1.zero)) underlying250 aw k .i64 .i64 8 8 U (jw _) vd U;rw[l,show(8:aa).toNat*7=56 from rfl,Zo,show(8:aa).toNat=8 from rfl]at g;have aj:Below w w ((w.alloc (ae (hQ (replicate 8 a1.zero)) 254)).alloc (ae #[aq (some (ad w 0 ab)) 8 8,I 0,I 0] 388)):=((b3 _ w).alloc bs _).alloc aK _;have a:=aX (w.alloc (ae (hQ (replicate 8 a1.zero)) 254)) (ae #[aq (some (ad w 0 ab)) 8 8,I 0,I 0] 388);have c:=cm (aX w (ae (hQ (replicate 8 a1.zero)) 254)) (ae #[aq (some (ad w 0 ab)) 8 8,I 0,I 0] 388);have av:((w.alloc (ae (hQ (replicate 8 a1.zero)) 254)).alloc (ae #[aq (some (ad w 0 ab)) 8 8,I 0,I 0] 388)).heap.size=w.heap.size+2:=aK;have j:(w.alloc (ae (hQ (replicate 8 a1.zero)) 254)).heap.size=w.heap.size+1:=aK;rw[j]at a;generalize f:hQ (replicate 8 a1.zero)=n at *;have b:=af f
 go_in
 go_wp2_with fail;refine bA (yU 8 w) ?_;go_wp2;go_ret2;exact⟨rfl,⟨replicate 8 a1.zero,0,⟨a,by rw[b.o];exact c,aK,U,U,U,aK,U⟩,λt aO=>absurd aO (lp _)⟩,aj,av⟩
end Go.Proofs.YtalagblioepadaaGreatDoor
