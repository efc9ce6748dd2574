/- The proof, part 12. -/
import Derived.Test.YtalagblioepadaaGreatDoorZb08
import Derived.Test.YtalagblioepadaaGreatDoorZb02
namespace Go.Proofs.YtalagblioepadaaGreatDoor
set_option linter.all false
open Proofs.Tryz List Go.RowKit
set_option maxRecDepth 100000
set_option maxHeartbeats 2000000
def jS{p:ak}(h:p:=by rw[gv];exact z):p:=h
def D1{p:ak}(h:p:=by unfold Region.wanted;rw[a1]):p:=h
def LX{p:ak}(h:p:=by simp[results,results261,asAddr,loadVar,loadCells,isAgg254,sizeOf254,Aw]):p:=h
section
variable{P:Program}{w:ai}
def gq(T:TypeId)(k b o:J)(c a:a6 aw)(t:TypeId)(bj:∀ w,(isAgg T).run P w=.ok true w)(e:∀ w,(Go.sizeOf T).run P w=.ok k w)(aq:c.size=k)(d:w.heap[b]?=some (ae a t (0,0)))(ax:∀ j v,c[j]?=some v->a[o+j]?=some v):(Instr.loadAt T (.pointer (some (ad b o ab)))).run P w=.ok (.agg c) w:=by
 have h:=wB (P:=P) w (ad b o ab) c.toList (λj v m=>by
  rw[hN];exact bb d (ax j v uP))
 simp only[pe,K0]at h;simp only[Instr.loadAt,Instr.sureAddr,loadVar,hz,h5,hg,bj,e,if_true,aq▸h]
def eU(a:a6 aw)(o:J)(c:a6 aw):a6 aw:=(a.toList.take o++c.toList++a.toList.drop (o+c.size)).toArray
def we(a:a6 aw)(o:J)(c:a6 aw)(h:o+c.size<=a.size):(eU a o c).size=a.size:=by
 unfold eU;simp;omega
theorem iB(w:ai)(b:J)(cs:a6 aw):Keeps (λx=>x=b) w (w.setRow b cs):=
 ⟨rfl,rfl,rfl,by simp[World.setRow],λk _ ax=>by simp only[World.setRow];rw[CV];simp[show ¬ b=k from λe=>ax e.symm]⟩
def qQ(T:TypeId)(k b o:J)(c a:a6 aw)(t:TypeId)(e:∀ w,(Go.sizeOf T).run P w=.ok k w)(aq:c.size=k)(d:w.heap[b]?=some (ae a t (0,0)))(ax:o+k<=a.size)(h1:∀ v∈c.toList,v.oneCell'=true):(Instr.storeAt T (.pointer (some (ad b o ab))) (.agg c)).run P w=.ok () (w.setRow b (eU a o c)):=by
 simp only[Instr.storeAt,Instr.sureAddr,storeVar,hz,h5,hg,e,Value.cells,aq];simpa[eU]using(Da P b o t c.toList 0 a w d bU h1)
theorem Gr(o:J):∀ (l:ah aw) (i:J) (a:a6 aw) (k:J),o+i+l.length<=a.size->
  ((l.zipIdx i).foldl (λcs (p:aw×J)=>cs.setIfInBounds (o+p.2) p.1) a)[k]?=if o+i<=k/\k<o+i+l.length then l[k-(o+i)]? else a[k]?
 | [],i,a,k,_=>by
  simp only[zipIdx_nil,q9,e2];rw[aA U]
 | v :: l,i,a,k,h=>by
  have b:o+(i+1)+l.length<=(a.setIfInBounds (o+i) v).size:=by simp at h⊢;omega
  rw[zipIdx_cons,od,Gr o l (i+1) _ k b];simp only[dr]at h⊢;by_cases h1:k=o+i
  .subst h1;rw[aA U,aD U,y4 U];simp
  by_cases h2:o+i<=k/\k<o+i+(l.length+1)
  .rw[aD U,aD h2,show k-(o+i)=(k-(o+(i+1)))+1 by omega,jM]
  rw[aA U,aA h2,wo U]
def sb(a:a6 aw)(o:J)(c:a6 aw)(h:o+c.size<=a.size)(k:J):(eU a o c)[k]?=if o<=k/\k<o+c.size then c[k-o]? else a[k]?:=by
 unfold eU;rw[jN];by_cases h1:k<o
 .rw[aA U,dD,jL bU,ux,aD h1];simp
 by_cases h2:k<o+c.size
 .rw[aD U,dD,mu bU,jL bU];simp
  congr 1
  omega
 rw[aA U,mu bU,wE];simp
 congr 1
 omega
def Qd(a:a6 aw)(o:J)(c:a6 aw)(h:o+c.size<=a.size):c.zipIdx.foldl (λcs (p:aw×J)=>cs.setIfInBounds (o+p.2) p.1) a=eU a o c:=by
 apply pc;intro k;rw[sb a o c h,<-Array.foldl_toList,Array.toList_zipIdx]
 have:=Gr o c.toList 0 a k h8
 rw[this];simp
def Gl(b:J->b4 (J×J))(a:a6 aw)(i o:J)(v:aw)(rest:ah (J×aw))(ar:b i=some (o,v.cells.size))(h:o+v.cells.size<=a.size):Instr.fill b a ((i,v) :: rest)=Instr.fill b (eU a o v.cells) rest:=by
 rw[Instr.fill,ar];simp only[ne_eq,not_true_eq_false,decide_false,wu];rw[aA bU]
 congr 1
 exact Qd a o v.cells h
section
variable{o:Oper}{a:Act}{K:Act->ai->ak}{Q:Exit->Act->ai->ak}{ops:a6 Oper}{rest:ah Oper}{w':ai}{v p:aw}
def KO{T:TypeId}{x:Operand}(b:o.op=.load T x)(c:a.eval x=p)(hrun:(Instr.loadAt T p).run P w=.ok v w')(h:K (a.put o.dst v) w'):o.wp P a w K Q:=by
 unfold Oper.wp execOp;simp only[b,c,hz,hrun,hg,h5];exact h
def Yx{T:TypeId}{b:a6 (J×Operand)}{bQ:a6 (J×aw)}(c:o.op=.build T b)(d:(b.map λq=>(q.1,a.eval q.2))=bQ)(hrun:(Instr.build T bQ).run P w=.ok v w')(h:K (a.put o.dst v) w'):o.wp P a w K Q:=by
 subst d;unfold Oper.wp execOp;simp only[c,hz];simp only[hrun,hg,h5];exact h
def na{T:TypeId}{x y:Operand}{u:aw}(b:o.op=.store T x y)(c:a.eval x=p)(d:a.eval y=u)(hrun:(Instr.storeAt T p u).run P w=.ok () w')(h:K (a.put o.dst undef) w'):o.wp P a w K Q:=by
 unfold Oper.wp execOp;simp only[b,c,d,hz,hrun,hg,h5];exact h
theorem dm{T:TypeId}{x:Operand}(hrun:(Instr.loadAt T p).run P w=.ok v w')(c:o.guard=none)(d:o.op=.load T x)(e:a.eval x=p)(h:wpList P ops Q rest (a.put o.dst v) w'):wpList P ops Q (o :: rest) a w:=
 nh c λ_ b=>KO d e hrun (b _ _ h)
theorem y1{T:TypeId}{b:a6 (J×Operand)}{bQ:a6 (J×aw)}(hrun:(Instr.build T bQ).run P w=.ok v w')(d:o.guard=none)(e:o.op=.build T b)(f:(b.map λq=>(q.1,a.eval q.2))=bQ)(h:wpList P ops Q rest (a.put o.dst v) w'):wpList P ops Q (o :: rest) a w:=
 nh d λ_ c=>Yx e f hrun (c _ _ h)
theorem su{T:TypeId}{i j:J}{x y:Operand}{u b:aw}(hrun:(Instr.build T #[(i,u),(j,b)]).run P w=.ok v w')(c:o.guard=none)(d:o.op=.build T #[(i,x),(j,y)])(e:a.eval x=u)(f:a.eval y=b)(h:wpList P ops Q rest (a.put o.dst v) w'):wpList P ops Q (o :: rest) a w:=
 y1 hrun c d (by simp[e,f]) h
theorem c8{T:TypeId}{x y:Operand}{u:aw}(hrun:(Instr.storeAt T p u).run P w=.ok () w')(c:o.guard=none)(d:o.op=.store T x y)(e:a.eval x=p)(f:a.eval y=u)(h:wpList P ops Q rest (a.put o.dst undef) w'):wpList P ops Q (o :: rest) a w:=
 nh c λ_ b=>na d e f hrun (b _ _ h)
end
end
def dv(w:ai)(b:J)(c:a6 aw)(t:TypeId)(a:w.heap[b]?=some (ae c t (0,0)))(k:J)(hk:c.size=k):(loadCellsFrom (ad b 0 ab) 0 k #[]).run prog w=.ok c w:=by
 have h:=wB (P:=prog) w (ad b 0 ab) c.toList (λj v m=>by
  rw[hN,gv];exact bb a uP)
 simp only[pe,K0,hk,loadCells]at h;exact h
def WT(a c:a6 aw)(h:c.size=a.size):eU a 0 c=c:=by
 apply pc;intro k;rw[sb _ _ _ U];split
 .simp
 rename_i aR;rw[lO U,lO U]
def fe(w:ai)(b:J)(cs c:a6 aw)(t:TypeId)(a:w.heap[b]?=some (ae cs t (0,0))):(w.setRow b c).heap[b]?=some (ae c t (0,0)):=by
 have d:=bR a;have e:w.heap[b]=ae cs t (0,0):=by simpa[sw d]using a
 show(w.heap.modify b _)[b]?=_;rw[sw (by simpa using d),KY,e]
def dO(w:ai)(T:TypeId)(k b:J)(c a:a6 aw)(e:∀ w,(Go.sizeOf T).run prog w=.ok k w)(aq:c.size=k)(f:a.size=k)(d:w.heap[b]?=some (ae a T (0,0)))(h1:c.toList.all (λv=>v.oneCell')=true):(Instr.storeAt T b (.agg c)).run prog w=.ok () (w.setRow b c)/\(loadCellsFrom (ad b 0 ab) 0 k #[]).run prog (w.setRow b c)=.ok c (w.setRow b c)/\Keeps (λx=>x=b) w (w.setRow b c):=by
 have h:=qQ (P:=prog) T k b 0 c a T e aq d U (ff.1 h1);rw[WT a c U]at h;exact⟨h,dv _ _ _ _ (fe w b a c T d) k aq,iB w b c⟩
theorem cK{S T:J->ak}{a b d:ai}(h:Keeps S a b)(h2:Keeps T b d)(ax:∀ k,k<a.heap.size->T k->S k):Keeps S a d:=
 ⟨h2.os.trans h.os,h2.tape.trans h.tape,h2.output.trans h.output,b7 h.size h2.size,λi av au=>(h2.block i (lT av h.size) (λt=>au (ax i av t))).trans (h.block i av au)⟩
section
variable{P:Program}{o:Oper}{a:Act}{K:Act->ai->ak}{Q:Exit->Act->ai->ak}{ops:a6 Oper}{rest:ah Oper}{w w':ai}{v p:aw}
theorem ea{T:TypeId}(hrun:(Instr.alloc T true (aV #[])).run P w=.ok v w')(c:o.guard=none)(d:o.op=.alloc T)(h:wpList P ops Q rest (a.put o.dst v) w'):wpList P ops Q (o :: rest) a w:=
 nh c λ_ b=>by
  unfold Oper.wp execOp;simp only[d,hz,hrun,hg,h5];exact b _ _ h
end
section
variable{P:Program}{o:Oper}{a:Act}{C:ai->ak}{K:Act->ak}
theorem UB{T:TypeId}{x:Operand}{p v:aw}(hrun:∀ w,C w->(Instr.loadAt T p).run P w=.ok v w)(b:o.op=.load T x)(d:a.eval x=p)(hk:K (a.put o.dst v)):o.quiet P a C K:=
 ⟨v,λw c=>by
  unfold Oper.quietAt execOp;simp only[b,d,hz,hrun w c,hg,h5];exact⟨rfl,rfl⟩,hk⟩
def j7{ops:a6 Oper}{Q:Act->ak}{rest:ah Oper}{T:TypeId}{x:Operand}{p v:aw}(hrun:∀ w,C w->(Instr.loadAt T p).run P w=.ok v w)(a1:o.guard=none)(b:o.op=.load T x)(c:a.eval x=p)(hk:wpQuiet P ops C Q rest (a.put o.dst v)):wpQuiet P ops C Q (o :: rest) a:=by
 unfold wpQuiet;rw[aD D1];exact UB hrun b c hk
end
section
def bx(m:aZ):a6 aw:=#[I m.kind,aK m.bL,bz m.cl,bz m.cj,ao none 0 0,aK m.sum,I m.lead]
def hD(A:ah aZ):a6 aw:=(A.flatMap λm=>(bx m).toList).toArray
def H3(m:aZ):(bx m).size=7:=rfl
def yd(A:ah aZ):(hD A).size=7*A.length:=by
 show((A.flatMap λm=>(bx m).toList)).length=_
 induction A with
 | nil=>rfl
 | cons a A b=>rw[iL,sC,b,pg,show(bx a).toList.length=7 from rfl];omega
theorem vK:∀ (A:ah aZ) (k:J) (m:aZ),A[k]?=some m->∀ j,j<7->(hD A)[7*k+j]?=(bx m)[j]?
 | [],k,m,h,_,_=>by simp at h
 | a :: A,0,m,h,j,c=>by
  simp only[kv,hi]at h;subst h;unfold hD;rw[jN,iL,jL (by show _<7;omega)];simp
 | a :: A,k+1,m,h,j,c=>by
  rw[jM]at h;have b:=vK A k m h j c;unfold hD at b⊢;rw[jN]at b⊢;have d:(bx a).toList.length=7:=rfl;rw[iL,mu U,d,<-b]
  congr 1
  omega
def SL(A:ah aZ)(k:J)(hk:k<A.length)(m:aZ):eU (hD A) (7*k) (bx m)=hD (A.set k m):=by
 apply pc;intro i;rw[sb _ _ _ (by rw[yd,H3];omega),H3];by_cases av:i<7*A.length
 .obtain⟨q,j,a,rfl⟩:∃ q j,j<7/\i=7*q+j:=⟨i / 7,i%7,eW _ U,(o_ i 7).symm⟩;have b:q<A.length:=U;by_cases e:q=k
  .subst e;rw[aD U,vK (A.set q m) q m (by rw[uw b]) j a,show 7*q+j-7*q=j by omega]
  rw[aA U,vK A q A[q] (gb b) j a,vK (A.set k m) q A[q] (by rw[p_ (λh=>e h.symm),gb b]) j a]
 rw[aA U,lO (by rw[yd];omega),lO (by rw[yd,qa];omega)]
def mK(m:aZ):(bx m).toList.all (λv=>v.oneCell')=true:=aH
structure MRingAt(w:ai)(r B size:J)(A:ah aZ)(first n:J):ak where
 head:w.heap[r]?=some (ae #[ao (some (ad B 0 ab)) size size,I first,I n] 388 (0,0))
 body:w.heap[B]?=some (ae (hD A) 254 (0,0))
 gG:A.length=size
 pos:1<=size
 most:size<=4096
 fst:first<size
 e6:n<=size
 ne:r≠B
namespace MRingAt
variable{w w':ai}{r B size first n:J}{A:ah aZ}
def drew(h:MRingAt w r B size A first n)(m:J):MRingAt (w.drewN m) r B size A first n:=⟨h.head,h.body,h.gG,h.pos,h.most,h.fst,h.e6,h.ne⟩
theorem keeps{S:J->ak}(h:MRingAt w r B size A first n)(hk:Keeps S w w')(b:¬ S r)(a:¬ S B):MRingAt w' r B size A first n:=
 ⟨hk.heap h.head b,hk.heap h.body a,h.gG,h.pos,h.most,h.fst,h.e6,h.ne⟩
def bu(h:MRingAt w r B size A first n):w.cell? (ad r 0 ab)=some (ao (some (ad B 0 ab)) size size):=bb h.head rfl
def b0(h:MRingAt w r B size A first n):w.cell? (ad r 1 ab)=some (I first):=bb h.head rfl
def bs(h:MRingAt w r B size A first n):w.cell? (ad r 2 ab)=some (I n):=bb h.head rfl
def f1(h:MRingAt w r B size A first n):w.frozen? (ad r 1 ab)=false:=fJ h.head 1
def f2(h:MRingAt w r B size A first n):w.frozen? (ad r 2 ab)=false:=fJ h.head 2
theorem load(h:MRingAt w r B size A first n){k:J}{x:aZ}(b:A[k]?=some x):(Instr.loadAt 254 (.pointer (some (ad B (k*7) ab)))).run prog w=.ok (.agg (bx x)) w:=
 gq 254 7 B (k*7) (bx x) (hD A) 254 isAgg254 sizeOf254 rfl h.body (λj v a=>by
  have:j<7:=(j8.1 a).1
  rw[ot,vK A k x b j this];exact a)
def store(h:MRingAt w r B size A first n){k:J}(hk:k<size)(x:aZ):(Instr.storeAt 254 (.pointer (some (ad B (k*7) ab))) (.agg (bx x))).run prog w=.ok () (w.setRow B (hD (A.set k x))):=by
 have:=qQ (P:=prog) (w:=w) 254 7 B (k*7) (bx x) (hD A) 254 sizeOf254 rfl h.body (by rw[yd,h.gG];omega) (ff.1 (mK x))
 rwa [ot k 7,SL A k (by rw[h.gG];exact hk),ot 7 k]at this
theorem setBody(h:MRingAt w r B size A first n)(k:J)(x:aZ):MRingAt (w.setRow B (hD (A.set k x))) r B size (A.set k x) first n:=
 ⟨(iB w B _).heap h.head h.ne,fe w B _ _ _ h.body,by simpa using h.gG,h.pos,h.most,h.fst,h.e6,h.ne⟩
theorem r8(h:MRingAt w r B size A first n)(f:J)(a:f<size):MRingAt (w.setCell (ad r 1 ab) (I f)) r B size A f n:=
 ⟨Mb,eO h.body (hJ h.ne) _,h.gG,h.pos,h.most,a,h.e6,h.ne⟩
theorem qS(h:MRingAt w r B size A first n)(m:J)(hm:m<=size):MRingAt (w.setCell (ad r 2 ab) (I m)) r B size A first m:=
 ⟨DO,eO h.body (hJ h.ne) _,h.gG,h.pos,h.most,h.fst,hm,h.ne⟩
end MRingAt
variable{w:ai}{r B size first n:J}{A:ah aZ}
def Br(h:MRingAt w r B size A first n)(i k:J)(x:aa)(b:x=i)(av:i<=100000)(hk:(first+i)%size=k):az 304 #[r,I x] w λe w'=>e=.returned (I k)/\∃ m,w'=w.drewN m:=by
 subst b;have bu:=h.bu;have b0:=h.b0;have d:((size:aa) == 0)=false:=by have:=h.pos;rw[er];omega
 have bP:=h.fst;have c:=h.most;have a:=af hk
 go_in
 go_wp2;go_quiet (fail);go_wp2;go_ret;exact⟨qO (by rw[<-a.o];simp),_,rfl⟩
def my(w:ai):(Instr.alloc 254 true (aV #[])).run prog w=.ok w.heap.size (w.alloc (ae (bx aZ.zero) 254)):=aH
theorem tD{w:ai}{b:J}{x:aZ}(h:w.heap[b]?=some (ae (bx x) 254 (0,0))):(Instr.loadAt 254 b).run prog w=.ok (.agg (bx x)) w:=
 gq 254 7 b 0 (bx x) (bx x) 254 isAgg254 sizeOf254 rfl h (λj v z=>jS)
def S5(h:MRingAt w r B size A first n)(x:aa)(o:x<0\/(n:aa)<=x):az 309 #[r,I x] w λe w'=>e=aV #[.agg (bx aZ.zero),false]/\Below w w w':=by
 have g:=((a_ w).alloc (ae (bx aZ.zero) 254)).alloc (ae (bx aZ.zero) 254);have c:=h.keeps g id id;have d:=aW (w.alloc (ae (bx aZ.zero) 254)) (ae (bx aZ.zero) 254);have l:(w.alloc (ae (bx aZ.zero) 254)).heap.size=w.heap.size+1:=aI;rw[l]at d;have i:=tD d;obtain⟨k,j,m⟩:=dO ((w.alloc (ae (bx aZ.zero) 254)).alloc (ae (bx aZ.zero) 254)) 254 7 w.heap.size (bx aZ.zero) _ sizeOf254 rfl rfl (cm (aW w (ae (bx aZ.zero) 254)) (ae (bx aZ.zero) 254)) (mK _);have f:=((g.mono λ_ _ x=>x.elim).trans m).below bA a7;have bs:=c.bs;have b:=my w;have a:=my (w.alloc (ae (bx aZ.zero) 254));rw[l]at a;generalize (w.alloc (ae (bx aZ.zero) 254)).alloc (ae (bx aZ.zero) 254)=bl at *;generalize bl.setRow w.heap.size (bx aZ.zero)=an at *;generalize w.alloc (ae (bx aZ.zero) 254)=p at *;by_cases c:x<0
 .clear o
  go_in
  go_wp2_with (first|(refine ea b rfl rfl ?_)|(refine ea a rfl rfl ?_)|(refine dm i rfl rfl rfl ?_)|(refine c8 k rfl rfl rfl rfl ?_));refine dn (v:=aV #[.agg (bx aZ.zero),false]) j ?_;exact⟨rfl,f⟩
 have h1:(n:aa)<=x:=U
 go_in
 go_wp2_with (first|(refine ea b rfl rfl ?_)|(refine ea a rfl rfl ?_)|(refine dm i rfl rfl rfl ?_)|(refine c8 k rfl rfl rfl rfl ?_));refine dn (v:=aV #[.agg (bx aZ.zero),false]) j ?_;exact⟨rfl,f⟩
end
section
variable{w:ai}{r B size first n:J}{A:ah aZ}
def S4(h:MRingAt w r B size A first n)(i k:J)(x:aa)(C:x=i)(av:i<n)(hk:(first+i)%size=k)(v:aZ)(aX:A[k]?=some v):az 309 #[r,I x] w λe w'=>e=aV #[.agg (bx v),true]/\Below w w w':=by
 subst C;have c:=((a_ w).alloc (ae (bx aZ.zero) 254)).alloc (ae (bx aZ.zero) 254);have b:=h.keeps c id id;have f:=cm (aW w (ae (bx aZ.zero) 254)) (ae (bx aZ.zero) 254);have l:(w.alloc (ae (bx aZ.zero) 254)).heap.size=w.heap.size+1:=aI;have bu:=b.bu;have bs:=b.bs;have s:=my w;have d:=my (w.alloc (ae (bx aZ.zero) 254));rw[l]at d;have bP:=h.e6;have E:=h.most;have F:k<size:=hk▸eW _ h.pos;clear l h;generalize (w.alloc (ae (bx aZ.zero) 254)).alloc (ae (bx aZ.zero) 254)=bl at *;generalize w.alloc (ae (bx aZ.zero) 254)=G at *;have ar:=λa=>Br (b.drew a) i k i rfl U hk;have q:=af ar;have u:∀ w',(∃ n,w'=bl.drewN n)->(Instr.loadAt 254 (.pointer (some (ad B (k*7) ab)))).run prog w'=.ok (.agg (bx v)) w':=by
  rintro w' ⟨m,rfl⟩;exact(b.drew m).load aX
 have D:=af b;clear ar hk aX b
 go_in
 go_wp2_with (first|(refine ea s rfl rfl ?_)|(refine ea d rfl rfl ?_));refine iK 9 aH aH ?_;simp only[hI,il,hG,hA]
 repeat (first|(refine j7 u rfl rfl rfl ?_;simp only[Act.put,c_])|go_big_quiet_step ((go_at_call 304;exact Calls.quiet_of (q.out _))))
 refine wpQuiet_nil ?_;intro _ o;obtain⟨nq,p⟩:=o;subst p;have g:(bl.drewN nq).heap[w.heap.size]?=some (ae (bx aZ.zero) 254 (0,0)):=f;obtain⟨z,y,j⟩:=dO (bl.drewN nq) 254 7 w.heap.size (bx v) _ sizeOf254 rfl rfl g (mK _);have t:Below w w ((bl.drewN nq).setRow w.heap.size (bx v)):=(((c.drewN nq).mono λ_ _ x=>x.elim).trans j).below bA a7;clear c j f g;generalize (bl.drewN nq).setRow w.heap.size (bx v)=an at *;go_wp2_with (refine c8 z rfl rfl rfl rfl ?_);refine cU (v:=aV #[.agg (bx v),true]) (by simp[results,results309,asAddr,loadVar,loadCells,isAgg254,sizeOf254,y]) rfl ?_;exact⟨rfl,t⟩
def S9(h:MRingAt w r B size A first n)(au:n=size)(v:aZ):az 246 #[r,.agg (bx v)] w λe w'=>e=.returned (I 8)/\Below w w w':=by
 subst au;have c:=(a_ w).alloc (ae (bx v) 254);have a:=h.keeps c id id;have b:=(bY w.heap.size w).alloc bA (ae (bx v) 254);have bu:=a.bu;have bs:=a.bs;clear c a h;unfold bx at *
 go_in
 go_wp2;go_quiet (fail);go_wp2;go_ret;exact⟨rfl,b.trans ((Keeps.drewN (a_ _) _).below b.size (λ_ _ x=>x))⟩
def S8(h:MRingAt w r B size A first n)(au:n<size)(k:J)(hk:(first+n)%size=k)(v:aZ):az 246 #[r,.agg (bx v)] w λe w'=>e=.returned (I 0)/\MRingAt w' r B size (A.set k v) first (n+1)/\Keeps (λb=>b=r\/b=B) w w':=by
 have g:=(a_ w).alloc (ae (bx v) 254);have d:=h.keeps g id id;have t:=aW w (ae (bx v) 254);have bu:=d.bu;have bs:=d.bs;have bP:=h.e6;have H:=h.most;have ne:=h.ne;have F:k<size:=hk▸eW _ h.pos;have K:((n:aa) == (size:aa))=false:=by rw[er];omega
 have l:=af t;have i:=af d;have E:=af hk;have j:=af g;clear hk h t d g
 go_in
 go_wp2;generalize L:w.alloc (ae (bx v) 254)=bl at *;go_quiet (fail);go_wp2;have c:=af (i.o.drew nq);have s:(bl.drewN nq).heap[w.heap.size]?=some (ae (bx v) 254 (0,0)):=l.o;have C:=af (j.o.drewN nq);clear bu bs l i j;generalize bl.drewN nq=an at *;have bu:=c.o.bu;have bs:=c.o.bs;have u:∀ w',(∃ n,w'=an.drewN n)->(Instr.loadAt 254 w.heap.size).run prog w'=.ok (.agg (bx v)) w':=by
  rintro w' ⟨m,rfl⟩;exact tD s
 have ar:=λa=>Br (c.out.drew a) n k n rfl U E.out;have q:=af ar;clear ar s;refine iK 12 aH aH ?_;simp only[hI,il,hG,hA]
 repeat (first|(refine j7 u rfl rfl rfl ?_;simp only[Act.put,c_])|go_big_quiet_step ((go_at_call 304;exact Calls.quiet_of (q.o _))))
 refine wpQuiet_nil ?_;intro _ y;obtain⟨nq,z⟩:=y;subst z;have G:=(c.out.drew nq).store F v;have f:=af ((c.out.drew nq).setBody k v);have D:=af (((C.out.drewN nq).mono (T:=λb=>b=r\/b=B) λ_ _ x=>x.elim).trans ((iB (an.drewN nq) B (hD (A.set k v))).mono λ_ _=>Or.inr));clear bu bs u q;generalize (an.drewN nq).setRow B (hD (A.set k v))=aB at *;have bs:=f.o.bs;have f2:=f.o.f2;go_wp2_with (refine c8 G rfl rfl rfl rfl ?_);go_ret;exact⟨rfl,f.o.qS (n+1) U,D.o.setCell (p:=ad r 2 ab) (.inl rfl) _⟩
def S7(h:MRingAt w r B size A first 0):az 261 #[r] w λe w'=>e=aV #[.agg (bx aZ.zero),false]/\Below w w w':=by
 have g:=my w;have m:=(a_ w).alloc (ae (bx aZ.zero) 254);have i:=h.keeps m id id;have b:=aW w (ae (bx aZ.zero) 254);have a:=(bY w.heap.size w).alloc bA (ae (bx aZ.zero) 254);clear m;generalize w.alloc (ae (bx aZ.zero) 254)=bl at *
 go_in
 go_wp2_with (refine ea g rfl rfl ?_);refine(S5 i 0 U).mono ?_;rintro e an ⟨rfl,d⟩;have a:=a.trans (d.mono a.size);have b:=(Keeps.bE (S:=aG) d a7).heap b id;have u:=bR b;clear d i g h;have o:=my an;have c:=aW an (ae (bx aZ.zero) 254);have b:=cm b (ae (bx aZ.zero) 254);have a:=a.alloc a.size (ae (bx aZ.zero) 254);obtain⟨s,_,f⟩:=dO (an.alloc (ae (bx aZ.zero) 254)) 254 7 an.heap.size (bx aZ.zero) _ sizeOf254 rfl rfl c (mK _);have k:=fe (an.alloc (ae (bx aZ.zero) 254)) an.heap.size _ (bx aZ.zero) 254 c;have j:=f.heap b U;clear b;have l:=a.trans (f.below a.size a7);clear f a c;generalize (an.alloc (ae (bx aZ.zero) 254)).setRow an.heap.size (bx aZ.zero)=aB at *;generalize an.alloc (ae (bx aZ.zero) 254)=x at *;have q:=tD k;obtain⟨t,Aw,n⟩:=dO aB 254 7 w.heap.size (bx aZ.zero) _ sizeOf254 rfl rfl j (mK _);have p:=l.trans (n.below (B:=w.heap.size) l.size a7);clear n k j;generalize aB.setRow w.heap.size (bx aZ.zero)=bn at *;go_wp2_with (first|(refine ea o rfl rfl ?_;simp only[Act.put,c_])|(refine dm q rfl rfl rfl ?_;try simp only[Act.put,c_])|(refine c8 s rfl rfl rfl rfl ?_;try simp only[Act.put])|(refine c8 t rfl rfl rfl rfl ?_;try simp only[Act.put]));refine cU (v:=aV #[.agg (bx aZ.zero),false]) LX rfl ?_;exact⟨rfl,p⟩
def S6(h:MRingAt w r B size A first n)(au:0<n)(a:J)(y:(first+1)%size=a)(v:aZ)(aX:A[first]?=some v):az 261 #[r] w λe w'=>e=aV #[.agg (bx v),true]/\MRingAt w' r B size (A.set first aZ.zero) a (n-1)/\Keeps (λb=>b=r\/b=B) w w':=by
 have K:=my w;have z:=(a_ w).alloc (ae (bx aZ.zero) 254);have k:=h.keeps z id id;have R:=aW w (ae (bx aZ.zero) 254);have bP:=h.e6;have Y4:=h.most;have N:=h.fst;have ne:=h.ne;have Y6:=bR h.head;have Y5:=bR h.body;have V':a<size:=y▸eW _ h.pos;have G:=af (show(first+0)%size=first from ja N);have St:=af y;have H:=af aX;clear y aX h;generalize w.alloc (ae (bx aZ.zero) 254)=bl at *
 go_in
 go_wp2_with (refine ea K rfl rfl ?_);refine(S4 k 0 first 0 rfl au G.o v H.o).mono ?_;rintro e an ⟨rfl,g⟩;have sd:=z.trans (Keeps.bE (S:=aG) g a7);have O:=k.keeps (Keeps.bE (S:=aG) g a7) id id;have s:=(Keeps.bE (S:=aG) g a7).heap R id;have Y7:=bR s;clear g k K z R H G;have L:=my an;have t:=aW an (ae (bx aZ.zero) 254);have gf:=cm s (ae (bx aZ.zero) 254);have D:=(a_ an).alloc (ae (bx aZ.zero) 254);obtain⟨ps,_,i⟩:=dO (an.alloc (ae (bx aZ.zero) 254)) 254 7 an.heap.size (bx v) _ sizeOf254 rfl rfl t (mK _);have u:=fe (an.alloc (ae (bx aZ.zero) 254)) an.heap.size _ (bx v) 254 t;have V:=i.heap gf U;have s':=sd.trans (cK D i a7);have P:=O.keeps (cK D i a7) id id;have Y8:an.heap.size<((an.alloc (ae (bx aZ.zero) 254)).setRow an.heap.size (bx v)).heap.size:=bR u;clear t gf D i O s sd;generalize (an.alloc (ae (bx aZ.zero) 254)).setRow an.heap.size (bx v)=aB at *;generalize an.alloc (ae (bx aZ.zero) 254)=Y_ at *;have M:=my aB;have l':=aW aB (ae (bx aZ.zero) 254);have g':=cm u (ae (bx aZ.zero) 254);have W:=cm V (ae (bx aZ.zero) 254);have E:=(a_ aB).alloc (ae (bx aZ.zero) 254);have vl:=s'.trans E;have f:=P.keeps E id id;clear u V E s' P;generalize TS:an.heap.size=X at *;generalize T':aB.heap.size=Z at *;generalize aB.alloc (ae (bx aZ.zero) 254)=bn at *;have m':∀ w',(∃ n,w'=bn.drewN n)->(Instr.loadAt 254 Z).run prog w'=.ok (.agg (bx aZ.zero)) w':=by
  rintro w' ⟨m,rfl⟩;exact tD l'
 have bu:=f.bu;have b0:=f.b0;have j:=af f;clear f TS T';go_wp2_with (first|(refine ea L rfl rfl ?_)|(refine ea M rfl rfl ?_)|(refine c8 ps rfl rfl rfl rfl ?_));simp only[Act.put,c_];refine iK 10 aH aH ?_;simp only[hI,il,hG,hA]
 repeat (first|(refine j7 m' rfl rfl rfl ?_;simp only[Act.put,c_])|go_big_quiet_step (fail))
 refine wpQuiet_nil ?_;intro _ CW;have⟨nq,Q'⟩:=CW;subst Q';have r':=(j.o.drew nq).store N aZ.zero;have l:=(j.o.drew nq).setBody first aZ.zero
 have v':=((vl.drewN nq).mono (T:=λb=>b=r\/b=B) λ_ _ x=>x.elim).trans ((iB (bn.drewN nq) B (hD (A.set first aZ.zero))).mono λ_ _=>Or.inr);have hd:((bn.drewN nq).setRow B (hD (A.set first aZ.zero))).heap[X]?=some (ae (bx v) 254 (0,0)):=(iB (bn.drewN nq) B _).heap g' U;have Y:((bn.drewN nq).setRow B (hD (A.set first aZ.zero))).heap[w.heap.size]?=some (ae (bx aZ.zero) 254 (0,0)):=(iB (bn.drewN nq) B _).heap W U;clear m' bu b0 j vl g' W l' ps L M;generalize (bn.drewN nq).setRow B (hD (A.set first aZ.zero))=F at *;go_wp2_with (refine c8 r' rfl rfl rfl rfl ?_);refine(Br l 1 a 1 rfl U St.out).mono ?_;rintro e zp ⟨rfl,d,rfl⟩;have c:=l.drew d;have h2:(F.drewN d).heap[X]?=some (ae (bx v) 254 (0,0)):=hd;have a':(F.drewN d).heap[w.heap.size]?=some (ae (bx aZ.zero) 254 (0,0)):=Y;have ys:=v'.drewN d;clear r' l hd Y v';generalize F.drewN d=zp at *;have Q:=c.r8 a V';have q:=Q.qS (n-1) U;rw[show((n-1:J):aa)=(n:aa)-1 by omega]at q;have zd:=(ys.setCell (p:=ad r 1 ab) (.inl rfl) (I a)).setCell (p:=ad r 2 ab) (.inl rfl) (I ((n:aa)-1));have lb:=eO (p:=ad r 2 ab) (eO (p:=ad r 1 ab) h2 (by show X≠r;omega) (I a)) (by show X≠r;omega) (I ((n:aa)-1));have fr:=eO (p:=ad r 2 ab) (eO (p:=ad r 1 ab) a' (by show w.heap.size≠r;omega) (I a)) (by show w.heap.size≠r;omega) (I ((n:aa)-1));have f1:=c.f1;have f2:=c.f2;have b0:=c.b0;have bs:=c.bs;have W':=tD lb;obtain⟨Y2,Aw,C⟩:=dO _ 254 7 w.heap.size (bx v) _ sizeOf254 rfl rfl fr (mK _);have Tq:=q.keeps C (by show r≠w.heap.size;omega) (by show B≠w.heap.size;omega);have Y3:=cK zd C a7;clear c Q q ys zd h2 a' lb fr C;generalize ((zp.setCell (ad r 1 ab) (I a)).setCell (ad r 2 ab) (I ((n:aa)-1))).setRow w.heap.size (bx v)=Y9 at *;go_wp2_with (first|(refine dm W' rfl rfl rfl ?_)|(refine c8 Y2 rfl rfl rfl rfl ?_));refine cU (v:=aV #[.agg (bx v),true]) LX rfl ?_;exact⟨rfl,Tq,Y3⟩
def iq(w:ai)(r B size:J)(L:ah aZ):ak:=∃ A first,MRingAt w r B size A first L.length/\Holds A first size L
variable{L:ah aZ}
def iq.keeps{w':ai}{S:J->ak}(h:iq w r B size L)(hk:Keeps S w w')(b:¬ S r)(a:¬ S B):iq w' r B size L:=by
 exact DJ
def iq.le(h:iq w r B size L):L.length<=size/\1<=size/\size<=4096/\r<w.heap.size/\B<w.heap.size/\r≠B:=by
 exact DF
def Ib(h:iq w r B size L)(au:L.length<size)(v:aZ):az 246 #[r,.agg (bx v)] w λe w'=>e=.returned (I 0)/\iq w' r B size (L++[v])/\Keeps (λb=>b=r\/b=B) w w':=by
 obtain⟨A,f,h1,h2⟩:=h;refine(S8 h1 au _ rfl v).mono ?_;rintro e w' ⟨rfl,a,c⟩;exact⟨rfl,⟨_,f,sR,h2.push h1.fst h1.gG au v⟩,c⟩
def Ic(h:iq w r B size L)(au:L.length=size)(v:aZ):az 246 #[r,.agg (bx v)] w λe w'=>e=.returned (I 8)/\iq w' r B size L/\Keeps (λb=>b=r\/b=B) w w':=by
 have c:=h.le;have a:=h;obtain⟨A,f,h1,h2⟩:=h;refine(S9 h1 au v).mono ?_;rintro e w' ⟨rfl,aj⟩;exact⟨rfl,a.keeps (Keeps.bE (S:=aG) aj a7) id id,Keeps.bE aj a7⟩
def S'{v:aZ}(h:iq w r B size (v :: L)):az 261 #[r] w λe w'=>e=aV #[.agg (bx v),true]/\iq w' r B size L/\Keeps (λb=>b=r\/b=B) w w':=by
 obtain⟨A,f,h1,h2⟩:=h;have d:=h2 0 aI;rw[re,ja h1.fst]at d;refine(S6 h1 aI _ rfl v wZ).mono ?_;rintro e w' ⟨rfl,a,c⟩;exact⟨rfl,⟨_,_,sR,h2.pop h1.fst h1.e6 aI _⟩,c⟩
def Ta(h:iq w r B size []):az 261 #[r] w λe w'=>e=aV #[.agg (bx aZ.zero),false]/\iq w' r B size []/\Keeps (λb=>b=r\/b=B) w w':=by
 have c:=h.le;have a:=h;obtain⟨A,f,h1,h2⟩:=h;refine(S7 h1).mono ?_;rintro e w' ⟨rfl,aj⟩;exact⟨rfl,a.keeps (Keeps.bE (S:=aG) aj a7) id id,Keeps.bE aj a7⟩
end
def RC:(prog.info? 254).map (λi=>(i.zero,i.size,i.bytes))=some (some (.agg (bx aZ.zero)),7,56):=aH
def YM:madeCells (Value.agg (bx aZ.zero)).cells 56=hD (replicate 8 aZ.zero):=aH
def S_(w:ai):az 196 #[I 8] w λe w'=>e=aV #[.pointer (some (ad (w+1) 0 ab)),I 0]/\iq w' (w.heap.size+1) w.heap.size 8 []/\Below w w w'/\w'.heap.size=w.heap.size+2:=by
 obtain⟨m,av,k,l,d⟩:∃ i,prog.info? 254=some i/\i.zero=some (.agg (bx aZ.zero))/\i.size=7/\i.bytes=56:=by
  have h:=RC;cases aR:prog.info? 254 with
  | none=>rw[aR]at h;cases h
  | some i=>rw[aR]at h;simp only[pb,hi,jq]at h;exact⟨i,rfl,h.1,h.2.1,h.2.2⟩
 have g:=run_make (P:=prog) w 250 254 m (.agg (bx aZ.zero)) underlying250 av k .i64 .i64 8 8 U (jm _) uQ U;rw[l,show(8:aa).toNat*7=56 from rfl,YM,show(8:aa).toNat=8 from rfl]at g;have aj:Below w w ((w.alloc (ae (hD (replicate 8 aZ.zero)) 254)).alloc (ae #[ao (some (ad w 0 ab)) 8 8,I 0,I 0] 388)):=((bY _ w).alloc bA _).alloc aI _;have a:=aW (w.alloc (ae (hD (replicate 8 aZ.zero)) 254)) (ae #[ao (some (ad w 0 ab)) 8 8,I 0,I 0] 388);have c:=cm (aW w (ae (hD (replicate 8 aZ.zero)) 254)) (ae #[ao (some (ad w 0 ab)) 8 8,I 0,I 0] 388);have ax:((w.alloc (ae (hD (replicate 8 aZ.zero)) 254)).alloc (ae #[ao (some (ad w 0 ab)) 8 8,I 0,I 0] 388)).heap.size=w.heap.size+2:=aI;have j:(w.alloc (ae (hD (replicate 8 aZ.zero)) 254)).heap.size=w.heap.size+1:=aI;rw[j]at a;generalize f:hD (replicate 8 aZ.zero)=n at *;have b:=af f
 go_in
 go_wp2_with fail;refine br (yy 8 w) ?_;go_wp2;go_ret2;exact⟨rfl,⟨replicate 8 aZ.zero,0,⟨a,by rw[b.o];exact c,aI,U,U,U,aI,U⟩,λt aN=>absurd aN (k7 _)⟩,aj,ax⟩
end Go.Proofs.YtalagblioepadaaGreatDoor
