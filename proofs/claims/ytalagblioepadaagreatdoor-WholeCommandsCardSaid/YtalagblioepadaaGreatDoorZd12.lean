/- The proof, part 12. -/
import Derived.Test.YtalagblioepadaaGreatDoorZd08
import Derived.Test.YtalagblioepadaaGreatDoorZd02
namespace Go.Proofs.YtalagblioepadaaGreatDoor
set_option linter.all false
open Proofs.Tryz List Go.RowKit
set_option maxRecDepth 100000
set_option maxHeartbeats 2000000
def ke{p:al}(h:p:=by rw[gP];exact z):p:=h
def EY{p:al}(h:p:=by unfold Region.wanted;rw[aZ]):p:=h
def M'{p:al}(h:p:=by simp[results,results261,asAddr,loadVar,loadCells,isAgg254,sizeOf254,zd]):p:=h
section
variable{P:Program}{w:aj}
def gd(T:TypeId)(k b o:J)(c a:a7 ay)(t:TypeId)(bh:∀ w,(isAgg T).run P w=.ok true w)(e:∀ w,(Go.sizeOf T).run P w=.ok k w)(an:c.size=k)(d:w.heap[b]?=some (af a t (0,0)))(aw:∀ j v,c[j]?=some v->a[o+j]?=some v):(Instr.loadAt T (.pointer (some (ae b o ad)))).run P w=.ok (.agg c) w:=by
 have h:=w_ (P:=P) w (ae b o ad) c.toList (λj v m=>by
  rw[ij];exact bf d (aw j v vt))
 simp only[pG,L9]at h;simp only[Instr.loadAt,Instr.sureAddr,loadVar,hW,iD,hE,bh,e,if_true,an▸h]
def e5(a:a7 ay)(o:J)(c:a7 ay):a7 ay:=(a.toList.take o++c.toList++a.toList.drop (o+c.size)).toArray
def wT(a:a7 ay)(o:J)(c:a7 ay)(h:o+c.size<=a.size):(e5 a o c).size=a.size:=by
 unfold e5;simp;omega
theorem iW(w:aj)(b:J)(cs:a7 ay):Keeps (λx=>x=b) w (w.setRow b cs):=
 ⟨rfl,rfl,rfl,by simp[World.setRow],λk _ aw=>by simp only[World.setRow];rw[DQ];simp[show ¬ b=k from λe=>aw e.symm]⟩
def ru(T:TypeId)(k b o:J)(c a:a7 ay)(t:TypeId)(e:∀ w,(Go.sizeOf T).run P w=.ok k w)(an:c.size=k)(d:w.heap[b]?=some (af a t (0,0)))(aw:o+k<=a.size)(h1:∀ v∈c.toList,v.oneCell'=true):(Instr.storeAt T (.pointer (some (ae b o ad))) (.agg c)).run P w=.ok () (w.setRow b (e5 a o c)):=by
 simp only[Instr.storeAt,Instr.sureAddr,storeVar,hW,iD,hE,e,Value.cells,an];simpa[e5]using(D6 P b o t c.toList 0 a w d b1 h1)
theorem HB(o:J):∀ (l:ah ay) (i:J) (a:a7 ay) (k:J),o+i+l.length<=a.size->
  ((l.zipIdx i).foldl (λcs (p:ay×J)=>cs.setIfInBounds (o+p.2) p.1) a)[k]?=if o+i<=k/\k<o+i+l.length then l[k-(o+i)]? else a[k]?
 | [],i,a,k,_=>by
  simp only[zipIdx_nil,rS,fg];rw[aB U]
 | v :: l,i,a,k,h=>by
  have b:o+(i+1)+l.length<=(a.setIfInBounds (o+i) v).size:=by simp at h⊢;omega
  rw[zipIdx_cons,oU,HB o l (i+1) _ k b];simp only[dy]at h⊢;by_cases h1:k=o+i
  .subst h1;rw[aB U,aE U,zN U];simp
  by_cases h2:o+i<=k/\k<o+i+(l.length+1)
  .rw[aE U,aE h2,show k-(o+i)=(k-(o+(i+1)))+1 by omega,j']
  rw[aB U,aB h2,w1 U]
def sM(a:a7 ay)(o:J)(c:a7 ay)(h:o+c.size<=a.size)(k:J):(e5 a o c)[k]?=if o<=k/\k<o+c.size then c[k-o]? else a[k]?:=by
 unfold e5;rw[ka];by_cases h1:k<o
 .rw[aB U,dL,jO b1,u',aE h1];simp
 by_cases h2:k<o+c.size
 .rw[aE U,dL,lF b1,jO b1];simp
  congr 1
  omega
 rw[aB U,lF b1,xe];simp
 congr 1
 omega
def Ry(a:a7 ay)(o:J)(c:a7 ay)(h:o+c.size<=a.size):c.zipIdx.foldl (λcs (p:ay×J)=>cs.setIfInBounds (o+p.2) p.1) a=e5 a o c:=by
 apply pP;intro k;rw[sM a o c h,<-Array.foldl_toList,Array.toList_zipIdx]
 have:=HB o c.toList 0 a k ic
 rw[this];simp
def Hv(b:J->b_ (J×J))(a:a7 ay)(i o:J)(v:ay)(rest:ah (J×ay))(au:b i=some (o,v.cells.size))(h:o+v.cells.size<=a.size):Instr.fill b a ((i,v) :: rest)=Instr.fill b (e5 a o v.cells) rest:=by
 rw[Instr.fill,au];simp only[ne_eq,not_true_eq_false,decide_false,w4];rw[aB b1]
 congr 1
 exact Ry a o v.cells h
section
variable{o:Oper}{a:Act}{K:Act->aj->al}{Q:Exit->Act->aj->al}{ops:a7 Oper}{rest:ah Oper}{w':aj}{v p:ay}
def LX{T:TypeId}{x:Operand}(b:o.op=.load T x)(c:a.eval x=p)(hrun:(Instr.loadAt T p).run P w=.ok v w')(h:K (a.put o.dst v) w'):o.wp P a w K Q:=by
 unfold Oper.wp execOp;simp only[b,c,hW,hrun,hE,iD];exact h
def ZU{T:TypeId}{b:a7 (J×Operand)}{bV:a7 (J×ay)}(c:o.op=.build T b)(d:(b.map λq=>(q.1,a.eval q.2))=bV)(hrun:(Instr.build T bV).run P w=.ok v w')(h:K (a.put o.dst v) w'):o.wp P a w K Q:=by
 subst d;unfold Oper.wp execOp;simp only[c,hW];simp only[hrun,hE,iD];exact h
def nM{T:TypeId}{x y:Operand}{u:ay}(b:o.op=.store T x y)(c:a.eval x=p)(d:a.eval y=u)(hrun:(Instr.storeAt T p u).run P w=.ok () w')(h:K (a.put o.dst undef) w'):o.wp P a w K Q:=by
 unfold Oper.wp execOp;simp only[b,c,d,hW,hrun,hE,iD];exact h
theorem dn{T:TypeId}{x:Operand}(hrun:(Instr.loadAt T p).run P w=.ok v w')(c:o.guard=none)(d:o.op=.load T x)(e:a.eval x=p)(h:wpList P ops Q rest (a.put o.dst v) w'):wpList P ops Q (o :: rest) a w:=
 nQ c λ_ b=>LX d e hrun (b _ _ h)
theorem zI{T:TypeId}{b:a7 (J×Operand)}{bV:a7 (J×ay)}(hrun:(Instr.build T bV).run P w=.ok v w')(d:o.guard=none)(e:o.op=.build T b)(f:(b.map λq=>(q.1,a.eval q.2))=bV)(h:wpList P ops Q rest (a.put o.dst v) w'):wpList P ops Q (o :: rest) a w:=
 nQ d λ_ c=>ZU e f hrun (c _ _ h)
theorem s0{T:TypeId}{i j:J}{x y:Operand}{u b:ay}(hrun:(Instr.build T #[(i,u),(j,b)]).run P w=.ok v w')(c:o.guard=none)(d:o.op=.build T #[(i,x),(j,y)])(e:a.eval x=u)(f:a.eval y=b)(h:wpList P ops Q rest (a.put o.dst v) w'):wpList P ops Q (o :: rest) a w:=
 zI hrun c d (by simp[e,f]) h
theorem c7{T:TypeId}{x y:Operand}{u:ay}(hrun:(Instr.storeAt T p u).run P w=.ok () w')(c:o.guard=none)(d:o.op=.store T x y)(e:a.eval x=p)(f:a.eval y=u)(h:wpList P ops Q rest (a.put o.dst undef) w'):wpList P ops Q (o :: rest) a w:=
 nQ c λ_ b=>nM d e f hrun (b _ _ h)
end
end
def dF(w:aj)(b:J)(c:a7 ay)(t:TypeId)(a:w.heap[b]?=some (af c t (0,0)))(k:J)(hk:c.size=k):(loadCellsFrom (ae b 0 ad) 0 k #[]).run prog w=.ok c w:=by
 have h:=w_ (P:=prog) w (ae b 0 ad) c.toList (λj v m=>by
  rw[ij,gP];exact bf a vt)
 simp only[pG,L9,hk,loadCells]at h;exact h
def Yf(a c:a7 ay)(h:c.size=a.size):e5 a 0 c=c:=by
 apply pP;intro k;rw[sM _ _ _ U];split
 .simp
 rename_i aS;rw[mg U,mg U]
def fb(w:aj)(b:J)(cs c:a7 ay)(t:TypeId)(a:w.heap[b]?=some (af cs t (0,0))):(w.setRow b c).heap[b]?=some (af c t (0,0)):=by
 have d:=bT a;have e:w.heap[b]=af cs t (0,0):=by simpa[s4 d]using a
 show(w.heap.modify b _)[b]?=_;rw[s4 (by simpa using d),L7,e]
def dQ(w:aj)(T:TypeId)(k b:J)(c a:a7 ay)(e:∀ w,(Go.sizeOf T).run prog w=.ok k w)(an:c.size=k)(f:a.size=k)(d:w.heap[b]?=some (af a T (0,0)))(h1:c.toList.all (λv=>v.oneCell')=true):(Instr.storeAt T b (.agg c)).run prog w=.ok () (w.setRow b c)/\(loadCellsFrom (ae b 0 ad) 0 k #[]).run prog (w.setRow b c)=.ok c (w.setRow b c)/\Keeps (λx=>x=b) w (w.setRow b c):=by
 have h:=ru (P:=prog) T k b 0 c a T e an d U (fw.1 h1);rw[Yf a c U]at h;exact⟨h,dF _ _ _ _ (fb w b a c T d) k an,iW w b c⟩
theorem cN{S T:J->al}{a b d:aj}(h:Keeps S a b)(h2:Keeps T b d)(aw:∀ k,k<a.heap.size->T k->S k):Keeps S a d:=
 ⟨h2.os.trans h.os,h2.tape.trans h.tape,h2.output.trans h.output,ca h.size h2.size,λi ax av=>(h2.block i (mq ax h.size) (λt=>av (aw i ax t))).trans (h.block i ax av)⟩
section
variable{P:Program}{o:Oper}{a:Act}{K:Act->aj->al}{Q:Exit->Act->aj->al}{ops:a7 Oper}{rest:ah Oper}{w w':aj}{v p:ay}
theorem dU{T:TypeId}(hrun:(Instr.alloc T true (aY #[])).run P w=.ok v w')(c:o.guard=none)(d:o.op=.alloc T)(h:wpList P ops Q rest (a.put o.dst v) w'):wpList P ops Q (o :: rest) a w:=
 nQ c λ_ b=>by
  unfold Oper.wp execOp;simp only[d,hW,hrun,hE,iD];exact b _ _ h
end
section
variable{P:Program}{o:Oper}{a:Act}{C:aj->al}{K:Act->al}
theorem VQ{T:TypeId}{x:Operand}{p v:ay}(hrun:∀ w,C w->(Instr.loadAt T p).run P w=.ok v w)(b:o.op=.load T x)(d:a.eval x=p)(hk:K (a.put o.dst v)):o.quiet P a C K:=
 ⟨v,λw c=>by
  unfold Oper.quietAt execOp;simp only[b,d,hW,hrun w c,hE,iD];exact⟨rfl,rfl⟩,hk⟩
def jL{ops:a7 Oper}{Q:Act->al}{rest:ah Oper}{T:TypeId}{x:Operand}{p v:ay}(hrun:∀ w,C w->(Instr.loadAt T p).run P w=.ok v w)(aZ:o.guard=none)(b:o.op=.load T x)(c:a.eval x=p)(hk:wpQuiet P ops C Q rest (a.put o.dst v)):wpQuiet P ops C Q (o :: rest) a:=by
 unfold wpQuiet;rw[aE EY];exact VQ hrun b c hk
end
section
def bB(m:a6):a7 ay:=#[I m.kind,aR m.bQ,bC m.cr,bC m.cp,aq none 0 0,aR m.sum,I m.lead]
def h8(A:ah a6):a7 ay:=(A.flatMap λm=>(bB m).toList).toArray
def I'(m:a6):(bB m).size=7:=rfl
def yQ(A:ah a6):(h8 A).size=7*A.length:=by
 show((A.flatMap λm=>(bB m).toList)).length=_
 induction A with
 | nil=>rfl
 | cons a A b=>rw[jc,qG,b,nR,show(bB a).toList.length=7 from rfl];omega
theorem wy:∀ (A:ah a6) (k:J) (m:a6),A[k]?=some m->∀ j,j<7->(h8 A)[7*k+j]?=(bB m)[j]?
 | [],k,m,h,_,_=>by simp at h
 | a :: A,0,m,h,j,c=>by
  simp only[kW,hI]at h;subst h;unfold h8;rw[ka,jc,jO (by show _<7;omega)];simp
 | a :: A,k+1,m,h,j,c=>by
  rw[j']at h;have b:=wy A k m h j c;unfold h8 at b⊢;rw[ka]at b⊢;have d:(bB a).toList.length=7:=rfl;rw[jc,lF U,d,<-b]
  congr 1
  omega
def T5(A:ah a6)(k:J)(hk:k<A.length)(m:a6):e5 (h8 A) (7*k) (bB m)=h8 (A.set k m):=by
 apply pP;intro i;rw[sM _ _ _ (by rw[yQ,I'];omega),I'];by_cases ax:i<7*A.length
 .obtain⟨q,j,a,rfl⟩:∃ q j,j<7/\i=7*q+j:=⟨i / 7,i%7,e8 _ U,(pK i 7).symm⟩;have b:q<A.length:=U;by_cases e:q=k
  .subst e;rw[aE U,wy (A.set q m) q m (by rw[u_ b]) j a,show 7*q+j-7*q=j by omega]
  rw[aB U,wy A q A[q] (gA b) j a,wy (A.set k m) q A[q] (by rw[qF (λh=>e h.symm),gA b]) j a]
 rw[aB U,mg (by rw[yQ];omega),mg (by rw[yQ,qI];omega)]
def ns(m:a6):(bB m).toList.all (λv=>v.oneCell')=true:=aI
structure MRingAt(w:aj)(r B size:J)(A:ah a6)(first n:J):al where
 head:w.heap[r]?=some (af #[aq (some (ae B 0 ad)) size size,I first,I n] 388 (0,0))
 body:w.heap[B]?=some (af (h8 A) 254 (0,0))
 gX:A.length=size
 pos:1<=size
 most:size<=4096
 fst:first<size
 fi:n<=size
 ne:r≠B
namespace MRingAt
variable{w w':aj}{r B size first n:J}{A:ah a6}
def drew(h:MRingAt w r B size A first n)(m:J):MRingAt (w.drewN m) r B size A first n:=⟨h.head,h.body,h.gX,h.pos,h.most,h.fst,h.fi,h.ne⟩
theorem keeps{S:J->al}(h:MRingAt w r B size A first n)(hk:Keeps S w w')(b:¬ S r)(a:¬ S B):MRingAt w' r B size A first n:=
 ⟨hk.heap h.head b,hk.heap h.body a,h.gX,h.pos,h.most,h.fst,h.fi,h.ne⟩
def bz(h:MRingAt w r B size A first n):w.cell? (ae r 0 ad)=some (aq (some (ae B 0 ad)) size size):=bf h.head rfl
def b6(h:MRingAt w r B size A first n):w.cell? (ae r 1 ad)=some (I first):=bf h.head rfl
def bw(h:MRingAt w r B size A first n):w.cell? (ae r 2 ad)=some (I n):=bf h.head rfl
def f1(h:MRingAt w r B size A first n):w.frozen? (ae r 1 ad)=false:=fO h.head 1
def f2(h:MRingAt w r B size A first n):w.frozen? (ae r 2 ad)=false:=fO h.head 2
theorem load(h:MRingAt w r B size A first n){k:J}{x:a6}(b:A[k]?=some x):(Instr.loadAt 254 (.pointer (some (ae B (k*7) ad)))).run prog w=.ok (.agg (bB x)) w:=
 gd 254 7 B (k*7) (bB x) (h8 A) 254 isAgg254 sizeOf254 rfl h.body (λj v a=>by
  have:j<7:=(jv.1 a).1
  rw[oZ,wy A k x b j this];exact a)
def store(h:MRingAt w r B size A first n){k:J}(hk:k<size)(x:a6):(Instr.storeAt 254 (.pointer (some (ae B (k*7) ad))) (.agg (bB x))).run prog w=.ok () (w.setRow B (h8 (A.set k x))):=by
 have:=ru (P:=prog) (w:=w) 254 7 B (k*7) (bB x) (h8 A) 254 sizeOf254 rfl h.body (by rw[yQ,h.gX];omega) (fw.1 (ns x))
 rwa [oZ k 7,T5 A k (by rw[h.gX];exact hk),oZ 7 k]at this
theorem setBody(h:MRingAt w r B size A first n)(k:J)(x:a6):MRingAt (w.setRow B (h8 (A.set k x))) r B size (A.set k x) first n:=
 ⟨(iW w B _).heap h.head h.ne,fb w B _ _ _ h.body,by simpa using h.gX,h.pos,h.most,h.fst,h.fi,h.ne⟩
theorem sK(h:MRingAt w r B size A first n)(f:J)(a:f<size):MRingAt (w.setCell (ae r 1 ad) (I f)) r B size A f n:=
 ⟨Nr,e0 h.body (gE h.ne) _,h.gX,h.pos,h.most,a,h.fi,h.ne⟩
theorem rz(h:MRingAt w r B size A first n)(m:J)(hm:m<=size):MRingAt (w.setCell (ae r 2 ad) (I m)) r B size A first m:=
 ⟨EK,e0 h.body (gE h.ne) _,h.gX,h.pos,h.most,h.fst,hm,h.ne⟩
end MRingAt
variable{w:aj}{r B size first n:J}{A:ah a6}
def Ck(h:MRingAt w r B size A first n)(i k:J)(x:aa)(b:x=i)(ax:i<=100000)(hk:(first+i)%size=k):aA 304 #[r,I x] w λe w'=>e=.returned (I k)/\∃ m,w'=w.drewN m:=by
 subst b;have bz:=h.bz;have b6:=h.b6;have d:((size:aa) == 0)=false:=by have:=h.pos;rw[eA];omega
 have bR:=h.fst;have c:=h.most;have a:=ag hk
 go_in
 go_wp2;go_quiet (fail);go_wp2;go_ret;exact⟨rq (by rw[<-a.o];simp),_,rfl⟩
def nb(w:aj):(Instr.alloc 254 true (aY #[])).run prog w=.ok w.heap.size (w.alloc (af (bB a6.zero) 254)):=aI
theorem ug{w:aj}{b:J}{x:a6}(h:w.heap[b]?=some (af (bB x) 254 (0,0))):(Instr.loadAt 254 b).run prog w=.ok (.agg (bB x)) w:=
 gd 254 7 b 0 (bB x) (bB x) 254 isAgg254 sizeOf254 rfl h (λj v z=>ke)
def Ul(h:MRingAt w r B size A first n)(x:aa)(o:x<0\/(n:aa)<=x):aA 309 #[r,I x] w λe w'=>e=aY #[.agg (bB a6.zero),false]/\Below w w w':=by
 have g:=((bb w).alloc (af (bB a6.zero) 254)).alloc (af (bB a6.zero) 254);have c:=h.keeps g id id;have d:=aX (w.alloc (af (bB a6.zero) 254)) (af (bB a6.zero) 254);have l:(w.alloc (af (bB a6.zero) 254)).heap.size=w.heap.size+1:=aM;rw[l]at d;have i:=ug d;obtain⟨k,j,m⟩:=dQ ((w.alloc (af (bB a6.zero) 254)).alloc (af (bB a6.zero) 254)) 254 7 w.heap.size (bB a6.zero) _ sizeOf254 rfl rfl (cw (aX w (af (bB a6.zero) 254)) (af (bB a6.zero) 254)) (ns _);have f:=((g.mono λ_ _ x=>x.elim).trans m).below bx a8;have bw:=c.bw;have b:=nb w;have a:=nb (w.alloc (af (bB a6.zero) 254));rw[l]at a;generalize (w.alloc (af (bB a6.zero) 254)).alloc (af (bB a6.zero) 254)=bn at *;generalize bn.setRow w.heap.size (bB a6.zero)=ao at *;generalize w.alloc (af (bB a6.zero) 254)=p at *;by_cases c:x<0
 .clear o
  go_in
  go_wp2_with (first|(refine dU b rfl rfl ?_)|(refine dU a rfl rfl ?_)|(refine dn i rfl rfl rfl ?_)|(refine c7 k rfl rfl rfl rfl ?_));refine dx (v:=aY #[.agg (bB a6.zero),false]) j ?_;exact⟨rfl,f⟩
 have h1:(n:aa)<=x:=U
 go_in
 go_wp2_with (first|(refine dU b rfl rfl ?_)|(refine dU a rfl rfl ?_)|(refine dn i rfl rfl rfl ?_)|(refine c7 k rfl rfl rfl rfl ?_));refine dx (v:=aY #[.agg (bB a6.zero),false]) j ?_;exact⟨rfl,f⟩
end
section
variable{w:aj}{r B size first n:J}{A:ah a6}
def Uk(h:MRingAt w r B size A first n)(i k:J)(x:aa)(C:x=i)(ax:i<n)(hk:(first+i)%size=k)(v:a6)(aU:A[k]?=some v):aA 309 #[r,I x] w λe w'=>e=aY #[.agg (bB v),true]/\Below w w w':=by
 subst C;have c:=((bb w).alloc (af (bB a6.zero) 254)).alloc (af (bB a6.zero) 254);have b:=h.keeps c id id;have f:=cw (aX w (af (bB a6.zero) 254)) (af (bB a6.zero) 254);have l:(w.alloc (af (bB a6.zero) 254)).heap.size=w.heap.size+1:=aM;have bz:=b.bz;have bw:=b.bw;have s:=nb w;have d:=nb (w.alloc (af (bB a6.zero) 254));rw[l]at d;have bR:=h.fi;have E:=h.most;have F:k<size:=hk▸e8 _ h.pos;clear l h;generalize (w.alloc (af (bB a6.zero) 254)).alloc (af (bB a6.zero) 254)=bn at *;generalize w.alloc (af (bB a6.zero) 254)=G at *;have au:=λa=>Ck (b.drew a) i k i rfl U hk;have q:=ag au;have u:∀ w',(∃ n,w'=bn.drewN n)->(Instr.loadAt 254 (.pointer (some (ae B (k*7) ad)))).run prog w'=.ok (.agg (bB v)) w':=by
  rintro w' ⟨m,rfl⟩;exact(b.drew m).load aU
 have D:=ag b;clear au hk aU b
 go_in
 go_wp2_with (first|(refine dU s rfl rfl ?_)|(refine dU d rfl rfl ?_));refine iN 9 aI aI ?_;simp only[hY,iE,hX,hF]
 repeat (first|(refine jL u rfl rfl rfl ?_;simp only[Act.put,c8])|go_big_quiet_step ((go_at_call 304;exact Calls.quiet_of (q.out _))))
 refine wpQuiet_nil ?_;intro _ o;obtain⟨nq,p⟩:=o;subst p;have g:(bn.drewN nq).heap[w.heap.size]?=some (af (bB a6.zero) 254 (0,0)):=f;obtain⟨z,y,j⟩:=dQ (bn.drewN nq) 254 7 w.heap.size (bB v) _ sizeOf254 rfl rfl g (ns _);have t:Below w w ((bn.drewN nq).setRow w.heap.size (bB v)):=(((c.drewN nq).mono λ_ _ x=>x.elim).trans j).below bx a8;clear c j f g;generalize (bn.drewN nq).setRow w.heap.size (bB v)=ao at *;go_wp2_with (refine c7 z rfl rfl rfl rfl ?_);refine c1 (v:=aY #[.agg (bB v),true]) (by simp[results,results309,asAddr,loadVar,loadCells,isAgg254,sizeOf254,y]) rfl ?_;exact⟨rfl,t⟩
def Up(h:MRingAt w r B size A first n)(av:n=size)(v:a6):aA 246 #[r,.agg (bB v)] w λe w'=>e=.returned (I 8)/\Below w w w':=by
 subst av;have c:=(bb w).alloc (af (bB v) 254);have a:=h.keeps c id id;have b:=(b7 w.heap.size w).alloc bx (af (bB v) 254);have bz:=a.bz;have bw:=a.bw;clear c a h;unfold bB at *
 go_in
 go_wp2;go_quiet (fail);go_wp2;go_ret;exact⟨rfl,b.trans ((Keeps.drewN (bb _) _).below b.size (λ_ _ x=>x))⟩
def Uo(h:MRingAt w r B size A first n)(av:n<size)(k:J)(hk:(first+n)%size=k)(v:a6):aA 246 #[r,.agg (bB v)] w λe w'=>e=.returned (I 0)/\MRingAt w' r B size (A.set k v) first (n+1)/\Keeps (λb=>b=r\/b=B) w w':=by
 have g:=(bb w).alloc (af (bB v) 254);have d:=h.keeps g id id;have t:=aX w (af (bB v) 254);have bz:=d.bz;have bw:=d.bw;have bR:=h.fi;have H:=h.most;have ne:=h.ne;have F:k<size:=hk▸e8 _ h.pos;have K:((n:aa) == (size:aa))=false:=by rw[eA];omega
 have l:=ag t;have i:=ag d;have E:=ag hk;have j:=ag g;clear hk h t d g
 go_in
 go_wp2;generalize L:w.alloc (af (bB v) 254)=bn at *;go_quiet (fail);go_wp2;have c:=ag (i.o.drew nq);have s:(bn.drewN nq).heap[w.heap.size]?=some (af (bB v) 254 (0,0)):=l.o;have C:=ag (j.o.drewN nq);clear bz bw l i j;generalize bn.drewN nq=ao at *;have bz:=c.o.bz;have bw:=c.o.bw;have u:∀ w',(∃ n,w'=ao.drewN n)->(Instr.loadAt 254 w.heap.size).run prog w'=.ok (.agg (bB v)) w':=by
  rintro w' ⟨m,rfl⟩;exact ug s
 have au:=λa=>Ck (c.out.drew a) n k n rfl U E.out;have q:=ag au;clear au s;refine iN 12 aI aI ?_;simp only[hY,iE,hX,hF]
 repeat (first|(refine jL u rfl rfl rfl ?_;simp only[Act.put,c8])|go_big_quiet_step ((go_at_call 304;exact Calls.quiet_of (q.o _))))
 refine wpQuiet_nil ?_;intro _ y;obtain⟨nq,z⟩:=y;subst z;have G:=(c.out.drew nq).store F v;have f:=ag ((c.out.drew nq).setBody k v);have D:=ag (((C.out.drewN nq).mono (T:=λb=>b=r\/b=B) λ_ _ x=>x.elim).trans ((iW (ao.drewN nq) B (h8 (A.set k v))).mono λ_ _=>Or.inr));clear bz bw u q;generalize (ao.drewN nq).setRow B (h8 (A.set k v))=aD at *;have bw:=f.o.bw;have f2:=f.o.f2;go_wp2_with (refine c7 G rfl rfl rfl rfl ?_);go_ret;exact⟨rfl,f.o.rz (n+1) U,D.o.setCell (p:=ae r 2 ad) (.inl rfl) _⟩
def Un(h:MRingAt w r B size A first 0):aA 261 #[r] w λe w'=>e=aY #[.agg (bB a6.zero),false]/\Below w w w':=by
 have g:=nb w;have m:=(bb w).alloc (af (bB a6.zero) 254);have i:=h.keeps m id id;have b:=aX w (af (bB a6.zero) 254);have a:=(b7 w.heap.size w).alloc bx (af (bB a6.zero) 254);clear m;generalize w.alloc (af (bB a6.zero) 254)=bn at *
 go_in
 go_wp2_with (refine dU g rfl rfl ?_);refine(Ul i 0 U).mono ?_;rintro e ao ⟨rfl,d⟩;have a:=a.trans (d.mono a.size);have b:=(Keeps.bJ (S:=aG) d a8).heap b id;have u:=bT b;clear d i g h;have o:=nb ao;have c:=aX ao (af (bB a6.zero) 254);have b:=cw b (af (bB a6.zero) 254);have a:=a.alloc a.size (af (bB a6.zero) 254);obtain⟨s,_,f⟩:=dQ (ao.alloc (af (bB a6.zero) 254)) 254 7 ao.heap.size (bB a6.zero) _ sizeOf254 rfl rfl c (ns _);have k:=fb (ao.alloc (af (bB a6.zero) 254)) ao.heap.size _ (bB a6.zero) 254 c;have j:=f.heap b U;clear b;have l:=a.trans (f.below a.size a8);clear f a c;generalize (ao.alloc (af (bB a6.zero) 254)).setRow ao.heap.size (bB a6.zero)=aD at *;generalize ao.alloc (af (bB a6.zero) 254)=x at *;have q:=ug k;obtain⟨t,zd,n⟩:=dQ aD 254 7 w.heap.size (bB a6.zero) _ sizeOf254 rfl rfl j (ns _);have p:=l.trans (n.below (B:=w.heap.size) l.size a8);clear n k j;generalize aD.setRow w.heap.size (bB a6.zero)=bq at *;go_wp2_with (first|(refine dU o rfl rfl ?_;simp only[Act.put,c8])|(refine dn q rfl rfl rfl ?_;try simp only[Act.put,c8])|(refine c7 s rfl rfl rfl rfl ?_;try simp only[Act.put])|(refine c7 t rfl rfl rfl rfl ?_;try simp only[Act.put]));refine c1 (v:=aY #[.agg (bB a6.zero),false]) M' rfl ?_;exact⟨rfl,p⟩
def Um(h:MRingAt w r B size A first n)(av:0<n)(a:J)(y:(first+1)%size=a)(v:a6)(aU:A[first]?=some v):aA 261 #[r] w λe w'=>e=aY #[.agg (bB v),true]/\MRingAt w' r B size (A.set first a6.zero) a (n-1)/\Keeps (λb=>b=r\/b=B) w w':=by
 have K:=nb w;have z:=(bb w).alloc (af (bB a6.zero) 254);have k:=h.keeps z id id;have R:=aX w (af (bB a6.zero) 254);have bR:=h.fi;have aaq:=h.most;have N:=h.fst;have ne:=h.ne;have aas:=bT h.head;have aar:=bT h.body;have TS:a<size:=y▸e8 _ h.pos;have G:=ag (show(first+0)%size=first from jy N);have CW:=ag y;have H:=ag aU;clear y aU h;generalize w.alloc (af (bB a6.zero) 254)=bn at *
 go_in
 go_wp2_with (refine dU K rfl rfl ?_);refine(Uk k 0 first 0 rfl av G.o v H.o).mono ?_;rintro e ao ⟨rfl,g⟩;have r':=z.trans (Keeps.bJ (S:=aG) g a8);have O:=k.keeps (Keeps.bJ (S:=aG) g a8) id id;have s:=(Keeps.bJ (S:=aG) g a8).heap R id;have aat:=bT s;clear g k K z R H G;have L:=nb ao;have t:=aX ao (af (bB a6.zero) 254);have fr:=cw s (af (bB a6.zero) 254);have D:=(bb ao).alloc (af (bB a6.zero) 254);obtain⟨m',_,i⟩:=dQ (ao.alloc (af (bB a6.zero) 254)) 254 7 ao.heap.size (bB v) _ sizeOf254 rfl rfl t (ns _);have u:=fb (ao.alloc (af (bB a6.zero) 254)) ao.heap.size _ (bB v) 254 t;have V:=i.heap fr U;have sd:=r'.trans (cN D i a8);have P:=O.keeps (cN D i a8) id id;have aau:ao.heap.size<((ao.alloc (af (bB a6.zero) 254)).setRow ao.heap.size (bB v)).heap.size:=bT u;clear t fr D i O s r';generalize (ao.alloc (af (bB a6.zero) 254)).setRow ao.heap.size (bB v)=aD at *;generalize ao.alloc (af (bB a6.zero) 254)=aaw at *;have M:=nb aD;have lb:=aX aD (af (bB a6.zero) 254);have gf:=cw u (af (bB a6.zero) 254);have W:=cw V (af (bB a6.zero) 254);have E:=(bb aD).alloc (af (bB a6.zero) 254);have s':=sd.trans E;have f:=P.keeps E id id;clear u V E sd P;generalize St:ao.heap.size=X at *;generalize Tq:aD.heap.size=Z at *;generalize aD.alloc (af (bB a6.zero) 254)=bq at *;have l':∀ w',(∃ n,w'=bq.drewN n)->(Instr.loadAt 254 Z).run prog w'=.ok (.agg (bB a6.zero)) w':=by
  rintro w' ⟨m,rfl⟩;exact ug lb
 have bz:=f.bz;have b6:=f.b6;have j:=ag f;clear f St Tq;go_wp2_with (first|(refine dU L rfl rfl ?_)|(refine dU M rfl rfl ?_)|(refine c7 m' rfl rfl rfl rfl ?_));simp only[Act.put,c8];refine iN 10 aI aI ?_;simp only[hY,iE,hX,hF]
 repeat (first|(refine jL l' rfl rfl rfl ?_;simp only[Act.put,c8])|go_big_quiet_step (fail))
 refine wpQuiet_nil ?_;intro _ zp;have⟨nq,Aw⟩:=zp;subst Aw;have ps:=(j.o.drew nq).store N a6.zero;have l:=(j.o.drew nq).setBody first a6.zero
 have cP:=((s'.drewN nq).mono (T:=λb=>b=r\/b=B) λ_ _ x=>x.elim).trans ((iW (bq.drewN nq) B (h8 (A.set first a6.zero))).mono λ_ _=>Or.inr);have g':((bq.drewN nq).setRow B (h8 (A.set first a6.zero))).heap[X]?=some (af (bB v) 254 (0,0)):=(iW (bq.drewN nq) B _).heap gf U;have Y:((bq.drewN nq).setRow B (h8 (A.set first a6.zero))).heap[w.heap.size]?=some (af (bB a6.zero) 254 (0,0)):=(iW (bq.drewN nq) B _).heap W U;clear l' bz b6 j s' gf W lb m' L M;generalize (bq.drewN nq).setRow B (h8 (A.set first a6.zero))=F at *;go_wp2_with (refine c7 ps rfl rfl rfl rfl ?_);refine(Ck l 1 a 1 rfl U CW.out).mono ?_;rintro e ys ⟨rfl,d,rfl⟩;have c:=l.drew d;have hd:(F.drewN d).heap[X]?=some (af (bB v) 254 (0,0)):=g';have ab:(F.drewN d).heap[w.heap.size]?=some (af (bB a6.zero) 254 (0,0)):=Y;have vl:=cP.drewN d;clear ps l g' Y cP;generalize F.drewN d=ys at *;have Q:=c.sK a TS;have q:=Q.rz (n-1) U;rw[show((n-1:J):aa)=(n:aa)-1 by omega]at q;have v':=(vl.setCell (p:=ae r 1 ad) (.inl rfl) (I a)).setCell (p:=ae r 2 ad) (.inl rfl) (I ((n:aa)-1));have h2:=e0 (p:=ae r 2 ad) (e0 (p:=ae r 1 ad) hd (by show X≠r;omega) (I a)) (by show X≠r;omega) (I ((n:aa)-1));have a':=e0 (p:=ae r 2 ad) (e0 (p:=ae r 1 ad) ab (by show w.heap.size≠r;omega) (I a)) (by show w.heap.size≠r;omega) (I ((n:aa)-1));have f1:=c.f1;have f2:=c.f2;have b6:=c.b6;have bw:=c.bw;have T':=ug h2;obtain⟨V',zd,C⟩:=dQ _ 254 7 w.heap.size (bB v) _ sizeOf254 rfl rfl a' (ns _);have Q':=q.keeps C (by show r≠w.heap.size;omega) (by show B≠w.heap.size;omega);have W':=cN v' C a8;clear c Q q vl v' hd ab h2 a' C;generalize ((ys.setCell (ae r 1 ad) (I a)).setCell (ae r 2 ad) (I ((n:aa)-1))).setRow w.heap.size (bB v)=aav at *;go_wp2_with (first|(refine dn T' rfl rfl rfl ?_)|(refine c7 V' rfl rfl rfl rfl ?_));refine c1 (v:=aY #[.agg (bB v),true]) M' rfl ?_;exact⟨rfl,Q',W'⟩
def iQ(w:aj)(r B size:J)(L:ah a6):al:=∃ A first,MRingAt w r B size A first L.length/\Holds A first size L
variable{L:ah a6}
def iQ.keeps{w':aj}{S:J->al}(h:iQ w r B size L)(hk:Keeps S w w')(b:¬ S r)(a:¬ S B):iQ w' r B size L:=by
 exact EF
def iQ.le(h:iQ w r B size L):L.length<=size/\1<=size/\size<=4096/\r<w.heap.size/\B<w.heap.size/\r≠B:=by
 exact EB
def Jh(h:iQ w r B size L)(av:L.length<size)(v:a6):aA 246 #[r,.agg (bB v)] w λe w'=>e=.returned (I 0)/\iQ w' r B size (L++[v])/\Keeps (λb=>b=r\/b=B) w w':=by
 obtain⟨A,f,h1,h2⟩:=h;refine(Uo h1 av _ rfl v).mono ?_;rintro e w' ⟨rfl,a,c⟩;exact⟨rfl,⟨_,f,tl,h2.push h1.fst h1.gX av v⟩,c⟩
def Ji(h:iQ w r B size L)(av:L.length=size)(v:a6):aA 246 #[r,.agg (bB v)] w λe w'=>e=.returned (I 8)/\iQ w' r B size L/\Keeps (λb=>b=r\/b=B) w w':=by
 have c:=h.le;have a:=h;obtain⟨A,f,h1,h2⟩:=h;refine(Up h1 av v).mono ?_;rintro e w' ⟨rfl,ak⟩;exact⟨rfl,a.keeps (Keeps.bJ (S:=aG) ak a8) id id,Keeps.bJ ak a8⟩
def Ur{v:a6}(h:iQ w r B size (v :: L)):aA 261 #[r] w λe w'=>e=aY #[.agg (bB v),true]/\iQ w' r B size L/\Keeps (λb=>b=r\/b=B) w w':=by
 obtain⟨A,f,h1,h2⟩:=h;have d:=h2 0 aM;rw[rV,jy h1.fst]at d;refine(Um h1 aM _ rfl v xB).mono ?_;rintro e w' ⟨rfl,a,c⟩;exact⟨rfl,⟨_,_,tl,h2.pop h1.fst h1.fi aM _⟩,c⟩
def Us(h:iQ w r B size []):aA 261 #[r] w λe w'=>e=aY #[.agg (bB a6.zero),false]/\iQ w' r B size []/\Keeps (λb=>b=r\/b=B) w w':=by
 have c:=h.le;have a:=h;obtain⟨A,f,h1,h2⟩:=h;refine(Un h1).mono ?_;rintro e w' ⟨rfl,ak⟩;exact⟨rfl,a.keeps (Keeps.bJ (S:=aG) ak a8) id id,Keeps.bJ ak a8⟩
end
def SY:(prog.info? 254).map (λi=>(i.zero,i.size,i.bytes))=some (some (.agg (bB a6.zero)),7,56):=aI
def Z_:madeCells (Value.agg (bB a6.zero)).cells 56=h8 (replicate 8 a6.zero):=aI
def Uq(w:aj):aA 196 #[I 8] w λe w'=>e=aY #[.pointer (some (ae (w+1) 0 ad)),I 0]/\iQ w' (w.heap.size+1) w.heap.size 8 []/\Below w w w'/\w'.heap.size=w.heap.size+2:=by
 obtain⟨m,ax,k,l,d⟩:∃ i,prog.info? 254=some i/\i.zero=some (.agg (bB a6.zero))/\i.size=7/\i.bytes=56:=by
  have h:=SY;cases aS:prog.info? 254 with
  | none=>rw[aS]at h;cases h
  | some i=>rw[aS]at h;simp only[pN,hI,jR]at h;exact⟨i,rfl,h.1,h.2.1,h.2.2⟩
 have g:=run_make (P:=prog) w 250 254 m (.agg (bB a6.zero)) underlying250 ax k .i64 .i64 8 8 U (jw _) vu U;rw[l,show(8:aa).toNat*7=56 from rfl,Z_,show(8:aa).toNat=8 from rfl]at g;have ak:Below w w ((w.alloc (af (h8 (replicate 8 a6.zero)) 254)).alloc (af #[aq (some (ae w 0 ad)) 8 8,I 0,I 0] 388)):=((b7 _ w).alloc bx _).alloc aM _;have a:=aX (w.alloc (af (h8 (replicate 8 a6.zero)) 254)) (af #[aq (some (ae w 0 ad)) 8 8,I 0,I 0] 388);have c:=cw (aX w (af (h8 (replicate 8 a6.zero)) 254)) (af #[aq (some (ae w 0 ad)) 8 8,I 0,I 0] 388);have aw:((w.alloc (af (h8 (replicate 8 a6.zero)) 254)).alloc (af #[aq (some (ae w 0 ad)) 8 8,I 0,I 0] 388)).heap.size=w.heap.size+2:=aM;have j:(w.alloc (af (h8 (replicate 8 a6.zero)) 254)).heap.size=w.heap.size+1:=aM;rw[j]at a;generalize f:h8 (replicate 8 a6.zero)=dT at *;have b:=ag f
 go_in
 go_wp2_with fail;refine bE (za 8 w) ?_;go_wp2;go_ret2;exact⟨rfl,⟨replicate 8 a6.zero,0,⟨a,by rw[b.o];exact c,aM,U,U,U,aM,U⟩,λt aK=>absurd aK (kZ _)⟩,ak,aw⟩
end Go.Proofs.YtalagblioepadaaGreatDoor
