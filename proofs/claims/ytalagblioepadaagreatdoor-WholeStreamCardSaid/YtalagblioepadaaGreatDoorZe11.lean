/- The proof, part 11. -/
import Derived.Test.YtalagblioepadaaGreatDoorZe10
import Derived.Test.YtalagblioepadaaGreatDoorZe07
namespace Go.Proofs.YtalagblioepadaaGreatDoor
set_option linter.all false
open Proofs.Tryz List Go.RowKit
set_option maxRecDepth 100000
set_option maxHeartbeats 2000000
variable{ww:Prop}
def km(h:ww:=by rw[gM];exact a):=h
def QI(h:ww:=by simp[results,results261,asAddr,loadVar,loadCells,isAgg254,sizeOf254,vs]):=h
variable{parts:a6 (J×Operand)}{vs:a6 (J×ay)}{k:J}{S:J->ae}{x y:Operand}{T:TypeId}{u:ay}
section
variable{P:Program}{w:aj}
def fS(T:TypeId)(k b o:J)(c a:a6 ay)(t:TypeId)(bg:∀ w,(isAgg T).run P w=.ok true w)(f:∀ w,(Go.sizeOf T).run P w=.ok k w)(an:c.size=k)(e:w.heap[b]?=some (ab a t (0,0)))(aA:∀ j v,c[j]?=some v->a[o+j]?=some v):(Instr.loadAt T (.pointer (dk b o))).run P w=.ok (.agg c) w:=by
 have h:=zh (P:=P) w (ah b o) c.toList (λj v d=>by
  rw[iB];exact bb e (aA j v xq))
 simp only[r9,Qn]at h;simp only[Instr.loadAt,Instr.sureAddr,loadVar,iO,jm,iu,bg,f,if_true,an▸h]
def fz(a:a6 ay)(o:J)(c:a6 ay):a6 ay:=(a.toList.take o++c.toList++a.toList.drop (o+c.size)).toArray
def y1(a:a6 ay)(o:J)(c:a6 ay)(h:o+c.size<=a.size):(fz a o c).size=a.size:=by
 unfold fz;simp;omega
theorem jw(w:aj)(b:J)(cs:a6 ay):ag (λx=>x=b) w (w.setRow b cs):=
 ⟨rfl,rfl,rfl,by simp[World.setRow],λk _ aA=>by simp only[World.setRow];rw[Ha];simp[show ¬ b=k from λe=>aA e.symm]⟩
def rK(T:TypeId)(k b o:J)(c a:a6 ay)(t:TypeId)(e:∀ w,(Go.sizeOf T).run P w=.ok k w)(an:c.size=k)(d:w.heap[b]?=some (ab a t (0,0)))(aA:o+k<=a.size)(h1:∀ v∈c.toList,v.oneCell'=true):(Instr.storeAt T (.pointer (dk b o)) (.agg c)).run P w=.ok () (w.setRow b (fz a o c)):=by
 simp only[Instr.storeAt,Instr.sureAddr,storeVar,iO,jm,iu,e,Value.cells,an];simpa[fz]using(Hr P b o t c.toList 0 a w d b_ h1)
theorem LJ(o:J):∀ (l:ai ay) (i:J) (a:a6 ay) (k:J),o+i+l.length<=a.size->
  ((l.zipIdx i).foldl (λcs (p:ay×J)=>cs.setIfInBounds (o+p.2) p.1) a)[k]?=if o+i<=k/\k<o+i+l.length then l[k-(o+i)]? else a[k]?
 | [],i,a,k,_=>by
  simp only[zipIdx_nil,xd,gN];rw[az I]
 | v :: l,i,a,k,h=>by
  have b:o+(i+1)+l.length<=(a.setIfInBounds (o+i) v).size:=by simp at h⊢;omega
  rw[zipIdx_cons,r1,LJ o l (i+1) _ k b];simp only[eA]at h⊢;by_cases h1:k=o+i
  .subst h1;rw[az I,aD I,Ce I];simp
  by_cases h2:o+i<=k/\k<o+i+(l.length+1)
  .rw[aD I,aD h2,show k-(o+i)=(k-(o+(i+1)))+1 by omega,kB]
  rw[az I,az h2,y' I]
def s5(a:a6 ay)(o:J)(c:a6 ay)(h:o+c.size<=a.size)(k:J):(fz a o c)[k]?=if o<=k/\k<o+c.size then c[k-o]? else a[k]?:=by
 unfold fz;rw[kC];by_cases h1:k<o
 .rw[az I,eh,jF b_,xf,aD h1];simp
 by_cases h2:k<o+c.size
 .rw[aD I,eh,l6 b_,jF b_];simp
  congr 1
  omega
 rw[az I,l6 b_,zm];simp
 congr 1
 omega
def Z1(a:a6 ay)(o:J)(c:a6 ay)(h:o+c.size<=a.size):c.zipIdx.foldl (λcs (p:ay×J)=>cs.setIfInBounds (o+p.2) p.1) a=fz a o c:=by
 refine vt;rw[s5 a o c h,<-Array.foldl_toList,Array.toList_zipIdx]
 have:=LJ o c.toList 0 a k j0
 rw[this];simp
def LF(b:J->cr (J×J))(a:a6 ay)(i o:J)(v:ay)(rest:ai (J×ay))(ao:b i=some (o,v.cells.size))(h:o+v.cells.size<=a.size):Instr.fill b a ((i,v) :: rest)=Instr.fill b (fz a o v.cells) rest:=by
 rw[Instr.fill,ao];simp only[ne_eq,not_true_eq_false,decide_false,uT];rw[az b_]
 congr 1
 exact Z1 a o v.cells h
section
variable{o:Oper}{a:Act}{K:Act->aj->ae}{Q:Exit->Act->aj->ae}{ops:a6 Oper}{rest:ai Oper}{w':aj}{v p:ay}
def Qa(ar:o.op=.load T x)(ak:a.eval x=p)(hrun:(Instr.loadAt T p).run P w=.ok v w')(h:K (a.put o.dst v) w'):o.wp P a w K Q:=by
 unfold Oper.wp execOp;simp only[ar,ak,iO,hrun,iu,jm];exact h
def G7(ar:o.op=.build T parts)(ak:(parts.map λq=>(q.1,a.eval q.2))=vs)(hrun:(Instr.build T vs).run P w=.ok v w')(h:K (a.put o.dst v) w'):o.wp P a w K Q:=by
 subst ak;unfold Oper.wp execOp;simp only[ar,iO];simp only[hrun,iu,jm];exact h
def l3(ar:o.op=.store T x y)(ak:a.eval x=p)(a8:a.eval y=u)(hrun:(Instr.storeAt T p u).run P w=.ok () w')(h:K (a.put o.dst undef) w'):o.wp P a w K Q:=by
 unfold Oper.wp execOp;simp only[ar,ak,a8,iO,hrun,iu,jm];exact h
theorem dg(hrun:(Instr.loadAt T p).run P w=.ok v w')(c:o.guard=none)(ar:o.op=.load T x)(ak:a.eval x=p)(h:wpList P ops Q rest (a.put o.dst v) w'):wpList P ops Q (o :: rest) a w:=
 oV c λ_ b=>Qa ar ak hrun (b _ _ h)
theorem Ca(hrun:(Instr.build T vs).run P w=.ok v w')(c:o.guard=none)(ar:o.op=.build T parts)(ak:(parts.map λq=>(q.1,a.eval q.2))=vs)(h:wpList P ops Q rest (a.put o.dst v) w'):wpList P ops Q (o :: rest) a w:=
 oV c λ_ b=>G7 ar ak hrun (b _ _ h)
theorem uO{i j:J}{b:ay}(hrun:(Instr.build T #[(i,u),(j,b)]).run P w=.ok v w')(c:o.guard=none)(ar:o.op=.build T #[(i,x),(j,y)])(ak:a.eval x=u)(a8:a.eval y=b)(h:wpList P ops Q rest (a.put o.dst v) w'):wpList P ops Q (o :: rest) a w:=
 Ca hrun c ar (by simp[ak,a8]) h
theorem c'(hrun:(Instr.storeAt T p u).run P w=.ok () w')(c:o.guard=none)(ar:o.op=.store T x y)(ak:a.eval x=p)(a8:a.eval y=u)(h:wpList P ops Q rest (a.put o.dst undef) w'):wpList P ops Q (o :: rest) a w:=
 oV c λ_ b=>l3 ar ak a8 hrun (b _ _ h)
end
end
def fN(w:aj)(b:J)(c:a6 ay)(t:TypeId)(a:w.heap[b]?=some (ab c t (0,0)))(k:J)(hk:c.size=k):(loadCellsFrom (ah b 0) 0 k #[]).run prog w=.ok c w:=by
 have h:=zh (P:=prog) w (ah b 0) c.toList (λj v d=>by
  rw[iB,gM];exact bb a xq)
 simp only[r9,Qn,hk,loadCells]at h;exact h
def ahl(a c:a6 ay)(h:c.size=a.size):fz a 0 c=c:=by
 refine vt;rw[s5 _ _ _ I];split
 .simp
 rename_i aT;rw[l4 I,l4 I]
def fb(w:aj)(b:J)(cs c:a6 ay)(t:TypeId)(a:w.heap[b]?=some (ab cs t (0,0))):(w.setRow b c).heap[b]?=some (ab c t (0,0)):=by
 have d:=bZ a;have e:w.heap[b]=ab cs t (0,0):=by simpa[uQ d]using a
 show(w.heap.modify b _)[b]?=_;rw[uQ (by simpa using d),Ql,e]
def dT(w:aj)(T:TypeId)(k b:J)(c a:a6 ay)(e:∀ w,(Go.sizeOf T).run prog w=.ok k w)(an:c.size=k)(f:a.size=k)(d:w.heap[b]?=some (ab a T (0,0)))(h1:c.toList.all (λv=>v.oneCell')=true):(Instr.storeAt T b (.agg c)).run prog w=.ok () (w.setRow b c)/\(loadCellsFrom (ah b 0) 0 k #[]).run prog (w.setRow b c)=.ok c (w.setRow b c)/\ag (λx=>x=b) w (w.setRow b c):=by
 have h:=rK (P:=prog) T k b 0 c a T e an d I (fJ.1 h1);rw[ahl a c I]at h;exact⟨h,fN _ _ _ _ (fb w b a c T d) k an,jw w b c⟩
theorem c1{T:J->ae}{a b d:aj}(h:ag S a b)(h2:ag T b d)(aA:∀ k,k<a.heap.size->T k->S k):ag S a d:=
 ⟨h2.os.trans h.os,h2.tape.trans h.tape,h2.output.trans h.output,cu h.size h2.size,λi av aw=>(h2.block i (o2 av h.size) (λt=>aw (aA i av t))).trans (h.block i av aw)⟩
section
variable{P:Program}{o:Oper}{a:Act}{K:Act->aj->ae}{Q:Exit->Act->aj->ae}{ops:a6 Oper}{rest:ai Oper}{w w':aj}{v p:ay}
theorem eL(hrun:(Instr.alloc T true (aV #[])).run P w=.ok v w')(c:o.guard=none)(ar:o.op=.alloc T)(h:wpList P ops Q rest (a.put o.dst v) w'):wpList P ops Q (o :: rest) a w:=
 oV c λ_ b=>by
  unfold Oper.wp execOp;simp only[ar,iO,hrun,iu,jm];exact b _ _ h
end
section
variable{P:Program}{o:Oper}{a:Act}{C:aj->ae}{K:Act->ae}
theorem NX{p v:ay}(hrun:∀ w,C w->(Instr.loadAt T p).run P w=.ok v w)(ar:o.op=.load T x)(ak:a.eval x=p)(hk:K (a.put o.dst v)):o.quiet P a C K:=
 ⟨v,λw b=>by
  unfold Oper.quietAt execOp;simp only[ar,ak,iO,hrun w b,iu,jm];exact⟨rfl,rfl⟩,hk⟩
def rV{ops:a6 Oper}{Q:Act->ae}{rest:ai Oper}{p v:ay}(hrun:∀ w,C w->(Instr.loadAt T p).run P w=.ok v w)(a7:o.guard=none)(ar:o.op=.load T x)(ak:a.eval x=p)(hk:wpQuiet P ops C Q rest (a.put o.dst v)):wpQuiet P ops C Q (o :: rest) a:=by
 unfold wpQuiet;rw[aD (by unfold Region.wanted;rw[a7])];exact NX hrun ar ak hk
end
section
def bG(m:ba):a6 ay:=#[aa m.kind,bz m.cw,c7 m.en,c7 m.ee,au none 0 0,bz m.sum,aa m.lead]
def iT(A:ai ba):a6 ay:=(A.flatMap λm=>(bG m).toList).toArray
def Nc(m:ba):(bG m).size=7:=rfl
def Bp(A:ai ba):(iT A).size=7*A.length:=by
 show((A.flatMap λm=>(bG m).toList)).length=_
 induction A with
 | nil=>rfl
 | cons a A b=>rw[jY,uY,b,qP,show(bG a).toList.length=7 from rfl];omega
theorem yA:∀ (A:ai ba) (k:J) (m:ba),A[k]?=some m->∀ j,j<7->(iT A)[7*k+j]?=(bG m)[j]?
 | [],k,m,h,_,_=>by simp at h
 | a :: A,0,m,h,j,c=>by
  simp only[lA,jn]at h;subst h;unfold iT;rw[kC,jY,jF (by show _<7;omega)];simp
 | a :: A,k+1,m,h,j,c=>by
  rw[kB]at h;have b:=yA A k m h j c;unfold iT at b⊢;rw[kC]at b⊢;have d:(bG a).toList.length=7:=rfl;rw[jY,l6 I,d,<-b]
  congr 1
  omega
def acJ(A:ai ba)(k:J)(hk:k<A.length)(m:ba):fz (iT A) (7*k) (bG m)=iT (A.set k m):=by
 apply y_;intro i;rw[s5 _ _ _ (by rw[Bp,Nc];omega),Nc];by_cases av:i<7*A.length
 .obtain⟨q,j,a,rfl⟩:∃ q j,j<7/\i=7*q+j:=⟨i / 7,i%7,gb _ I,(r5 i 7).symm⟩;have b:q<A.length:=I;by_cases e:q=k
  .subst e;rw[aD I,yA (A.set q m) q m (by rw[xe b]) j a,show 7*q+j-7*q=j by omega]
  rw[az I,yA A q A[q] (gW b) j a,yA (A.set k m) q A[q] (by rw[r2 (λh=>e h.symm),gW b]) j a]
 rw[az I,l4 (by rw[Bp];omega),l4 (by rw[Bp,r3];omega)]
def oC(m:ba):(bG m).toList.all (λv=>v.oneCell')=true:=bc
structure hx(w:aj)(r B size:J)(A:ai ba)(first n:J):ae where
 head:w.heap[r]?=some (ab #[au (some (eo B 0 db)) size size,aa first,aa n] 388 (0,0))
 body:w.heap[B]?=some (ab (iT A) 254 (0,0))
 ig:A.length=size
 pos:1<=size
 most:size<=4096
 fst:first<size
 f_:n<=size
 ne:r≠B
namespace hx
variable{w w':aj}{r B size first n:J}{A:ai ba}
def drew(h:hx w r B size A first n)(m:J):hx (w.drewN m) r B size A first n:=⟨h.head,h.body,h.ig,h.pos,h.most,h.fst,h.f_,h.ne⟩
theorem keeps(h:hx w r B size A first n)(hk:ag S w w')(b:¬ S r)(a:¬ S B):hx w' r B size A first n:=
 ⟨hk.heap h.head b,hk.heap h.body a,h.ig,h.pos,h.most,h.fst,h.f_,h.ne⟩
def bw(h:hx w r B size A first n):w.cell? (ah r 0)=some (au (bT B) size size):=bb h.head rfl
def bP(h:hx w r B size A first n):w.cell? (ah r 1)=some (aa first):=bb h.head rfl
def bB(h:hx w r B size A first n):w.cell? (ah r 2)=some (aa n):=bb h.head rfl
def f1(h:hx w r B size A first n):w.frozen? (ah r 1)=false:=gY h.head 1
def f2(h:hx w r B size A first n):w.frozen? (ah r 2)=false:=gY h.head 2
theorem load(h:hx w r B size A first n){x:ba}(ak:A[k]?=some x):(Instr.loadAt 254 (.pointer (dk B (k*7)))).run prog w=.ok (.agg (bG x)) w:=
 fS 254 7 B (k*7) (bG x) (iT A) 254 isAgg254 sizeOf254 rfl h.body (λj v a=>by
  have:j<7:=(mI.1 a).1
  rw[o4,yA A k x ak j this];exact a)
def store(h:hx w r B size A first n)(hk:k<size)(x:ba):(Instr.storeAt 254 (.pointer (dk B (k*7))) (.agg (bG x))).run prog w=.ok () (w.setRow B (iT (A.set k x))):=by
 have:=rK (P:=prog) (w:=w) 254 7 B (k*7) (bG x) (iT A) 254 sizeOf254 rfl h.body (by rw[Bp,h.ig];omega) (fJ.1 (oC x))
 rwa [o4 k 7,acJ A k (by rw[h.ig];exact hk),o4 7 k]at this
theorem setBody(h:hx w r B size A first n)(k:J)(x:ba):hx (w.setRow B (iT (A.set k x))) r B size (A.set k x) first n:=
 ⟨(jw w B _).heap h.head h.ne,fb w B _ _ _ h.body,by simpa using h.ig,h.pos,h.most,h.fst,h.f_,h.ne⟩
theorem ux(h:hx w r B size A first n)(f:J)(a:f<size):hx (w.setCell (ah r 1) (aa f)) r B size A f n:=
 ⟨QV,eB h.body (h4 h.ne) _,h.ig,h.pos,h.most,a,h.f_,h.ne⟩
theorem uw(h:hx w r B size A first n)(m:J)(hm:m<=size):hx (w.setCell (ah r 2) (aa m)) r B size A first m:=
 ⟨HT,eB h.body (h4 h.ne) _,h.ig,h.pos,h.most,h.fst,hm,h.ne⟩
end hx
variable{w:aj}{r B size first n:J}{A:ai ba}
def Fy(h:hx w r B size A first n)(i k:J)(x:U)(ak:x=i)(av:i<=100000)(hk:(first+i)%size=k):aB 304 #[r,aa x] w λe w'=>e=aa k/\∃ m,w'=w.drewN m:=by
 subst ak;have bw:=h.bw;have bP:=h.bP;have c:((size:U) == 0)=false:=by have:=h.pos;rw[ep];omega
 have bS:=h.fst;have b:=h.most;have a:=ad hk
 go_in
 go_wp2;go_quiet (fail);go_wp2;go_ret;exact⟨uj (by rw[<-a.o];simp),_,rfl⟩
def pj(w:aj):(Instr.alloc 254 true (aV #[])).run prog w=.ok w (w.alloc (ab (bG ba.zero) 254)):=bc
theorem wz{w:aj}{b:J}{x:ba}(h:w.heap[b]?=some (ab (bG x) 254 (0,0))):(Instr.loadAt 254 b).run prog w=.ok (.agg (bG x)) w:=
 fS 254 7 b 0 (bG x) (bG x) 254 isAgg254 sizeOf254 rfl h (λj v a=>km)
def ac3(h:hx w r B size A first n)(x:U)(ak:x<0\/(n:U)<=x):aB 309 #[r,aa x] w λe w'=>e=aV #[.agg (bG ba.zero),false]/\Below w w w':=by
 have c:=((bd w).alloc (ab (bG ba.zero) 254)).alloc (ab (bG ba.zero) 254);have a:=h.keeps c id id;have b:=aP (w.alloc (ab (bG ba.zero) 254)) (ab (bG ba.zero) 254);have d:(w.alloc (ab (bG ba.zero) 254)).heap.size=w.heap.size+1:=aM;rw[d]at b;have k:=wz b;obtain⟨m,l,g⟩:=dT ((w.alloc (ab (bG ba.zero) 254)).alloc (ab (bG ba.zero) 254)) 254 7 w (bG ba.zero) _ sizeOf254 rfl rfl (b2 (aP w (ab (bG ba.zero) 254)) (ab (bG ba.zero) 254)) (oC _);have j:=((c.mono λ_ _ x=>x.elim).trans g).below bu a1;have bB:=a.bB;have i:=pj w;have f:=pj (w.alloc (ab (bG ba.zero) 254));rw[d]at f;generalize (w.alloc (ab (bG ba.zero) 254)).alloc (ab (bG ba.zero) 254)=bo at *;generalize bo.setRow w (bG ba.zero)=aq at *;generalize w.alloc (ab (bG ba.zero) 254)=o at *;by_cases a:x<0
 .clear ak;exact WL
 have h1:(n:U)<=x:=I;exact WL
end
section
variable{w:aj}{r B size first n:J}{A:ai ba}
def ac2(h:hx w r B size A first n)(i k:J)(x:U)(ak:x=i)(av:i<n)(hk:(first+i)%size=k)(v:ba)(a_:A[k]?=some v):aB 309 #[r,aa x] w λe w'=>e=aV #[.agg (bG v),true]/\Below w w w':=by
 subst ak;have c:=((bd w).alloc (ab (bG ba.zero) 254)).alloc (ab (bG ba.zero) 254);have b:=h.keeps c id id;have f:=b2 (aP w (ab (bG ba.zero) 254)) (ab (bG ba.zero) 254);have l:(w.alloc (ab (bG ba.zero) 254)).heap.size=w.heap.size+1:=aM;have bw:=b.bw;have bB:=b.bB;have t:=pj w;have d:=pj (w.alloc (ab (bG ba.zero) 254));rw[l]at d;have bS:=h.f_;have E:=h.most;have F:k<size:=hk▸gb _ h.pos;clear l h;generalize (w.alloc (ab (bG ba.zero) 254)).alloc (ab (bG ba.zero) 254)=bo at *;generalize w.alloc (ab (bG ba.zero) 254)=G at *;have ao:=λa=>Fy (b.drew a) i k i rfl I hk;have s:=ad ao;have y:∀ w',(∃ n,w'=bo.drewN n)->(Instr.loadAt 254 (.pointer (dk B (k*7)))).run prog w'=.ok (.agg (bG v)) w':=by
  rintro w' ⟨m,rfl⟩;exact(b.drew m).load a_
 have D:=ad b;clear ao hk a_ b
 go_in
 go_wp2_with (first|(refine eL t rfl rfl ?_)|(refine eL d rfl rfl ?_));refine jE 9 bc bc ?_;simp only[lC,mL,lz,k2]
 repeat (first|(refine rV y rfl rfl rfl ?_;simp only[Act.put,dV])|go_big_quiet_step ((go_at_call 304;exact Calls.quiet_of (s.o _))))
 refine wpQuiet_nil ?_;intro _ p;obtain⟨nq,q⟩:=p;subst q;have g:(bo.drewN nq).heap[w.heap.size]?=some (ab (bG ba.zero) 254 (0,0)):=f;obtain⟨C,z,j⟩:=dT (bo.drewN nq) 254 7 w (bG v) _ sizeOf254 rfl rfl g (oC _);have u:Below w w ((bo.drewN nq).setRow w (bG v)):=(((c.drewN nq).mono λ_ _ x=>x.elim).trans j).below bu a1;clear c j f g;generalize (bo.drewN nq).setRow w (bG v)=aq at *;go_wp2_with (refine c' C rfl rfl rfl rfl ?_);refine dH (v:=aV #[.agg (bG v),true]) (by simp[results,results309,asAddr,loadVar,loadCells,isAgg254,sizeOf254,z]) rfl ?_;exact⟨rfl,u⟩
def ac7(h:hx w r B size A first n)(aw:n=size)(v:ba):aB 246 #[r,.agg (bG v)] w λe w'=>e=aa 8/\Below w w w':=by
 subst aw;have c:=(bd w).alloc (ab (bG v) 254);have a:=h.keeps c id id;have b:=(b9 w w).alloc bu (ab (bG v) 254);have bw:=a.bw;have bB:=a.bB;clear c a h;unfold bG at *
 go_in
 go_wp2;go_quiet (fail);go_wp2;go_ret;exact⟨rfl,b.trans ((ag.drewN (bd _) _).below b.size (λ_ _ x=>x))⟩
def ac6(h:hx w r B size A first n)(aw:n<size)(k:J)(hk:(first+n)%size=k)(v:ba):aB 246 #[r,.agg (bG v)] w λe w'=>e=aa 0/\hx w' r B size (A.set k v) first (n+1)/\ag (λb=>b=r\/b=B) w w':=by
 have g:=(bd w).alloc (ab (bG v) 254);have d:=h.keeps g id id;have t:=aP w (ab (bG v) 254);have bw:=d.bw;have bB:=d.bB;have bS:=h.f_;have H:=h.most;have ne:=h.ne;have F:k<size:=hk▸gb _ h.pos;have K:((n:U) == (size:U))=false:=by rw[ep];omega
 have l:=ad t;have i:=ad d;have E:=ad hk;have j:=ad g;clear hk h t d g
 go_in
 go_wp2;generalize L:w.alloc (ab (bG v) 254)=bo at *;go_quiet (fail);go_wp2;have c:=ad (i.o.drew nq);have s:(bo.drewN nq).heap[w.heap.size]?=some (ab (bG v) 254 (0,0)):=l.o;have C:=ad (j.o.drewN nq);clear bw bB l i j;generalize bo.drewN nq=aq at *;have bw:=c.o.bw;have bB:=c.o.bB;have u:∀ w',(∃ n,w'=aq.drewN n)->(Instr.loadAt 254 w).run prog w'=.ok (.agg (bG v)) w':=by
  rintro w' ⟨m,rfl⟩;exact wz s
 have ao:=λa=>Fy (c.o.drew a) n k n rfl I E.o;have q:=ad ao;clear ao s;refine jE 12 bc bc ?_;simp only[lC,mL,lz,k2]
 repeat (first|(refine rV u rfl rfl rfl ?_;simp only[Act.put,dV])|go_big_quiet_step ((go_at_call 304;exact Calls.quiet_of (q.o _))))
 refine wpQuiet_nil ?_;intro _ y;obtain⟨nq,z⟩:=y;subst z;have G:=(c.o.drew nq).store F v;have f:=ad ((c.o.drew nq).setBody k v);have D:=ad (((C.o.drewN nq).mono (T:=λb=>b=r\/b=B) λ_ _ x=>x.elim).trans ((jw (aq.drewN nq) B (iT (A.set k v))).mono λ_ _=>Or.inr));clear bw bB u q;generalize (aq.drewN nq).setRow B (iT (A.set k v))=aF at *;have bB:=f.o.bB;have f2:=f.o.f2;go_wp2_with (refine c' G rfl rfl rfl rfl ?_);go_ret;exact⟨rfl,f.o.uw (n+1) I,D.o.setCell (p:=ah r 2) (.inl rfl) _⟩
def ac5(h:hx w r B size A first 0):aB 261 #[r] w λe w'=>e=aV #[.agg (bG ba.zero),false]/\Below w w w':=by
 have g:=pj w;have m:=(bd w).alloc (ab (bG ba.zero) 254);have i:=h.keeps m id id;have b:=aP w (ab (bG ba.zero) 254);have a:=(b9 w w).alloc bu (ab (bG ba.zero) 254);clear m;generalize w.alloc (ab (bG ba.zero) 254)=bo at *
 go_in
 go_wp2_with (refine eL g rfl rfl ?_);refine aS (ac3 i 0 I) λaq d=>?_;have a:=a.trans (d.mono a.size);have b:=(ag.bU (S:=aH) d a1).heap b id;have u:=bZ b;clear d i g h;have o:=pj aq;have c:=aP aq (ab (bG ba.zero) 254);have b:=b2 b (ab (bG ba.zero) 254);have a:=a.alloc a.size (ab (bG ba.zero) 254);obtain⟨s,_,f⟩:=dT (aq.alloc (ab (bG ba.zero) 254)) 254 7 aq (bG ba.zero) _ sizeOf254 rfl rfl c (oC _);have k:=fb (aq.alloc (ab (bG ba.zero) 254)) aq _ (bG ba.zero) 254 c;have j:=f.heap b I;clear b;have l:=a.trans (f.below a.size a1);clear f a c;generalize (aq.alloc (ab (bG ba.zero) 254)).setRow aq (bG ba.zero)=aF at *;generalize aq.alloc (ab (bG ba.zero) 254)=x at *;have q:=wz k;obtain⟨t,vs,n⟩:=dT aF 254 7 w (bG ba.zero) _ sizeOf254 rfl rfl j (oC _);have p:=l.trans (n.below (B:=w.heap.size) l.size a1);clear n k j;generalize aF.setRow w (bG ba.zero)=br at *;go_wp2_with (first|(refine eL o rfl rfl ?_;simp only[Act.put,dV])|(refine dg q rfl rfl rfl ?_;try simp only[Act.put,dV])|(refine c' s rfl rfl rfl rfl ?_;try simp only[Act.put])|(refine c' t rfl rfl rfl rfl ?_;try simp only[Act.put]));refine dH (v:=aV #[.agg (bG ba.zero),false]) QI rfl ?_;exact⟨rfl,p⟩
def ac4(h:hx w r B size A first n)(aw:0<n)(a:J)(y:(first+1)%size=a)(v:ba)(a_:A[first]?=some v):aB 261 #[r] w λe w'=>e=aV #[.agg (bG v),true]/\hx w' r B size (A.set first ba.zero) a (n-1)/\ag (λb=>b=r\/b=B) w w':=by
 have K:=pj w;have z:=(bd w).alloc (ab (bG ba.zero) 254);have k:=h.keeps z id id;have R:=aP w (ab (bG ba.zero) 254);have bS:=h.f_;have ajR:=h.most;have N:=h.fst;have ne:=h.ne;have ajT:=bZ h.head;have ajS:=bZ h.body;have TS:a<size:=y▸gb _ h.pos;have G:=ad (show(first+0)%size=first from kE N);have zd:=ad y;have H:=ad a_;clear y a_ h;generalize w.alloc (ab (bG ba.zero) 254)=bo at *
 go_in
 go_wp2_with (refine eL K rfl rfl ?_);refine aS (ac2 k 0 first 0 rfl aw G.o v H.o) λaq g=>?_;have ps:=z.trans (ag.bU (S:=aH) g a1);have O:=k.keeps (ag.bU (S:=aH) g a1) id id;have s:=(ag.bU (S:=aH) g a1).heap R id;have ajU:=bZ s;clear g k K z R H G;have L:=pj aq;have t:=aP aq (ab (bG ba.zero) 254);have fr:=b2 s (ab (bG ba.zero) 254);have D:=(bd aq).alloc (ab (bG ba.zero) 254);obtain⟨mv,_,i⟩:=dT (aq.alloc (ab (bG ba.zero) 254)) 254 7 aq (bG v) _ sizeOf254 rfl rfl t (oC _);have u:=fb (aq.alloc (ab (bG ba.zero) 254)) aq _ (bG v) 254 t;have V:=i.heap fr I;have bK:=ps.trans (c1 D i a1);have P:=O.keeps (c1 D i a1) id id;have ajV:aq.heap.size<((aq.alloc (ab (bG ba.zero) 254)).setRow aq (bG v)).heap.size:=bZ u;clear t fr D i O s ps;generalize (aq.alloc (ab (bG ba.zero) 254)).setRow aq (bG v)=aF at *;generalize aq.alloc (ab (bG ba.zero) 254)=ajX at *;have M:=pj aF;have lb:=aP aF (ab (bG ba.zero) 254);have gf:=b2 u (ab (bG ba.zero) 254);have W:=b2 V (ab (bG ba.zero) 254);have E:=(bd aF).alloc (ab (bG ba.zero) 254);have r':=bK.trans E;have f:=P.keeps E id id;clear u V E bK P;generalize Q':aq.heap.size=X at *;generalize Tq:aF.heap.size=Z at *;generalize aF.alloc (ab (bG ba.zero) 254)=br at *;have l':∀ w',(∃ n,w'=br.drewN n)->(Instr.loadAt 254 Z).run prog w'=.ok (.agg (bG ba.zero)) w':=by
  rintro w' ⟨m,rfl⟩;exact wz lb
 have bw:=f.bw;have bP:=f.bP;have j:=ad f;clear f Q' Tq;go_wp2_with (first|(refine eL L rfl rfl ?_)|(refine eL M rfl rfl ?_)|(refine c' mv rfl rfl rfl rfl ?_));simp only[Act.put,dV];refine jE 10 bc bc ?_;simp only[lC,mL,lz,k2]
 repeat (first|(refine rV l' rfl rfl rfl ?_;simp only[Act.put,dV])|go_big_quiet_step (fail))
 refine wpQuiet_nil ?_;intro _ v';have⟨nq,ys⟩:=v';subst ys;have m':=(j.o.drew nq).store N ba.zero;have l:=(j.o.drew nq).setBody first ba.zero
 have sd:=((r'.drewN nq).mono (T:=λb=>b=r\/b=B) λ_ _ x=>x.elim).trans ((jw (br.drewN nq) B (iT (A.set first ba.zero))).mono λ_ _=>Or.inr);have g':((br.drewN nq).setRow B (iT (A.set first ba.zero))).heap[X]?=some (ab (bG v) 254 (0,0)):=(jw (br.drewN nq) B _).heap gf I;have Y:((br.drewN nq).setRow B (iT (A.set first ba.zero))).heap[w.heap.size]?=some (ab (bG ba.zero) 254 (0,0)):=(jw (br.drewN nq) B _).heap W I;clear l' bw bP j r' gf W lb mv L M;generalize (br.drewN nq).setRow B (iT (A.set first ba.zero))=F at *;go_wp2_with (refine c' m' rfl rfl rfl rfl ?_);refine(Fy l 1 a 1 rfl I zd.o).mono ?_;rintro e vl ⟨rfl,d,rfl⟩;have c:=l.drew d;have hd:(F.drewN d).heap[X]?=some (ab (bG v) 254 (0,0)):=g';have a':(F.drewN d).heap[w.heap.size]?=some (ab (bG ba.zero) 254 (0,0)):=Y;have se:=sd.drewN d;clear m' l g' Y sd;generalize F.drewN d=vl at *;have Q:=c.ux a TS;have q:=Q.uw (n-1) I;rw[show((n-1:J):U)=(n:U)-1 by omega]at q;have s':=(se.setCell (p:=ah r 1) (.inl rfl) (aa a)).setCell (p:=ah r 2) (.inl rfl) (aa ((n:U)-1));have h2:=eB (p:=ah r 2) (eB (p:=ah r 1) hd (by show X≠r;omega) (aa a)) (by show X≠r;omega) (aa ((n:U)-1));have fo:=eB (p:=ah r 2) (eB (p:=ah r 1) a' (by show w.heap.size≠r;omega) (aa a)) (by show w.heap.size≠r;omega) (aa ((n:U)-1));have f1:=c.f1;have f2:=c.f2;have bP:=c.bP;have bB:=c.bB;have T':=wz h2;obtain⟨V',vs,C⟩:=dT _ 254 7 w (bG v) _ sizeOf254 rfl rfl fo (oC _);have zp:=q.keeps C (by show r≠w.heap.size;omega) (by show B≠w.heap.size;omega);have W':=c1 s' C a1;clear c Q q se s' hd a' h2 fo C;generalize ((vl.setCell (ah r 1) (aa a)).setCell (ah r 2) (aa ((n:U)-1))).setRow w (bG v)=ajW at *;go_wp2_with (first|(refine dg T' rfl rfl rfl ?_)|(refine c' V' rfl rfl rfl rfl ?_));refine dH (v:=aV #[.agg (bG v),true]) QI rfl ?_;exact⟨rfl,zp,W'⟩
def jK(w:aj)(r B size:J)(L:ai ba):ae:=∃ A first,hx w r B size A first L.length/\Holds A first size L
variable{L:ai ba}
def jK.keeps{w':aj}(h:jK w r B size L)(hk:ag S w w')(b:¬ S r)(a:¬ S B):jK w' r B size L:=by
 exact IC
def jK.le(h:jK w r B size L):L.length<=size/\1<=size/\size<=4096/\r<w.heap.size/\B<w.heap.size/\r≠B:=by
 exact Im
def Nl(h:jK w r B size L)(aw:L.length<size)(v:ba):aB 246 #[r,.agg (bG v)] w λe w'=>e=aa 0/\jK w' r B size (L++[v])/\ag (λb=>b=r\/b=B) w w':=by
 obtain⟨A,f,h1,h2⟩:=h;refine aS (ac6 h1 aw _ rfl v) λw' ⟨a,c⟩=>?_;exact⟨rfl,⟨_,f,vg,h2.push h1.fst h1.ig aw v⟩,c⟩
def Nn(h:jK w r B size L)(aw:L.length=size)(v:ba):aB 246 #[r,.agg (bG v)] w λe w'=>e=aa 8/\jK w' r B size L/\ag (λb=>b=r\/b=B) w w':=by
 have c:=h.le;have a:=h;obtain⟨A,f,h1,h2⟩:=h;refine aS (ac7 h1 aw v) λw' al=>?_;exact⟨rfl,a.keeps (ag.bU (S:=aH) al a1) id id,ag.bU al a1⟩
def ac9{v:ba}(h:jK w r B size (v :: L)):aB 261 #[r] w λe w'=>e=aV #[.agg (bG v),true]/\jK w' r B size L/\ag (λb=>b=r\/b=B) w w':=by
 obtain⟨A,f,h1,h2⟩:=h;have d:=h2 0 aM;rw[tj,kE h1.fst]at d;refine aS (ac4 h1 aM _ rfl v zG) λw' ⟨a,c⟩=>?_;exact⟨rfl,⟨_,_,vg,h2.pop h1.fst h1.f_ aM _⟩,c⟩
def ac_(h:jK w r B size []):aB 261 #[r] w λe w'=>e=aV #[.agg (bG ba.zero),false]/\jK w' r B size []/\ag (λb=>b=r\/b=B) w w':=by
 have c:=h.le;have a:=h;obtain⟨A,f,h1,h2⟩:=h;refine aS (ac5 h1) λw' al=>?_;exact⟨rfl,a.keeps (ag.bU (S:=aH) al a1) id id,ag.bU al a1⟩
end
def abw:(prog.info? 254).map (λi=>(i.zero,i.size,i.bytes))=some (some (.agg (bG ba.zero)),7,56):=bc
def ajp:madeCells (Value.agg (bG ba.zero)).cells 56=iT (replicate 8 ba.zero):=bc
def ac8(w:aj):aB 196 #[aa 8] w λe w'=>e=aV #[bM (w+1),aa 0]/\jK w' (w.heap.size+1) w 8 []/\Below w w w'/\w'.heap.size=w.heap.size+2:=by
 obtain⟨m,av,k,l,d⟩:∃ i,prog.info? 254=some i/\i.zero=some (.agg (bG ba.zero))/\i.size=7/\i.bytes=56:=by
  have h:=abw;cases aT:prog.info? 254 with
  | none=>rw[aT]at h;cases h
  | some i=>rw[aT]at h;simp only[r7,jn,mM]at h;exact⟨i,rfl,h.1,h.2.1,h.2.2⟩
 have g:=run_make (P:=prog) w 250 254 m (.agg (bG ba.zero)) underlying250 av k .i64 .i64 8 8 I (kA _) xt I;rw[l,show(8:U).toNat*7=56 from rfl,ajp,show(8:U).toNat=8 from rfl]at g;have al:Below w w ((w.alloc (ab (iT (replicate 8 ba.zero)) 254)).alloc (ab #[au (bT w) 8 8,aa 0,aa 0] 388)):=((b9 _ w).alloc bu _).alloc aM _;have a:=aP (w.alloc (ab (iT (replicate 8 ba.zero)) 254)) (ab #[au (bT w) 8 8,aa 0,aa 0] 388);have c:=b2 (aP w (ab (iT (replicate 8 ba.zero)) 254)) (ab #[au (bT w) 8 8,aa 0,aa 0] 388);have aA:((w.alloc (ab (iT (replicate 8 ba.zero)) 254)).alloc (ab #[au (bT w) 8 8,aa 0,aa 0] 388)).heap.size=w.heap.size+2:=aM;have j:(w.alloc (ab (iT (replicate 8 ba.zero)) 254)).heap.size=w.heap.size+1:=aM;rw[j]at a;generalize f:iT (replicate 8 ba.zero)=n at *;have b:=ad f
 go_in
 go_wp2_with fail;refine bJ (BJ 8 w) ?_;go_wp2;go_ret2;exact⟨rfl,⟨replicate 8 ba.zero,0,⟨a,by rw[b.o];exact c,aM,I,I,I,aM,I⟩,λt aW=>absurd aW (lD _)⟩,al,aA⟩
end Go.Proofs.YtalagblioepadaaGreatDoor
