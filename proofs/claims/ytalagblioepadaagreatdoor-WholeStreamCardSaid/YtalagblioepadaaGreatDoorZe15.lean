/- The proof, part 15. -/
import Derived.Test.YtalagblioepadaaGreatDoorZe13
import Derived.Test.YtalagblioepadaaGreatDoorZe02
import Derived.Test.YtalagblioepadaaGreatDoorZe03
import Derived.Shelf.SlicesE.DeleteFunc
import Derived.Lib.OwnBridge
import Derived.Sort.OwnSortedInts
namespace Go.Proofs.YtalagblioepadaaGreatDoor
set_option linter.all false
open Proofs.Tryz List Go.RowKit
set_option maxRecDepth 100000
set_option maxHeartbeats 1600000
variable{ww:Prop}
def vf(h:ww:=by unfold gB;omega):=h
def C1(h:ww:=by unfold lE;omega):=h
def QU(h:ww:=by have:=(hN.1 ao).2;simpa using this):=h
variable{T:J->ae}{α:Type}{aq:aj}
section
def nX(S:ai (U×aY)):ai ay:=S.flatMap λp=>[(bf p.1),.bool p.2]
def ahh(S:ai (U×aY)):(nX S).length=S.length*2:=by
 induction S with
 | nil=>rfl
 | cons c S a=>simp only[nX,jY,uY,qP,gN]at a⊢;omega
def Pe(S:ai (U×aY))(i:J)(h:i<S.length):(nX S)[i*2]?=some (bf (S[i].1))/\(nX S)[i*2+1]?=some (.bool S[i].2):=by
 induction S generalizing i with
 | nil=>exact absurd h (lD _)
 | cons c S a=>
  simp only[nX,jY]at a⊢;cases i with
  | zero=>simp
  | succ i=>
   have:=a i j0
   simp only[k5,Cy,l5,p2];exact this
def ahi(S:ai (U×aY))(i:J)(x:U)(b:aY):((nX S).set (i*2) (bf x)).set (i*2+1) (.bool b)=nX (S.set i (x,b)):=by
 induction S generalizing i with
 | nil=>rfl
 | cons c S a=>
  cases i with
  | zero=>rfl
  | succ i=>
   have h:=a i;simp only[nX,jY,k5,l5,p2,zr]at h⊢;rw[h]
structure gk(w:aj)(r B size first:J)(S:ai (U×aY)):ae where
 head:w.heap[r]?=some (ab #[aa first,au (some (eo B 0 db)) size size] 417 (0,0))
 body:w.heap[B]?=some (ab (nX S).toArray 422 (0,0))
 ha:S.length=size
 pos:0<size
 most:size<=4096
 fst:first<=1073741824
 ne:r≠B
namespace gk
variable{w w':aj}{r B size first:J}{S:ai (U×aY)}
theorem keeps(h:gk w r B size first S)(hk:ag T w w')(h1:¬ T r)(h2:¬ T B):gk w' r B size first S:=
 ⟨hk.heap h.head h1,hk.heap h.body h2,h.ha,h.pos,h.most,h.fst,h.ne⟩
def drew(h:gk w r B size first S)(n:J):gk (w.drewN n) r B size first S:=⟨h.head,h.body,h.ha,h.pos,h.most,h.fst,h.ne⟩
def bw(h:gk w r B size first S):w.cell? (ah r 0)=some (aa first):=bb h.head rfl
def bP(h:gk w r B size first S):w.cell? (ah r 1)=some (au (bT B) size size):=bb h.head rfl
end gk
def gB(first size:J)(f:U):ae:=(first:U)<=f/\f<first+size/\f<=1073741824
section
variable{w w':aj}{r B size first:J}{S:ai (U×aY)}
def GV(h:gk w r B size first S)(f:U)(a:¬ gB first size f)(d:-9223372036854775808<=f/\f<=9223372036854775807):aB 291 #[r,aa f] w λe w'=>e=.returned (.pointer none)/\∃ q,w'=w.drewN q:=by
 have bw:=h.bw;have bP:=h.bP;have bS:=h.fst;have c:=h.most;unfold gB at a;by_cases h1:f<first
 .clear a;exact zP
 exact Tm
def B7(h:gk w r B size first S)(n k:J)(f:U)(a:f=n)(b:gB first size f)(hk:n%size=k):aB 291 #[r,aa f] w λe w'=>e=.returned (.pointer (dk B (k*2)))/\∃ q,w'=w.drewN q:=by
 have bw:=h.bw;have bP:=h.bP;have bS:=h.fst;have c:=h.most;have⟨h1,h2,g⟩:=b;have i:f-first<size:=I
 have l:IntKind.i64.wrap (f-first)=f-first:=e0 _ I
 have j:k<size:=hk▸gb _ h.pos;have aW:f.tmod (size:U)=(k:U):=by
  rw[a,oW I,<-hk];simp
 have m:((size:U) == 0)=false:=by have:=h.pos;rw[ep];omega
 have d:0<=f:=I;clear hk a
 go_in
 go_wp2;go_quiet (fail);go_wp2;go_quiet (fail);go_wp2;go_ret;exact⟨rfl,_,by rw[Hm]⟩
def aiP(h:gk w r B size first S):aB 342 #[r] w λe w'=>e=aa first/\w=w':=by
 have bw:=h.bw;exact er
end
end
section
variable{w w':aj}{r B size first:J}{S:ai (U×aY)}
def gk.slot(h:gk w r B size first S){k:J}{x:U}{b:aY}(hk:S[k]?=some (x,b)):w.cell? (ah B (k*2))=some (bf x)/\w.cell? (ah B (k*2+1))=some (.bool b):=by
 have⟨a,ak⟩:=ir.1 hk;have⟨h1,h2⟩:=Pe S k a;rw[ak]at h1 h2;exact⟨bb h.body (by simpa using h1),bb h.body (by simpa using h2)⟩
theorem gk.yZ(h:gk w r B size first S)(k:J)(x:U)(b:aY):gk ((w.setCell (ah B (k*2)) (bf x)).setCell (ah B (k*2+1)) (.bool b)) r B size first (S.set k (x,b)):=
 ⟨eB (eB h.head h.ne _) h.ne _,by have:=bX (bX h.body (k*2) (bf x)) (k*2+1) (.bool b);rw[<-ahi];simpa using this,by simpa using h.ha,h.pos,h.most,h.fst,h.ne⟩
def aiR(h:gk w r B size first S)(f:U)(a:¬ gB first size f)(b:-9223372036854775808<=f/\f<=9223372036854775807):aB 226 #[r,aa f] w λe w'=>e=aV #[(bf 0),false]/\∃ q,w'=w.drewN q:=by
 have c:=ad (GV h f a b);clear a b
 go_in
 go_wp2_with fail;refine c.o.mono ?_;rintro e w' ⟨rfl,q,rfl⟩;go_wp2;go_ret2;exact⟨rfl,_,rfl⟩
def PV(h:gk w r B size first S)(n k:J)(f:U)(c:f=n)(a:gB first size f)(hk:n%size=k)(x:U)(b:aY)(ax:S[k]?=some (x,b)):aB 226 #[r,aa f] w λe w'=>e=aV #[if b then(bf x)else(bf 0),.bool b]/\∃ q,w'=w.drewN q:=by
 have d:=ad (B7 h n k f c a hk);have⟨hJ,s1⟩:=h.slot ax;clear c a hk ax;cases b with
 | true=>
  exact Tt
 | false=>
  exact Tt
def aiT(h:gk w r B size first S)(f:U)(a:¬ gB first size f)(b:-9223372036854775808<=f/\f<=9223372036854775807)(x:U):aB 248 #[r,aa f,(bf x)] w λe w'=>e=aa (if f<first then 10 else 8)/\∃ q,w'=w.drewN q:=by
 have C:=ad (GV h f a b);have bw:=h.bw;clear a b;by_cases h1:f<first
 .rw[aD h1];refine Dz;exact Vt
 rw[az h1]
 go_in
 refine DO;exact Vt
def aiS(h:gk w r B size first S)(n k:J)(f:U)(c:f=n)(a:gB first size f)(hk:n%size=k)(y:U):aB 248 #[r,aa f,(bf y)] w λe w'=>e=aa 0/\gk w' r B size first (S.set k (y,true))/\ag (λb=>b=B) w w':=by
 have d:=ad (B7 h n k f c a hk);have bw:=h.bw;have g:k<S.length:=by rw[h.ha,<-hk];exact gb _ h.pos
 have⟨hJ,s1⟩:=h.slot (k:=k) (x:=S[k].1) (b:=S[k].2) (gW g);have g0:=gY h.body (k*2);have g1:=gY h.body (k*2+1);have h1:=a.1;clear c a hk
 go_in
 go_wp2_with fail;refine d.o.mono ?_;rintro e w' ⟨rfl,q,rfl⟩;go_wp2;go_ret;exact⟨rfl,(h.drew q).yZ k y true,(((ag.refl (λb=>b=B) w).drewN q).setCell (p:=ah B (k*2)) rfl _).setCell (p:=ah B (k*2+1)) rfl _⟩
end
def abB:(prog.info? 422).map (λi=>(i.zero,i.size,i.bytes))=some (some (aG #[(bf 0),false]),2,2):=bc
def ahj(n:J):madeCells (aG #[(bf 0),false]).cells (n*2)=(nX (replicate n ((0:U),false))).toArray:=by
 apply Hb.1;apply ext_getElem?;intro j;by_cases a:j<n*2
 .have b:j / 2<(replicate n ((0:U),false)).length:=b_;obtain⟨h1,h2⟩:=Pe (replicate n ((0:U),false)) (j / 2) b;simp only[getElem_replicate]at h1 h2;rcases Nat.mod_two_eq_zero_or_one j with h|h
  .have e:j / 2*2=j:=I;rw[e]at h1;rw[h1];simp[madeCells,a,Value.cells,h]
  have e:j / 2*2+1=j:=I;rw[e]at h2;rw[h2];simp[madeCells,a,Value.cells,h]
 rw[uX (by simp[madeCells];omega),uX (by show(nX _).length<=j;rw[ahh,uZ];omega)]
def PW(size first:J)(h1:1<=size)(h2:size<=4096)(f:first<=1073741824)(w:aj):aB 258 #[aa size,aa first] w λe w'=>e=aV #[bM (w+1),aa 0]/\gk w' (w.heap.size+1) w size first (replicate size (0,false))/\Below w w w'/\w'.heap.size=w.heap.size+2:=by
 have⟨i,av,g,h,d⟩:=pY abB;have hd:decide (1<=(size:U)/\(size:U)<=4096)=true:=b_;have b:=run_make (P:=prog) w 415 422 i (aG #[(bf 0),false]) underlying415 av g .i64 .i64 size size I (kA _) xt I;rw[h,rY,ahj]at b;have⟨Z,a⟩:=c8 (replicate size ((0:U),false));have c:=ad a;rw[<-a]at b;rw[<-a];clear a
 go_in
 go_wp2_with fail;refine bJ (BJ size w) ?_;rw[hd];go_wp2;go_ret2;refine⟨rfl,⟨?_,?_,by rw[c.o];simp,h1,h2,f,I⟩,((b9 _ w).alloc bu _).alloc aM _,aM⟩
 .have:=aP (w.alloc (ab (nX Z).toArray 422)) (ab #[aa first,au (bT w) size size] 417)
  exact mO
 have:=b2 (aP w (ab (nX Z).toArray 422)) (ab #[aa first,au (bT w) size size] 417)
 exact mO
section
attribute [local go_sem] Oper.semAt_some
def rj(S:ai (U×aY))(size f:J):aY:=decide (f<=1073741824)&&((S[f%size]?).map (·.2)).getD false
def kN(S:ai (U×aY))(size first:J)(fr:U)(k:J):ai J:=((range k).map (first+·)).filter λf=>decide (fr<=(f:U))&&rj S size f
def EM(S:ai (U×aY))(size first:J)(fr:U)(k:J):kN S size first fr (k+1)=kN S size first fr k++if (decide (fr<=((first+k:J):U))&&rj S size (first+k))=true then [first+k]else []:=by
 unfold kN;exact TK
def Z7(S:ai (U×aY))(size first:J)(fr:U)(k:J)(hk:k<size)(h:(decide (fr<=((first+k:J):U))&&rj S size (first+k))=true):∃ rest,kN S size first fr size=kN S size first fr k++(first+k) :: rest:=by
 have:∀ d,∃ rest,kN S size first fr (k+1+d)=kN S size first fr k++(first+k) :: rest:=by
  intro d
  induction d with
  | zero=>exact⟨[],by rw[tj,EM,if_pos h]⟩
  | succ d b=>
   have⟨r,a⟩:=b;exact⟨r++_,by rw[<-jZ,EM,a,eh,l5]⟩
 have⟨r,a⟩:=this (size-(k+1));exact⟨r,by rw[<-a];congr 1;omega⟩
section
variable{w w':aj}{r B size first:J}{S:ai (U×aY)}
def aiW(r:J)(f:U)(w:aj):aB 290 #[r,aa f] w λe w'=>e=.returned (.func (.func 330) #[] #[w.heap.size,bM (w+1)])/\(w.alloc (ab #[r] 165)).alloc (ab #[aa f] 3)=w':=by
 exact er
def aa_(h:gk w r B size first S)(n:J):rj S size n=(decide (n<=1073741824)&&(S[n%size]'(CS)).2):=by
 unfold rj;exact Vs
def Z5(h:gk w r B size first S)(a c:J)(fr:U)(an:w.cell? (ah a 0)=some (bM r))(V:w.cell? (ah c 0)=some (aa fr))(o:J->ae)(g:¬ o a/\¬ o c/\¬ o r/\¬ o B)(l':a<w.heap.size/\c<w.heap.size):q1 prog 330 #[a,c] (λf:J=>#[aa f]) (kN S size first fr size) o (λ_=>False) w:=by
 intro l E W Y hk m' A R Q;subst Y;have lp:=bZ h.head;have ps:=bZ h.body;have bS:=h.fst;have h2:=h.most;refine h0.2 ?_;have T:=hk.cell an id;have p:=h.keeps hk id id;have lb:=p.bP
 go_in
 go_wp2_with fail
 go_loopw [14] (λv wr=>∃ k:J,k<=size/\v=aa k/\wr.cell? (ah a 0)=some (bM r)/\wr.cell? (ah c 0)=some (aa fr)/\gk wr r B size first S/\E (kN S size first fr k) wr/\w.heap.size+2<=wr.heap.size)
  (λv _=>size-(intOf v).toNat)
 case atStart=>exact⟨0,c3 _,rfl,T,hk.cell V id,p,by simpa[kN]using Q,I⟩
 obtain⟨k,mv,rfl,u,y,b,s,z⟩:=hrel;by_cases a':k<size
 .have bw:=b.bw;have j:=EM S size first fr k
  have e:=aa_ b (first+k);have n:(first:U)+(k:U)=((first+k:J):U):=I;by_cases P:1073741824<first+k
  .have Z:=ad (GV b ((first:U)+k) vf I);have aT:rj S size (first+k)=false:=by rw[e];simp;omega
   refine U0;by_cases X:fr<=(first:U)+k
   .refine si;refine z_;exact DZ
   refine aK;refine Z.out.mono ?_;refine z_;exact DZ
  refine S6;have C:=ad (B7 b (first+k) d ((first:U)+k) n vf m);have ax:S[d]?=some ((S[d].1:U),S[d].2):=gW L;have⟨_,s1⟩:=b.slot ax;have aT:rj S size (first+k)=S[d].2:=by rw[e];simp only[m];rw[show decide (first+k<=1073741824)=true from dh I,r_]
  have H:=Z7 S size first fr k a'
  refine S7;by_cases X:fr<=(first:U)+k
  .cases M with
   | false=>
    refine DO;refine z_;exact WZ
   | true=>
    refine DO;refine z_;refine Uk;have⟨fn,tmps,assign,body,a8,t⟩:=R (kN S size first fr k) (first+k) rest (wr.drewN q) G N;exact Ss
  refine DO;refine z_;exact WR
 exact Va
end
end
def ji(L:ai J):ai U:=L.map λf:J=>(f:U)
def Z6(S:ai (U×aY))(size first:J)(fr:U)(k:J):(kN S size first fr k).length<=k:=by
 exact Je
section
variable{w w':aj}{r B size first:J}{S:ai (U×aY)}
def aiU(h:gk w r B size first S)(fr:U):aB 78 #[.func (.func 330) #[] #[w.heap.size,bM (w+1)]] ((w.alloc (ab #[r] 165)).alloc (ab #[aa fr] 3)) λe w'=>
   ∃ v,e=.returned v/\w'.ownsRow (w.heap.size+5) 3 1 v (kN S size first fr size).length (mq (ji (kN S size first fr size)))/\Below w w w':=by
 obtain⟨aF,a⟩:∃ aF,(w.alloc (ab #[r] 165)).alloc (ab #[aa fr] 3)=aF:=⟨_,rfl⟩;have hk:ag aH w aF:=by rw[<-a];exact((ag.refl _ w).alloc _).alloc _
 have aA:aF.heap.size=w.heap.size+2:=by rw[<-a];simp
 have an:aF.cell? (ah w 0)=some (bM r):=by rw[<-a];exact sE (pn _ _ _) _
 have d:aF.cell? (ah (w+1) 0)=some (aa fr):=by rw[<-a];have:=pn (w.alloc (ab #[r] 165)) (aa fr) 3;rw[ft]at this;exact this
 have lp:=bZ h.head;have g:=bZ h.body;rw[a]
 have al:=OV (w:=aF) (λf:J=>(f:U)) 330 #[w.heap.size,bM (w+1)] (enters_of func330 bc rfl) (kN S size first fr size) (cu (Z6 _ _ _ _ _) h.most)
  (Z5 ((h.keeps hk id id).keeps ((bd aF).alloc _) id id) w (w.heap.size+1) fr (sE an _) (sE d _) _ ⟨I,I,I,I⟩ ⟨b_,b_⟩)
 rw[aA]at al;exact al.mono λe w' ⟨v,h1,b,c⟩=>⟨v,h1,b,(hk.below bu (λ_ _=>id)).trans (c.mono I)⟩
def aiQ(h:gk w r B size first S):aB 225 #[r] w λe w'=>
   ∃ v,e=.returned v/\w'.ownsRow (w.heap.size+5) 3 1 v (kN S size first 0 size).length (mq (ji (kN S size first 0 size)))/\Below w w w':=by
 go_in
 go_wp2_with fail;refine bJ (aiW r 0 w) ?_;go_wp2_with fail;refine(aiU h 0).mono ?_;rintro e br ⟨v,rfl,h1,h2⟩;go_wp2;go_ret;exact⟨_,rfl,h1,h2⟩
end
section
structure pf(S:ai (U×aY))(size first:J)(L:ai (J×U)):ae where
 ha:S.length=size
 pos:0<size
 eV:qY L
 ik:∀ p∈L,first<=p.1/\p.1<first+size/\p.1<=1073741824
 nZ:∀ f x,eu L f=some x->S[f%size]?=some (x,true)
 oE:∀ f,first<=f->f<first+size->f<=1073741824->eu L f=none->∃ y,S[f%size]?=some (y,false)
def ml(S:ai (U×aY))(size:J)(a:ai J):ai (U×aY):=a.foldl (λS f=>S.set (f%size) (0,false)) S
def Y2(S:ai (U×aY))(size:J)(a:ai J):(ml S size a).length=S.length:=by
 unfold ml
 induction a generalizing S with
 | nil=>rfl
 | cons f a b=>rw[r1,b];simp
def Y3(S:ai (U×aY))(size:J)(a:ai J)(f:J):ml S size (a++[f])=(ml S size a).set (f%size) (0,false):=by
 unfold ml;exact Ab
def Fx{size first a b:J}(bg:first<=a/\a<first+size)(al:first<=b/\b<first+size)(h:a%size=b%size):a=b:=by
 have h1:=r5 a size;have h2:=r5 b size;rw[h]at h1;rcases QD (a / size) (b / size)with c|c|c
 .exact Rt
 .rw[c]at h1;omega
 exact Rt
def Lh(S:ai (U×aY))(size first:J)(a:ai J)(aA:S.length=size)(b:∀ f∈a,first<=f/\f<first+size)(g:J)(a7:first<=g/\g<first+size):(ml S size a)[g%size]?=if g∈a then some (0,false)else S[g%size]?:=by
 have ao:0<size:=I
 induction a generalizing S with
 | nil=>rfl
 | cons f a c=>
  have e:ml S size (f :: a)=ml (S.set (f%size) (0,false)) size a:=rfl;exact Q6
def M'{L:ai (J×α)}{f:J}(h:∀ p∈L,p.1≠f):eu L f=none:=by
 rcases a:eu L f with _|x
 .rfl
 exact absurd rfl (h _ (wA a))
namespace pf
variable{S:ai (U×aY)}{size first:J}{L:ai (J×U)}
def put(h:pf S size first L)(f:J)(x:U)(a:first<=f/\f<first+size/\f<=1073741824):pf (S.set (f%size) (x,true)) size first (fR L f x) where
 ha:=by simpa using h.ha
 pos:=h.pos
 eV:=Kr h.eV f x
 ik p ao:=by
  exact Rv
 nZ g y a7:=by
  exact Q7
 oE g h1 h2 b a7:=by
  exact Rf
def has(h:pf S size first L)(f:J)(h1:first<=f)(h2:f<first+size):rj S size f=(eu L f).isSome:=by
 unfold rj;exact Ra
def wh(h:pf S size first L)(fr:U):kN S size first fr size=(L.map (·.1)).filter λf:J=>decide (fr<=(f:U)):=by
 exact Q9
def drop(h:pf S size first L)(p:J->aY):pf (ml S size ((L.map (·.1)).filter p)) size first (L.filter λq=>!p q.1):=by
 refine Q5;refine⟨by rw[Y2,h.ha],h.pos,Kq h.eV _,λq b=>h.ik q (hN.1 b).1,λf x a=>?_,λf h1 h2 g a=>?_⟩
 .rw[Bn (p:=λn=>!p n)]at a;split at a
  .rename_i ao;have av:=h.ik _ (wA a);rw[Lh S size first _ h.ha d f ⟨av.1,av.2.1⟩,az (λc=>by have:=((e f).1 c).2;simp[this]at ao)];exact h.nZ f x a
  cases a
 rw[Lh S size first _ h.ha d f ⟨h1,h2⟩];exact Q8
def move(h:pf S size first L)(n:J)(aw:first<=n)(a:∀ p∈L,n<=p.1):pf S size n L where
 ha:=h.ha
 pos:=h.pos
 eV:=h.eV
 ik p ao:=⟨a p ao,by have:=h.ik p ao;omega,(h.ik p ao).2.2⟩
 nZ:=h.nZ
 oE f h1 h2 b c:=by
  exact Q4
end pf
end
section
variable{w w':aj}{r B size first:J}{S:ai (U×aY)}
def abL(a:ai J)(k:J)(h:k<a.length):(mq (ji a))[k]?=some (aa (a[k]:J)):=by simp[mq,ji,h]
def aiV(h:gk w r B size first S)(a:ai J)(A:cr Addr)(cap:J)(a_:ey w 1 A a.length cap (mq (ji a)))(s:0<a.length->∀ x,A=some x->x.block≠B)(l:∀ f∈a,gB first size (f:U)):aB 288 #[r,au A a.length cap] w λe w'=>e=aa (a.length:U)/\gk w' r B size first (ml S size a)/\ag (λb=>b=B) w w':=by
 have o:a.length<=9223372036854775807:=cu a_.2.1 a_.2.2.1
 go_in
 go_wp2;go_loopw [9] (λi wr=>∃ k:J,k<=a.length/\i=aa k/\gk wr r B size first (ml S size (a.take k))/\ag (λb=>b=B) w wr) (λi _=>a.length-(intOf i).toNat)
 case atStart=>exact⟨0,c3 _,rfl,h,ag.refl _ w⟩
 obtain⟨k,hk,rfl,c,j⟩:=hrel;by_cases g:k<a.length
 .refine Ue;have E:=ad (B7 c a[k] (a[k]%size) _ rfl (l _ (oY g)) rfl);have n:ml S size (a.take (k+1))=(ml S size (a.take k)).set (a[k]%size) (0,false):=by rw[l7 g,Y3]
  have m:a[k]%size<(ml S size (a.take k)).length:=by rw[c.ha];exact gb _ c.pos
  generalize a[k]=f at *;generalize f%size=d at *;generalize ml S size (a.take k)=D at *;have⟨hJ,s1⟩:=c.slot (k:=d) (x:=D[d].1) (b:=D[d].2) (gW m);have g0:=gY c.body (d*2);have g1:=gY c.body (d*2+1);refine IQ;refine aK;go_roundw
  case rel=>exact⟨k+1,I,cT,by rw[n];exact(c.drew q).yZ d 0 false,((j.drewN q).setCell (p:=ah B (d*2)) rfl _).setCell (p:=ah B (d*2+1)) rfl _⟩
  simp[intOf];omega
 exact TE
def i'(w:aj)(r B size first:J)(L:ai (J×U)):ae:=∃ S,gk w r B size first S/\pf S size first L
def i'.keeps{L:ai (J×U)}(h:i' w r B size first L)(hk:ag T w w')(h1:¬ T r)(h2:¬ T B):i' w' r B size first L:=by
 exact VH
variable{L:ai (J×U)}
def i'.le(h:i' w r B size first L):L.length<=size/\0<size/\size<=4096/\first<=1073741824/\r<w.heap.size/\B<w.heap.size/\r≠B:=by
 exact Wj
def MH(h:i' w r B size first L):aB 225 #[r] w λe w'=>∃ v,e=.returned v/\w'.ownsRow (w.heap.size+5) 3 1 v (L.map (·.1)).length (mq (ji (L.map (·.1))))/\Below w w w':=by
 have⟨S,h,b⟩:=h;have a:=aiQ h;rw[b.wh 0,pZ.2 (λn _=>aM)]at a;exact a
def abN(h:i' w r B size first L):aB 342 #[r] w λe w'=>e=aa first/\w=w':=by
 have⟨S,h,a⟩:=h;exact aiP h
def abT(h:i' w r B size first L)(f:U)(a:¬ gB first size f)(b:-9223372036854775808<=f/\f<=9223372036854775807)(x:U):aB 248 #[r,aa f,(bf x)] w λe w'=>e=aa (if f<first then 10 else 8)/\∃ q,w'=w.drewN q:=by
 have⟨S,h,c⟩:=h;exact aiT h f a b x
def MK(h:i' w r B size first L)(n:J)(f:U)(d:f=n)(a:gB first size f)(x:U):aB 248 #[r,aa f,(bf x)] w λe w'=>e=aa 0/\i' w' r B size first (fR L n x)/\ag (λb=>b=B) w w':=by
 obtain⟨S,h,c⟩:=h;refine aS (aiS h n _ f d a rfl x) ?_;rintro w' ⟨h1,h2⟩;exact⟨rfl,⟨_,h1,c.put n x zD⟩,h2⟩
end
def h_{α:Type}:ai (J×α)->U->Option α
 | [],_=>none
 | (g,y) :: r,f=>if (g:U)=f then some y else h_ r f
def yy(L:ai (J×α))(n:J):h_ L (n:U)=eu L n:=by
 induction L with
 | nil=>rfl
 | cons c L a=>
  have⟨g,y⟩:=c;simp only[h_,eu,a];by_cases h:g=n
  .rw[aD I,aD h]
  rw[az I,az h]
def M_{L:ai (J×α)}{f:U}(h:∀ p∈L,((p.1:J):U)≠f):h_ L f=none:=by
 induction L with
 | nil=>rfl
 | cons c L a=>
  have⟨g,y⟩:=c;simp only[h_];rw[az (h (g,y) aM),a (λp ao=>h p (by simp[ao]))]
def Ev:Go.Shelf.Ren:=⟨fun|10=>222|6=>289|n=>n,fun|0=>0|3=>3|4=>4|22=>141|23=>3|25=>228|n=>n,fun|n=>n⟩
def Ld:SlLaysH.n10 prog Ev:={
 mixed:=bc
 f6:=⟨f289.name,bs,func289.trans (c6 some bc)⟩
 f10:=⟨f222.name,bs,func222.trans (c6 some bc)⟩
 t0:=underlying0
 a0:=isAgg0
 z0:=sizeOf0
 v0:=zeroValue0
 t3:=underlying3
 a3:=isAgg3
 z3:=sizeOf3
 v3:=zeroValue3
 t4:=underlying4
 a4:=isAgg4
 z4:=sizeOf4
 v4:=zeroValue4
 t22:=underlying141
 a22:=isAgg141
 z22:=sizeOf141
 v22:=zeroValue141
 a23:=isAgg3
 z23:=sizeOf3
 t25:=underlying228
 a25:=isAgg228
 z25:=sizeOf228
 v25:=zeroValue228}
def YX(a:ay)(w:aj):aB 222 #[au none 0 0,a] w λe w'=>e=au none 0 0/\w'=w:=by
 go_in
 go_wp2_with fail;refine zw (AnyE.slices_IndexFunc_empty (P:=prog) (ρ:=Ev) {Ld with} none 0 a w) ?_;go_wp2_with fail;go_ret;exact⟨rfl,rfl⟩
def Lc{w:aj}{base n:J}{v:ay}(cb:List U)(a:w.ownsRow base 3 1 v n (cb.map (Value.int .i64)))(aw:n<=4096)(p:U->aY)(gf:J)(lb:Array ay)(l:∀ args w,(callFunc gf args).run prog w=.ok (.enter gf args) w)(f:∀ (W:aj) (x:U),ag (λb=>v.ownBlock=some b) w W->Calls prog gf (#[aa x]++lb) W λe w'=>e=.returned (.bool (p x))/\∃ q,w'=W.drewN q):aB 222 #[v,.func (.func gf) #[] lb] w λe w'=>∃ v',e=.returned v'/\w'.ownsRow base 3 1 v' (cb.filter λx=>!p x).length ((cb.filter λx=>!p x).map (Value.int .i64))/\ag (λb=>v.ownBlock=some b) w w':=by
 by_cases a_:v=au none 0 0
 .subst a_;have r:cb=[]:=by
   rcases a.2 with⟨_,h⟩|⟨g,cap,t,h,_⟩
   .exact xc (by have:=a.1;simp at this;omega)
   cases h
  subst r;refine zw (YX _ w) ?_;exact⟨_,rfl,il _ _ _ _,ag.refl _ _⟩
 obtain⟨g,cap,rfl,u,z,o,y,s,j⟩:=Lib.holds_of_ownsRow a a_;subst s;have c:∀ (W:aj),ag (λb=>b=g) w W->ag (λb=>(au (bT g) cb.length cap).ownBlock=some b) w W:=λW h=>h.mono λk _ e=>by subst e;rfl
 have d:=AnyE.slices_DeleteFunc (P:=prog) (ρ:=Ev) Ld (Value.int .i64) (λ_=>rfl) p gf lb l 0 zeroValue3 g 0 cap cb.toArray w
  (λW x al=>f W x (c W (ag.bU al a1)))
  (λn os i x _=>f _ x (c _ ((ag.refl _ w).grown (grownBy_sortedI i) (λk hk=>.inl (by cases hk;rfl)))))
  j b_ (by simpa using o)
 rw[iw]at d;refine aS d ?_;rintro w' ⟨q,rfl⟩;have m:=oZ (λx=>!p x) cb;have ar:=Lib.ownsRow_putRow (q:=q) (k:=(cb.filter λx=>!p x).length) (ys:=(cb.filter λx=>!p x)++replicate (cb.length-(cb.filter λx=>!p x).length) 0) a b_ m;refine⟨_,rfl,?_,c _ ?_⟩
 .rw[CI]at ar;exact ar
 have a7:=grownBy_sortedI (w:=w) (g:=g) (n:=q) (os:=#[]) ((cb.filter λx=>!p x)++replicate (cb.length-(cb.filter λx=>!p x).length) 0).toArray;rw[Sort.grow_empty]at a7;exact(ag.refl _ w).grown a7 (λk hk=>.inl (by cases hk;rfl))
section
variable{w w':aj}{r B size first:J}{L:ai (J×U)}
def MI(h:i' w r B size first L)(f:U)(g:-9223372036854775808<=f/\f<=9223372036854775807):aB 226 #[r,aa f] w λe w'=>e=aV #[(bf ((h_ L f).getD 0)),.bool (h_ L f).isSome]/\∃ q,w'=w.drewN q:=by
 have⟨S,h,b⟩:=h;by_cases a:gB first size f
 .refine UG;rcases c:eu L n with _|x
  .refine S_;exact PV h n _ n rfl a rfl y false a8
  exact PV h n _ n rfl a rfl x true (b.nZ n x c)
 rw[M_ (λp ao e=>a (by have:=b.ik p ao;unfold gB;omega))];exact aiR h f a g
def MJ(h:i' w r B size first L)(f:U)(a:f<first\/1073741824<f):aB 221 #[r,aa f] w λe w'=>e=aa 0/\i' w' r B size first L/\ag aH w w':=by
 have⟨S,h,b⟩:=h;have h1:=(h.keeps (T:=aH) ((ag.refl _ w).alloc (ab #[aa f] 3)) id id);have bw:=h1.bw;have po:(w.alloc (ab #[aa f] 3)).cell? (ah w 0)=some (aa f):=pn _ _ _;have hk:ag aH w (w.alloc (ab #[aa f] 3)):=(ag.refl _ w).alloc _;by_cases h2:f<first
 .exact RH
 exact Rc
def ac0(a:J)(n x:U)(W:aj)(an:W.cell? (ah a 0)=some (aa n)):aB 287 #[aa x,a] W λe w'=>e=.returned (.bool (decide (n<=x)))/\∃ q,w'=W.drewN q:=by
 go_in
 go_wp2
 all_goals
  go_ret;exact⟨by simp_all,0,rfl⟩
theorem gk.ux{S:ai (U×aY)}(h:gk w r B size first S)(n:J)(aw:n<=1073741824):gk (w.setCell (ah r 0) (aa (n:U))) r B size n S:=
 ⟨by simpa using bX h.head 0 (aa (n:U)),eB h.body (h4 h.ne) _,h.ha,h.pos,h.most,aw,h.ne⟩
def Bf(h:i' w r B size first L)(n:J)(f:U)(q:f=n)(m:first<=n/\n<=1073741824):aB 221 #[r,aa f] w λe w'=>e=aa (((L.filter λp=>decide (p.1<n)).length:J):U)/\i' w' r B size n (L.filter λp=>!decide (p.1<n))/\ag (λb=>b=r\/b=B) w w':=by
 obtain⟨S,h,a⟩:=h;have s:ag aH w (w.alloc (ab #[aa f] 3)):=(ag.refl _ w).alloc _;have h1:=h.keeps s id id;have bw:=h1.bw;have po:(w.alloc (ab #[aa f] 3)).cell? (ah w 0)=some (aa f):=pn _ _ _;have Y:(w.alloc (ab #[aa f] 3)).heap.size=w.heap.size+1:=aM;have lp:=bZ h.head;have Z:=bZ h.body;have d:(first:U)<=f:=I;have j:f<=1073741824:=I;have hm:=(a.drop λk=>decide (k<n)).move n m.1 (λp ao=>QU);have u:((L.map (·.1)).filter λk:J=>decide (k<n)).length=(L.filter λp=>decide (p.1<n)).length:=by rw[tc,iP];rfl
 have G:∀ k∈(L.map (·.1)).filter λk:J=>decide (k<n),gB first size (k:U):=λk hk=>by
  exact TN
 have F:((ji (L.map (·.1))).filter λx=>!decide (f<=x))=ji ((L.map (·.1)).filter λk:J=>decide (k<n)):=by
  unfold ji;rw[tc]
  congr 1
  exact TU
 rw[<-u];have z:=ad q;clear u q;generalize ((L.map (·.1)).filter λk:J=>decide (k<n))=i at *;have M:(ji i).length=i.length:=by simp[ji]
 have C:=ad M;have N:(L.map (·.1)).length<=4096:=by simpa using(cu (i'.le ⟨S,h,a⟩).1 h.most)
 go_in
 go_upto_region 1 with fail
 generalize w.alloc (ab #[aa f] 3)=aq at *;generalize w.heap.size=g at *;go_quiet (fail);go_wp2_with fail;refine(MH ⟨S,h1.drew nq,a⟩).mono ?_;rintro e br ⟨v,rfl,c,E⟩;have t:ag aH aq br:=((ag.refl _ aq).drewN nq).ga E;have O:(aq.drewN nq).heap.size=aq.heap.size:=rfl;rw[O]at c;go_wp2_with fail
 refine(Lc (ji (L.map (·.1))) c N (λx=>decide (f<=x)) 287 #[g] (enters_of func287 bc rfl)
  (λW x hk=>ac0 g f x W (hk.cell (t.cell po id) (λe=>by have:=(c.lt g e).1;omega)))).mono ?_
 rintro e P ⟨v4,rfl,y,H⟩;rw[F,C.o]at y;have X:∀ b,b<aq.heap.size->¬ v.ownBlock=some b:=λb al e=>by have:=(c.lt b e).1;omega
 obtain⟨A,cap,rfl,a_,al⟩:=dA y;have l:ag (λb=>aq.heap.size<=b) aq P:=(t.mono (λ_ _ h=>h.elim)).trans (H.mono λb _ e=>(c.lt b e).1 |> λh=>I);have D:=h1.keeps l I I;go_wp2_with fail;refine aS (aiV D i A cap a_ (λ_ x ak=>CT) G) ?_;rintro Q ⟨d,j⟩;have T:=j.cell (l.cell po b_) b_;have R:=d.bw;have V:=bV d.head;have hE:=d.ux n m.2;rw[<-z.o]at hE
 have K:ag (λb=>b=r\/b=B) w (Q.setCell (ah r 0) (aa f)):=
  (((mr s).trans (l.mono λb al e=>I)).trans (j.mono λb _ e=>.inr e)).setCell (p:=ah r 0) (.inl rfl) _
 go_wp2_with fail;go_ret;exact⟨rfl,⟨_,hE,hm⟩,K⟩
end
section
structure e1(w:aj)(D first next:J)(last:U)(K de:ai (J×U)):ae where
 head:w.heap[D+4]?=some (ab #[.pointer (some (eo (D+1) 0 db)),.pointer (some (eo (D+3) 0 db)),aa next,bf last] 167 (0,0))
 known:i' w (D+1) D 64 first K
 used:i' w (D+3) (D+2) 64 first de
def lE(D b:J):ae:=D<=b/\b<=D+4
variable{w w':aj}{D first next:J}{last:U}{K de:ai (J×U)}
namespace e1
theorem keeps{S:J->ae}(h:e1 w D first next last K de)(hk:ag S w w')(aA:∀ b,D<=b->b<=D+4->¬ S b):e1 w' D first next last K de:=
 ⟨hk.heap h.head (aA _ I I),h.known.keeps hk (aA _ I I) (aA _ I I),h.used.keeps hk (aA _ I I) (aA _ I I)⟩
def keep(h:e1 w D first next last K de)(hk:ag aH w w'):e1 w' D first next last K de:=h.keeps hk (λ_ _ _=>id)
def drew(h:e1 w D first next last K de)(n:J):e1 (w.drewN n) D first next last K de:=h.keep ((ag.refl _ w).drewN n)
def bw(h:e1 w D first next last K de):w.cell? (ah (D+4) 0)=some (bM (D+1)):=bb h.head rfl
def bP(h:e1 w D first next last K de):w.cell? (ah (D+4) 1)=some (bM (D+3)):=bb h.head rfl
def bB(h:e1 w D first next last K de):w.cell? (ah (D+4) 2)=some (aa next):=bb h.head rfl
def e3(h:e1 w D first next last K de):w.cell? (ah (D+4) 3)=some (bf last):=bb h.head rfl
def lt(h:e1 w D first next last K de):D+4<w.heap.size:=bZ h.head
end e1
theorem PX{w:aj}{r B:J}(h:gk w r B 64 0 (replicate 64 ((0:U),false))):i' w r B 64 0 []:=
 ⟨_,h,aM,I,.nil,(λp ao=>by cases ao),(λf x h=>o6),λf h1 h2 a _=>⟨0,by rw[Cx,aD (gb _ I)]⟩⟩
def LC(w:aj):aB 191 #[] w λe w'=>e=.returned (w.heap.size+4:J)/\e1 w' w 0 0 0 [] []/\Below w w w':=by
 go_in
 go_wp2_with fail;refine aS (PW 64 0 I I I w) ?_;rintro aq ⟨h1,g,h⟩;have a:=ad h;go_wp2_with fail;refine aS (PW 64 0 I I I aq) ?_;rintro aF ⟨h2,b,c⟩;rw[a.o]at h2 c b;have d:=ad c;simp only[a.o];clear c;go_wp2_with fail;go_ret;have hk:ag aH aF (aF.alloc (ab #[bM (w+1),bM (w+3),aa 0,bf 0] 167)):=(ag.refl _ aF).alloc _;have aw:=aP aF (ab #[bM (w+1),bM (w+3),aa 0,bf 0] 167);have f:aF.heap.size=w.heap.size+4:=by rw[d.o]
 rw[f]at aw⊢;exact⟨rfl,⟨aw,(PX (h1.keeps (ag.bU b (λk h1 h2=>by have:=a.o;omega):ag aH aq aF) id id)).keeps hk id id,(PX h2).keeps hk id id⟩,(g.trans (b.mono I)).alloc I _⟩
def _root_.Go.Proofs.YtalagblioepadaaGreatDoor.i'.acZ{r B size:Nat}{L:List (Nat×Int)}(h:i' w r B size first L):∀ p∈L,p.1<=1073741824:=by
 have⟨S,_,h⟩:=h;exact λp ao=>(h.ik p ao).2.2
def LB(h:e1 w D first next last K de)(f:U)(a:-9223372036854775808<=f/\f<=9223372036854775807):aB 227 #[bM (D+4),aa f] w λe w'=>e=aV #[bf ((h_ K f).getD 0),.bool (h_ K f).isSome]/\∃ q,w'=w.drewN q:=by
 have bw:=h.bw
 go_in
 go_wp2_with fail;refine aS (MI h.known f a) ?_;rintro w' ⟨q,rfl⟩;go_wp2_with fail;go_ret2;exact⟨rfl,q,rfl⟩
def ZO(h:e1 w D first next last K de):aB 321 #[bM (D+4)] w λe w'=>e=aa first/\w=w':=by
 have bw:=h.bw;refine cg;refine bJ (abN h.known) ?_;exact tA
def sK(h:e1 w D first next last K de):aB 49 #[bM (D+4)] w λe w'=>e=aa next/\w=w':=by
 have bB:=h.bB
 go_in
 exact tA
def e1.put{la:ai (J×U)}(h:e1 w D first next last K de)(hk:ag (λb=>b=D) w aq)(c:i' aq (D+1) D 64 first la)(n:J)(x:U):e1 ((aq.setCell (ah (D+4) 2) (aa n)).setCell (ah (D+4) 3) (bf x)) D first n x la de:=by
 have d:=h.used.keeps hk I I;have a:ag (λb=>b=D+4) aq ((aq.setCell (ah (D+4) 2) (aa n)).setCell (ah (D+4) 3) (bf x)):=((ag.refl (λb=>b=D+4) aq).setCell (p:=ah (D+4) 2) rfl _).setCell (p:=ah (D+4) 3) rfl _;exact⟨by simpa using bX (bX (hk.heap h.head I) 2 (aa (n:U))) 3 (bf x),c.keeps a I I,d.keeps a I I⟩
def EF(h:e1 w D first next last K de)(x:U)(ak:x<=63)(f:U)(d:f=next)(aw:next<=1073741824)(r:first<=next/\next<first+64):aB 168 #[bM (D+4),aa f,bf x] w λe w'=>e=aa 0/\e1 w' D first (next+1) x (fR K next x) de/\ag (λb=>lE D b) w w':=by
 have bw:=h.bw;have bB:=h.bB;have aT:∀ aq:aj,ag (λb=>b=D) w aq->aq.frozen? (ah (D+4) 2)=false/\aq.frozen? (ah (D+4) 3)=false/\aq.cell? (ah (D+4) 2)=some (aa next)/\aq.cell? (ah (D+4) 3)=some (bf last):=λaq hk=>by
  have:=hk.heap h.head I
  exact⟨gY this 2,gY this 3,bb this rfl,bb this rfl⟩
 have g:=ad aT;have c:=ad d;have k:f<=1073741824:=I;have l:(next:U)<=f:=I;have m:f<=(next:U):=I;clear aT d
 go_in
 go_wp2_with fail;refine aS ((MK h.known next f c.o vf x)) ?_;rintro aq ⟨h1,a⟩;have⟨n,q,d2,j⟩:=g.o _ a;have hfin:=h.put a h1 (next+1) x;rw[show((next+1:J):U)=f+1 by have:=c.o;omega]at hfin
 have i:ag (λb=>lE D b) w ((aq.setCell (ah (D+4) 2) (aa (f+1))).setCell (ah (D+4) 3) (bf x)):=
  ((a.mono (λb _ e=>C1)).setCell (p:=ah (D+4) 2) (by unfold lE;simp) _).setCell (p:=ah (D+4) 3) (by unfold lE;simp) _
 go_wp2_with fail;go_ret;exact⟨rfl,hfin,i⟩
def D5(e:Ending):ae:=∃ c:U,e=.returned (aa c)
def uD(first:J)(de:ai (J×U))(n:J)(x:U):ai (J×U):=if n<first+64 then fR de n x else de
def pR(K:ai (J×U))(n:J)(last:U):U:=(eu K n).getD last
theorem e1.take{a:ai (J×U)}(h:e1 w D first next last K de)(hk:ag (λb=>b=D+2) w aq)(c:i' aq (D+3) (D+2) 64 first a):e1 aq D first next last K a:=
 ⟨hk.heap h.head I,h.known.keeps hk I I,c⟩
def ZP(h:e1 w D first next last K de)(n:J)(f:U)(c:f=n)(aw:first<=n/\n<=1073741824):aB 284 #[bM (D+4),aa f] w λe w'=>e=aV #[bf (pR K n last),.bool (eu K n).isSome]/\e1 w' D first next last K (uD first de n (pR K n last))/\ag (λb=>lE D b) w w':=by
 have m:=ad (ZO h);have d:=LB h f I;rw[c,yy,<-c]at d;have a:=ad d;have h2:f<=1073741824:=I;have p:(first:U)<=f:=I;have i:∀ (q:J) (x:U),aB 248 #[bM (D+3),aa f,bf x] (w.drewN q) λe w'=>D5 e/\e1 w' D first next last K (uD first de n x)/\ag (λb=>lE D b) w w':=by
  intro q x;unfold uD;by_cases av:n<first+64
  .rw[aD av];refine aS (MK (h.drew q).used n f c vf x) ?_;rintro w' ⟨h1,h2⟩;exact⟨⟨_,rfl⟩,(h.drew q).take h2 h1,((ag.refl _ w).drewN q).trans (h2.mono (λb _ e=>C1))⟩
  rw[az av];refine aS (abT (h.drew q).used f vf I x) ?_;rintro w' ⟨k,rfl⟩;exact⟨⟨_,rfl⟩,(h.drew q).drew k,((ag.refl _ w).drewN q).drewN k⟩
 have g:=ad i;have an:∀ q,(w.drewN q).cell? (ah (D+4) 1)=some (bM (D+3))/\(w.drewN q).cell? (ah (D+4) 3)=some (bf last):=λq=>⟨(h.drew q).bP,(h.drew q).e3⟩;have l:=ad an;unfold pR at *;clear i d an c h;cases j:eu K n with
 | some x=>
  rw[j]at a;simp only[jH,vd]at a⊢;refine Sw;refine(g.o q x).mono ?_;exact T1
 | none=>
  rw[j]at a;simp only[tm,r6]at a⊢;refine Sw;refine(g.o q last).mono ?_;exact T1
end
end Go.Proofs.YtalagblioepadaaGreatDoor
