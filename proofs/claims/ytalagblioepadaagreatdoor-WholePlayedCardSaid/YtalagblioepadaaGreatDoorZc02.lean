/- The proof, part 2. -/
import Derived.Test.YtalagblioepadaaGreatDoorZc01
namespace Go.Proofs.YtalagblioepadaaGreatDoor
set_option linter.all false
open List Go.RowKit
set_option maxRecDepth 100000
def qy{p:ak}(h:p:=by unfold fB;omega):p:=h
def Ev{p:ak}(h:p:=by simp only[p_];omega):p:=h
def fB:J:=18446744073709551616
def num(n:J):ah aR:=if n<128 then [UInt8.ofNat n]else UInt8.ofNat (n%128+128) :: num (n / 128)
termination_by n
decreasing_by omega
def r8(n:J)(h:n<128):num n=[UInt8.ofNat n]:=by rw[num,aD h]
def wh(n:J)(h:¬ n<128):num n=UInt8.ofNat (n%128+128) :: num (n / 128):=by rw[num,az h]
theorem BU:∀ (k n:J),n<128 ^ (k+1)->(num n).length<=k+1
 | 0,n,h=>by rw[r8 n ik];simp
 | k+1,n,h=>by
  by_cases ar:n<128
  .rw[r8 n ar];simp
  rw[wh n ar]
  have:=BU k (n / 128) (by rw[Nat.div_lt_iff_lt_mul U];rw[nG]at h;exact h)
  simp only[ds];omega
def n'(n:J)(h:n<fB):(num n).length<=10:=BU 9 n (l7 h (by unfold fB;decide))
def jc:J->J->ah aR->J×J×aa
 | _,_,[]=>(0,0,3)
 | i,a,c :: r=>
  if 9<i\/(i=9/\1<c.toNat%128)then(0,0,4)
  else if c.toNat=0/\0<i then(0,0,4)
  else if c.toNat<128 then(a+c.toNat%128*128 ^ i,i+1,0)
  else jc (i+1) (a+c.toNat%128*128 ^ i) r
def cz(l:ah aR):J×J×aa:=jc 0 0 l
def Ji(k a:J)(c:aR)(r:ah aR)(h:9<k\/(k=9/\1<c.toNat%128)):jc k a (c :: r)=(0,0,4):=by rw[jc,aD h]
def Jh(k a:J)(c:aR)(r:ah aR)(h:¬ (9<k\/(k=9/\1<c.toNat%128)))(h2:c.toNat=0/\0<k):jc k a (c :: r)=(0,0,4):=by rw[jc,az h,aD h2]
def Cc(k a:J)(c:aR)(r:ah aR)(h:¬ (9<k\/(k=9/\1<c.toNat%128)))(h2:¬ (c.toNat=0/\0<k))(b:c.toNat<128):jc k a (c :: r)=(a+c.toNat%128*128 ^ k,k+1,0):=by rw[jc,az h,az h2,aD b]
def Cd(k a:J)(c:aR)(r:ah aR)(h:¬ (9<k\/(k=9/\1<c.toNat%128)))(h2:¬ (c.toNat=0/\0<k))(b:¬ c.toNat<128):jc k a (c :: r)=jc (k+1) (a+c.toNat%128*128 ^ k) r:=by rw[jc,az h,az h2,az b]
def Cf(k a x:J)(hk:k<=9)(b:x<128)(h:¬ (k=9/\1<x))(bd:a<128 ^ k):a+x*128 ^ k<fB/\a+x*128 ^ k<128 ^ (k+1):=by
 unfold fB;rcases (show k=0\/k=1\/k=2\/k=3\/k=4\/k=5\/k=6\/k=7\/k=8\/k=9 by omega)with rfl|rfl|rfl|rfl|rfl|rfl|rfl|rfl|rfl|rfl<;>(simp only[Nat.reduceAdd,Nat.reducePow]at bd⊢;omega)
def same(c:aR):ah aR->J
 | []=>0
 | d :: r=>if d=c then same c r+1 else 0
theorem y2(c:aR):∀ r:ah aR,same c r<=r.length
 | []=>c9 _
 | d :: r=>by
  have:=y2 c r
  unfold same;split<;>simp only[ds]<;>omega
theorem JQ(c:aR):∀ (r:ah aR) (i:J) (_:i<same c r) (h2:i<r.length),r[i]=c
 | d :: r,i,h,h2=>by
  unfold same at h;split at h
  .rename_i hd
   match i,h,h2 with
   | 0,_,_=>exact hd
   | i+1,h,h2=>exact JQ c r i kh (by simpa using h2)
  omega
theorem JS(c:aR):∀ (r:ah aR) (h:same c r<r.length),r[same c r]≠c
 | d :: r,h=>by
  by_cases hd:d=c
  .have e:same c (d :: r)=same c r+1:=by rw[same,aD hd]
   have a:same c r<r.length:=by rw[e]at h;simpa using h
   have:=JS c r a
   simpa[e]using this
  have e:same c (d :: r)=0:=by rw[same,az hd]
  simpa[e]using hd
def runs:ah aR->ah (aR×J)
 | []=>[]
 | c :: r=>(c,same c r+1) :: runs (r.drop (same c r))
termination_by l=>l.length
decreasing_by simp only[gm,ds];omega
theorem Cq:∀ (m:J) (L:ah aR),L.length<=m->∀ x∈runs L,0<x.2/\x.2<=L.length
 | _,[],_,x,a=>by simp[runs]at a
 | 0,c :: r,h,_,_=>by simp at h
 | m+1,c :: r,h,x,a=>by
  rw[runs]at a;simp only[ds]at h⊢;rcases e6.1 a with rfl|a
  .exact⟨aK,by simpa using(y2 c r)⟩
  have:=Cq m (r.drop (same c r)) bT x a
  simp only[gm]at this;omega
def fits(L:ah aR):aY:=L.all (λc=>decide (c.toNat<=63))&&decide (L.length<=64)
def gR(p:ah (aR×J)):ah aR:=p.flatMap λx=>x.1 :: num x.2
def lU(L:ah aR):ah aR:=num L.length++gR (runs L)
theorem JK:∀ (m:J) (L:ah aR),L.length<=m->(runs L).length<=L.length
 | _,[],_=>by simp[runs]
 | 0,c :: r,h=>by simp at h
 | m+1,c :: r,h=>by
  simp only[ds]at h
  have:=JK m (r.drop (same c r)) bT
  rw[runs];simp only[ds,gm]at this⊢;omega
theorem JJ:∀ (p:ah (aR×J)),(∀ x∈p,x.2<128)->(gR p).length=2*p.length
 | [],_=>rfl
 | x :: p,h=>by
  have h1:=JJ p (λy a=>h y (kg _ a));unfold gR at *;rw[iS,r8 _ (h x (mI))];simp only[cx,ds,e_,h1];omega
def Wk(p:ah (aR×J))(x:aR×J):gR (p++[x])=gR p++(x.1 :: num x.2):=by simp[gR]
def I4(L:ah aR)(b:L.length<=64)(pre rest:ah (aR×J))(h:runs L=pre++rest):(num L.length++gR pre).length<=138:=by
 have h1:=JK _ L bs;have h2:=Cq _ L bs;rw[h]at h1 h2;simp only[cx]at h1⊢;rw[JJ pre (λx a=>by have:=h2 x (sO _ a);omega)]
 have:=n' L.length qy
 omega
def pK(n:J)(h:n<256):(UInt8.ofNat n).toNat=n:=by simp[jh h]
def Vh:∀ (n k a:J) (t:ah aR),a+n*128 ^ k<fB->(0<k->0<n)->jc k a (num n++t)=(a+n*128 ^ k,k+(num n).length,0):=by
 intro n
 induction n using Nat.strongRecOn with
 | _ n d=>
  intro k a t b au;have hk:9<k->False:=by
   intro h;have h1:128 ^ 10<=128 ^ k:=rF bq h;have h2:1*128 ^ k<=n*128 ^ k:=sV _ (au U);unfold fB at b
   have:(18446744073709551616:J)<128 ^ 10:=bq
   omega
  by_cases ar:n<128
  .have aj:=pK n U;rw[r8 n ar,kF,Cc]
   .rw[aj,jh ar];rfl
   .rw[aj,jh ar];rintro(h|⟨rfl,h⟩)
    .exact hk h
    unfold fB at b
    have:2*128 ^ 9<=n*128 ^ 9:=sV _ h
    omega
   .rw[aj];rintro⟨h,h2⟩
    have:=au h2
    omega
   rw[aj];exact ar
  have aj:=pK (n%128+128) U;have c:¬ (9<k\/k=9):=by
   rintro(h|rfl)
   .exact hk h
   unfold fB at b
   have:128*128 ^ 9<=n*128 ^ 9:=sV _ U
   omega
  have e:n*128 ^ k=n%128*128 ^ k+n / 128*128 ^ (k+1):=by
   have h1:n=n%128+n / 128*128:=U
   calc n*128 ^ k=(n%128+n / 128*128)*128 ^ k:=by rw[<-h1]
    _=_:=by rw[DS,Nat.mul_assoc,nG,oH 128]
  have em:(n%128+128)%128=n%128:=U;rw[wh n ar,kF,Cd,aj,em,d (n / 128) U (k+1) _ t (by rw[ih,<-e];exact b) a7]
  .refine qv ?_ (qv ?_ rfl)
   .show a+n%128*128 ^ k+n / 128*128 ^ (k+1)=_;rw[e,ih]
   show k+1+(num (n / 128)).length=_;simp only[ds];omega
  .rintro(h|⟨h,_⟩)
   .exact c (.inl h)
   exact c (.inr h)
  .rw[aj];omega
  rw[aj];omega
def Ce(n:J)(ar:n<fB)(t:ah aR):cz (num n++t)=(n,(num n).length,0):=by
 have:=Vh n 0 0 t qz (λh=>absurd h bq)
 simpa[cz]using this
theorem Jk:∀ (l:ah aR) (k a v i:J),jc k a l=(v,i,0)->a<128 ^ k->∃ n,v=a+n*128 ^ k/\num n=l.take (i-k)/\i=k+(num n).length/\(0<k->0<n)/\v<fB
 | [],k,a,v,i,h,_=>by simp[jc]at h
 | c :: r,k,a,v,i,h,bd=>by
  by_cases h1:9<k\/(k=9/\1<c.toNat%128)
  .rw[Ji _ _ _ _ h1]at h;simp at h
  by_cases h2:c.toNat=0/\0<k
  .rw[Jh _ _ _ _ h1 h2]at h;simp at h
  have d:=Cf k a (c.toNat%128) U (e2 _ bq) U bd;by_cases b:c.toNat<128
  .rw[Cc _ _ _ _ h1 h2 b]at h;simp only[jA,and_true]at h;obtain⟨rfl,rfl⟩:=h;rw[jh b]at *;refine⟨c.toNat,rfl,?_,?_,λhk=>U,d.1⟩
   .rw[r8 _ b,DU];simp
   rw[r8 _ b];rfl
  rw[Cd _ _ _ _ h1 h2 b]at h;have⟨n,e,f,m,g,j⟩:=Jk r (k+1) _ v i h d.2;have al:=c.toNat_lt;have ar:¬ n*128+c.toNat%128<128:=by have:=g U;omega
  refine⟨n*128+c.toNat%128,?_,?_,?_,λ_=>U,j⟩
  .rw[e,DS,Nat.mul_assoc,nG,oH 128,ih,qt (c.toNat%128*128 ^ k)]
  .rw[wh _ ar,show(n*128+c.toNat%128) / 128=n by omega,show(n*128+c.toNat%128)%128+128=c.toNat by omega,f,show i-k=(i-(k+1))+1 by omega];simp
  rw[wh _ ar,show(n*128+c.toNat%128) / 128=n by omega];simp only[ds];omega
def Vi(l:ah aR)(v i:J)(h:cz l=(v,i,0)):num v=l.take i/\v<fB/\i=(num v).length:=by
 have⟨n,a,b,d,_,c⟩:=Jk l 0 0 v i h bq;simp at a;subst a;exact⟨by simpa using b,c,U⟩
theorem Jj:∀ (l:ah aR) (k a:J),(jc k a l).2.2≠0->(jc k a l).1=0/\(jc k a l).2.1=0
 | [],_,_,_=>by simp[jc]
 | c :: r,k,a,h=>by
  rw[jc]at h⊢;split
  .simp
  split
  .simp
  split
  .simp_all
  refine Jj r _ _ ?_;simp_all
def yO(l:ah aR):(cz l).1<fB/\(cz l).2.1<=l.length/\(cz l).2.1<=10:=by
 by_cases h:(cz l).2.2=0
 .obtain⟨h1,h2,c⟩:=Vi l (cz l).1 (cz l).2.1 (qv rfl (qv rfl h))
  have:=cV length h1
  have d:=n' _ h2;rw[gn]at this;exact⟨h2,U,U⟩
 have⟨h1,h2⟩:=Jj l 0 0 h;have a:(cz l).1=0:=h1;have b:(cz l).2.1=0:=h2;rw[a,b];exact⟨bq,U,U⟩
def fC(n:aa):J:=if 0<=n then(2*n).toNat else(-2*n-1).toNat
def uC(a:J):aa:=if a%2=0 then((a / 2:J):aa)else -((a / 2:J):aa)-1
def Yw(n:aa):uC (fC n)=n:=by
 unfold uC fC;split<;>split<;>omega
def N4(n:aa)(h:-9223372036854775808<=n/\n<=9223372036854775807):fC n<fB:=by
 unfold fC fB;split<;>omega
structure a1 where
 kind:aa
 bK:aa
 cj:aa
 ch:aa
 a8:ah aR
 sum:aa
 lead:aa
def a1.zero:a1:=⟨0,0,0,0,[],0,0⟩
structure a1.wf(m:a1):ak where
 kind:-9223372036854775808<=m.kind/\m.kind<=9223372036854775807
 bK:0<=m.bK/\m.bK<4294967296
 cj:0<=m.cj/\m.cj<65536
 ch:0<=m.ch/\m.ch<65536
 sum:0<=m.sum/\m.sum<4294967296
 lead:-9223372036854775808<=m.lead/\m.lead<=9223372036854775807
def oh(a b:a1):aY:=decide (a.kind=b.kind)&&decide (a.bK=b.bK)&&decide (a.cj=b.cj)&&decide (a.ch=b.ch)&&decide (a.a8=b.a8)&&decide (a.sum=b.sum)&&decide (a.lead=b.lead)
def gj(k:aa):aa:=if k=1\/k=2 then 1 else if k=3 then 14 else if k=4 then 18 else if k=5 then 4 else if k=6 then 34 else 0
def hb(m:a1):a1:=
 ⟨m.kind,if m.kind=1\/m.kind=2 then m.bK else 0,if m.kind=3\/m.kind=4\/m.kind=6 then m.cj else 0,if m.kind=3\/m.kind=5 then m.ch else 0,if m.kind=3 then m.a8 else [],if m.kind=4 then m.sum else 0,if m.kind=6 then m.lead else 0⟩
def di(m:a1):ak:=
 (1<=m.kind/\m.kind<=7)/\fits m.a8=true/\(-1000<=m.lead/\m.lead<=1000)/\(m.bK=0\/m.kind=1\/m.kind=2)/\(m.cj=0\/m.kind=3\/m.kind=4\/m.kind=6)/\(m.ch=0\/m.kind=3\/m.kind=5)/\(0<m.a8.length↔m.kind=3)/\(m.sum=0\/m.kind=4)/\(m.lead=0\/m.kind=6)
instance (m:a1):Decidable (di m):=by unfold di;infer_instance
def Vx(m:a1):di m↔(1<=m.kind/\m.kind<=7)/\oh m (hb m)=true/\fits m.a8=true/\(-1000<=m.lead/\m.lead<=1000)/\(m.kind≠3\/0<m.a8.length):=by
 have⟨k,n,s,a,i,u,l⟩:=m;have q:(0<i.length)↔i≠[]:=by cases i<;>simp
 simp only[di,oh,hb,d',fZ,q];constructor
 .rintro⟨h1,h2,b,o,r,t,p,v,w⟩;refine⟨h1,⟨⟨⟨⟨⟨⟨trivial,?_⟩,?_⟩,?_⟩,?_⟩,?_⟩,?_⟩,h2,b,?_⟩
  .split<;>simp_all
  .split<;>simp_all
  .split<;>simp_all
  .split
   .rfl
   rename_i e;by_cases aw:i=[]
   .exact aw
   exact absurd (p.1 aw) e
  .split<;>simp_all
  .split<;>simp_all
  by_cases e:k=3
  .exact .inr (p.2 e)
  exact .inl e
 rintro⟨h1,⟨⟨⟨⟨⟨⟨_,g1⟩,c⟩,d⟩,f⟩,g⟩,j⟩,h2,b,o⟩;refine⟨h1,h2,b,?_,?_,?_,⟨λaw=>?_,λe=>?_⟩,?_,?_⟩
 .split at g1
  .rename_i e;exact .inr e
  exact .inl g1
 .split at c
  .rename_i e;exact .inr e
  exact .inl c
 .split at d
  .rename_i e;exact .inr e
  exact .inl d
 .split at f
  .rename_i e;exact e
  exact absurd f aw
 .rcases o with h|h
  .exact absurd e h
  exact h
 .split at g
  .rename_i e;exact .inr e
  exact .inl g
 split at j
 .rename_i e;exact .inr e
 exact .inl j
def qF(p:aa×aa)(c:aR):aa×aa:=((p.1+(c.toNat:aa))%65521,(p.2+(p.1+(c.toNat:aa))%65521)%65521)
def p_(p:aa×aa)(c:aR):aa×aa:=(p.1+(c.toNat:aa),p.2+(p.1+(c.toNat:aa)))
def iX(p:aa×aa)(l:ah aR):aa×aa:=l.foldl qF p
def raw(p:aa×aa)(l:ah aR):aa×aa:=l.foldl p_ p
def Fw(p:aa×aa)(c:aR)(l:ah aR):iX p (c :: l)=iX (qF p c) l:=rfl
def Je(p:aa×aa)(c:aR)(l:ah aR):raw p (c :: l)=raw (p_ p c) l:=rfl
def Oh(p:aa×aa)(l m:ah aR):iX p (l++m)=iX (iX p l) m:=by simp[iX,nB]
def Cb(p:aa×aa)(l:ah aR)(c:aR):raw p (l++[c])=p_ (raw p l) c:=by simp[raw,nB]
def l_(p:aa×aa):ak:=(0<=p.1/\p.1<65521)/\(0<=p.2/\p.2<65521)
def Vq(p:aa×aa)(c:aR):l_ (qF p c):=by unfold l_ qF;simp only;omega
theorem uh:∀ (l:ah aR) (p:aa×aa),l_ p->l_ (iX p l)
 | [],_,h=>h
 | c :: l,p,_=>uh l _ (Vq p c)
theorem Jd:∀ (l:ah aR) (p q:aa×aa),p.1%65521=q.1->p.2%65521=q.2->(raw p l).1%65521=(iX q l).1/\(raw p l).2%65521=(iX q l).2
 | [],_,_,h1,h2=>⟨h1,h2⟩
 | c :: l,p,q,h1,h2=>by
  rw[Je,Fw];refine Jd l _ _ ?_ ?_
  .simp only[p_,qF];omega
  simp only[p_,qF];omega
theorem Jg:∀ (l:ah aR) (p:aa×aa) (B:aa),p.1<=B->0<=p.1->0<=p.2->0<=(raw p l).1/\0<=(raw p l).2/\(raw p l).1<=B+255*(l.length:aa)/\2*(raw p l).2<=2*p.2+2*B*(l.length:aa)+255*(l.length:aa)*((l.length:aa)+1)
 | [],p,B,h1,h2,i=>by simp[raw];omega
 | c :: l,p,B,h1,h2,i=>by
  have al:(0:aa)<=(c.toNat:aa)/\(c.toNat:aa)<=255:=by have:=c.toNat_lt;omega
  rw[Je]
  have:=Jg l (p_ p c) (B+255) Ev Ev Ev
  have⟨b,d,j,a⟩:=this;refine⟨b,d,by simp only[ds];omega,?_⟩;simp only[p_]at a;simp only[p_,ds];generalize ar:(l.length:aa)=n at *;have e:((l.length+1:J):aa)=n+1:=U;rw[e];have f:2*(B+255)*n=2*B*n+510*n:=by rw[show 2*(B+255)=2*B+510 by omega,Int.add_mul]
  have g:255*(n+1)*(n+1+1)=255*n*(n+1)+510*n+510:=by
   have:255*(n+1)=255*n+255:=U
   rw[this,Int.add_mul,Int.mul_add (255*n) (n+1) 1];omega
  have h:2*B*(n+1)=2*B*n+2*B:=by rw[Int.mul_add];omega
  rw[g,h];rw[f]at a;omega
def Ca(p:aa×aa)(l:ah aR)(au:l_ p)(h:l.length<=5552):(0<=(raw p l).1/\(raw p l).1<=1481280)/\(0<=(raw p l).2/\(raw p l).2<=4294690200):=by
 have⟨⟨h1,h2⟩,b,g⟩:=au;have⟨d,e,f,a⟩:=Jg l p 65520 U h1 b;have c:(l.length:aa)*((l.length:aa)+1)<=5552*5553:=Int.mul_le_mul U U U U;rw[Int.mul_assoc 255]at a;omega
def more(n:aa)(l:ah aR):aa:=(iX (n%65536%65521,n / 65536%65521) l).2*65536+(iX (n%65536%65521,n / 65536%65521) l).1
def wq(n:aa):l_ (n%65536%65521,n / 65536%65521):=by unfold l_;simp only;omega
def ID(n:aa)(l:ah aR):more n l%65536=(iX (n%65536%65521,n / 65536%65521) l).1/\more n l / 65536=(iX (n%65536%65521,n / 65536%65521) l).2:=by
 have:=uh l _ (wq n)
 unfold l_ at this;unfold more;omega
def wa(n:aa)(l:ah aR):0<=more n l/\more n l<4294967296:=by
 have:=uh l _ (wq n)
 unfold l_ at this;unfold more;omega
def eI(n:aa):ah aR:=[UInt8.ofNat (n / 16777216%256).toNat,UInt8.ofNat (n / 65536%256).toNat,UInt8.ofNat (n / 256%256).toNat,UInt8.ofNat (n%256).toNat]
def gy(l:ah aR)(count:J)(out:ah aR)(at':J):ah aR×J×aa:=
 if a:count<=out.length then(out,at',0)else
 match l.drop at' with
 | []=>([],0,3)
 | x :: r=>
  if 63<x.toNat\/out.getLast?=some x then([],0,4)
  else if (cz r).2.2≠0 then([],0,(cz r).2.2)
  else if h2:(cz r).1=0\/count-out.length<(cz r).1 then([],0,4)
  else gy l count (out++replicate (cz r).1 x) (at'+1+(cz r).2.1)
termination_by count-out.length
decreasing_by simp only[cx,uN];omega
def Cl(l:ah aR)(count:J)(out:ah aR)(at':J)(h:count<=out.length):gy l count out at'=(out,at',0):=by rw[gy,dif_pos h]
def VO(l:ah aR)(count:J)(out:ah aR)(at':J)(h:¬ count<=out.length)(h1:l.drop at'=[]):gy l count out at'=([],0,3):=by rw[gy,dif_neg h,h1]
def Jz(l:ah aR)(count:J)(out:ah aR)(at':J)(h:¬ count<=out.length)(x:aR)(r:ah aR)(h1:l.drop at'=x :: r)(h2:63<x.toNat\/out.getLast?=some x):gy l count out at'=([],0,4):=by
 rw[gy,dif_neg h,h1];simp only[];rw[aD h2]
def VM(l:ah aR)(count:J)(out:ah aR)(at':J)(h:¬ count<=out.length)(x:aR)(r:ah aR)(h1:l.drop at'=x :: r)(h2:¬ (63<x.toNat\/out.getLast?=some x))(a:(cz r).2.2≠0):gy l count out at'=([],0,(cz r).2.2):=by
 rw[gy,dif_neg h,h1];simp only[];rw[az h2,aD a]
def VP(l:ah aR)(count:J)(out:ah aR)(at':J)(h:¬ count<=out.length)(x:aR)(r:ah aR)(h1:l.drop at'=x :: r)(h2:¬ (63<x.toNat\/out.getLast?=some x))(a:(cz r).2.2=0)(b:(cz r).1=0\/count-out.length<(cz r).1):gy l count out at'=([],0,4):=by
 rw[gy,dif_neg h,h1];simp only[];rw[az h2,az s5,dif_pos b]
def JA(l:ah aR)(count:J)(out:ah aR)(at':J)(h:¬ count<=out.length)(x:aR)(r:ah aR)(h1:l.drop at'=x :: r)(h2:¬ (63<x.toNat\/out.getLast?=some x))(a:(cz r).2.2=0)(b:¬ ((cz r).1=0\/count-out.length<(cz r).1)):gy l count out at'=gy l count (out++replicate (cz r).1 x) (at'+1+(cz r).2.1):=by
 rw[gy,dif_neg h,h1];simp only[];rw[az h2,az s5,dif_neg b]
def iL(l:ah aR):ah aR×J×aa:=
 if (cz l).2.2≠0 then([],0,(cz l).2.2)else if 64<(cz l).1 then([],0,5)else gy l (cz l).1 [] (cz l).2.1
theorem JR(c:aR):∀ r:ah aR,(r.drop (same c r)).head?≠some c
 | []=>by simp[same]
 | d :: r=>by
  by_cases hd:d=c
  .have e:same c (d :: r)=same c r+1:=by rw[same,aD hd]
   rw[e,hU];exact JR c r
  have e:same c (d :: r)=0:=by rw[same,az hd]
  rw[e];simpa using hd
theorem JT(c:aR):∀ r:ah aR,r.take (same c r)=replicate (same c r) c
 | []=>by simp[same]
 | d :: r=>by
  by_cases hd:d=c
  .have e:same c (d :: r)=same c r+1:=by rw[same,aD hd]
   rw[e,hV,replicate_succ,JT c r,hd]
  have e:same c (d :: r)=0:=by rw[same,az hd]
  rw[e];rfl
def SG(out:ah aR)(k:J)(c:aR):(out++replicate (k+1) c).getLast?=some c:=by
 rw[DR,<-dD,getLast?_append];simp
def VN:∀ (m:J) (L out t l:ah aR) (at' count:J),L.length<=m->l.drop at'=gR (runs L)++t->count=out.length+L.length->count<=64->(∀ x∈L,x.toNat<=63)->(out≠[]->L≠[]->out.getLast?≠L.head?)->
  gy l count out at'=(out++L,at'+(gR (runs L)).length,0):=by
 intro m
 induction m with
 | zero=>
  intro L out t l at' count hm hd al e b hne;obtain rfl:L=[]:=jx.1 U;rw[Cl _ _ _ _ (by simp at al;omega)];simp[runs,gR]
 | succ m n=>
  intro L out t l at' count hm hd al e b hne;cases L with
  | nil=>
   rw[Cl _ _ _ _ (by simp at al;omega)];simp[runs,gR]
  | cons c r=>
   have o:=y2 c r;have g:runs (c :: r)=(c,same c r+1) :: runs (r.drop (same c r)):=by rw[runs]
   have d:gR (runs (c :: r))=c :: (num (same c r+1)++gR (runs (r.drop (same c r)))):=by rw[g];simp[gR]
   have i:c :: r=replicate (same c r+1) c++r.drop (same c r):=by
    rw[replicate_succ,<-JT c r,kF,l5]
   simp only[ds]at al hm;rw[d]at hd;simp only[kF,dD]at hd;have a:=Ce (same c r+1) qy (gR (runs (r.drop (same c r)))++t);have ar:(cz (num (same c r+1)++(gR (runs (r.drop (same c r)))++t))).1=same c r+1:=by rw[a]
   have av:(cz (num (same c r+1)++(gR (runs (r.drop (same c r)))++t))).2.1=(num (same c r+1)).length:=by rw[a]
   have j:(cz (num (same c r+1)++(gR (runs (r.drop (same c r)))++t))).2.2=0:=by rw[a]
   rw[JA l count out at' U c _ hd ?h2 j (by rw[ar];omega),ar,av]
   case h2=>
    rintro(h|h)
    .have:=b c aK;omega
    by_cases f:out=[]
    .rw[f]at h;simp at h
    exact hne f aK (by rw[h];rfl)
   rw[n (r.drop (same c r)) _ t l _ count bT ?hd bT e (λx k=>b x (kg _ (zK k))) ?hne]
   case hd=>
    rw[<-mF,<-mF,hd];simp
   case hne=>
    intro _ _;rw[SG];exact(JR c r).symm
   refine qv ?_ (qv ?_ rfl)
   .simp only[dD];rw[<-i]
   simp only[d,ds,cx];omega
def Vj(L t:ah aR)(a:fits L=true):iL (lU L++t)=(L,(lU L).length,0):=by
 unfold fits at a;simp only[d',fg,fZ]at a;have e:lU L++t=num L.length++(gR (runs L)++t):=by simp[lU]
 unfold iL;rw[e,(Ce L.length qy (gR (runs L)++t))];simp only[];rw[az aK,az U,VN L.length L [] t _ _ _ bs aK aK a.2 a.1 (λh=>absurd rfl h)];simp[lU]
def su(l:ah aR):aa:=(l.map λc=>(c.toNat:aa)).sum
theorem Aq:∀ (l:ah aR) (p:aa×aa),((iX p l).1-(p.1+su l))%65521=0
 | [],p=>by simp[iX,su]
 | c :: l,p=>by
  have:=Aq l (qF p c)
  rw[Fw];simp only[su,jz,sum_cons]at *;simp only[qF]at *;omega
theorem KD:∀ (l:ah aR) (k:J) (c:aR) (h:k<l.length),su (l.set k c)=su l-(l[k].toNat:aa)+(c.toNat:aa)
 | bt :: l,0,c,h=>by simp[su];omega
 | bt :: l,k+1,c,h=>by
  have:=KD l k c ik
  simp only[su,w5,jz,sum_cons,wZ]at *;omega
def XY(a b:aa)(bd:0<=a/\a<4294967296)(aj:0<=b/\b<4294967296)(h:eI a=eI b):a=b:=by
 unfold eI at h;have key:∀ x y:J,x<256->y<256->UInt8.ofNat x=UInt8.ofNat y->x=y:=by
  intro x y f g e
  have:=cV UInt8.toNat e
  simpa[jh f,jh g]using this
 simp only[zD,and_true]at h;have⟨h1,h2,c,d⟩:=h;have i:=key _ _ U U h1;have j:=key _ _ U U h2;have k:=key _ _ U U c;have l:=key _ _ U U d;omega
def KE(n:aa):(eI n).length=4:=rfl
def Yn(l:ah aR)(k:J)(c:aR)(hk:k<(l++eI (more 1 l)).length)(al:c≠(l++eI (more 1 l))[k])(u v:ah aR)(a:u++v=(l++eI (more 1 l)).set k c)(aW:v.length=4):eI (more 1 u)≠v:=by
 intro h;have g:u.length=l.length:=by
  have:=cV length a
  simp[KE]at this;omega
 by_cases f:k<l.length
 .rw[set_append_left _ _ f]at a;have⟨b,d⟩:=append_inj a (by simpa using g);rw[d]at h;have m:=XY _ _ (wa _ _) (wa _ _) h;have n:=(ID 1 u).1;have q:=(ID 1 l).1;have fu:=uh u _ (wq 1);have r:=uh l _ (wq 1);have j:=Aq u (1%65536%65521,1 / 65536%65521);have o:=Aq l (1%65536%65521,1 / 65536%65521);rw[b,KD l k c f]at j;rw[getElem_append_left f]at al;rw[b]at n fu m;have hne:(c.toNat:aa)≠(l[k].toNat:aa):=λe=>al (zT.1 U);have bO:=c.toNat_lt;have p:=l[k].toNat_lt;omega
 rw[set_append_right _ _ U]at a;have⟨b,d⟩:=append_inj a g;subst b;rw[d]at h;have i:k-u.length<(eI (more 1 u)).length:=by simp[KE]at hk⊢;omega
 have:=cV (λx=>x[k-u.length]?) h
 simp[i]at this;rw[getElem_append_right U]at al;exact al this.symm
end Go.Proofs.YtalagblioepadaaGreatDoor
