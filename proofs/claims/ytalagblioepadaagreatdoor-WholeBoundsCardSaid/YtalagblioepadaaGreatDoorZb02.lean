/- The proof, part 2. -/
import Derived.Test.YtalagblioepadaaGreatDoorZb01
namespace Go.Proofs.YtalagblioepadaaGreatDoor
set_option linter.all false
open List Go.RowKit
set_option maxRecDepth 100000
def qh{p:ak}(h:p:=by unfold fy;omega):p:=h
def D6{p:ak}(h:p:=by simp only[pV];omega):p:=h
def fy:J:=18446744073709551616
def num(n:J):ah aQ:=if n<128 then [UInt8.ofNat n]else UInt8.ofNat (n%128+128) :: num (n / 128)
termination_by n
decreasing_by omega
def rV(n:J)(h:n<128):num n=[UInt8.ofNat n]:=by rw[num,aD h]
def vR(n:J)(h:¬ n<128):num n=UInt8.ofNat (n%128+128) :: num (n / 128):=by rw[num,aA h]
theorem Bv:∀ (k n:J),n<128 ^ (k+1)->(num n).length<=k+1
 | 0,n,h=>by rw[rV n h8];simp
 | k+1,n,h=>by
  by_cases au:n<128
  .rw[rV n au];simp
  rw[vR n au]
  have:=Bv k (n / 128) (by rw[Nat.div_lt_iff_lt_mul U];rw[nn]at h;exact h)
  simp only[dr];omega
def nR(n:J)(h:n<fy):(num n).length<=10:=Bv 9 n (lT h (by unfold fy;decide))
def iW:J->J->ah aQ->J×J×aa
 | _,_,[]=>(0,0,3)
 | i,a,c :: r=>
  if 9<i\/(i=9/\1<c.toNat%128)then(0,0,4)
  else if c.toNat=0/\0<i then(0,0,4)
  else if c.toNat<128 then(a+c.toNat%128*128 ^ i,i+1,0)
  else iW (i+1) (a+c.toNat%128*128 ^ i) r
def cz(l:ah aQ):J×J×aa:=iW 0 0 l
def IU(k a:J)(c:aQ)(r:ah aQ)(h:9<k\/(k=9/\1<c.toNat%128)):iW k a (c :: r)=(0,0,4):=by rw[iW,aD h]
def IT(k a:J)(c:aQ)(r:ah aQ)(h:¬ (9<k\/(k=9/\1<c.toNat%128)))(h2:c.toNat=0/\0<k):iW k a (c :: r)=(0,0,4):=by rw[iW,aA h,aD h2]
def BQ(k a:J)(c:aQ)(r:ah aQ)(h:¬ (9<k\/(k=9/\1<c.toNat%128)))(h2:¬ (c.toNat=0/\0<k))(b:c.toNat<128):iW k a (c :: r)=(a+c.toNat%128*128 ^ k,k+1,0):=by rw[iW,aA h,aA h2,aD b]
def BR(k a:J)(c:aQ)(r:ah aQ)(h:¬ (9<k\/(k=9/\1<c.toNat%128)))(h2:¬ (c.toNat=0/\0<k))(b:¬ c.toNat<128):iW k a (c :: r)=iW (k+1) (a+c.toNat%128*128 ^ k) r:=by rw[iW,aA h,aA h2,aA b]
def BT(k a x:J)(hk:k<=9)(b:x<128)(h:¬ (k=9/\1<x))(bj:a<128 ^ k):a+x*128 ^ k<fy/\a+x*128 ^ k<128 ^ (k+1):=by
 unfold fy;rcases (show k=0\/k=1\/k=2\/k=3\/k=4\/k=5\/k=6\/k=7\/k=8\/k=9 by omega)with rfl|rfl|rfl|rfl|rfl|rfl|rfl|rfl|rfl|rfl<;>(simp only[Nat.reduceAdd,Nat.reducePow]at bj⊢;omega)
def same(c:aQ):ah aQ->J
 | []=>0
 | d :: r=>if d=c then same c r+1 else 0
theorem yG(c:aQ):∀ r:ah aQ,same c r<=r.length
 | []=>c9 _
 | d :: r=>by
  have:=yG c r
  unfold same;split<;>simp only[dr]<;>omega
theorem Jo(c:aQ):∀ (r:ah aQ) (i:J) (_:i<same c r) (h2:i<r.length),r[i]=c
 | d :: r,i,h,h2=>by
  unfold same at h;split at h
  .rename_i hd
   match i,h,h2 with
   | 0,_,_=>exact hd
   | i+1,h,h2=>exact Jo c r i lU (by simpa using h2)
  omega
theorem Jq(c:aQ):∀ (r:ah aQ) (h:same c r<r.length),r[same c r]≠c
 | d :: r,h=>by
  by_cases hd:d=c
  .have e:same c (d :: r)=same c r+1:=by rw[same,aD hd]
   have a:same c r<r.length:=by rw[e]at h;simpa using h
   have:=Jq c r a
   simpa[e]using this
  have e:same c (d :: r)=0:=by rw[same,aA hd]
  simpa[e]using hd
def runs:ah aQ->ah (aQ×J)
 | []=>[]
 | c :: r=>(c,same c r+1) :: runs (r.drop (same c r))
termination_by l=>l.length
decreasing_by simp only[gd,dr];omega
theorem B4:∀ (m:J) (L:ah aQ),L.length<=m->∀ x∈runs L,0<x.2/\x.2<=L.length
 | _,[],_,x,a=>by simp[runs]at a
 | 0,c :: r,h,_,_=>by simp at h
 | m+1,c :: r,h,x,a=>by
  rw[runs]at a;simp only[dr]at h⊢;rcases e3.1 a with rfl|a
  .exact⟨aI,by simpa using(yG c r)⟩
  have:=B4 m (r.drop (same c r)) bU x a
  simp only[gd]at this;omega
def fits(L:ah aQ):aY:=L.all (λc=>decide (c.toNat<=63))&&decide (L.length<=64)
def gN(p:ah (aQ×J)):ah aQ:=p.flatMap λx=>x.1 :: num x.2
def lF(L:ah aQ):ah aQ:=num L.length++gN (runs L)
theorem Jh:∀ (m:J) (L:ah aQ),L.length<=m->(runs L).length<=L.length
 | _,[],_=>by simp[runs]
 | 0,c :: r,h=>by simp at h
 | m+1,c :: r,h=>by
  simp only[dr]at h
  have:=Jh m (r.drop (same c r)) bU
  rw[runs];simp only[dr,gd]at this⊢;omega
theorem Jg:∀ (p:ah (aQ×J)),(∀ x∈p,x.2<128)->(gN p).length=2*p.length
 | [],_=>rfl
 | x :: p,h=>by
  have h1:=Jg p (λy a=>h y (kx _ a));unfold gN at *;rw[iL,rV _ (h x (oh))];simp only[cx,dr,e2,h1];omega
def VL(p:ah (aQ×J))(x:aQ×J):gN (p++[x])=gN p++(x.1 :: num x.2):=by simp[gN]
def IC(L:ah aQ)(b:L.length<=64)(pre rest:ah (aQ×J))(h:runs L=pre++rest):(num L.length++gN pre).length<=138:=by
 have h1:=Jh _ L bA;have h2:=B4 _ L bA;rw[h]at h1 h2;simp only[cx]at h1⊢;rw[Jg pre (λx a=>by have:=h2 x (mem_append_left _ a);omega)]
 have:=nR L.length qh
 omega
def pw(n:J)(h:n<256):(UInt8.ofNat n).toNat=n:=by simp[ja h]
def UG:∀ (n k a:J) (t:ah aQ),a+n*128 ^ k<fy->(0<k->0<n)->iW k a (num n++t)=(a+n*128 ^ k,k+(num n).length,0):=by
 intro n
 induction n using Nat.strongRecOn with
 | _ n d=>
  intro k a t b ar;have hk:9<k->False:=by
   intro h;have h1:128 ^ 10<=128 ^ k:=rh bq h;have h2:1*128 ^ k<=n*128 ^ k:=sH _ (ar U);unfold fy at b
   have:(18446744073709551616:J)<128 ^ 10:=bq
   omega
  by_cases au:n<128
  .have aj:=pw n U;rw[rV n au,ku,BQ]
   .rw[aj,ja au];rfl
   .rw[aj,ja au];rintro(h|⟨rfl,h⟩)
    .exact hk h
    unfold fy at b
    have:2*128 ^ 9<=n*128 ^ 9:=sH _ h
    omega
   .rw[aj];rintro⟨h,h2⟩
    have:=ar h2
    omega
   rw[aj];exact au
  have aj:=pw (n%128+128) U;have c:¬ (9<k\/k=9):=by
   rintro(h|rfl)
   .exact hk h
   unfold fy at b
   have:128*128 ^ 9<=n*128 ^ 9:=sH _ U
   omega
  have e:n*128 ^ k=n%128*128 ^ k+n / 128*128 ^ (k+1):=by
   have h1:n=n%128+n / 128*128:=U
   calc n*128 ^ k=(n%128+n / 128*128)*128 ^ k:=by rw[<-h1]
    _=_:=by rw[Ds,Nat.mul_assoc,nn,ot 128]
  have em:(n%128+128)%128=n%128:=U;rw[vR n au,ku,BR,aj,em,d (n / 128) U (k+1) _ t (by rw[iN,<-e];exact b) a7]
  .refine qe ?_ (qe ?_ rfl)
   .show a+n%128*128 ^ k+n / 128*128 ^ (k+1)=_;rw[e,iN]
   show k+1+(num (n / 128)).length=_;simp only[dr];omega
  .rintro(h|⟨h,_⟩)
   .exact c (.inl h)
   exact c (.inr h)
  .rw[aj];omega
  rw[aj];omega
def BS(n:J)(au:n<fy)(t:ah aQ):cz (num n++t)=(n,(num n).length,0):=by
 have:=UG n 0 0 t qi (λh=>absurd h bq)
 simpa[cz]using this
theorem IW:∀ (l:ah aQ) (k a v i:J),iW k a l=(v,i,0)->a<128 ^ k->∃ n,v=a+n*128 ^ k/\num n=l.take (i-k)/\i=k+(num n).length/\(0<k->0<n)/\v<fy
 | [],k,a,v,i,h,_=>by simp[iW]at h
 | c :: r,k,a,v,i,h,bj=>by
  by_cases h1:9<k\/(k=9/\1<c.toNat%128)
  .rw[IU _ _ _ _ h1]at h;simp at h
  by_cases h2:c.toNat=0/\0<k
  .rw[IT _ _ _ _ h1 h2]at h;simp at h
  have d:=BT k a (c.toNat%128) U (eW _ bq) U bj;by_cases b:c.toNat<128
  .rw[BQ _ _ _ _ h1 h2 b]at h;simp only[jq,and_true]at h;obtain⟨rfl,rfl⟩:=h;rw[ja b]at *;refine⟨c.toNat,rfl,?_,?_,λhk=>U,d.1⟩
   .rw[rV _ b,Lb];simp
   rw[rV _ b];rfl
  rw[BR _ _ _ _ h1 h2 b]at h;obtain⟨n,e,f,m,g,j⟩:=IW r (k+1) _ v i h d.2;have aq:=c.toNat_lt;have au:¬ n*128+c.toNat%128<128:=by have:=g U;omega
  refine⟨n*128+c.toNat%128,?_,?_,?_,λ_=>U,j⟩
  .rw[e,Ds,Nat.mul_assoc,nn,ot 128,iN,qc (c.toNat%128*128 ^ k)]
  .rw[vR _ au,show(n*128+c.toNat%128) / 128=n by omega,show(n*128+c.toNat%128)%128+128=c.toNat by omega,f,show i-k=(i-(k+1))+1 by omega];simp
  rw[vR _ au,show(n*128+c.toNat%128) / 128=n by omega];simp only[dr];omega
def UH(l:ah aQ)(v i:J)(h:cz l=(v,i,0)):num v=l.take i/\v<fy/\i=(num v).length:=by
 have⟨n,a,b,d,_,c⟩:=IW l 0 0 v i h bq;simp at a;subst a;exact⟨by simpa using b,c,U⟩
theorem IV:∀ (l:ah aQ) (k a:J),(iW k a l).2.2≠0->(iW k a l).1=0/\(iW k a l).2.1=0
 | [],_,_,_=>by simp[iW]
 | c :: r,k,a,h=>by
  rw[iW]at h⊢;split
  .simp
  split
  .simp
  split
  .simp_all
  refine IV r _ _ ?_;simp_all
def yr(l:ah aQ):(cz l).1<fy/\(cz l).2.1<=l.length/\(cz l).2.1<=10:=by
 by_cases h:(cz l).2.2=0
 .obtain⟨h1,h2,c⟩:=UH l (cz l).1 (cz l).2.1 (qe rfl (qe rfl h))
  have:=cV length h1
  have d:=nR _ h2;rw[gw]at this;exact⟨h2,U,U⟩
 have⟨h1,h2⟩:=IV l 0 0 h;have a:(cz l).1=0:=h1;have b:(cz l).2.1=0:=h2;rw[a,b];exact⟨bq,U,U⟩
def fz(n:aa):J:=if 0<=n then(2*n).toNat else(-2*n-1).toNat
def ui(a:J):aa:=if a%2=0 then((a / 2:J):aa)else -((a / 2:J):aa)-1
def XU(n:aa):ui (fz n)=n:=by
 unfold ui fz;split<;>split<;>omega
def Nv(n:aa)(h:-9223372036854775808<=n/\n<=9223372036854775807):fz n<fy:=by
 unfold fz fy;split<;>omega
structure aZ where
 kind:aa
 bL:aa
 cl:aa
 cj:aa
 a8:ah aQ
 sum:aa
 lead:aa
def aZ.zero:aZ:=⟨0,0,0,0,[],0,0⟩
structure aZ.wf(m:aZ):ak where
 kind:-9223372036854775808<=m.kind/\m.kind<=9223372036854775807
 bL:0<=m.bL/\m.bL<4294967296
 cl:0<=m.cl/\m.cl<65536
 cj:0<=m.cj/\m.cj<65536
 sum:0<=m.sum/\m.sum<4294967296
 lead:-9223372036854775808<=m.lead/\m.lead<=9223372036854775807
def nY(a b:aZ):aY:=decide (a.kind=b.kind)&&decide (a.bL=b.bL)&&decide (a.cl=b.cl)&&decide (a.cj=b.cj)&&decide (a.a8=b.a8)&&decide (a.sum=b.sum)&&decide (a.lead=b.lead)
def f'(k:aa):aa:=if k=1\/k=2 then 1 else if k=3 then 14 else if k=4 then 18 else if k=5 then 4 else if k=6 then 34 else 0
def gV(m:aZ):aZ:=
 ⟨m.kind,if m.kind=1\/m.kind=2 then m.bL else 0,if m.kind=3\/m.kind=4\/m.kind=6 then m.cl else 0,if m.kind=3\/m.kind=5 then m.cj else 0,if m.kind=3 then m.a8 else [],if m.kind=4 then m.sum else 0,if m.kind=6 then m.lead else 0⟩
def dh(m:aZ):ak:=
 (1<=m.kind/\m.kind<=7)/\fits m.a8=true/\(-1000<=m.lead/\m.lead<=1000)/\(m.bL=0\/m.kind=1\/m.kind=2)/\(m.cl=0\/m.kind=3\/m.kind=4\/m.kind=6)/\(m.cj=0\/m.kind=3\/m.kind=5)/\(0<m.a8.length↔m.kind=3)/\(m.sum=0\/m.kind=4)/\(m.lead=0\/m.kind=6)
instance (m:aZ):Decidable (dh m):=by unfold dh;infer_instance
def UY(m:aZ):dh m↔(1<=m.kind/\m.kind<=7)/\nY m (gV m)=true/\fits m.a8=true/\(-1000<=m.lead/\m.lead<=1000)/\(m.kind≠3\/0<m.a8.length):=by
 have⟨k,n,s,a,i,u,l⟩:=m;have q:(0<i.length)↔i≠[]:=by cases i<;>simp
 simp only[dh,nY,gV,ee,gg,q];constructor
 .rintro⟨h1,h2,b,o,r,t,p,v,w⟩;refine⟨h1,⟨⟨⟨⟨⟨⟨trivial,?_⟩,?_⟩,?_⟩,?_⟩,?_⟩,?_⟩,h2,b,?_⟩
  .split<;>simp_all
  .split<;>simp_all
  .split<;>simp_all
  .split
   .rfl
   rename_i e;by_cases av:i=[]
   .exact av
   exact absurd (p.1 av) e
  .split<;>simp_all
  .split<;>simp_all
  by_cases e:k=3
  .exact .inr (p.2 e)
  exact .inl e
 rintro⟨h1,⟨⟨⟨⟨⟨⟨_,g1⟩,c⟩,d⟩,f⟩,g⟩,j⟩,h2,b,o⟩;refine⟨h1,h2,b,?_,?_,?_,⟨λav=>?_,λe=>?_⟩,?_,?_⟩
 .split at g1
  .rename_i e;exact .inr e
  exact .inl g1
 .split at c
  .rename_i e;exact .inr e
  exact .inl c
 .split at d
  .rename_i e;exact .inr e
  exact .inl d
 .split at f
  .rename_i e;exact e
  exact absurd f av
 .rcases o with h|h
  .exact absurd e h
  exact h
 .split at g
  .rename_i e;exact .inr e
  exact .inl g
 split at j
 .rename_i e;exact .inr e
 exact .inl j
def qo(p:aa×aa)(c:aQ):aa×aa:=((p.1+(c.toNat:aa))%65521,(p.2+(p.1+(c.toNat:aa))%65521)%65521)
def pV(p:aa×aa)(c:aQ):aa×aa:=(p.1+(c.toNat:aa),p.2+(p.1+(c.toNat:aa)))
def iR(p:aa×aa)(l:ah aQ):aa×aa:=l.foldl qo p
def raw(p:aa×aa)(l:ah aQ):aa×aa:=l.foldl pV p
def E4(p:aa×aa)(c:aQ)(l:ah aQ):iR p (c :: l)=iR (qo p c) l:=rfl
def IP(p:aa×aa)(c:aQ)(l:ah aQ):raw p (c :: l)=raw (pV p c) l:=rfl
def NM(p:aa×aa)(l m:ah aQ):iR p (l++m)=iR (iR p l) m:=by simp[iR,nj]
def BP(p:aa×aa)(l:ah aQ)(c:aQ):raw p (l++[c])=pV (raw p l) c:=by simp[raw,nj]
def lX(p:aa×aa):ak:=(0<=p.1/\p.1<65521)/\(0<=p.2/\p.2<65521)
def UP(p:aa×aa)(c:aQ):lX (qo p c):=by unfold lX qo;simp only;omega
theorem tR:∀ (l:ah aQ) (p:aa×aa),lX p->lX (iR p l)
 | [],_,h=>h
 | c :: l,p,_=>tR l _ (UP p c)
theorem IN:∀ (l:ah aQ) (p q:aa×aa),p.1%65521=q.1->p.2%65521=q.2->(raw p l).1%65521=(iR q l).1/\(raw p l).2%65521=(iR q l).2
 | [],_,_,h1,h2=>⟨h1,h2⟩
 | c :: l,p,q,h1,h2=>by
  rw[IP,E4];refine IN l _ _ ?_ ?_
  .simp only[pV,qo];omega
  simp only[pV,qo];omega
theorem IS:∀ (l:ah aQ) (p:aa×aa) (B:aa),p.1<=B->0<=p.1->0<=p.2->0<=(raw p l).1/\0<=(raw p l).2/\(raw p l).1<=B+255*(l.length:aa)/\2*(raw p l).2<=2*p.2+2*B*(l.length:aa)+255*(l.length:aa)*((l.length:aa)+1)
 | [],p,B,h1,h2,i=>by simp[raw];omega
 | c :: l,p,B,h1,h2,i=>by
  have aq:(0:aa)<=(c.toNat:aa)/\(c.toNat:aa)<=255:=by have:=c.toNat_lt;omega
  rw[IP]
  have:=IS l (pV p c) (B+255) D6 D6 D6
  obtain⟨b,d,j,a⟩:=this;refine⟨b,d,by simp only[dr];omega,?_⟩;simp only[pV]at a;simp only[pV,dr];generalize au:(l.length:aa)=n at *;have e:((l.length+1:J):aa)=n+1:=U;rw[e];have f:2*(B+255)*n=2*B*n+510*n:=by rw[show 2*(B+255)=2*B+510 by omega,Int.add_mul]
  have g:255*(n+1)*(n+1+1)=255*n*(n+1)+510*n+510:=by
   have:255*(n+1)=255*n+255:=U
   rw[this,Int.add_mul,Int.mul_add (255*n) (n+1) 1];omega
  have h:2*B*(n+1)=2*B*n+2*B:=by rw[Int.mul_add];omega
  rw[g,h];rw[f]at a;omega
def BO(p:aa×aa)(l:ah aQ)(ar:lX p)(h:l.length<=5552):(0<=(raw p l).1/\(raw p l).1<=1481280)/\(0<=(raw p l).2/\(raw p l).2<=4294690200):=by
 have⟨⟨h1,h2⟩,b,g⟩:=ar;have⟨d,e,f,a⟩:=IS l p 65520 U h1 b;have c:(l.length:aa)*((l.length:aa)+1)<=5552*5553:=Int.mul_le_mul U U U U;rw[Int.mul_assoc 255]at a;omega
def more(n:aa)(l:ah aQ):aa:=(iR (n%65536%65521,n / 65536%65521) l).2*65536+(iR (n%65536%65521,n / 65536%65521) l).1
def vX(n:aa):lX (n%65536%65521,n / 65536%65521):=by unfold lX;simp only;omega
def Ia(n:aa)(l:ah aQ):more n l%65536=(iR (n%65536%65521,n / 65536%65521) l).1/\more n l / 65536=(iR (n%65536%65521,n / 65536%65521) l).2:=by
 have:=tR l _ (vX n)
 unfold lX at this;unfold more;omega
def vL(n:aa)(l:ah aQ):0<=more n l/\more n l<4294967296:=by
 have:=tR l _ (vX n)
 unfold lX at this;unfold more;omega
def eF(n:aa):ah aQ:=[UInt8.ofNat (n / 16777216%256).toNat,UInt8.ofNat (n / 65536%256).toNat,UInt8.ofNat (n / 256%256).toNat,UInt8.ofNat (n%256).toNat]
def gp(l:ah aQ)(count:J)(out:ah aQ)(at':J):ah aQ×J×aa:=
 if a:count<=out.length then(out,at',0)else
 match l.drop at' with
 | []=>([],0,3)
 | x :: r=>
  if 63<x.toNat\/out.getLast?=some x then([],0,4)
  else if (cz r).2.2≠0 then([],0,(cz r).2.2)
  else if h2:(cz r).1=0\/count-out.length<(cz r).1 then([],0,4)
  else gp l count (out++replicate (cz r).1 x) (at'+1+(cz r).2.1)
termination_by count-out.length
decreasing_by simp only[cx,uy];omega
def BZ(l:ah aQ)(count:J)(out:ah aQ)(at':J)(h:count<=out.length):gp l count out at'=(out,at',0):=by rw[gp,dif_pos h]
def Ve(l:ah aQ)(count:J)(out:ah aQ)(at':J)(h:¬ count<=out.length)(h1:l.drop at'=[]):gp l count out at'=([],0,3):=by rw[gp,dif_neg h,h1]
def I8(l:ah aQ)(count:J)(out:ah aQ)(at':J)(h:¬ count<=out.length)(x:aQ)(r:ah aQ)(h1:l.drop at'=x :: r)(h2:63<x.toNat\/out.getLast?=some x):gp l count out at'=([],0,4):=by
 rw[gp,dif_neg h,h1];simp only[];rw[aD h2]
def Vc(l:ah aQ)(count:J)(out:ah aQ)(at':J)(h:¬ count<=out.length)(x:aQ)(r:ah aQ)(h1:l.drop at'=x :: r)(h2:¬ (63<x.toNat\/out.getLast?=some x))(a:(cz r).2.2≠0):gp l count out at'=([],0,(cz r).2.2):=by
 rw[gp,dif_neg h,h1];simp only[];rw[aA h2,aD a]
def Vf(l:ah aQ)(count:J)(out:ah aQ)(at':J)(h:¬ count<=out.length)(x:aQ)(r:ah aQ)(h1:l.drop at'=x :: r)(h2:¬ (63<x.toNat\/out.getLast?=some x))(a:(cz r).2.2=0)(b:(cz r).1=0\/count-out.length<(cz r).1):gp l count out at'=([],0,4):=by
 rw[gp,dif_neg h,h1];simp only[];rw[aA h2,aA sR,dif_pos b]
def I9(l:ah aQ)(count:J)(out:ah aQ)(at':J)(h:¬ count<=out.length)(x:aQ)(r:ah aQ)(h1:l.drop at'=x :: r)(h2:¬ (63<x.toNat\/out.getLast?=some x))(a:(cz r).2.2=0)(b:¬ ((cz r).1=0\/count-out.length<(cz r).1)):gp l count out at'=gp l count (out++replicate (cz r).1 x) (at'+1+(cz r).2.1):=by
 rw[gp,dif_neg h,h1];simp only[];rw[aA h2,aA sR,dif_neg b]
def iG(l:ah aQ):ah aQ×J×aa:=
 if (cz l).2.2≠0 then([],0,(cz l).2.2)else if 64<(cz l).1 then([],0,5)else gp l (cz l).1 [] (cz l).2.1
theorem Jp(c:aQ):∀ r:ah aQ,(r.drop (same c r)).head?≠some c
 | []=>by simp[same]
 | d :: r=>by
  by_cases hd:d=c
  .have e:same c (d :: r)=same c r+1:=by rw[same,aD hd]
   rw[e,hG];exact Jp c r
  have e:same c (d :: r)=0:=by rw[same,aA hd]
  rw[e];simpa using hd
theorem Jr(c:aQ):∀ r:ah aQ,r.take (same c r)=replicate (same c r) c
 | []=>by simp[same]
 | d :: r=>by
  by_cases hd:d=c
  .have e:same c (d :: r)=same c r+1:=by rw[same,aD hd]
   rw[e,hI,replicate_succ,Jr c r,hd]
  have e:same c (d :: r)=0:=by rw[same,aA hd]
  rw[e];rfl
def R3(out:ah aQ)(k:J)(c:aQ):(out++replicate (k+1) c).getLast?=some c:=by
 rw[Dr,<-dD,getLast?_append];simp
def Vd:∀ (m:J) (L out t l:ah aQ) (at' count:J),L.length<=m->l.drop at'=gN (runs L)++t->count=out.length+L.length->count<=64->(∀ x∈L,x.toNat<=63)->(out≠[]->L≠[]->out.getLast?≠L.head?)->
  gp l count out at'=(out++L,at'+(gN (runs L)).length,0):=by
 intro m
 induction m with
 | zero=>
  intro L out t l at' count hm hd aq e b hne;obtain rfl:L=[]:=jn.1 U;rw[BZ _ _ _ _ (by simp at aq;omega)];simp[runs,gN]
 | succ m n=>
  intro L out t l at' count hm hd aq e b hne;cases L with
  | nil=>
   rw[BZ _ _ _ _ (by simp at aq;omega)];simp[runs,gN]
  | cons c r=>
   have o:=yG c r;have g:runs (c :: r)=(c,same c r+1) :: runs (r.drop (same c r)):=by rw[runs]
   have d:gN (runs (c :: r))=c :: (num (same c r+1)++gN (runs (r.drop (same c r)))):=by rw[g];simp[gN]
   have i:c :: r=replicate (same c r+1) c++r.drop (same c r):=by
    rw[replicate_succ,<-Jr c r,ku,lR]
   simp only[dr]at aq hm;rw[d]at hd;simp only[ku,dD]at hd;have a:=BS (same c r+1) qh (gN (runs (r.drop (same c r)))++t);have au:(cz (num (same c r+1)++(gN (runs (r.drop (same c r)))++t))).1=same c r+1:=by rw[a]
   have ax:(cz (num (same c r+1)++(gN (runs (r.drop (same c r)))++t))).2.1=(num (same c r+1)).length:=by rw[a]
   have j:(cz (num (same c r+1)++(gN (runs (r.drop (same c r)))++t))).2.2=0:=by rw[a]
   rw[I9 l count out at' U c _ hd ?h2 j (by rw[au];omega),au,ax]
   case h2=>
    rintro(h|h)
    .have:=b c aI;omega
    by_cases f:out=[]
    .rw[f]at h;simp at h
    exact hne f aI (by rw[h];rfl)
   rw[n (r.drop (same c r)) _ t l _ count bU ?hd bU e (λx k=>b x (kx _ (zq k))) ?hne]
   case hd=>
    rw[<-mr,<-mr,hd];simp
   case hne=>
    intro _ _;rw[R3];exact(Jp c r).symm
   refine qe ?_ (qe ?_ rfl)
   .simp only[dD];rw[<-i]
   simp only[d,dr,cx];omega
def UI(L t:ah aQ)(a:fits L=true):iG (lF L++t)=(L,(lF L).length,0):=by
 unfold fits at a;simp only[ee,ff,gg]at a;have e:lF L++t=num L.length++(gN (runs L)++t):=by simp[lF]
 unfold iG;rw[e,(BS L.length qh (gN (runs L)++t))];simp only[];rw[aA aI,aA U,Vd L.length L [] t _ _ _ bA aI aI a.2 a.1 (λh=>absurd rfl h)];simp[lF]
def sf(l:ah aQ):aa:=(l.map λc=>(c.toNat:aa)).sum
theorem z7:∀ (l:ah aQ) (p:aa×aa),((iR p l).1-(p.1+sf l))%65521=0
 | [],p=>by simp[iR,sf]
 | c :: l,p=>by
  have:=z7 l (qo p c)
  rw[E4];simp only[sf,jo,sum_cons]at *;simp only[qo]at *;omega
theorem J9:∀ (l:ah aQ) (k:J) (c:aQ) (h:k<l.length),sf (l.set k c)=sf l-(l[k].toNat:aa)+(c.toNat:aa)
 | bu :: l,0,c,h=>by simp[sf];omega
 | bu :: l,k+1,c,h=>by
  have:=J9 l k c h8
  simp only[sf,wL,jo,sum_cons,wF]at *;omega
def Xl(a b:aa)(bj:0<=a/\a<4294967296)(aj:0<=b/\b<4294967296)(h:eF a=eF b):a=b:=by
 unfold eF at h;have key:∀ x y:J,x<256->y<256->UInt8.ofNat x=UInt8.ofNat y->x=y:=by
  intro x y f g e
  have:=cV UInt8.toNat e
  simpa[ja f,ja g]using this
 simp only[zh,and_true]at h;have⟨h1,h2,c,d⟩:=h;have i:=key _ _ U U h1;have j:=key _ _ U U h2;have k:=key _ _ U U c;have l:=key _ _ U U d;omega
def J_(n:aa):(eF n).length=4:=rfl
def XL(l:ah aQ)(k:J)(c:aQ)(hk:k<(l++eF (more 1 l)).length)(aq:c≠(l++eF (more 1 l))[k])(u v:ah aQ)(a:u++v=(l++eF (more 1 l)).set k c)(aX:v.length=4):eF (more 1 u)≠v:=by
 intro h;have g:u.length=l.length:=by
  have:=cV length a
  simp[J_]at this;omega
 by_cases f:k<l.length
 .rw[set_append_left _ _ f]at a;have⟨b,d⟩:=append_inj a (by simpa using g);rw[d]at h;have m:=Xl _ _ (vL _ _) (vL _ _) h;have n:=(Ia 1 u).1;have q:=(Ia 1 l).1;have fm:=tR u _ (vX 1);have r:=tR l _ (vX 1);have j:=z7 u (1%65536%65521,1 / 65536%65521);have o:=z7 l (1%65536%65521,1 / 65536%65521);rw[b,J9 l k c f]at j;rw[getElem_append_left f]at aq;rw[b]at n fm m;have hne:(c.toNat:aa)≠(l[k].toNat:aa):=λe=>aq (zz.1 U);have bP:=c.toNat_lt;have p:=l[k].toNat_lt;omega
 rw[set_append_right _ _ U]at a;have⟨b,d⟩:=append_inj a g;subst b;rw[d]at h;have i:k-u.length<(eF (more 1 u)).length:=by simp[J_]at hk⊢;omega
 have:=cV (λx=>x[k-u.length]?) h
 simp[i]at this;rw[getElem_append_right U]at aq;exact aq this.symm
end Go.Proofs.YtalagblioepadaaGreatDoor
