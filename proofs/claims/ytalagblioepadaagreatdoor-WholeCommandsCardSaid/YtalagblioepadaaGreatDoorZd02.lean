/- The proof, part 2. -/
import Derived.Test.YtalagblioepadaaGreatDoorZd01
namespace Go.Proofs.YtalagblioepadaaGreatDoor
set_option linter.all false
open List Go.RowKit
set_option maxRecDepth 100000
def qP{p:al}(h:p:=by unfold fL;omega):p:=h
def E3{p:al}(h:p:=by simp only[qp];omega):p:=h
def fL:J:=18446744073709551616
def num(n:J):ah aT:=if n<128 then [UInt8.ofNat n]else UInt8.ofNat (n%128+128) :: num (n / 128)
termination_by n
decreasing_by omega
def sx(n:J)(h:n<128):num n=[UInt8.ofNat n]:=by rw[num,aE h]
def wD(n:J)(h:¬ n<128):num n=UInt8.ofNat (n%128+128) :: num (n / 128):=by rw[num,aB h]
theorem Co:∀ (k n:J),n<128 ^ (k+1)->(num n).length<=k+1
 | 0,n,h=>by rw[sx n ic];simp
 | k+1,n,h=>by
  by_cases av:n<128
  .rw[sx n av];simp
  rw[wD n av]
  have:=Co k (n / 128) (by rw[Nat.div_lt_iff_lt_mul U];rw[nX]at h;exact h)
  simp only[dy];omega
def oA(n:J)(h:n<fL):(num n).length<=10:=Co 9 n (mq h (by unfold fL;decide))
def jq:J->J->ah aT->J×J×aa
 | _,_,[]=>(0,0,3)
 | i,a,c :: r=>
  if 9<i\/(i=9/\1<c.toNat%128)then(0,0,4)
  else if c.toNat=0/\0<i then(0,0,4)
  else if c.toNat<128 then(a+c.toNat%128*128 ^ i,i+1,0)
  else jq (i+1) (a+c.toNat%128*128 ^ i) r
def cE(l:ah aT):J×J×aa:=jq 0 0 l
def JY(k a:J)(c:aT)(r:ah aT)(h:9<k\/(k=9/\1<c.toNat%128)):jq k a (c :: r)=(0,0,4):=by rw[jq,aE h]
def JX(k a:J)(c:aT)(r:ah aT)(h:¬ (9<k\/(k=9/\1<c.toNat%128)))(h2:c.toNat=0/\0<k):jq k a (c :: r)=(0,0,4):=by rw[jq,aB h,aE h2]
def CI(k a:J)(c:aT)(r:ah aT)(h:¬ (9<k\/(k=9/\1<c.toNat%128)))(h2:¬ (c.toNat=0/\0<k))(b:c.toNat<128):jq k a (c :: r)=(a+c.toNat%128*128 ^ k,k+1,0):=by rw[jq,aB h,aB h2,aE b]
def CJ(k a:J)(c:aT)(r:ah aT)(h:¬ (9<k\/(k=9/\1<c.toNat%128)))(h2:¬ (c.toNat=0/\0<k))(b:¬ c.toNat<128):jq k a (c :: r)=jq (k+1) (a+c.toNat%128*128 ^ k) r:=by rw[jq,aB h,aB h2,aB b]
def CL(k a x:J)(hk:k<=9)(b:x<128)(h:¬ (k=9/\1<x))(bh:a<128 ^ k):a+x*128 ^ k<fL/\a+x*128 ^ k<128 ^ (k+1):=by
 unfold fL;rcases (show k=0\/k=1\/k=2\/k=3\/k=4\/k=5\/k=6\/k=7\/k=8\/k=9 by omega)with rfl|rfl|rfl|rfl|rfl|rfl|rfl|rfl|rfl|rfl<;>(simp only[Nat.reduceAdd,Nat.reducePow]at bh⊢;omega)
def same(c:aT):ah aT->J
 | []=>0
 | d :: r=>if d=c then same c r+1 else 0
theorem zi(c:aT):∀ r:ah aT,same c r<=r.length
 | []=>df _
 | d :: r=>by
  have:=zi c r
  unfold same;split<;>simp only[dy]<;>omega
theorem Ks(c:aT):∀ (r:ah aT) (i:J) (_:i<same c r) (h2:i<r.length),r[i]=c
 | d :: r,i,h,h2=>by
  unfold same at h;split at h
  .rename_i hd
   match i,h,h2 with
   | 0,_,_=>exact hd
   | i+1,h,h2=>exact Ks c r i iO AH
  omega
theorem Ku(c:aT):∀ (r:ah aT) (h:same c r<r.length),r[same c r]≠c
 | d :: r,h=>by
  by_cases hd:d=c
  .have e:same c (d :: r)=same c r+1:=by rw[same,aE hd]
   have a:same c r<r.length:=by rw[e]at h;simpa using h
   have:=Ku c r a
   simpa[e]using this
  have e:same c (d :: r)=0:=by rw[same,aB hd]
  simpa[e]using hd
def runs:ah aT->ah (aT×J)
 | []=>[]
 | c :: r=>(c,same c r+1) :: runs (r.drop (same c r))
termination_by l=>l.length
decreasing_by simp only[gg,dy];omega
theorem CX:∀ (m:J) (L:ah aT),L.length<=m->∀ x∈runs L,0<x.2/\x.2<=L.length
 | _,[],_,x,a=>by simp[runs]at a
 | 0,c :: r,h,_,_=>by simp at h
 | m+1,c :: r,h,x,a=>by
  rw[runs]at a;simp only[dy]at h⊢;rcases ff.1 a with rfl|a
  .exact⟨aM,by simpa using(zi c r)⟩
  have:=CX m (r.drop (same c r)) b1 x a
  simp only[gg]at this;omega
def fits(L:ah aT):a1:=L.all (λc=>decide (c.toNat<=63))&&decide (L.length<=64)
def hc(p:ah (aT×J)):ah aT:=p.flatMap λx=>x.1 :: num x.2
def l_(L:ah aT):ah aT:=num L.length++hc (runs L)
theorem Km:∀ (m:J) (L:ah aT),L.length<=m->(runs L).length<=L.length
 | _,[],_=>by simp[runs]
 | 0,c :: r,h=>by simp at h
 | m+1,c :: r,h=>by
  simp only[dy]at h
  have:=Km m (r.drop (same c r)) b1
  rw[runs];simp only[dy,gg]at this⊢;omega
theorem Kl:∀ (p:ah (aT×J)),(∀ x∈p,x.2<128)->(hc p).length=2*p.length
 | [],_=>rfl
 | x :: p,h=>by
  have h1:=Kl p (λy a=>h y (kx _ a));unfold hc at *;rw[jc,sx _ (h x (nS))];simp only[cx,dy,fg,h1];omega
def W4(p:ah (aT×J))(x:aT×J):hc (p++[x])=hc p++(x.1 :: num x.2):=by simp[hc]
def JH(L:ah aT)(b:L.length<=64)(pre rest:ah (aT×J))(h:runs L=pre++rest):(num L.length++hc pre).length<=138:=by
 have h1:=Km _ L bx;have h2:=CX _ L bx;rw[h]at h1 h2;simp only[cx]at h1⊢;rw[Kl pre (λx a=>by have:=h2 x (Aa _ a);omega)]
 have:=oA L.length qP
 omega
def p3(n:J)(h:n<256):(UInt8.ofNat n).toNat=n:=by simp[jy h]
def VV:∀ (n k a:J) (t:ah aT),a+n*128 ^ k<fL->(0<k->0<n)->jq k a (num n++t)=(a+n*128 ^ k,k+(num n).length,0):=by
 intro n
 induction n using Nat.strongRecOn with
 | _ n d=>
  intro k a t b au;have hk:9<k->False:=by
   intro h;have h1:128 ^ 10<=128 ^ k:=rX bt h;have h2:1*128 ^ k<=n*128 ^ k:=td _ (au U);unfold fL at b
   have:(18446744073709551616:J)<128 ^ 10:=bt
   omega
  by_cases av:n<128
  .have ak:=p3 n U;rw[sx n av,kV,CI]
   .rw[ak,jy av];rfl
   .rw[ak,jy av];rintro(h|⟨rfl,h⟩)
    .exact hk h
    unfold fL at b
    have:2*128 ^ 9<=n*128 ^ 9:=td _ h
    omega
   .rw[ak];rintro⟨h,h2⟩
    have:=au h2
    omega
   rw[ak];exact av
  have ak:=p3 (n%128+128) U;have c:¬ (9<k\/k=9):=by
   rintro(h|rfl)
   .exact hk h
   unfold fL at b
   have:128*128 ^ 9<=n*128 ^ 9:=td _ U
   omega
  have e:n*128 ^ k=n%128*128 ^ k+n / 128*128 ^ (k+1):=by
   have h1:n=n%128+n / 128*128:=U
   calc n*128 ^ k=(n%128+n / 128*128)*128 ^ k:=by rw[<-h1]
    _=_:=by rw[Eo,Nat.mul_assoc,nX,oZ 128]
  have em:(n%128+128)%128=n%128:=U;rw[wD n av,kV,CJ,ak,em,d (n / 128) U (k+1) _ t (by rw[hZ,<-e];exact b) a8]
  .refine qM ?_ (qM ?_ rfl)
   .show a+n%128*128 ^ k+n / 128*128 ^ (k+1)=_;rw[e,hZ]
   show k+1+(num (n / 128)).length=_;simp only[dy];omega
  .rintro(h|⟨h,_⟩)
   .exact c (.inl h)
   exact c (.inr h)
  .rw[ak];omega
  rw[ak];omega
def CK(n:J)(av:n<fL)(t:ah aT):cE (num n++t)=(n,(num n).length,0):=by
 have:=VV n 0 0 t qQ (λh=>absurd h bt)
 simpa[cE]using this
theorem J0:∀ (l:ah aT) (k a v i:J),jq k a l=(v,i,0)->a<128 ^ k->∃ n,v=a+n*128 ^ k/\num n=l.take (i-k)/\i=k+(num n).length/\(0<k->0<n)/\v<fL
 | [],k,a,v,i,h,_=>by simp[jq]at h
 | c :: r,k,a,v,i,h,bh=>by
  by_cases h1:9<k\/(k=9/\1<c.toNat%128)
  .rw[JY _ _ _ _ h1]at h;simp at h
  by_cases h2:c.toNat=0/\0<k
  .rw[JX _ _ _ _ h1 h2]at h;simp at h
  have d:=CL k a (c.toNat%128) U (e8 _ bt) U bh;by_cases b:c.toNat<128
  .rw[CI _ _ _ _ h1 h2 b]at h;simp only[jR,and_true]at h;obtain⟨rfl,rfl⟩:=h;rw[jy b]at *;refine⟨c.toNat,rfl,?_,?_,λhk=>U,d.1⟩
   .rw[sx _ b,Er];simp
   rw[sx _ b];rfl
  rw[CJ _ _ _ _ h1 h2 b]at h;obtain⟨n,e,f,m,g,j⟩:=J0 r (k+1) _ v i h d.2;have an:=c.toNat_lt;have av:¬ n*128+c.toNat%128<128:=by have:=g U;omega
  refine⟨n*128+c.toNat%128,?_,?_,?_,λ_=>U,j⟩
  .rw[e,Eo,Nat.mul_assoc,nX,oZ 128,hZ,qL (c.toNat%128*128 ^ k)]
  .rw[wD _ av,show(n*128+c.toNat%128) / 128=n by omega,show(n*128+c.toNat%128)%128+128=c.toNat by omega,f,show i-k=(i-(k+1))+1 by omega];simp
  rw[wD _ av,show(n*128+c.toNat%128) / 128=n by omega];simp only[dy];omega
def VW(l:ah aT)(v i:J)(h:cE l=(v,i,0)):num v=l.take i/\v<fL/\i=(num v).length:=by
 have⟨n,a,b,d,_,c⟩:=J0 l 0 0 v i h bt;simp at a;subst a;exact⟨by simpa using b,c,U⟩
theorem JZ:∀ (l:ah aT) (k a:J),(jq k a l).2.2≠0->(jq k a l).1=0/\(jq k a l).2.1=0
 | [],_,_,_=>by simp[jq]
 | c :: r,k,a,h=>by
  rw[jq]at h⊢;split
  .simp
  split
  .simp
  split
  .simp_all
  refine JZ r _ _ ?_;simp_all
def y6(l:ah aT):(cE l).1<fL/\(cE l).2.1<=l.length/\(cE l).2.1<=10:=by
 by_cases h:(cE l).2.2=0
 .obtain⟨h1,h2,c⟩:=VW l (cE l).1 (cE l).2.1 (qM rfl (qM rfl h))
  have:=c5 length h1
  have d:=oA _ h2;rw[gB]at this;exact⟨h2,U,U⟩
 have⟨h1,h2⟩:=JZ l 0 0 h;have a:(cE l).1=0:=h1;have b:(cE l).2.1=0:=h2;rw[a,b];exact⟨bt,U,U⟩
def fN(n:aa):J:=if 0<=n then(2*n).toNat else(-2*n-1).toNat
def uR(a:J):aa:=if a%2=0 then((a / 2:J):aa)else -((a / 2:J):aa)-1
def Zf(n:aa):uR (fN n)=n:=by
 unfold uR fN;split<;>split<;>omega
def OO(n:aa)(h:-9223372036854775808<=n/\n<=9223372036854775807):fN n<fL:=by
 unfold fN fL;split<;>omega
structure a6 where
 kind:aa
 bQ:aa
 cr:aa
 cp:aa
 a_:ah aT
 sum:aa
 lead:aa
def a6.zero:a6:=⟨0,0,0,0,[],0,0⟩
structure a6.wf(m:a6):al where
 kind:-9223372036854775808<=m.kind/\m.kind<=9223372036854775807
 bQ:0<=m.bQ/\m.bQ<4294967296
 cr:0<=m.cr/\m.cr<65536
 cp:0<=m.cp/\m.cp<65536
 sum:0<=m.sum/\m.sum<4294967296
 lead:-9223372036854775808<=m.lead/\m.lead<=9223372036854775807
def oG(a b:a6):a1:=decide (a.kind=b.kind)&&decide (a.bQ=b.bQ)&&decide (a.cr=b.cr)&&decide (a.cp=b.cp)&&decide (a.a_=b.a_)&&decide (a.sum=b.sum)&&decide (a.lead=b.lead)
def gv(k:aa):aa:=if k=1\/k=2 then 1 else if k=3 then 14 else if k=4 then 18 else if k=5 then 4 else if k=6 then 34 else 0
def ho(m:a6):a6:=
 ⟨m.kind,if m.kind=1\/m.kind=2 then m.bQ else 0,if m.kind=3\/m.kind=4\/m.kind=6 then m.cr else 0,if m.kind=3\/m.kind=5 then m.cp else 0,if m.kind=3 then m.a_ else [],if m.kind=4 then m.sum else 0,if m.kind=6 then m.lead else 0⟩
def ds(m:a6):al:=
 (1<=m.kind/\m.kind<=7)/\fits m.a_=true/\(-1000<=m.lead/\m.lead<=1000)/\(m.bQ=0\/m.kind=1\/m.kind=2)/\(m.cr=0\/m.kind=3\/m.kind=4\/m.kind=6)/\(m.cp=0\/m.kind=3\/m.kind=5)/\(0<m.a_.length↔m.kind=3)/\(m.sum=0\/m.kind=4)/\(m.lead=0\/m.kind=6)
instance (m:a6):Decidable (ds m):=by unfold ds;infer_instance
def We(m:a6):ds m↔(1<=m.kind/\m.kind<=7)/\oG m (ho m)=true/\fits m.a_=true/\(-1000<=m.lead/\m.lead<=1000)/\(m.kind≠3\/0<m.a_.length):=by
 have⟨k,n,s,a,i,u,l⟩:=m;have q:(0<i.length)↔i≠[]:=by cases i<;>simp
 simp only[ds,oG,ho,ep,gh,q];constructor
 .rintro⟨h1,h2,b,o,r,t,p,v,w⟩;refine⟨h1,⟨⟨⟨⟨⟨⟨trivial,?_⟩,?_⟩,?_⟩,?_⟩,?_⟩,?_⟩,h2,b,?_⟩
  .split<;>simp_all
  .split<;>simp_all
  .split<;>simp_all
  .split
   .rfl
   rename_i e;by_cases ax:i=[]
   .exact ax
   exact absurd (p.1 ax) e
  .split<;>simp_all
  .split<;>simp_all
  by_cases e:k=3
  .exact .inr (p.2 e)
  exact .inl e
 rintro⟨h1,⟨⟨⟨⟨⟨⟨_,g1⟩,c⟩,d⟩,f⟩,g⟩,j⟩,h2,b,o⟩;refine⟨h1,h2,b,?_,?_,?_,⟨λax=>?_,λe=>?_⟩,?_,?_⟩
 .split at g1
  .rename_i e;exact .inr e
  exact .inl g1
 .split at c
  .rename_i e;exact .inr e
  exact .inl c
 .split at d
  .rename_i e;exact .inr e
  exact .inl d
 .split at f
  .rename_i e;exact e
  exact absurd f ax
 .rcases o with h|h
  .exact absurd e h
  exact h
 .split at g
  .rename_i e;exact .inr e
  exact .inl g
 split at j
 .rename_i e;exact .inr e
 exact .inl j
def qZ(p:aa×aa)(c:aT):aa×aa:=((p.1+(c.toNat:aa))%65521,(p.2+(p.1+(c.toNat:aa))%65521)%65521)
def qp(p:aa×aa)(c:aT):aa×aa:=(p.1+(c.toNat:aa),p.2+(p.1+(c.toNat:aa)))
def ji(p:aa×aa)(l:ah aT):aa×aa:=l.foldl qZ p
def raw(p:aa×aa)(l:ah aT):aa×aa:=l.foldl qp p
def F5(p:aa×aa)(c:aT)(l:ah aT):ji p (c :: l)=ji (qZ p c) l:=rfl
def JU(p:aa×aa)(c:aT)(l:ah aT):raw p (c :: l)=raw (qp p c) l:=rfl
def O5(p:aa×aa)(l m:ah aT):ji p (l++m)=ji (ji p l) m:=by simp[ji,mX]
def CH(p:aa×aa)(l:ah aT)(c:aT):raw p (l++[c])=qp (raw p l) c:=by simp[raw,mX]
def mv(p:aa×aa):al:=(0<=p.1/\p.1<65521)/\(0<=p.2/\p.2<65521)
def V4(p:aa×aa)(c:aT):mv (qZ p c):=by unfold mv qZ;simp only;omega
theorem uA:∀ (l:ah aT) (p:aa×aa),mv p->mv (ji p l)
 | [],_,h=>h
 | c :: l,p,_=>uA l _ (V4 p c)
theorem JT:∀ (l:ah aT) (p q:aa×aa),p.1%65521=q.1->p.2%65521=q.2->(raw p l).1%65521=(ji q l).1/\(raw p l).2%65521=(ji q l).2
 | [],_,_,h1,h2=>⟨h1,h2⟩
 | c :: l,p,q,h1,h2=>by
  rw[JU,F5];refine JT l _ _ ?_ ?_
  .simp only[qp,qZ];omega
  simp only[qp,qZ];omega
theorem JW:∀ (l:ah aT) (p:aa×aa) (B:aa),p.1<=B->0<=p.1->0<=p.2->0<=(raw p l).1/\0<=(raw p l).2/\(raw p l).1<=B+255*(l.length:aa)/\2*(raw p l).2<=2*p.2+2*B*(l.length:aa)+255*(l.length:aa)*((l.length:aa)+1)
 | [],p,B,h1,h2,i=>by simp[raw];omega
 | c :: l,p,B,h1,h2,i=>by
  have an:(0:aa)<=(c.toNat:aa)/\(c.toNat:aa)<=255:=by have:=c.toNat_lt;omega
  rw[JU]
  have:=JW l (qp p c) (B+255) E3 E3 E3
  obtain⟨b,d,j,a⟩:=this;refine⟨b,d,by simp only[dy];omega,?_⟩;simp only[qp]at a;simp only[qp,dy];generalize av:(l.length:aa)=n at *;have e:((l.length+1:J):aa)=n+1:=U;rw[e];have f:2*(B+255)*n=2*B*n+510*n:=by rw[show 2*(B+255)=2*B+510 by omega,Int.add_mul]
  have g:255*(n+1)*(n+1+1)=255*n*(n+1)+510*n+510:=by
   have:255*(n+1)=255*n+255:=U
   rw[this,Int.add_mul,Int.mul_add (255*n) (n+1) 1];omega
  have h:2*B*(n+1)=2*B*n+2*B:=by rw[Int.mul_add];omega
  rw[g,h];rw[f]at a;omega
def CG(p:aa×aa)(l:ah aT)(au:mv p)(h:l.length<=5552):(0<=(raw p l).1/\(raw p l).1<=1481280)/\(0<=(raw p l).2/\(raw p l).2<=4294690200):=by
 have⟨⟨h1,h2⟩,b,g⟩:=au;have⟨d,e,f,a⟩:=JW l p 65520 U h1 b;have c:(l.length:aa)*((l.length:aa)+1)<=5552*5553:=Int.mul_le_mul U U U U;rw[Int.mul_assoc 255]at a;omega
def more(n:aa)(l:ah aT):aa:=(ji (n%65536%65521,n / 65536%65521) l).2*65536+(ji (n%65536%65521,n / 65536%65521) l).1
def wJ(n:aa):mv (n%65536%65521,n / 65536%65521):=by unfold mv;simp only;omega
def Jg(n:aa)(l:ah aT):more n l%65536=(ji (n%65536%65521,n / 65536%65521) l).1/\more n l / 65536=(ji (n%65536%65521,n / 65536%65521) l).2:=by
 have:=uA l _ (wJ n)
 unfold mv at this;unfold more;omega
def wz(n:aa)(l:ah aT):0<=more n l/\more n l<4294967296:=by
 have:=uA l _ (wJ n)
 unfold mv at this;unfold more;omega
def eS(n:aa):ah aT:=[UInt8.ofNat (n / 16777216%256).toNat,UInt8.ofNat (n / 65536%256).toNat,UInt8.ofNat (n / 256%256).toNat,UInt8.ofNat (n%256).toNat]
def gM(l:ah aT)(count:J)(out:ah aT)(at':J):ah aT×J×aa:=
 if a:count<=out.length then(out,at',0)else
 match l.drop at' with
 | []=>([],0,3)
 | x :: r=>
  if 63<x.toNat\/out.getLast?=some x then([],0,4)
  else if (cE r).2.2≠0 then([],0,(cE r).2.2)
  else if h2:(cE r).1=0\/count-out.length<(cE r).1 then([],0,4)
  else gM l count (out++replicate (cE r).1 x) (at'+1+(cE r).2.1)
termination_by count-out.length
decreasing_by simp only[cx,va];omega
def CR(l:ah aT)(count:J)(out:ah aT)(at':J)(h:count<=out.length):gM l count out at'=(out,at',0):=by rw[gM,dif_pos h]
def Ww(l:ah aT)(count:J)(out:ah aT)(at':J)(h:¬ count<=out.length)(h1:l.drop at'=[]):gM l count out at'=([],0,3):=by rw[gM,dif_neg h,h1]
def Ka(l:ah aT)(count:J)(out:ah aT)(at':J)(h:¬ count<=out.length)(x:aT)(r:ah aT)(h1:l.drop at'=x :: r)(h2:63<x.toNat\/out.getLast?=some x):gM l count out at'=([],0,4):=by
 rw[gM,dif_neg h,h1];simp only[];rw[aE h2]
def Wu(l:ah aT)(count:J)(out:ah aT)(at':J)(h:¬ count<=out.length)(x:aT)(r:ah aT)(h1:l.drop at'=x :: r)(h2:¬ (63<x.toNat\/out.getLast?=some x))(a:(cE r).2.2≠0):gM l count out at'=([],0,(cE r).2.2):=by
 rw[gM,dif_neg h,h1];simp only[];rw[aB h2,aE a]
def Wx(l:ah aT)(count:J)(out:ah aT)(at':J)(h:¬ count<=out.length)(x:aT)(r:ah aT)(h1:l.drop at'=x :: r)(h2:¬ (63<x.toNat\/out.getLast?=some x))(a:(cE r).2.2=0)(b:(cE r).1=0\/count-out.length<(cE r).1):gM l count out at'=([],0,4):=by
 rw[gM,dif_neg h,h1];simp only[];rw[aB h2,aB tl,dif_pos b]
def Kb(l:ah aT)(count:J)(out:ah aT)(at':J)(h:¬ count<=out.length)(x:aT)(r:ah aT)(h1:l.drop at'=x :: r)(h2:¬ (63<x.toNat\/out.getLast?=some x))(a:(cE r).2.2=0)(b:¬ ((cE r).1=0\/count-out.length<(cE r).1)):gM l count out at'=gM l count (out++replicate (cE r).1 x) (at'+1+(cE r).2.1):=by
 rw[gM,dif_neg h,h1];simp only[];rw[aB h2,aB tl,dif_neg b]
def i_(l:ah aT):ah aT×J×aa:=
 if (cE l).2.2≠0 then([],0,(cE l).2.2)else if 64<(cE l).1 then([],0,5)else gM l (cE l).1 [] (cE l).2.1
theorem Kt(c:aT):∀ r:ah aT,(r.drop (same c r)).head?≠some c
 | []=>by simp[same]
 | d :: r=>by
  by_cases hd:d=c
  .have e:same c (d :: r)=same c r+1:=by rw[same,aE hd]
   rw[e,hX];exact Kt c r
  have e:same c (d :: r)=0:=by rw[same,aB hd]
  rw[e];simpa using hd
theorem Kv(c:aT):∀ r:ah aT,r.take (same c r)=replicate (same c r) c
 | []=>by simp[same]
 | d :: r=>by
  by_cases hd:d=c
  .have e:same c (d :: r)=same c r+1:=by rw[same,aE hd]
   rw[e,hY,replicate_succ,Kv c r,hd]
  have e:same c (d :: r)=0:=by rw[same,aB hd]
  rw[e];rfl
def Tn(out:ah aT)(k:J)(c:aT):(out++replicate (k+1) c).getLast?=some c:=by
 rw[En,<-dL,getLast?_append];simp
def Wv:∀ (m:J) (L out t l:ah aT) (at' count:J),L.length<=m->l.drop at'=hc (runs L)++t->count=out.length+L.length->count<=64->(∀ x∈L,x.toNat<=63)->(out≠[]->L≠[]->out.getLast?≠L.head?)->
  gM l count out at'=(out++L,at'+(hc (runs L)).length,0):=by
 intro m
 induction m with
 | zero=>
  intro L out t l at' count hm hd an e b hne;obtain rfl:L=[]:=jP.1 U;rw[CR _ _ _ _ (by simp at an;omega)];simp[runs,hc]
 | succ m n=>
  intro L out t l at' count hm hd an e b hne;cases L with
  | nil=>
   rw[CR _ _ _ _ (by simp at an;omega)];simp[runs,hc]
  | cons c r=>
   have o:=zi c r;have g:runs (c :: r)=(c,same c r+1) :: runs (r.drop (same c r)):=by rw[runs]
   have d:hc (runs (c :: r))=c :: (num (same c r+1)++hc (runs (r.drop (same c r)))):=by rw[g];simp[hc]
   have i:c :: r=replicate (same c r+1) c++r.drop (same c r):=by
    rw[replicate_succ,<-Kv c r,kV,mo]
   simp only[dy]at an hm;rw[d]at hd;simp only[kV,dL]at hd;have a:=CK (same c r+1) qP (hc (runs (r.drop (same c r)))++t);have av:(cE (num (same c r+1)++(hc (runs (r.drop (same c r)))++t))).1=same c r+1:=by rw[a]
   have aw:(cE (num (same c r+1)++(hc (runs (r.drop (same c r)))++t))).2.1=(num (same c r+1)).length:=by rw[a]
   have j:(cE (num (same c r+1)++(hc (runs (r.drop (same c r)))++t))).2.2=0:=by rw[a]
   rw[Kb l count out at' U c _ hd ?h2 j (by rw[av];omega),av,aw]
   case h2=>
    rintro(h|h)
    .have:=b c aM;omega
    by_cases f:out=[]
    .rw[f]at h;simp at h
    exact hne f aM (by rw[h];rfl)
   rw[n (r.drop (same c r)) _ t l _ count b1 ?hd b1 e (λx k=>b x (kx _ (Ac k))) ?hne]
   case hd=>
    rw[<-mV,<-mV,hd];simp
   case hne=>
    intro _ _;rw[Tn];exact(Kt c r).symm
   refine qM ?_ (qM ?_ rfl)
   .simp only[dL];rw[<-i]
   simp only[d,dy,cx];omega
def VX(L t:ah aT)(a:fits L=true):i_ (l_ L++t)=(L,(l_ L).length,0):=by
 unfold fits at a;simp only[ep,fw,gh]at a;have e:l_ L++t=num L.length++(hc (runs L)++t):=by simp[l_]
 unfold i_;rw[e,(CK L.length qP (hc (runs L)++t))];simp only[];rw[aB aM,aB U,Wv L.length L [] t _ _ _ bx aM aM a.2 a.1 (λh=>absurd rfl h)];simp[l_]
def sO(l:ah aT):aa:=(l.map λc=>(c.toNat:aa)).sum
theorem AU:∀ (l:ah aT) (p:aa×aa),((ji p l).1-(p.1+sO l))%65521=0
 | [],p=>by simp[ji,sO]
 | c :: l,p=>by
  have:=AU l (qZ p c)
  rw[F5];simp only[sO,jQ,sum_cons]at *;simp only[qZ]at *;omega
theorem Le:∀ (l:ah aT) (k:J) (c:aT) (h:k<l.length),sO (l.set k c)=sO l-(l[k].toNat:aa)+(c.toNat:aa)
 | bz :: l,0,c,h=>by simp[sO];omega
 | bz :: l,k+1,c,h=>by
  have:=Le l k c ic
  simp only[sO,xm,jQ,sum_cons,xf]at *;omega
def YH(a b:aa)(bh:0<=a/\a<4294967296)(ak:0<=b/\b<4294967296)(h:eS a=eS b):a=b:=by
 unfold eS at h;have key:∀ x y:J,x<256->y<256->UInt8.ofNat x=UInt8.ofNat y->x=y:=by
  intro x y f g e
  have:=c5 UInt8.toNat e
  simpa[jy f,jy g]using this
 simp only[z6,and_true]at h;have⟨h1,h2,c,d⟩:=h;have i:=key _ _ U U h1;have j:=key _ _ U U h2;have k:=key _ _ U U c;have cP:=key _ _ U U d;omega
def Lf(n:aa):(eS n).length=4:=rfl
def Y7(l:ah aT)(k:J)(c:aT)(hk:k<(l++eS (more 1 l)).length)(an:c≠(l++eS (more 1 l))[k])(u v:ah aT)(a:u++v=(l++eS (more 1 l)).set k c)(aU:v.length=4):eS (more 1 u)≠v:=by
 intro h;have g:u.length=l.length:=by
  have:=c5 length a
  simp[Lf]at this;omega
 by_cases f:k<l.length
 .rw[set_append_left _ _ f]at a;have⟨b,d⟩:=append_inj a (by simpa using g);rw[d]at h;have m:=YH _ _ (wz _ _) (wz _ _) h;have n:=(Jg 1 u).1;have q:=(Jg 1 l).1;have fE:=uA u _ (wJ 1);have r:=uA l _ (wJ 1);have j:=AU u (1%65536%65521,1 / 65536%65521);have o:=AU l (1%65536%65521,1 / 65536%65521);rw[b,Le l k c f]at j;rw[getElem_append_left f]at an;rw[b]at n fE m;have hne:(c.toNat:aa)≠(l[k].toNat:aa):=λe=>an (Am.1 U);have bR:=c.toNat_lt;have p:=l[k].toNat_lt;omega
 rw[set_append_right _ _ U]at a;have⟨b,d⟩:=append_inj a g;subst b;rw[d]at h;have i:k-u.length<(eS (more 1 u)).length:=by simp[Lf]at hk⊢;omega
 have:=c5 (λx=>x[k-u.length]?) h
 simp[i]at this;rw[getElem_append_right U]at an;exact an this.symm
end Go.Proofs.YtalagblioepadaaGreatDoor
