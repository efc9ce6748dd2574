/- The proof, part 7. -/
import Derived.Test.YtalagblioepadaaGreatDoorZe06
namespace Go.Proofs.YtalagblioepadaaGreatDoor
set_option linter.all false
open Proofs.Tryz List Go.RowKit
set_option maxRecDepth 100000
variable{ww:Prop}
def sb(h:ww:=by unfold gL;omega):=h
def CY(h:ww:=by have:=fr.o;simp;omega):=h
def H4(h:ww:=by simp only[rG];omega):=h
def gL:J:=18446744073709551616
def num(n:J):ai aR:=if n<128 then [UInt8.ofNat n]else UInt8.ofNat (n%128+128) :: num (n / 128)
termination_by n
decreasing_by omega
def ua(n:J)(h:n<128):num n=[UInt8.ofNat n]:=by rw[num,aD h]
def yH(n:J)(h:¬ n<128):num n=UInt8.ofNat (n%128+128) :: num (n / 128):=by rw[num,az h]
theorem FD:∀ (k n:J),n<128 ^ (k+1)->(num n).length<=k+1
 | 0,n,h=>by rw[ua n j0];simp
 | k+1,n,h=>by
  by_cases aw:n<128
  .rw[ua n aw];simp
  rw[yH n aw]
  have:=FD k (n / 128) (by rw[Nat.div_lt_iff_lt_mul I];rw[n']at h;exact h)
  simp only[eA];omega
def pD(n:J)(h:n<gL):(num n).length<=10:=FD 9 n (o2 h (by unfold gL;decide))
def kf:J->J->ai aR->J×J×U
 | _,_,[]=>(0,0,3)
 | i,a,c :: r=>
  if 9<i\/(i=9/\1<c.toNat%128)then(0,0,4)
  else if c.toNat=0/\0<i then(0,0,4)
  else if c.toNat<128 then(a+c.toNat%128*128 ^ i,i+1,0)
  else kf (i+1) (a+c.toNat%128*128 ^ i) r
def cF(l:ai aR):J×J×U:=kf 0 0 l
def N4(k a:J)(c:aR)(r:ai aR)(h:9<k\/(k=9/\1<c.toNat%128)):kf k a (c :: r)=(0,0,4):=by rw[kf,aD h]
def N3(k a:J)(c:aR)(r:ai aR)(h:¬ (9<k\/(k=9/\1<c.toNat%128)))(h2:c.toNat=0/\0<k):kf k a (c :: r)=(0,0,4):=by rw[kf,az h,aD h2]
def FU(k a:J)(c:aR)(r:ai aR)(h:¬ (9<k\/(k=9/\1<c.toNat%128)))(h2:¬ (c.toNat=0/\0<k))(b:c.toNat<128):kf k a (c :: r)=(a+c.toNat%128*128 ^ k,k+1,0):=by rw[kf,az h,az h2,aD b]
def FV(k a:J)(c:aR)(r:ai aR)(h:¬ (9<k\/(k=9/\1<c.toNat%128)))(h2:¬ (c.toNat=0/\0<k))(b:¬ c.toNat<128):kf k a (c :: r)=kf (k+1) (a+c.toNat%128*128 ^ k) r:=by rw[kf,az h,az h2,az b]
def FX(k a x:J)(hk:k<=9)(ak:x<128)(h:¬ (k=9/\1<x))(bg:a<128 ^ k):a+x*128 ^ k<gL/\a+x*128 ^ k<128 ^ (k+1):=by
 unfold gL;rcases (show k=0\/k=1\/k=2\/k=3\/k=4\/k=5\/k=6\/k=7\/k=8\/k=9 by omega)with rfl|rfl|rfl|rfl|rfl|rfl|rfl|rfl|rfl|rfl<;>(simp only[Nat.reduceAdd,Nat.reducePow]at bg⊢;omega)
def same(c:aR):ai aR->J
 | []=>0
 | d :: r=>if d=c then same c r+1 else 0
theorem BR(c:aR):∀ r:ai aR,same c r<=r.length
 | []=>dm _
 | d :: r=>by
  have:=BR c r
  unfold same;split<;>simp only[eA]<;>omega
theorem OL(c:aR):∀ (r:ai aR) (i:J) (_:i<same c r) (h2:i<r.length),r[i]=c
 | d :: r,i,h,h2=>by
  unfold same at h;split at h
  .rename_i hd
   match i,h,h2 with
   | 0,_,_=>exact hd
   | i+1,h,h2=>exact OL c r i b4 (by simpa using h2)
  omega
theorem ON(c:aR):∀ (r:ai aR) (h:same c r<r.length),r[same c r]≠c
 | d :: r,h=>by
  by_cases hd:d=c
  .refine I9;have a:same c r<r.length:=by rw[e]at h;simpa using h
   have:=ON c r a
   simpa[e]using this
  have e:same c (d :: r)=0:=by rw[same,az hd]
  simpa[e]using hd
def runs:ai aR->ai (aR×J)
 | []=>[]
 | c :: r=>(c,same c r+1) :: runs (r.drop (same c r))
termination_by l=>l.length
decreasing_by simp only[iv,eA];omega
theorem Gc:∀ (m:J) (L:ai aR),L.length<=m->∀ x∈runs L,0<x.2/\x.2<=L.length
 | _,[],_,x,ak=>by simp[runs]at ak
 | 0,c :: r,h,_,_=>by simp at h
 | m+1,c :: r,h,x,ak=>by
  rw[runs]at ak;simp only[eA]at h⊢;rcases fW.1 ak with rfl|ak
  .exact⟨aM,by simpa using(BR c r)⟩
  have:=Gc m (r.drop (same c r)) b_ x ak
  simp only[iv]at this;omega
def fits(L:ai aR):aY:=L.all (λc=>decide (c.toNat<=63))&&decide (L.length<=64)
def im(p:ai (aR×J)):ai aR:=p.flatMap λx=>x.1 :: num x.2
def nr(L:ai aR):ai aR:=num L.length++im (runs L)
theorem OF:∀ (m:J) (L:ai aR),L.length<=m->(runs L).length<=L.length
 | _,[],_=>by simp[runs]
 | 0,c :: r,h=>by simp at h
 | m+1,c :: r,h=>by
  simp only[eA]at h
  have:=OF m (r.drop (same c r)) b_
  rw[runs];simp only[eA,iv]at this⊢;omega
theorem OE:∀ (p:ai (aR×J)),(∀ x∈p,x.2<128)->(im p).length=2*p.length
 | [],_=>rfl
 | x :: p,h=>by
  have h1:=OE p (λy a8=>h y (lB _ a8));unfold im at *;rw[jY,ua _ (h x (o0))];simp only[cG,eA,gN,h1];omega
def agb(p:ai (aR×J))(x:aR×J):im (p++[x])=im p++(x.1 :: num x.2):=by simp[im]
def NN(L:ai aR)(a:L.length<=64)(pre rest:ai (aR×J))(h:runs L=pre++rest):(num L.length++im pre).length<=138:=by
 have h1:=OF _ L bu;have h2:=Gc _ L bu;rw[h]at h1 h2;simp only[cG]at h1⊢;rw[OE pre (λx ak=>by have:=h2 x (mem_append_left _ ak);omega)]
 have:=pD L.length sb
 omega
def q6(n:J)(h:n<256):(UInt8.ofNat n).toNat=n:=by simp[kE h]
def aeK:∀ (n k a:J) (t:ai aR),a+n*128 ^ k<gL->(0<k->0<n)->kf k a (num n++t)=(a+n*128 ^ k,k+(num n).length,0):=by
 intro n
 induction n using Nat.strongRecOn with
 | _ n d=>
  intro k a t b ao;have hk:9<k->False:=by
   intro h;have h1:128 ^ 10<=128 ^ k:=tl bs h;have h2:1*128 ^ k<=n*128 ^ k:=vb _ (ao I);unfold gL at b
   have:(18446744073709551616:J)<128 ^ 10:=bs
   omega
  by_cases aw:n<128
  .have al:=q6 n I;rw[ua n aw,l5,FU]
   .rw[al,kE aw];rfl
   .rw[al,kE aw];rintro(h|⟨rfl,h⟩)
    .exact hk h
    unfold gL at b
    have:2*128 ^ 9<=n*128 ^ 9:=vb _ h
    omega
   .rw[al];rintro⟨h,h2⟩
    have:=ao h2
    omega
   rw[al];exact aw
  have al:=q6 (n%128+128) I;have c:¬ (9<k\/k=9):=by
   rintro(h|rfl)
   .exact hk h
   unfold gL at b
   have:128*128 ^ 9<=n*128 ^ 9:=vb _ I
   omega
  have e:n*128 ^ k=n%128*128 ^ k+n / 128*128 ^ (k+1):=by
   have h1:n=n%128+n / 128*128:=I
   calc n*128 ^ k=(n%128+n / 128*128)*128 ^ k:=by rw[<-h1]
    _=_:=by rw[HI,Nat.mul_assoc,n',o4 128]
  have em:(n%128+128)%128=n%128:=I;rw[yH n aw,l5,FV,al,em,d (n / 128) I (k+1) _ t (by rw[jZ,<-e];exact b) a1]
  .refine qT ?_ (qT ?_ rfl)
   .show a+n%128*128 ^ k+n / 128*128 ^ (k+1)=_;rw[e,jZ]
   show k+1+(num (n / 128)).length=_;simp only[eA];omega
  .rintro(h|⟨h,_⟩)
   .exact c (.inl h)
   exact c (.inr h)
  .rw[al];omega
  rw[al];omega
def FW(n:J)(aw:n<gL)(t:ai aR):cF (num n++t)=(n,(num n).length,0):=by
 have:=aeK n 0 0 t tv (λh=>absurd h bs)
 simpa[cF]using this
theorem N6:∀ (l:ai aR) (k a v i:J),kf k a l=(v,i,0)->a<128 ^ k->∃ n,v=a+n*128 ^ k/\num n=l.take (i-k)/\i=k+(num n).length/\(0<k->0<n)/\v<gL
 | [],k,a,v,i,h,_=>by simp[kf]at h
 | c :: r,k,a,v,i,h,bg=>by
  by_cases h1:9<k\/(k=9/\1<c.toNat%128)
  .rw[N4 _ _ _ _ h1]at h;simp at h
  by_cases h2:c.toNat=0/\0<k
  .rw[N3 _ _ _ _ h1 h2]at h;simp at h
  have d:=FX k a (c.toNat%128) I (gb _ bs) I bg;by_cases b:c.toNat<128
  .rw[FU _ _ _ _ h1 h2 b]at h;simp only[mM,and_true]at h;obtain⟨rfl,rfl⟩:=h;rw[kE b]at *;refine⟨c.toNat,rfl,?_,?_,λhk=>I,d.1⟩
   .rw[ua _ b,xi];simp
   rw[ua _ b];rfl
  rw[FV _ _ _ _ h1 h2 b]at h;obtain⟨n,e,f,m,g,j⟩:=N6 r (k+1) _ v i h d.2;have an:=c.toNat_lt;have aw:¬ n*128+c.toNat%128<128:=by have:=g I;omega
  refine⟨n*128+c.toNat%128,?_,?_,?_,λ_=>I,j⟩
  .rw[e,HI,Nat.mul_assoc,n',o4 128,jZ,r4 (c.toNat%128*128 ^ k)]
  .rw[yH _ aw,show(n*128+c.toNat%128) / 128=n by omega,show(n*128+c.toNat%128)%128+128=c.toNat by omega,f,show i-k=(i-(k+1))+1 by omega];simp
  rw[yH _ aw,show(n*128+c.toNat%128) / 128=n by omega];simp only[eA];omega
def aeL(l:ai aR)(v i:J)(h:cF l=(v,i,0)):num v=l.take i/\v<gL/\i=(num v).length:=by
 have⟨n,a,b,d,_,c⟩:=N6 l 0 0 v i h bs;simp at a;subst a;exact⟨by simpa using b,c,I⟩
theorem N5:∀ (l:ai aR) (k a:J),(kf k a l).2.2≠0->(kf k a l).1=0/\(kf k a l).2.1=0
 | [],_,_,_=>by simp[kf]
 | c :: r,k,a,h=>by
  rw[kf]at h⊢;split
  .simp
  split
  .simp
  split
  .simp_all
  refine N5 r _ _ ?_;simp_all
def BA(l:ai aR):(cF l).1<gL/\(cF l).2.1<=l.length/\(cF l).2.1<=10:=by
 by_cases h:(cF l).2.2=0
 .obtain⟨h1,h2,c⟩:=aeL l (cF l).1 (cF l).2.1 (qT rfl (qT rfl h))
  have:=c6 length h1
  have d:=pD _ h2;rw[h3]at this;exact⟨h2,I,I⟩
 have⟨h1,h2⟩:=N5 l 0 0 h;have a:(cF l).1=0:=h1;have b:(cF l).2.1=0:=h2;rw[a,b];exact⟨bs,I,I⟩
def gP(n:U):J:=if 0<=n then(2*n).toNat else(-2*n-1).toNat
def w4(a:J):U:=if a%2=0 then((a / 2:J):U)else -((a / 2:J):U)-1
def ais(n:U):w4 (gP n)=n:=by
 unfold w4 gP;split<;>split<;>omega
def W8(n:U)(h:-9223372036854775808<=n/\n<=9223372036854775807):gP n<gL:=by
 unfold gP gL;split<;>omega
structure ba where
 kind:U
 cw:U
 en:U
 ee:U
 bm:ai aR
 sum:U
 lead:U
def ba.zero:ba:=⟨0,0,0,0,[],0,0⟩
structure ba.wf(m:ba):ae where
 kind:-9223372036854775808<=m.kind/\m.kind<=9223372036854775807
 cw:0<=m.cw/\m.cw<4294967296
 en:0<=m.en/\m.en<65536
 ee:0<=m.ee/\m.ee<65536
 sum:0<=m.sum/\m.sum<4294967296
 lead:-9223372036854775808<=m.lead/\m.lead<=9223372036854775807
def pK(a b:ba):aY:=decide (a.kind=b.kind)&&decide (a.cw=b.cw)&&decide (a.en=b.en)&&decide (a.ee=b.ee)&&decide (a.bm=b.bm)&&decide (a.sum=b.sum)&&decide (a.lead=b.lead)
def hp(k:U):U:=if k=1\/k=2 then 1 else if k=3 then 14 else if k=4 then 18 else if k=5 then 4 else if k=6 then 34 else 0
def ih(m:ba):ba:=
 ⟨m.kind,if m.kind=1\/m.kind=2 then m.cw else 0,if m.kind=3\/m.kind=4\/m.kind=6 then m.en else 0,if m.kind=3\/m.kind=5 then m.ee else 0,if m.kind=3 then m.bm else [],if m.kind=4 then m.sum else 0,if m.kind=6 then m.lead else 0⟩
def dR(m:ba):ae:=
 (1<=m.kind/\m.kind<=7)/\fits m.bm=true/\(-1000<=m.lead/\m.lead<=1000)/\(m.cw=0\/m.kind=1\/m.kind=2)/\(m.en=0\/m.kind=3\/m.kind=4\/m.kind=6)/\(m.ee=0\/m.kind=3\/m.kind=5)/\(0<m.bm.length↔m.kind=3)/\(m.sum=0\/m.kind=4)/\(m.lead=0\/m.kind=6)
instance (m:ba):Decidable (dR m):=by unfold dR;infer_instance
def afm(m:ba):dR m↔(1<=m.kind/\m.kind<=7)/\pK m (ih m)=true/\fits m.bm=true/\(-1000<=m.lead/\m.lead<=1000)/\(m.kind≠3\/0<m.bm.length):=by
 have⟨k,n,s,a,i,u,l⟩:=m;have q:(0<i.length)↔i≠[]:=by cases i<;>simp
 simp only[dR,pK,ih,e9,hf,q];constructor
 .rintro⟨h1,h2,b,o,r,t,p,v,w⟩;refine⟨h1,⟨⟨⟨⟨⟨⟨trivial,?_⟩,?_⟩,?_⟩,?_⟩,?_⟩,?_⟩,h2,b,?_⟩
  .split<;>simp_all
  .split<;>simp_all
  .split<;>simp_all
  .split
   .rfl
   rename_i e;by_cases av:i=[]
   .exact av
   exact absurd (p.1 av) e
  .split<;>simp_all
  .split<;>simp_all
  by_cases e:k=3
  .exact .inr (p.2 e)
  exact .inl e
 rintro⟨h1,⟨⟨⟨⟨⟨⟨_,g1⟩,c⟩,d⟩,f⟩,g⟩,j⟩,h2,b,o⟩;refine⟨h1,h2,b,?_,?_,?_,⟨λav=>?_,λe=>?_⟩,?_,?_⟩
 .split at g1
  .exact Ac
  exact .inl g1
 .split at c
  .exact Ac
  exact .inl c
 .split at d
  .exact Ac
  exact .inl d
 .split at f
  .rename_i e;exact e
  exact absurd f av
 .rcases o with h|h
  .exact absurd e h
  exact h
 .split at g
  .exact Ac
  exact .inl g
 split at j
 .exact Ac
 exact .inl j
def sA(p:U×U)(c:aR):U×U:=((p.1+(c.toNat:U))%65521,(p.2+(p.1+(c.toNat:U))%65521)%65521)
def rG(p:U×U)(c:aR):U×U:=(p.1+(c.toNat:U),p.2+(p.1+(c.toNat:U)))
def j7(p:U×U)(l:ai aR):U×U:=l.foldl sA p
def raw(p:U×U)(l:ai aR):U×U:=l.foldl rG p
def Kn(p:U×U)(c:aR)(l:ai aR):j7 p (c :: l)=j7 (sA p c) l:=rfl
def NZ(p:U×U)(c:aR)(l:ai aR):raw p (c :: l)=raw (rG p c) l:=rfl
def Xo(p:U×U)(l m:ai aR):j7 p (l++m)=j7 (j7 p l) m:=by simp[j7,te]
def FT(p:U×U)(l:ai aR)(c:aR):raw p (l++[c])=rG (raw p l) c:=by simp[raw,te]
def oj(p:U×U):ae:=(0<=p.1/\p.1<65521)/\(0<=p.2/\p.2<65521)
def aeT(p:U×U)(c:aR):oj (sA p c):=by unfold oj sA;simp only;omega
theorem yP:∀ (l:ai aR) (p:U×U),oj p->oj (j7 p l)
 | [],_,h=>h
 | c :: l,p,_=>yP l _ (aeT p c)
theorem NY:∀ (l:ai aR) (p q:U×U),p.1%65521=q.1->p.2%65521=q.2->(raw p l).1%65521=(j7 q l).1/\(raw p l).2%65521=(j7 q l).2
 | [],_,_,h1,h2=>⟨h1,h2⟩
 | c :: l,p,q,h1,h2=>by
  rw[NZ,Kn];refine NY l _ _ ?_ ?_
  .simp only[rG,sA];omega
  simp only[rG,sA];omega
theorem N2:∀ (l:ai aR) (p:U×U) (B:U),p.1<=B->0<=p.1->0<=p.2->0<=(raw p l).1/\0<=(raw p l).2/\(raw p l).1<=B+255*(l.length:U)/\2*(raw p l).2<=2*p.2+2*B*(l.length:U)+255*(l.length:U)*((l.length:U)+1)
 | [],p,B,h1,h2,g=>by simp[raw];omega
 | c :: l,p,B,h1,h2,g=>by
  have an:(0:U)<=(c.toNat:U)/\(c.toNat:U)<=255:=by have:=c.toNat_lt;omega
  rw[NZ]
  have:=N2 l (rG p c) (B+255) H4 H4 H4
  obtain⟨a,b,h,N⟩:=this;refine⟨a,b,by simp only[eA];omega,?_⟩;simp only[rG]at N;simp only[rG,eA];generalize aw:(l.length:U)=n at *;have d:((l.length+1:J):U)=n+1:=I;rw[d];have D:2*(B+255)*n=2*B*n+510*n:=by rw[show 2*(B+255)=2*B+510 by omega,Int.add_mul]
  have e:255*(n+1)*(n+1+1)=255*n*(n+1)+510*n+510:=by
   have:255*(n+1)=255*n+255:=I
   rw[this,Int.add_mul,Hw (255*n) (n+1) 1];omega
  have f:2*B*(n+1)=2*B*n+2*B:=by rw[Hw];omega
  rw[e,f];refine ed;omega
def N0(p:U×U)(l:ai aR)(ao:oj p)(h:l.length<=5552):(0<=(raw p l).1/\(raw p l).1<=1481280)/\(0<=(raw p l).2/\(raw p l).2<=4294690200):=by
 have⟨⟨h1,h2⟩,b,g⟩:=ao;have⟨d,e,f,a⟩:=N2 l p 65520 I h1 b;have c:(l.length:U)*((l.length:U)+1)<=5552*5553:=Int.mul_le_mul I I I I;rw[Int.mul_assoc 255]at a;omega
def more(n:U)(l:ai aR):U:=(j7 (n%65536%65521,n / 65536%65521) l).2*65536+(j7 (n%65536%65521,n / 65536%65521) l).1
def BD(n:U):oj (n%65536%65521,n / 65536%65521):=by unfold oj;simp only;omega
def Nk(n:U)(l:ai aR):more n l%65536=(j7 (n%65536%65521,n / 65536%65521) l).1/\more n l / 65536=(j7 (n%65536%65521,n / 65536%65521) l).2:=by
 exact Wb
def yC(n:U)(l:ai aR):0<=more n l/\more n l<4294967296:=by
 exact Wb
def fs(n:U):ai aR:=[UInt8.ofNat (n / 16777216%256).toNat,UInt8.ofNat (n / 65536%256).toNat,UInt8.ofNat (n / 256%256).toNat,UInt8.ofNat (n%256).toNat]
def YK(w:aj)(cx cm cB eS:U):(convert 51 9 (au (bT w) 4 4)).run prog (w.alloc (ab #[bf cx,bf cm,bf cB,bf eS] 5))=.ok (.string (strOfNums [cx,cm,cB,eS])) (w.alloc (ab #[bf cx,bf cm,bf cB,bf eS] 5)):=by
 refine run_convert_bytes_arg _ 51 5 underlying51 underlying5 w 0 4 4 [cx,cm,cB,eS] rfl ?_ 9 underlying9;intro i av
 match i,av with
 | 0,_=>go_simp
 | 1,_=>go_simp
 | 2,_=>go_simp
 | 3,_=>go_simp
def Pt(a:U)(h:0<=a/\a<4294967296)(w:aj):aB 269 #[bz a] w λe w'=>e=.returned (.string ⟨(fs a).toArray⟩)/\Below w w w':=by
 have b:=YK;have aA:strOfNums [a / 16777216,a / 65536%256,a / 256%256,a%256]=⟨(fs a).toArray⟩:=by
  unfold strOfNums fs;rw[show a / 16777216%256=a / 16777216 by omega];rfl
 go_in
 go_wp2;go_ret;exact⟨rfl,(b9 _ _).alloc bu _⟩
def ahQ(p:U×U)(l m:ai aR)(q:U×U)(a:oj q)(ao:j7 p l=q):j7 p (l++m)=((raw q m).1%65521,(raw q m).2%65521):=by
 rw[Xo,ao];have⟨h1,h2⟩:=NY m q q (by unfold oj at a;omega) (by unfold oj at a;omega);exact qT h1.symm h2.symm
def ahO(n:U)(h:0<=n/\n<4294967296)(s:cl)(aA:s.size<=maxLen)(w:aj):aB 313 #[bz n,.string s] w λe w'=>e=bz (more n s.data.toList)/\w=w':=by
 unfold maxLen at aA;have al:bits .and .u32 n 65535=n%65536:=bits_mask .u32 32 bs (λm a b=>by rw[wrap_u32];omega) 16 bs n h.1 h.2;have r:=ad al
 go_in
 go_wp2
 go_loop [1,5,6] (λs' bt av=>∃ (t:cl) (j:J) (p:U×U),s'=.string t/\t.size+j=s.size/\t.data.toList=s.data.toList.drop j/\j7 (n%65536%65521,n / 65536%65521) (s.data.toList.take j)=p/\bt=bz p.1/\av=bz p.2) (λs' _ _=>Gy s')
 case atStart=>exact⟨s,0,_,rfl,I,aM,rfl,rfl,rfl⟩
 obtain⟨t,j,p,rfl,N,M,E,rfl,rfl⟩:=hrel;clear al;refine zS;have q:t.size<=s.size:=I;have c:oj p:=by rw[<-E];exact yP _ _ (BD n)
 clear N M E;by_cases u:0<t.size
 .by_cases h1:t.size<=5552
  .go_wp2
   go_loop [5,6,22] (λbt av i=>∃ k:J,k<=t.size/\i=aa k/\bt=bz (raw p (t.data.toList.take k)).1/\av=bz (raw p (t.data.toList.take k)).2) (λ_ _ i=>t.size-(intOf i).toNat)
   case atStart=>exact⟨0,I,rfl,rfl,rfl⟩
   refine V0;by_cases l:k<t.size
   .exact Tk
   obtain rfl:k=t.size:=I;have C:j7 (n%65536%65521,n / 65536%65521) (s.data.toList.take (j+t.size))=((raw p (t.data.toList.take t.size)).1%65521,(raw p (t.data.toList.take t.size)).2%65521):=by
    exact Wq
   refine tE;go_wp2
   go_round
   case rel=>exact⟨ByteArray.empty,j+t.size,_,rfl,CY,by rw[Cu CY];rfl,D.o,rfl,rfl⟩
   simp[Gy];omega
  go_wp2
  go_loop [5,6,22] (λbt av i=>∃ k:J,k<=5552/\i=aa k/\bt=bz (raw p (t.data.toList.take k)).1/\av=bz (raw p (t.data.toList.take k)).2) (λ_ _ i=>5552-(intOf i).toNat)
  case atStart=>exact⟨0,I,rfl,rfl,rfl⟩
  refine V0;by_cases l:k<5552
  .exact Tk
  obtain rfl:k=5552:=I;have C:j7 (n%65536%65521,n / 65536%65521) (s.data.toList.take (j+5552))=((raw p (t.data.toList.take 5552)).1%65521,(raw p (t.data.toList.take 5552)).2%65521):=by
   exact Wq
  refine tE;go_wp2
  go_round
  case rel=>exact⟨t.extract 5552 t.size,j+5552,_,rfl,CY,by rw[AN,se.o,n5],D.o,rfl,rfl⟩
  simp[Gy];omega
 have hm:more n s.data.toList=p.2*65536+p.1:=by
  have e:=r'.o;rw[o1 CY]at e;rw[more,e]
 have g:=ad hm;clear hm;have v:(0<=p.1/\p.1<65521)/\(0<=p.2/\p.2<65521):=c;refine fB;refine⟨uj ?_,rfl⟩;rw[g.o];exact bits_join .u32 32 bs (λm a b=>by rw[wrap_u32];omega) 16 _ _ I I I I I I
def GA(s:cl)(aA:s.size<=maxLen)(w:aj):aB 270 #[.string s] w λe w'=>e=bz (more 1 s.data.toList)/\w=w':=by
 go_in
 go_wp2_with (go_at_call 313;refine(ahO _ I _ aA _).mono ?_;rintro e w' ⟨rfl,rfl⟩);go_ret;exact⟨rfl,rfl⟩
def jW(l:ai aR):ai aR:=l++fs (more 1 l)
def uC(n:U):(fs n).length=4:=rfl
def ahP(s:cl)(aA:s.size<=1000000)(w:aj):aB 205 #[.string s] w λe w'=>e=.returned (.string ⟨(jW s.data.toList).toArray⟩)/\Below w w w':=by
 have a:(fs (more 1 s.data.toList)).length<=4:=dm _;have hfin:s++⟨(fs (more 1 s.data.toList)).toArray⟩=⟨(jW s.data.toList).toArray⟩:=by
  apply ByteArray.ext;simp[jW,Qr]
 go_in
 go_wp2_with (first|(go_at_call 270;refine(GA _ (by simp[maxLen];omega) _).mono ?_;rintro e w' ⟨rfl,rfl⟩)|(go_at_call 269;refine(Pt _ (yC _ _) _).mono ?_;rintro e w' ⟨rfl,al⟩));go_ret;exact⟨by rw[<-hfin];rfl,al⟩
def agD(l:ai aR):(ByteArray.mk (jW l).toArray).size=l.length+4:=by
 simp[jW,uC,ByteArray.size]
def opened(l:ai aR):ai aR×U:=
 if l.length<4 then([],3)else if jW (l.take (l.length-4))=l then(l.take (l.length-4),0)else([],15)
def Nw(s:cl)(m:J)(hm:s.size=m+4):opened s.data.toList=if (fs (more 1 (s.data.toList.take m)) == (s.extract m (m+4)).toList)=true then(s.data.toList.take m,0)else([],15):=by
 have d:s.data.toList.length=m+4:=by rw[<-hm];simp
 have b:(s.extract m (m+4)).toList=s.data.toList.drop m:=by
  rw[ze,extract_data,o1];simp;omega
 unfold opened;rw[az I,show s.data.toList.length-4=m by omega,b];have a:jW (s.data.toList.take m)=s.data.toList↔fs (more 1 (s.data.toList.take m))=s.data.toList.drop m:=by
  unfold jW;constructor
  .intro h
   have:=c6 (List.drop m) h
   rwa [zk b_]at this
  intro h;rw[h,n_]
 by_cases h:fs (more 1 (s.data.toList.take m))=s.data.toList.drop m
 .rw[aD (a.2 h),aD j0]
 rw[az (λc=>h (a.1 c)),az j0]
def adx(s:cl)(m:J)(hm:s.size=m+4)(h:(!fs (more 1 (s.data.toList.take m)) == (s.extract m (m+4)).toList)=true):opened s.data.toList=([],15):=by
 rw[Nw s m hm,az j0]
def ady(s:cl)(m:J)(hm:s.size=m+4)(h:(!fs (more 1 (s.data.toList.take m)) == (s.extract m (m+4)).toList)=false):opened s.data.toList=(s.data.toList.take m,0):=by
 rw[Nw s m hm,aD j0]
def FE(s:cl)(l:ai aR)(h:s.data.toList=l):s=⟨l.toArray⟩:=by
 subst h;simp
def Ps(s:cl)(aA:s.size<=maxLen)(w:aj):aB 239 #[.string s] w λe w'=>e=aV #[.string ⟨(opened s.data.toList).1.toArray⟩,aa (opened s.data.toList).2]/\Below w w w':=by
 unfold maxLen at aA;by_cases a:s.size<4
 .have b:opened s.data.toList=([],3):=by unfold opened;rw[aD (by simpa using a)]
  go_in
  go_wp2;go_ret2;exact⟨by rw[b];rfl,b9 _ _⟩
 obtain⟨m,hm⟩:∃ m,s.size=m+4:=⟨s.size-4,I⟩
 go_in
 go_wp2;refine rW bc bc ?_
 repeat (go_big_quiet_step (first|(go_at_call 270;exact Calls.ko (GA _ (by simp[maxLen];omega) _))|(go_at_call 269;exact Calls.kn (Pt _ (yC _ _) _))))
 refine I7;go_wp2
 .have C:=adx s m hm (by assumption);refine dU;go_ret2;exact⟨by rw[m'.o];rfl,x.below⟩
 have C:=ady s m hm (by assumption);go_ret2;refine⟨?_,x.below⟩;rw[C];exact Oc (c6 Value.string (FE (s.extract 0 m) (s.data.toList.take m) (by rw[extract_data];simp))) rfl
inductive JQ(m:ba)(a:cr Addr)(c:J)|mk
def fV(m:ba)(a:cr Addr)(c:J):JQ m a c:=.mk
instance {m:ba}{a:cr Addr}{c:J}:CoeOut (JQ m a c) (a6 ay):=⟨λ_=>#[aa m.kind,bz m.cw,c7 m.en,c7 m.ee,au a m.bm.length c,bz m.sum,aa m.lead]⟩
def iJ(l:ai aR)(count:J)(out:ai aR)(at':J):ai aR×J×U:=
 if a:count<=out.length then(out,at',0)else
 match l.drop at' with
 | []=>([],0,3)
 | x :: r=>
  if 63<x.toNat\/out.getLast?=some x then([],0,4)
  else if (cF r).2.2≠0 then([],0,(cF r).2.2)
  else if h2:(cF r).1=0\/count-out.length<(cF r).1 then([],0,4)
  else iJ l count (out++replicate (cF r).1 x) (at'+1+(cF r).2.1)
termination_by count-out.length
decreasing_by simp only[cG,uZ];omega
def Ou(l:ai aR)(count:J)(out:ai aR)(at':J)(h:count<=out.length):iJ l count out at'=(out,at',0):=by rw[iJ,dif_pos h]
def afD(l:ai aR)(count:J)(out:ai aR)(at':J)(h:¬ count<=out.length)(h1:l.drop at'=[]):iJ l count out at'=([],0,3):=by rw[iJ,dif_neg h,h1]
def Ov(l:ai aR)(count:J)(out:ai aR)(at':J)(h:¬ count<=out.length)(x:aR)(r:ai aR)(h1:l.drop at'=x :: r)(h2:63<x.toNat\/out.getLast?=some x):iJ l count out at'=([],0,4):=by
 rw[iJ,dif_neg h,h1];simp only[];rw[aD h2]
def afB(l:ai aR)(count:J)(out:ai aR)(at':J)(h:¬ count<=out.length)(x:aR)(r:ai aR)(h1:l.drop at'=x :: r)(h2:¬ (63<x.toNat\/out.getLast?=some x))(a:(cF r).2.2≠0):iJ l count out at'=([],0,(cF r).2.2):=by
 rw[iJ,dif_neg h,h1];simp only[];rw[az h2,aD a]
def afE(l:ai aR)(count:J)(out:ai aR)(at':J)(h:¬ count<=out.length)(x:aR)(r:ai aR)(h1:l.drop at'=x :: r)(h2:¬ (63<x.toNat\/out.getLast?=some x))(a:(cF r).2.2=0)(b:(cF r).1=0\/count-out.length<(cF r).1):iJ l count out at'=([],0,4):=by
 rw[iJ,dif_neg h,h1];simp only[];rw[az h2,az vg,dif_pos b]
def Ow(l:ai aR)(count:J)(out:ai aR)(at':J)(h:¬ count<=out.length)(x:aR)(r:ai aR)(h1:l.drop at'=x :: r)(h2:¬ (63<x.toNat\/out.getLast?=some x))(a:(cF r).2.2=0)(b:¬ ((cF r).1=0\/count-out.length<(cF r).1)):iJ l count out at'=iJ l count (out++replicate (cF r).1 x) (at'+1+(cF r).2.1):=by
 rw[iJ,dif_neg h,h1];simp only[];rw[az h2,az vg,dif_neg b]
def jV(l:ai aR):ai aR×J×U:=
 if (cF l).2.2≠0 then([],0,(cF l).2.2)else if 64<(cF l).1 then([],0,5)else iJ l (cF l).1 [] (cF l).2.1
theorem OM(c:aR):∀ r:ai aR,(r.drop (same c r)).head?≠some c
 | []=>by simp[same]
 | d :: r=>by
  by_cases hd:d=c
  .refine I9;rw[e,lz];exact OM c r
  have e:same c (d :: r)=0:=by rw[same,az hd]
  rw[e];simpa using hd
theorem OO(c:aR):∀ r:ai aR,r.take (same c r)=replicate (same c r) c
 | []=>by simp[same]
 | d :: r=>by
  by_cases hd:d=c
  .refine I9;rw[e,lC,replicate_succ,OO c r,hd]
  have e:same c (d :: r)=0:=by rw[same,az hd]
  rw[e];rfl
def abY(out:ai aR)(k:J)(c:aR):(out++replicate (k+1) c).getLast?=some c:=by
 rw[HH,<-eh,getLast?_append];simp
def afC:∀ (m:J) (L out t l:ai aR) (at' count:J),L.length<=m->l.drop at'=im (runs L)++t->count=out.length+L.length->count<=64->(∀ x∈L,x.toNat<=63)->(out≠[]->L≠[]->out.getLast?≠L.head?)->
  iJ l count out at'=(out++L,at'+(im (runs L)).length,0):=by
 intro m
 induction m with
 | zero=>
  intro L out t l at' count hm hd an d ak hne;obtain rfl:L=[]:=p0.1 I;exact Wo
 | succ m j=>
  intro L out t l at' count hm hd an d ak hne;cases L with
  | nil=>
   exact Wo
  | cons c r=>
   have k:=BR c r;have e:runs (c :: r)=(c,same c r+1) :: runs (r.drop (same c r)):=by rw[runs]
   have b:im (runs (c :: r))=c :: (num (same c r+1)++im (runs (r.drop (same c r)))):=by rw[e];simp[im]
   have f:c :: r=replicate (same c r+1) c++r.drop (same c r):=by
    rw[replicate_succ,<-OO c r,l5,n_]
   simp only[eA]at an hm;rw[b]at hd;simp only[l5,eh]at hd;have a:=FW (same c r+1) sb (im (runs (r.drop (same c r)))++t);have aw:(cF (num (same c r+1)++(im (runs (r.drop (same c r)))++t))).1=same c r+1:=by rw[a]
   have aA:(cF (num (same c r+1)++(im (runs (r.drop (same c r)))++t))).2.1=(num (same c r+1)).length:=by rw[a]
   have g:(cF (num (same c r+1)++(im (runs (r.drop (same c r)))++t))).2.2=0:=by rw[a]
   rw[Ow l count out at' I c _ hd ?h2 g (by rw[aw];omega),aw,aA]
   case h2=>
    rintro(h|h)
    .have:=ak c aM;omega
    by_cases ar:out=[]
    .rw[ar]at h;simp at h
    exact hne ar aM (by rw[h];rfl)
   rw[j (r.drop (same c r)) _ t l _ count b_ ?hd b_ d (λx i=>ak x (lB _ (CC i))) ?hne]
   case hd=>
    rw[<-n5,<-n5,hd];simp
   case hne=>
    intro _ _;rw[abY];exact(OM c r).symm
   refine qT ?_ (qT ?_ rfl)
   .simp only[eh];rw[<-f]
   simp only[b,eA,cG];omega
def aeM(L t:ai aR)(a:fits L=true):jV (nr L++t)=(L,(nr L).length,0):=by
 unfold fits at a;simp only[e9,fJ,hf]at a;have e:nr L++t=num L.length++(im (runs L)++t):=by simp[nr]
 unfold jV;rw[e,(FW L.length sb (im (runs L)++t))];simp only[];rw[az aM,az I,afC L.length L [] t _ _ _ bu aM aM a.2 a.1 (λh=>absurd rfl h)];simp[nr]
def uB(l:ai aR):U:=(l.map λc=>(c.toNat:U)).sum
theorem D9:∀ (l:ai aR) (p:U×U),((j7 p l).1-(p.1+uB l))%65521=0
 | [],p=>by simp[j7,uB]
 | c :: l,p=>by
  have:=D9 l (sA p c)
  rw[Kn];simp only[uB,nz,sum_cons]at *;simp only[sA]at *;omega
theorem Pu:∀ (l:ai aR) (k:J) (c:aR) (h:k<l.length),uB (l.set k c)=uB l-(l[k].toNat:U)+(c.toNat:U)
 | bw :: l,0,c,h=>by simp[uB];omega
 | bw :: l,k+1,c,h=>by
  have:=Pu l k c j0
  simp only[uB,zr,nz,sum_cons,Cy]at *;omega
def ahS(a b:U)(bg:0<=a/\a<4294967296)(al:0<=b/\b<4294967296)(h:fs a=fs b):a=b:=by
 unfold fs at h;have key:∀ x y:J,x<256->y<256->UInt8.ofNat x=UInt8.ofNat y->x=y:=by
  intro x y ak a8 e
  have:=c6 UInt8.toNat e
  simpa[kE ak,kE a8]using this
 simp only[Cs,and_true]at h;refine xP;have c:=key _ _ I I h1;have bK:=key _ _ I I h2;have d:=key _ _ I I s;have f:=key _ _ I I k;omega
def Pv(n:U):(fs n).length=4:=rfl
def aij(l:ai aR)(k:J)(c:aR)(hk:k<(l++fs (more 1 l)).length)(an:c≠(l++fs (more 1 l))[k])(u v:ai aR)(a:u++v=(l++fs (more 1 l)).set k c)(a_:v.length=4):fs (more 1 u)≠v:=by
 intro h;have g:u.length=l.length:=by
  have:=c6 length a
  simp[Pv]at this;omega
 by_cases f:k<l.length
 .rw[set_append_left _ _ f]at a;have⟨b,d⟩:=append_inj a (by simpa using g);rw[d]at h;have m:=ahS _ _ (yC _ _) (yC _ _) h;have n:=(Nk 1 u).1;have q:=(Nk 1 l).1;have gD:=yP u _ (BD 1);have r:=yP l _ (BD 1);have j:=D9 u (1%65536%65521,1 / 65536%65521);have o:=D9 l (1%65536%65521,1 / 65536%65521);rw[b,Pu l k c f]at j;rw[getElem_append_left f]at an;rw[b]at n gD m;have hne:(c.toNat:U)≠(l[k].toNat:U):=λe=>an (CK.1 I);have bS:=c.toNat_lt;have p:=l[k].toNat_lt;omega
 rw[set_append_right _ _ I]at a;have⟨b,d⟩:=append_inj a g;subst b;rw[d]at h;have i:k-u.length<(fs (more 1 u)).length:=by simp[Pv]at hk⊢;omega
 have:=c6 (λx=>x[k-u.length]?) h
 simp[i]at this;rw[getElem_append_right I]at an;exact an this.symm
def xq(h:ww:=by simpa using d):=h
end Go.Proofs.YtalagblioepadaaGreatDoor
