/- The proof, part 11. -/
import Derived.Test.YtalagblioepadaaGreatDoorZc08
import Derived.Deep.LoopGhost
import Derived.Shelf.Bits.Mul64
import Derived.Shelf.Strconv.Itoa0
namespace Go.Proofs.YtalagblioepadaaGreatDoor
set_option linter.all false
open Proofs.Tryz List Go.RowKit Go.Shelf
set_option maxRecDepth 100000
set_option maxHeartbeats 1000000
def rH{p:ak}(h:p:=by show w.heap.size<=w.heap.size+1;omega):p:=h
def zY{p:ak}(h:p:=by show w.heap.size<=w.heap.size+1+1;omega):p:=h
def Mp{p:ak}(h:p:=by have:=aX ((w.alloc (ae #[ag a,ag b] 91)).alloc (ae #[ag c,ag d] 91)) (ae c2 91);simpa using this):p:=h
def MQ{p:ak}(h:p:=by
 go_wp2_with fail;refine bA (wH x a w) ?_;go_wp2_with fail;refine bA (wH y b w) ?_;go_wp2_with fail;refine bA (wH r d w) ?_;go_wp2_with fail;go_ret
 first|exact⟨rfl,rfl⟩|(refine⟨?_,rfl⟩;show Ending.returned (Value.bool (decide _))=_;rw[dd (show ¬ (x*x+y*y<=r*r)by omega)])
 ):p:=h
def Nh{p:ak}(h:p:=by
 generalize (r+cK)*(r+cK)=H at *;generalize r+cK=dG at *;go_wp2_with fail;refine bA (cF.o _) ?_;simp only;go_wp2_with fail;go_roundg j
 case rel=>exact⟨j,r,rfl,rfl,by rw[<-q],f.o,rfl⟩
 omega
 ):p:=h
def HP(k:J)(n:aa)(m:aa)(hk:k<63)(hm:m=((2 ^ k-1:J):aa)):bits .and .i64 n m=n%((2 ^ k:J):aa):=by
 have b:2 ^ k<=2 ^ 62:=rF U U;have h1:(BitVec.ofInt 64 m).toNat=2 ^ k-1:=by
  rw[hm,Lv]
  have:((2 ^ 64:J):aa)=18446744073709551616:=bq
  omega
 have key:(BitVec.ofInt 64 n &&& BitVec.ofInt 64 m).toNat=(n%((2 ^ 64:J):aa)).toNat%2 ^ k:=by
  rw[BitVec.toNat_and,h1,Lv,Nat.and_two_pow_sub_one_eq_mod]
 show IntKind.i64.wrap ((BitVec.ofInt 64 n &&& BitVec.ofInt 64 m).toNat:J)=_;rw[key,Dq];have hd:((2 ^ k:J):aa) ∣ ((2 ^ 64:J):aa):=by
  refine⟨((2 ^ (64-k):J):aa),?_⟩;rw[<-Int.natCast_mul,<-Nat.pow_add]
  congr 2
  omega
 have a:(((n%((2 ^ 64:J):aa)).toNat%2 ^ k:J):aa)=n%((2 ^ k:J):aa):=by
  rw[Int.natCast_emod,Int.toNat_of_nonneg (DG _ bq),Int.emod_emod_of_dvd _ hd]
 rw[a];omega
def As(n:aa):bits .and .i64 n 65535=n%65536:=HP 16 n 65535 U bq
def Ol(n:aa):bits .and .i64 n 32767=n%32768:=HP 15 n 32767 U bq
def nn(b:aa):aa:=
 let a:=b%65536
 let x:=a%32768
 let p:=x*(32768-x)
 let n:=ia ((p*1048576).tdiv (5368709120-4*p))
 if 32768<=a then tY n else n
def rT(a:aa):aa:=nn (a%65536+16384)
def Ki(a:aa):bj (nn a):=by
 unfold nn;simp only;split<;>exact hl _
def Kk{x:aa}(a:0<=x)(h1:x<32768):0<=x*(32768-x)/\x*(32768-x)<=268435456:=by
 obtain⟨n,rfl⟩:=l2 a;refine⟨DH a U,?_⟩;have h2:((n:aa)-16384)*((n:aa)-16384) >= 0:=by
  rcases Int.le_total ((n:aa)-16384) 0 with h|h
  .exact LG h h
  exact DH h h
 have b:((n:aa)-16384)*((n:aa)-16384)=(n:aa)*n-32768*n+268435456:=by
  rw[Int.sub_mul,DI,DI];omega
 have c:(n:aa)*(32768-(n:aa))=32768*n-(n:aa)*n:=by
  rw[DI,Int.mul_comm]
 omega
def KI(b:aa)(w:ai):aA 373 #[I b] w λe w'=>e=.returned (ag (nn b))/\w=w':=by
 have g:=As b;unfold nn;simp only;generalize b%65536=a at *;have h1:=Ol a;have c:0<=a%32768/\a%32768<32768:=U;generalize a%32768=x at *;have au:=Kk c.1 c.2;have d:IntKind.i64.wrap (5368709120-4*(x*(32768-x)))=5368709120-4*(x*(32768-x)):=ev _ U;have hne:¬ 5368709120-4*(x*(32768-x))=0:=U;have aj:((x*(32768-x)*1048576).tdiv (5368709120-4*(x*(32768-x)))).natAbs<=(x*(32768-x)*1048576).natAbs:=by rw[Int.natAbs_tdiv];exact DV _ _
 have f:IntKind.i64.wrap ((x*(32768-x)*1048576).tdiv (5368709120-4*(x*(32768-x))))=(x*(32768-x)*1048576).tdiv (5368709120-4*(x*(32768-x))):=ev _ U;by_cases al:32768<=a
 .rw[aD al]
  go_in
  go_wp2_with fail;refine bA (qW _ _) ?_;go_wp2_with fail;refine bA (G8 _ (hl _) _) ?_;go_wp2;go_ret;exact⟨rfl,rfl⟩
 rw[az al]
 go_in
 go_wp2_with fail;refine bA (qW _ _) ?_;go_wp2_with fail;go_ret;exact⟨rfl,rfl⟩
def X9(b:aa)(w:ai):aA 372 #[I b] w λe w'=>e=.returned (ag (rT b))/\w=w':=by
 have d:=As b;have c:IntKind.i64.wrap (b%65536+16384)=b%65536+16384:=ev _ U;unfold rT;generalize b%65536=a at *
 go_in
 go_wp2_with fail;refine bA (KI (a+16384) w) ?_;go_wp2;go_ret;exact⟨rfl,rfl⟩
def vJ{a:aa}(bd:bj a):0<=a*a/\a*a<=4611686018427387904:=by
 have h:=GW bd bd;refine⟨?_,h.2⟩;rcases Int.le_total a 0 with h|h
 .exact LG h h
 exact DH h h
def wH(a:aa)(bd:bj a)(w:ai):aA 280 #[ag a] w λe w'=>e=.returned (.int .u64 (a*a))/\w=w':=by
 have h:=vJ bd;have b:=pW bd
 go_in
 go_wp2;go_ret;exact⟨rfl,rfl⟩
def kz(x y r:aa):aY:=decide (0<=r)&&decide (x*x+y*y<=r*r)
def X_(x y r:aa)(a:bj x)(b:bj y)(d:bj r)(w:ai):aA 365 #[ag x,ag y,ag r] w λe w'=>e=.returned (.bool (kz x y r))/\w=w':=by
 have h1:=vJ a;have h2:=vJ b;by_cases h:0<=r
 .by_cases c:x*x+y*y<=r*r
  .rw[show kz x y r=true by simp[kz,h,c]]
   go_in
   exact MQ
  rw[show kz x y r=false by simp[kz];omega]
  go_in
  exact MQ
 rw[show kz x y r=false by simp[kz];omega]
 go_in
 go_wp2_with fail;go_ret;exact⟨rfl,rfl⟩
def SS:Go.Shelf.Ren:=⟨fun|129=>188|n=>n,fun|3=>3|4=>4|5=>5|9=>9|46=>227|53=>217|n=>n,fun|n=>n⟩
def SR:Lays.n129 prog SS:={
 mixed:=aH
 f129:=func188.trans (cV some aH)
 t3:=underlying3
 a3:=isAgg3
 z3:=sizeOf3
 v3:=zeroValue3
 t4:=underlying4
 a4:=isAgg4
 z4:=sizeOf4
 v4:=zeroValue4
 t5:=underlying5
 a5:=isAgg5
 z5:=sizeOf5
 v5:=zeroValue5
 t9:=underlying9
 a9:=isAgg9
 z9:=sizeOf9
 v9:=zeroValue9
 t46:=underlying227
 a46:=isAgg227
 z46:=sizeOf227
 v46:=zeroValue227
 t53:=underlying217
 a53:=isAgg217
 z53:=sizeOf217
 v53:=zeroValue217}
def TP:Go.Shelf.Ren:=⟨fun|264=>320|n=>n,fun|46=>227|53=>217|n=>n,fun|n=>n⟩
def TO:Lays.n264 prog TP:={
 mixed:=aH
 f264:=func320.trans (cV some aH)
 t46:=underlying227
 a46:=isAgg227
 z46:=sizeOf227
 v46:=zeroValue227
 t53:=underlying217
 a53:=isAgg217
 z53:=sizeOf217
 v53:=zeroValue217}
theorem FO(x:J)(h:x<18446744073709551616)(w:ai):aA 188 #[.int .u64 x] w λe w'=>e=.returned (I (Lib.bitLen x))/\w=w':=
 (Any.bits_Len64 SR x w U U).mono λ_ _ h=>⟨by rw[h.1];simp,h.2.symm⟩
theorem OT(x y:J)(a:x<18446744073709551616)(b:y<18446744073709551616)(w:ai):aA 320 #[.int .u64 x,.int .u64 y] w λe w'=>e=aV #[.int .u64 ((x*y / 18446744073709551616:J):aa),.int .u64 ((x*y%18446744073709551616:J):aa)]/\w=w':=
 (Any.bits_Mul64 TO x y a b w).mono λ_ _ h=>⟨h.1,h.2.symm⟩
def ka:J->J->J->J
 | 0,r,_=>r
 | k+1,r,n=>if (r+2 ^ k)*(r+2 ^ k)<=n then ka k (r+2 ^ k) n else ka k r n
def ni(n:J):J:=ka (Lib.bitLen n / 2+1) 0 n
theorem FK:∀ (f x:J),x<2 ^ f->x<2 ^ Lib.bitLenAux f x
 | 0,x,h=>by simpa[Lib.bitLenAux]using h
 | f+1,x,h=>by
  unfold Lib.bitLenAux;split
  .rename_i a;subst a;simp
  have:=FK f (x / 2) (by rw[nG]at h;omega)
  rw[qt,nG];omega
theorem bitLenAux_le:∀ (f x:J),Lib.bitLenAux f x<=f
 | 0,x=>by simp[Lib.bitLenAux]
 | f+1,x=>by
  unfold Lib.bitLenAux;split
  .omega
  have:=bitLenAux_le f (x / 2)
  omega
theorem Ck:∀ (k r n:J),r*r<=n->n<(r+2 ^ k)*(r+2 ^ k)->ka k r n*ka k r n<=n/\n<(ka k r n+1)*(ka k r n+1)
 | 0,r,n,h1,h2=>⟨h1,by rw[Nat.pow_zero]at h2;exact h2⟩
 | k+1,r,n,h1,h2=>by
  unfold ka;split
  .rename_i h;refine Ck k _ n h ?_;rw[nG]at h2;rw[show r+2 ^ k+2 ^ k=r+2 ^ k*2 by omega];exact h2
  exact Ck k r n h1 U
def VF(n:J)(ar:n<18446744073709551616):ni n*ni n<=n/\n<(ni n+1)*(ni n+1):=by
 refine Ck _ 0 n U ?_;rw[gC,<-Nat.pow_add];refine l7 (FK 64 n qz) (rF U ?_);show Lib.bitLen n<=_;omega
def VH(n:J)(ar:n<=9223372036854775808):ni n<4294967296:=by
 have h:=(VF n U).1;by_cases e:ni n<4294967296
 .exact e
 have:4294967296*4294967296<=ni n*ni n:=Nat.mul_le_mul U U
 omega
def tn(k:J):J:=if k=0 then 0 else 2 ^ (k-1)
structure vr(n K k r:J):ak where
 go:ka k r n=ka (K+1) 0 n
 mod:r%2 ^ k=0
 le:r+2 ^ k<=2 ^ (K+1)
def UL{K:J}(h:K<=32):2 ^ (K+1)<=8589934592:=b7 (rF U (show K+1<=33 by omega)) bq
def VG{n K j r:J}(h:vr n K (j+1) r):(if (r+2 ^ j)*(r+2 ^ j)<=n then vr n K j (r+2 ^ j)else vr n K j r):=by
 have⟨h1,h2,b⟩:=h;have hm:r%2 ^ j=0:=by
  have:2 ^ j ∣ 2 ^ (j+1):=⟨2,(nG 2 j)⟩
  exact Nat.mod_eq_zero_of_dvd (Nat.dvd_trans this (Nat.dvd_of_mod_eq_zero h2))
 rw[show ka (j+1) r n=if (r+2 ^ j)*(r+2 ^ j)<=n then ka j (r+2 ^ j) n else ka j r n from rfl]at h1;split
 .rename_i c;have a:ka j (r+2 ^ j) n=ka (K+1) 0 n:=by rw[<-h1,aD c]
  exact⟨a,by rw[Nat.add_mod_right];exact hm,U⟩
 rename_i c;have a:ka j r n=ka (K+1) 0 n:=by rw[<-h1,az c]
 exact⟨a,hm,U⟩
def X'(n:J)(ar:n<18446744073709551616)(w:ai):aA 279 #[.int .u64 n] w λe w'=>e=.returned (.int .u64 (ni n))/\w=w':=by
 have aj:Lib.bitLen n<=64:=bitLenAux_le 64 n;have C:=FO n ar;unfold ni;generalize Lib.bitLen n=b at *;obtain⟨K,d,B⟩:∃ K,b / 2=K/\K<=32:=⟨b / 2,rfl,U⟩;rw[d];have F:=UL B;have P:=(nG 2 K).symm;have G:IntKind.u64.wrap (1*2 ^ (K:aa).toNat)=((2 ^ K:J):aa):=by
  rw[Int.one_mul,rq,show((2:aa) ^ K)=((2 ^ K:J):aa)by simp,zu];omega
 have m:IntKind.u64.wrap (2 ^ K)=((2 ^ K:J):aa):=by
  rw[show((2:aa) ^ K)=((2 ^ K:J):aa)by simp,zu];omega
 have h:vr n K (K+1) 0:=⟨rfl,aK,U⟩;have s:=af C
 go_in
 go_wp2_with fail;refine bA (s.o w) ?_;simp only;go_wp2_with fail;have p:=af d;have u:=af m;clear d m G;go_loopg [3,4] (K+1) (λg v x wr=>∃ k r:J,g=k/\v=.int .u64 r/\x=.int .u64 (tn k)/\vr n K k r/\w=wr)
 case atStart=>exact⟨K+1,0,rfl,rfl,by rw[p.o,u.o];simp[tn],h,rfl⟩
 obtain⟨k,r,aZ,rfl,rfl,an,rfl⟩:=hrel;cases k with
 | zero=>
  simp only[tn,if_true];have t:=af an.go;go_wp2_with fail;go_ret;exact⟨by rw[<-t.o];rfl,rfl⟩
 | succ j=>
  have a:=VG an;have E:=an.le;have Q:=nG 2 j;have R:0<2 ^ j:=Nat.pos_of_ne_zero aK;simp only[tn,Nat.add_eq_zero_iff,Nat.one_ne_zero,and_false,if_false,DT];have O:bits .or .u64 (r:aa) ((2 ^ j:J):aa)=((r+2 ^ j:J):aa):=by
   have N:r+2 ^ (j+1)<=8589934592:=b7 E F;refine(bits_join .u64 64 bq (λn h h1=>?_) (j+1) (r:aa) ((2 ^ j:J):aa) U ?_ ?_ U ?_ ?_).trans U
   .rw[zu]
    have:(2:aa) ^ 64=18446744073709551616:=bq
    omega
   .have:=cV (λz:J=>(z:aa)) an.mod
    simpa using this
   .have:(2:aa) ^ 64=18446744073709551616:=bq
    omega
   .have:(2:aa) ^ (j+1)=((2 ^ (j+1):J):aa):=aK
    rw[this];omega
   have:(2:aa) ^ 64=18446744073709551616:=bq
   omega
  have l:r+2 ^ j<18446744073709551616:=U;have q:((2 ^ j:J):aa) / 2=(tn j:aa):=by
   unfold tn;cases j with
   | zero=>decide
   | succ i=>rw[if_neg kh,DT,nG];omega
  have cF:=af (OT (r+2 ^ j) (r+2 ^ j) l l);generalize S:2 ^ j=cK at *;have M:(0:aa)<((cK:J):aa):=U;by_cases al:(r+cK)*(r+cK)<=n
  .rw[aD al]at a;have y:(r+cK)*(r+cK) / 18446744073709551616=0:=Nat.div_eq_of_lt U;have c:(r+cK)*(r+cK)%18446744073709551616=(r+cK)*(r+cK):=jh U;rw[y,c]at cF;have D:(((r+cK)*(r+cK):J):aa)<=(n:aa):=U;generalize (r+cK)*(r+cK)=H at *;generalize r+cK=dG at *;have f:=af a;go_wp2_with fail;refine bA (cF.o _) ?_;simp only;go_wp2_with fail;go_roundg j
   case rel=>exact⟨j,dG,rfl,rfl,by rw[<-q],f.o,rfl⟩
   omega
  rw[az al]at a;have f:=af a;by_cases A:(r+cK)*(r+cK) / 18446744073709551616=0
  .have c:(r+cK)*(r+cK)%18446744073709551616=(r+cK)*(r+cK):=jh U;rw[A,c]at cF;have D:¬ (((r+cK)*(r+cK):J):aa)<=(n:aa):=U;exact Nh
  generalize (r+cK)*(r+cK) / 18446744073709551616=aw at *;generalize (r+cK)*(r+cK)%18446744073709551616=bl at *;have L:((aw:aa) == 0)=false:=by rw[eu];omega
  exact Nh
def o3(x y:aa):aa:=ia (ni (x*x+y*y).toNat)
def za(x y:aa)(b:bj x)(c:bj y)(w:ai):aA 212 #[ag x,ag y] w λe w'=>e=.returned (ag (o3 x y))/\w=w':=by
 have h1:=vJ b;have h2:=vJ c;have f:IntKind.u64.wrap (x*x+y*y)=x*x+y*y:=by rw[zu];omega
 have⟨n,ar⟩:=l2 (show 0<=x*x+y*y by omega);have g:n<=9223372036854775808:=U;have a:=X' n U;have j:=VH n g;unfold o3;rw[ar]at f⊢;rw[rq];generalize ni n=r at *;have i:IntKind.i64.wrap (r:aa)=(r:aa):=ev _ U;have d:=af a;have h:=af ar;clear a
 go_in
 go_wp2_with fail;refine(wH x b w).mono ?_;rintro e _ ⟨rfl,rfl⟩;go_wp2_with fail;refine(wH y c w).mono ?_;rintro e _ ⟨rfl,rfl⟩;go_wp2_with fail;refine(d.out w).mono ?_;rintro e _ ⟨rfl,rfl⟩;go_wp2_with fail;refine(qW r w).mono ?_;rintro e _ ⟨rfl,rfl⟩;go_wp2_with fail;go_ret;exact⟨rfl,rfl⟩
def SV(x y:aa):bj (o3 x y):=hl _
def sy(x y s:aa):aa:=if o3 x y=0 then 0 else mf (eh x s) (o3 x y)
def sz(x y s:aa):aa:=if o3 x y=0 then 0 else mf (eh y s) (o3 x y)
def Gu(a b:aa):bj (mf a b):=by
 unfold mf;split
 .exact hl _
 split
 .unfold bj;omega
 split<;>(unfold bj;omega)
def Ya(x y s:aa)(d:bj x)(f:bj y)(av:bj s)(w:ai):aA 384 #[ag x,ag y,ag s] w λe w'=>e=aV #[ag (sy x y s),ag (sz x y s)]/\w=w':=by
 have b:=za x y d f;have c:=SV x y;unfold sy sz;generalize o3 x y=l at *;have a:=af b;clear b;by_cases h:l=0
 .rw[aD h,aD h];subst h
  go_in
  go_wp2_with fail;refine(a.o w).mono ?_;rintro e _ ⟨rfl,rfl⟩;simp only;go_wp2_with fail;go_ret2;exact⟨rfl,rfl⟩
 rw[az h,az h];have g:((l:aa) == 0)=false:=by rw[eu];exact h
 go_in
 go_wp2_with fail;refine(a.out w).mono ?_;rintro e _ ⟨rfl,rfl⟩;simp only;go_wp2_with fail;refine(vM x s d av w).mono ?_;rintro e _ ⟨rfl,rfl⟩;go_wp2_with fail;refine(G7 (eh x s) l (hl _) c w).mono ?_;rintro e _ ⟨rfl,rfl⟩;go_wp2_with fail;refine(vM y s f av w).mono ?_;rintro e _ ⟨rfl,rfl⟩;go_wp2_with fail;refine(G7 (eh y s) l (hl _) c w).mono ?_;rintro e _ ⟨rfl,rfl⟩;go_wp2_with fail;go_ret2;exact⟨rfl,rfl⟩
def Xb(a b c d x y:aa)(h1:∀ w,aA 278 #[ag a,ag c] w λe w'=>e=.returned (ag x)/\w=w')(h2:∀ w,aA 278 #[ag b,ag d] w λe w'=>e=.returned (ag y)/\w=w')(w:ai):aA 277 #[aQ #[ag a,ag b],aQ #[ag c,ag d],.func (.func 278) #[] #[]] w λe w'=>e=.returned (aQ #[ag x,ag y])/\Below w w w':=by
 go_in
 go_wp2_with fail;refine iR 13 aH aH ?_;simp only[hV,iy,hU,hI]
 repeat (go_big_quiet_step ((first|(with_reducible exact(h1 _).mono λ_ _ h=>⟨h.1,_,h.2.symm⟩)|(with_reducible exact(h2 _).mono λ_ _ h=>⟨h.1,_,h.2.symm⟩))))
 refine wpQuiet_nil ?_;intro _ g;obtain⟨nq,i⟩:=g;subst i;go_wp2_with fail;refine cU (v:=aQ #[ag x,ag y]) xd rfl ?_;have f:=(((b3 w.heap.size w).alloc bs (ae #[ag a,ag b] 91)).alloc aK (ae #[ag c,ag d] 91)).alloc bT (ae c2 91);refine⟨rfl,l1 (l1 ?_ ?_ _) ?_ _⟩
 .exact w_
 all_goals show w.heap.size<=w.heap.size+1+1
 all_goals omega
def Xd(a b c d x y:aa)(h1:∀ w,aA 281 #[ag a,ag c] w λe w'=>e=.returned (ag x)/\w=w')(h2:∀ w,aA 281 #[ag b,ag d] w λe w'=>e=.returned (ag y)/\w=w')(w:ai):aA 277 #[aQ #[ag a,ag b],aQ #[ag c,ag d],.func (.func 281) #[] #[]] w λe w'=>e=.returned (aQ #[ag x,ag y])/\Below w w w':=by
 go_in
 go_wp2_with fail;refine iR 13 aH aH ?_;simp only[hV,iy,hU,hI]
 repeat (go_big_quiet_step ((first|(with_reducible exact(h1 _).mono λ_ _ h=>⟨h.1,_,h.2.symm⟩)|(with_reducible exact(h2 _).mono λ_ _ h=>⟨h.1,_,h.2.symm⟩))))
 refine wpQuiet_nil ?_;intro _ g;obtain⟨nq,i⟩:=g;subst i;go_wp2_with fail;refine cU (v:=aQ #[ag x,ag y]) xd rfl ?_;have f:=(((b3 w.heap.size w).alloc bs (ae #[ag a,ag b] 91)).alloc aK (ae #[ag c,ag d] 91)).alloc bT (ae c2 91);refine⟨rfl,l1 (l1 ?_ ?_ _) ?_ _⟩
 .exact w_
 all_goals show w.heap.size<=w.heap.size+1+1
 all_goals omega
def Xc(a b c d x y:aa)(h1:∀ w,aA 371 #[ag a,ag c] w λe w'=>e=.returned (ag x)/\w=w')(h2:∀ w,aA 371 #[ag b,ag d] w λe w'=>e=.returned (ag y)/\w=w')(w:ai):aA 277 #[aQ #[ag a,ag b],aQ #[ag c,ag d],.func (.func 371) #[] #[]] w λe w'=>e=.returned (aQ #[ag x,ag y])/\Below w w w':=by
 go_in
 go_wp2_with fail;refine iR 13 aH aH ?_;simp only[hV,iy,hU,hI]
 repeat (go_big_quiet_step ((first|(with_reducible exact(h1 _).mono λ_ _ h=>⟨h.1,_,h.2.symm⟩)|(with_reducible exact(h2 _).mono λ_ _ h=>⟨h.1,_,h.2.symm⟩))))
 refine wpQuiet_nil ?_;intro _ g;obtain⟨nq,i⟩:=g;subst i;go_wp2_with fail;refine cU (v:=aQ #[ag x,ag y]) xd rfl ?_;have f:=(((b3 w.heap.size w).alloc bs (ae #[ag a,ag b] 91)).alloc aK (ae #[ag c,ag d] 91)).alloc bT (ae c2 91);refine⟨rfl,l1 (l1 ?_ ?_ _) ?_ _⟩
 .exact w_
 all_goals show w.heap.size<=w.heap.size+1+1
 all_goals omega
def kU{w:ai}{b:J}{t:TypeId}{x y:ax}(a:w.heap[b]?=some (ae #[x,y] t (0,0))):(loadCellsFrom (ad b 0 ab) 0 2 #[]).run prog w=.ok #[x,y] w:=by
 have h:=wU (P:=prog) w (ad b 0 ab) [x,y] (λj v m=>by
  rw[h3,gC];exact bb a vc)
 simpa[loadCells]using h
def km{w:ai}{b:J}{t:TypeId}{u v:ax}(h:w.heap[b]?=some (ae #[u,v] t (0,0)))(x y:ax):((w.setCell (ad b 0 ab) x).setCell (ad b 1 ab) y).heap[b]?=some (ae #[x,y] t (0,0)):=by
 have:=bV (bV h 0 x) 1 y
 simpa using this
def uu(a b c d:aa)(bd:bj a)(aj:bj b)(al:bj c)(hd:bj d)(w:ai):aA 211 #[aQ #[ag a,ag b],aQ #[ag c,ag d]] w λe w'=>e=.returned (aQ #[ag (dj a c),ag (dj b d)])/\Below w w w':=by
 have h:=Xb a b c d (dj a c) (dj b d) (λw=>x7 a c bd al w) (λw=>x7 b d aj hd w);generalize dj a c=x at *;generalize dj b d=y at *;have i:=af h;clear h
 go_in
 go_wp2_with fail;refine(i.o _).mono ?_;rintro e ao ⟨rfl,h1⟩;have f:ao.heap[w.heap.size+1+1]?=some (ae c2 91 (0,0)):=(Keeps.bD (S:=aI) h1 a7).heap Mp id;have j:Below w w ao:=((((b3 w.heap.size w).alloc bs (ae #[ag a,ag b] 91)).alloc aK (ae #[ag c,ag d] 91)).alloc bT (ae c2 91)).trans (h1.mono bT);have eO:=aS f;have g0:=bI f;clear h1;go_wp2;have g:=kU (km f (ag x) (ag y));refine cU (v:=aQ #[ag x,ag y]) Mv rfl ?_;exact⟨rfl,(j.setCell zY _).setCell zY _⟩
def CC(a b c d:aa)(bd:bj a)(aj:bj b)(al:bj c)(hd:bj d)(w:ai):aA 213 #[aQ #[ag a,ag b],aQ #[ag c,ag d]] w λe w'=>e=.returned (aQ #[ag (fA a c),ag (fA b d)])/\Below w w w':=by
 have h:=Xd a b c d (fA a c) (fA b d) (λw=>A9 a c bd al w) (λw=>A9 b d aj hd w);generalize fA a c=x at *;generalize fA b d=y at *;have i:=af h;clear h
 go_in
 go_wp2_with fail;refine(i.o _).mono ?_;rintro e ao ⟨rfl,h1⟩;have f:ao.heap[w.heap.size+1+1]?=some (ae c2 91 (0,0)):=(Keeps.bD (S:=aI) h1 a7).heap Mp id;have j:Below w w ao:=((((b3 w.heap.size w).alloc bs (ae #[ag a,ag b] 91)).alloc aK (ae #[ag c,ag d] 91)).alloc bT (ae c2 91)).trans (h1.mono bT);have eO:=aS f;have g0:=bI f;clear h1;go_wp2;have g:=kU (km f (ag x) (ag y));refine cU (v:=aQ #[ag x,ag y]) Mw rfl ?_;exact⟨rfl,(j.setCell zY _).setCell zY _⟩
def CB(a b s:aa)(bd:bj a)(aj:bj b)(av:bj s)(w:ai):aA 361 #[aQ #[ag a,ag b],ag s] w λe w'=>e=.returned (aQ #[ag (eh a s),ag (eh b s)])/\Below w w w':=by
 have d:=Xc a b s s (eh a s) (eh b s) (λw=>vM a s bd av w) (λw=>vM b s aj av w);generalize eh a s=x at *;generalize eh b s=y at *;have f:=af d;clear d
 go_in
 go_wp2_with fail;refine(f.o _).mono ?_;rintro e ao ⟨rfl,h1⟩;have c:ao.heap[w.heap.size+1]?=some (ae c2 91 (0,0)):=(Keeps.bD (S:=aI) h1 a7).heap (by have:=aX (w.alloc (ae #[ag a,ag b] 91)) (ae c2 91);simpa using this) id;have g:Below w w ao:=(((b3 w.heap.size w).alloc bs (ae #[ag a,ag b] 91)).alloc aK (ae c2 91)).trans (h1.mono bT);have eO:=aS c;have g0:=bI c;clear h1;go_wp2;have h:=kU (km c (ag x) (ag y));refine cU (v:=aQ #[ag x,ag y]) (by simp[results,results361,asAddr,loadVar,loadCells,isAgg91,sizeOf91,h]) rfl ?_;exact⟨rfl,(g.setCell rH _).setCell rH _⟩
def hT(p v bl aw jG hx:aa):aa×aa×aa:=
 let q:=dj p v
 let a:=eh (tY v) 32768
 if q<bl then(bl,a,jG)else if aw<q then(aw,a,hx)else(q,v,0)
def Ke(p v bl aw jG hx:aa)(au:bj p)(aW:bj v)(w:ai):aA 376 #[ag p,ag v,ag bl,ag aw,I jG,I hx] w λe w'=>e=aV #[ag (hT p v bl aw jG hx).1,ag (hT p v bl aw jG hx).2.1,I (hT p v bl aw jG hx).2.2]/\w=w':=by
 have c:=x7 p v au aW;have f:=G8 v aW;have d:=vM (tY v) 32768 (hl _) f_;unfold hT;simp only;generalize tY v=g at *;generalize eh g 32768=OM at *;generalize dj p v=q at *;have a:=af c;have b:=af f;have cF:=af d;clear c f d;by_cases h1:q<bl
 .simp only[aD h1]
  go_in
  go_wp2_with fail;refine(a.o w).mono ?_;rintro e _ ⟨rfl,rfl⟩;go_wp2_with fail;refine(b.out w).mono ?_;rintro e _ ⟨rfl,rfl⟩;go_wp2_with fail;refine(cF.out w).mono ?_;rintro e _ ⟨rfl,rfl⟩;go_wp2;go_ret3;exact⟨rfl,rfl⟩
 simp only[az h1];by_cases h2:aw<q
 .simp only[aD h2]
  go_in
  go_wp2_with fail;refine(a.out w).mono ?_;rintro e _ ⟨rfl,rfl⟩;go_wp2_with fail;refine(b.out w).mono ?_;rintro e _ ⟨rfl,rfl⟩;go_wp2_with fail;refine(cF.out w).mono ?_;rintro e _ ⟨rfl,rfl⟩;go_wp2;go_ret3;exact⟨rfl,rfl⟩
 simp only[az h2]
 go_in
 go_wp2_with fail;refine(a.out w).mono ?_;rintro e _ ⟨rfl,rfl⟩;go_wp2_with fail;refine(b.out w).mono ?_;rintro e _ ⟨rfl,rfl⟩;go_wp2_with fail;refine(cF.out w).mono ?_;rintro e _ ⟨rfl,rfl⟩;go_wp2;go_ret3;exact⟨rfl,rfl⟩
end Go.Proofs.YtalagblioepadaaGreatDoor
