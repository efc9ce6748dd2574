/- The proof, part 11. -/
import Derived.Test.YtalagblioepadaaGreatDoorZb08
import Derived.Deep.LoopGhost
import Derived.Shelf.Bits.Mul64
import Derived.Shelf.Strconv.Itoa0
namespace Go.Proofs.YtalagblioepadaaGreatDoor
set_option linter.all false
open Proofs.Tryz List Go.RowKit Go.Shelf
set_option maxRecDepth 100000
set_option maxHeartbeats 1000000
def rj{p:ak}(h:p:=by show w.heap.size<=w.heap.size+1;omega):p:=h
def zE{p:ak}(h:p:=by show w.heap.size<=w.heap.size+1+1;omega):p:=h
def LS{p:ak}(h:p:=by have:=aW ((w.alloc (ae #[ag a,ag b] 91)).alloc (ae #[ag c,ag d] 91)) (ae c0 91);simpa using this):p:=h
def Mi{p:ak}(h:p:=by
 go_wp2_with fail;refine br (wi x a w) ?_;go_wp2_with fail;refine br (wi y b w) ?_;go_wp2_with fail;refine br (wi r d w) ?_;go_wp2_with fail;go_ret
 first|exact⟨rfl,rfl⟩|(refine⟨?_,rfl⟩;show Ending.returned (Value.bool (decide _))=_;rw[cZ (show ¬ (x*x+y*y<=r*r)by omega)])
 ):p:=h
def MJ{p:ak}(h:p:=by
 generalize (r+cG)*(r+cG)=H at *;generalize r+cG=dG at *;go_wp2_with fail;refine br (cE.o _) ?_;simp only;go_wp2_with fail;go_roundg j
 case rel=>exact⟨j,r,rfl,rfl,by rw[<-q],f.o,rfl⟩
 omega
 ):p:=h
def Hm(k:J)(n:aa)(m:aa)(hk:k<63)(hm:m=((2 ^ k-1:J):aa)):bits .and .i64 n m=n%((2 ^ k:J):aa):=by
 have b:2 ^ k<=2 ^ 62:=rh U U;have h1:(BitVec.ofInt 64 m).toNat=2 ^ k-1:=by
  rw[hm,K1]
  have:((2 ^ 64:J):aa)=18446744073709551616:=bq
  omega
 have key:(BitVec.ofInt 64 n &&& BitVec.ofInt 64 m).toNat=(n%((2 ^ 64:J):aa)).toNat%2 ^ k:=by
  rw[BitVec.toNat_and,h1,K1,Nat.and_two_pow_sub_one_eq_mod]
 show IntKind.i64.wrap ((BitVec.ofInt 64 n &&& BitVec.ofInt 64 m).toNat:J)=_;rw[key,C1];have hd:((2 ^ k:J):aa) ∣ ((2 ^ 64:J):aa):=by
  refine⟨((2 ^ (64-k):J):aa),?_⟩;rw[<-Int.natCast_mul,<-Nat.pow_add]
  congr 2
  omega
 have a:(((n%((2 ^ 64:J):aa)).toNat%2 ^ k:J):aa)=n%((2 ^ k:J):aa):=by
  rw[Int.natCast_emod,Int.toNat_of_nonneg (Df _ bq),Int.emod_emod_of_dvd _ hd]
 rw[a];omega
def z8(n:aa):bits .and .i64 n 65535=n%65536:=Hm 16 n 65535 U bq
def NP(n:aa):bits .and .i64 n 32767=n%32768:=Hm 15 n 32767 U bq
def mX(b:aa):aa:=
 let a:=b%65536
 let x:=a%32768
 let p:=x*(32768-x)
 let n:=hZ ((p*1048576).tdiv (5368709120-4*p))
 if 32768<=a then tH n else n
def rE(a:aa):aa:=mX (a%65536+16384)
def JQ(a:aa):bk (mX a):=by
 unfold mX;simp only;split<;>exact ha _
def JS{x:aa}(a:0<=x)(h1:x<32768):0<=x*(32768-x)/\x*(32768-x)<=268435456:=by
 obtain⟨n,rfl⟩:=lQ a;refine⟨Dg a U,?_⟩;have h2:((n:aa)-16384)*((n:aa)-16384) >= 0:=by
  rcases Int.le_total ((n:aa)-16384) 0 with h|h
  .exact K_ h h
  exact Dg h h
 have b:((n:aa)-16384)*((n:aa)-16384)=(n:aa)*n-32768*n+268435456:=by
  rw[Int.sub_mul,Dh,Dh];omega
 have c:(n:aa)*(32768-(n:aa))=32768*n-(n:aa)*n:=by
  rw[Dh,Int.mul_comm]
 omega
def Kc(b:aa)(w:ai):az 373 #[I b] w λe w'=>e=.returned (ag (mX b))/\w=w':=by
 have g:=z8 b;unfold mX;simp only;generalize b%65536=a at *;have h1:=NP a;have c:0<=a%32768/\a%32768<32768:=U;generalize a%32768=x at *;have ar:=JS c.1 c.2;have d:IntKind.i64.wrap (5368709120-4*(x*(32768-x)))=5368709120-4*(x*(32768-x)):=et _ U;have hne:¬ 5368709120-4*(x*(32768-x))=0:=U;have aj:((x*(32768-x)*1048576).tdiv (5368709120-4*(x*(32768-x)))).natAbs<=(x*(32768-x)*1048576).natAbs:=by rw[Int.natAbs_tdiv];exact Du _ _
 have f:IntKind.i64.wrap ((x*(32768-x)*1048576).tdiv (5368709120-4*(x*(32768-x))))=(x*(32768-x)*1048576).tdiv (5368709120-4*(x*(32768-x))):=et _ U;by_cases aq:32768<=a
 .rw[aD aq]
  go_in
  go_wp2_with fail;refine br (qD _ _) ?_;go_wp2_with fail;refine br (GC _ (ha _) _) ?_;go_wp2;go_ret;exact⟨rfl,rfl⟩
 rw[aA aq]
 go_in
 go_wp2_with fail;refine br (qD _ _) ?_;go_wp2_with fail;go_ret;exact⟨rfl,rfl⟩
def Xw(b:aa)(w:ai):az 372 #[I b] w λe w'=>e=.returned (ag (rE b))/\w=w':=by
 have d:=z8 b;have c:IntKind.i64.wrap (b%65536+16384)=b%65536+16384:=et _ U;unfold rE;generalize b%65536=a at *
 go_in
 go_wp2_with fail;refine br (Kc (a+16384) w) ?_;go_wp2;go_ret;exact⟨rfl,rfl⟩
def vu{a:aa}(bj:bk a):0<=a*a/\a*a<=4611686018427387904:=by
 have h:=Gp bj bj;refine⟨?_,h.2⟩;rcases Int.le_total a 0 with h|h
 .exact K_ h h
 exact Dg h h
def wi(a:aa)(bj:bk a)(w:ai):az 280 #[ag a] w λe w'=>e=.returned (.int .u64 (a*a))/\w=w':=by
 have h:=vu bj;have b:=pI bj
 go_in
 go_wp2;go_ret;exact⟨rfl,rfl⟩
def kp(x y r:aa):aY:=decide (0<=r)&&decide (x*x+y*y<=r*r)
def Xx(x y r:aa)(a:bk x)(b:bk y)(d:bk r)(w:ai):az 365 #[ag x,ag y,ag r] w λe w'=>e=.returned (.bool (kp x y r))/\w=w':=by
 have h1:=vu a;have h2:=vu b;by_cases h:0<=r
 .by_cases c:x*x+y*y<=r*r
  .rw[show kp x y r=true by simp[kp,h,c]]
   go_in
   exact Mi
  rw[show kp x y r=false by simp[kp];omega]
  go_in
  exact Mi
 rw[show kp x y r=false by simp[kp];omega]
 go_in
 go_wp2_with fail;go_ret;exact⟨rfl,rfl⟩
def Sf:Go.Shelf.Ren:=⟨fun|129=>188|n=>n,fun|3=>3|4=>4|5=>5|9=>9|46=>227|53=>217|n=>n,fun|n=>n⟩
def Se:Lays.n129 prog Sf:={
 mixed:=aH
 f129:=func188.trans (cV some aH)
 t3:=underlying3
 a3:=isAgg3
 z3:=sizeOf3
 v3:=zeroValue3
 t4:=underlying4
 a4:=isAgg4
 z4:=sizeOf4
 v4:=zeroValue4
 t5:=underlying5
 a5:=isAgg5
 z5:=sizeOf5
 v5:=zeroValue5
 t9:=underlying9
 a9:=isAgg9
 z9:=sizeOf9
 v9:=zeroValue9
 t46:=underlying227
 a46:=isAgg227
 z46:=sizeOf227
 v46:=zeroValue227
 t53:=underlying217
 a53:=isAgg217
 z53:=sizeOf217
 v53:=zeroValue217}
def Tc:Go.Shelf.Ren:=⟨fun|264=>320|n=>n,fun|46=>227|53=>217|n=>n,fun|n=>n⟩
def Tb:Lays.n264 prog Tc:={
 mixed:=aH
 f264:=func320.trans (cV some aH)
 t46:=underlying227
 a46:=isAgg227
 z46:=sizeOf227
 v46:=zeroValue227
 t53:=underlying217
 a53:=isAgg217
 z53:=sizeOf217
 v53:=zeroValue217}
theorem Fl(x:J)(h:x<18446744073709551616)(w:ai):az 188 #[.int .u64 x] w λe w'=>e=.returned (I (Lib.bitLen x))/\w=w':=
 (Any.bits_Len64 Se x w U U).mono λ_ _ h=>⟨by rw[h.1];simp,h.2.symm⟩
theorem Om(x y:J)(a:x<18446744073709551616)(b:y<18446744073709551616)(w:ai):az 320 #[.int .u64 x,.int .u64 y] w λe w'=>e=aV #[.int .u64 ((x*y / 18446744073709551616:J):aa),.int .u64 ((x*y%18446744073709551616:J):aa)]/\w=w':=
 (Any.bits_Mul64 Tb x y a b w).mono λ_ _ h=>⟨h.1,h.2.symm⟩
def j3:J->J->J->J
 | 0,r,_=>r
 | k+1,r,n=>if (r+2 ^ k)*(r+2 ^ k)<=n then j3 k (r+2 ^ k) n else j3 k r n
def mU(n:J):J:=j3 (Lib.bitLen n / 2+1) 0 n
theorem Fh:∀ (f x:J),x<2 ^ f->x<2 ^ Lib.bitLenAux f x
 | 0,x,h=>by simpa[Lib.bitLenAux]using h
 | f+1,x,h=>by
  unfold Lib.bitLenAux;split
  .rename_i a;subst a;simp
  have:=Fh f (x / 2) (by rw[nn]at h;omega)
  rw[qc,nn];omega
theorem bitLenAux_le:∀ (f x:J),Lib.bitLenAux f x<=f
 | 0,x=>by simp[Lib.bitLenAux]
 | f+1,x=>by
  unfold Lib.bitLenAux;split
  .omega
  have:=bitLenAux_le f (x / 2)
  omega
theorem BY:∀ (k r n:J),r*r<=n->n<(r+2 ^ k)*(r+2 ^ k)->j3 k r n*j3 k r n<=n/\n<(j3 k r n+1)*(j3 k r n+1)
 | 0,r,n,h1,h2=>⟨h1,by rw[Nat.pow_zero]at h2;exact h2⟩
 | k+1,r,n,h1,h2=>by
  unfold j3;split
  .rename_i h;refine BY k _ n h ?_;rw[nn]at h2;rw[show r+2 ^ k+2 ^ k=r+2 ^ k*2 by omega];exact h2
  exact BY k r n h1 U
def U6(n:J)(au:n<18446744073709551616):mU n*mU n<=n/\n<(mU n+1)*(mU n+1):=by
 refine BY _ 0 n U ?_;rw[gv,<-Nat.pow_add];refine lT (Fh 64 n qi) (rh U ?_);show Lib.bitLen n<=_;omega
def U8(n:J)(au:n<=9223372036854775808):mU n<4294967296:=by
 have h:=(U6 n U).1;by_cases e:mU n<4294967296
 .exact e
 have:4294967296*4294967296<=mU n*mU n:=Nat.mul_le_mul U U
 omega
def s_(k:J):J:=if k=0 then 0 else 2 ^ (k-1)
structure vb(n K k r:J):ak where
 go:j3 k r n=j3 (K+1) 0 n
 mod:r%2 ^ k=0
 le:r+2 ^ k<=2 ^ (K+1)
def T_{K:J}(h:K<=32):2 ^ (K+1)<=8589934592:=b7 (rh U (show K+1<=33 by omega)) bq
def U7{n K j r:J}(h:vb n K (j+1) r):(if (r+2 ^ j)*(r+2 ^ j)<=n then vb n K j (r+2 ^ j)else vb n K j r):=by
 have⟨h1,h2,b⟩:=h;have hm:r%2 ^ j=0:=by
  have:2 ^ j ∣ 2 ^ (j+1):=⟨2,(nn 2 j)⟩
  exact Nat.mod_eq_zero_of_dvd (Nat.dvd_trans this (Nat.dvd_of_mod_eq_zero h2))
 rw[show j3 (j+1) r n=if (r+2 ^ j)*(r+2 ^ j)<=n then j3 j (r+2 ^ j) n else j3 j r n from rfl]at h1;split
 .rename_i c;have a:j3 j (r+2 ^ j) n=j3 (K+1) 0 n:=by rw[<-h1,aD c]
  exact⟨a,by rw[Nat.add_mod_right];exact hm,U⟩
 rename_i c;have a:j3 j r n=j3 (K+1) 0 n:=by rw[<-h1,aA c]
 exact⟨a,hm,U⟩
def Xy(n:J)(au:n<18446744073709551616)(w:ai):az 279 #[.int .u64 n] w λe w'=>e=.returned (.int .u64 (mU n))/\w=w':=by
 have aj:Lib.bitLen n<=64:=bitLenAux_le 64 n;have C:=Fl n au;unfold mU;generalize Lib.bitLen n=b at *;obtain⟨K,d,B⟩:∃ K,b / 2=K/\K<=32:=⟨b / 2,rfl,U⟩;rw[d];have F:=T_ B;have P:=(nn 2 K).symm;have G:IntKind.u64.wrap (1*2 ^ (K:aa).toNat)=((2 ^ K:J):aa):=by
  rw[Int.one_mul,q4,show((2:aa) ^ K)=((2 ^ K:J):aa)by simp,y8];omega
 have m:IntKind.u64.wrap (2 ^ K)=((2 ^ K:J):aa):=by
  rw[show((2:aa) ^ K)=((2 ^ K:J):aa)by simp,y8];omega
 have h:vb n K (K+1) 0:=⟨rfl,aI,U⟩;have s:=af C
 go_in
 go_wp2_with fail;refine br (s.o w) ?_;simp only;go_wp2_with fail;have p:=af d;have u:=af m;clear d m G;go_loopg [3,4] (K+1) (λg v x wr=>∃ k r:J,g=k/\v=.int .u64 r/\x=.int .u64 (s_ k)/\vb n K k r/\w=wr)
 case atStart=>exact⟨K+1,0,rfl,rfl,by rw[p.o,u.o];simp[s_],h,rfl⟩
 obtain⟨k,r,a1,rfl,rfl,al,rfl⟩:=hrel;cases k with
 | zero=>
  simp only[s_,if_true];have t:=af al.go;go_wp2_with fail;go_ret;exact⟨by rw[<-t.o];rfl,rfl⟩
 | succ j=>
  have a:=U7 al;have E:=al.le;have Q:=nn 2 j;have R:0<2 ^ j:=Nat.pos_of_ne_zero aI;simp only[s_,Nat.add_eq_zero_iff,Nat.one_ne_zero,and_false,if_false,Dt];have O:bits .or .u64 (r:aa) ((2 ^ j:J):aa)=((r+2 ^ j:J):aa):=by
   have N:r+2 ^ (j+1)<=8589934592:=b7 E F;refine(bits_join .u64 64 bq (λn h h1=>?_) (j+1) (r:aa) ((2 ^ j:J):aa) U ?_ ?_ U ?_ ?_).trans U
   .rw[y8]
    have:(2:aa) ^ 64=18446744073709551616:=bq
    omega
   .have:=cV (λz:J=>(z:aa)) al.mod
    simpa using this
   .have:(2:aa) ^ 64=18446744073709551616:=bq
    omega
   .have:(2:aa) ^ (j+1)=((2 ^ (j+1):J):aa):=aI
    rw[this];omega
   have:(2:aa) ^ 64=18446744073709551616:=bq
   omega
  have l:r+2 ^ j<18446744073709551616:=U;have q:((2 ^ j:J):aa) / 2=(s_ j:aa):=by
   unfold s_;cases j with
   | zero=>decide
   | succ i=>rw[if_neg lU,Dt,nn];omega
  have cE:=af (Om (r+2 ^ j) (r+2 ^ j) l l);generalize S:2 ^ j=cG at *;have M:(0:aa)<((cG:J):aa):=U;by_cases aq:(r+cG)*(r+cG)<=n
  .rw[aD aq]at a;have y:(r+cG)*(r+cG) / 18446744073709551616=0:=Nat.div_eq_of_lt U;have c:(r+cG)*(r+cG)%18446744073709551616=(r+cG)*(r+cG):=ja U;rw[y,c]at cE;have D:(((r+cG)*(r+cG):J):aa)<=(n:aa):=U;generalize (r+cG)*(r+cG)=H at *;generalize r+cG=dG at *;have f:=af a;go_wp2_with fail;refine br (cE.o _) ?_;simp only;go_wp2_with fail;go_roundg j
   case rel=>exact⟨j,dG,rfl,rfl,by rw[<-q],f.o,rfl⟩
   omega
  rw[aA aq]at a;have f:=af a;by_cases A:(r+cG)*(r+cG) / 18446744073709551616=0
  .have c:(r+cG)*(r+cG)%18446744073709551616=(r+cG)*(r+cG):=ja U;rw[A,c]at cE;have D:¬ (((r+cG)*(r+cG):J):aa)<=(n:aa):=U;exact MJ
  generalize (r+cG)*(r+cG) / 18446744073709551616=av at *;generalize (r+cG)*(r+cG)%18446744073709551616=bm at *;have L:((av:aa) == 0)=false:=by rw[er];omega
  exact MJ
def oN(x y:aa):aa:=hZ (mU (x*x+y*y).toNat)
def yR(x y:aa)(b:bk x)(c:bk y)(w:ai):az 212 #[ag x,ag y] w λe w'=>e=.returned (ag (oN x y))/\w=w':=by
 have h1:=vu b;have h2:=vu c;have f:IntKind.u64.wrap (x*x+y*y)=x*x+y*y:=by rw[y8];omega
 have⟨n,au⟩:=lQ (show 0<=x*x+y*y by omega);have g:n<=9223372036854775808:=U;have a:=Xy n U;have j:=U8 n g;unfold oN;rw[au]at f⊢;rw[q4];generalize mU n=r at *;have i:IntKind.i64.wrap (r:aa)=(r:aa):=et _ U;have d:=af a;have h:=af au;clear a
 go_in
 go_wp2_with fail;refine(wi x b w).mono ?_;rintro e _ ⟨rfl,rfl⟩;go_wp2_with fail;refine(wi y c w).mono ?_;rintro e _ ⟨rfl,rfl⟩;go_wp2_with fail;refine(d.out w).mono ?_;rintro e _ ⟨rfl,rfl⟩;go_wp2_with fail;refine(qD r w).mono ?_;rintro e _ ⟨rfl,rfl⟩;go_wp2_with fail;go_ret;exact⟨rfl,rfl⟩
def Sh(x y:aa):bk (oN x y):=ha _
def sj(x y s:aa):aa:=if oN x y=0 then 0 else l1 (ei x s) (oN x y)
def sk(x y s:aa):aa:=if oN x y=0 then 0 else l1 (ei y s) (oN x y)
def F0(a b:aa):bk (l1 a b):=by
 unfold l1;split
 .exact ha _
 split
 .unfold bk;omega
 split<;>(unfold bk;omega)
def Xz(x y s:aa)(d:bk x)(f:bk y)(ax:bk s)(w:ai):az 384 #[ag x,ag y,ag s] w λe w'=>e=aV #[ag (sj x y s),ag (sk x y s)]/\w=w':=by
 have b:=yR x y d f;have c:=Sh x y;unfold sj sk;generalize oN x y=l at *;have a:=af b;clear b;by_cases h:l=0
 .rw[aD h,aD h];subst h
  go_in
  go_wp2_with fail;refine(a.o w).mono ?_;rintro e _ ⟨rfl,rfl⟩;simp only;go_wp2_with fail;go_ret2;exact⟨rfl,rfl⟩
 rw[aA h,aA h];have g:((l:aa) == 0)=false:=by rw[er];exact h
 go_in
 go_wp2_with fail;refine(a.out w).mono ?_;rintro e _ ⟨rfl,rfl⟩;simp only;go_wp2_with fail;refine(vw x s d ax w).mono ?_;rintro e _ ⟨rfl,rfl⟩;go_wp2_with fail;refine(GB (ei x s) l (ha _) c w).mono ?_;rintro e _ ⟨rfl,rfl⟩;go_wp2_with fail;refine(vw y s f ax w).mono ?_;rintro e _ ⟨rfl,rfl⟩;go_wp2_with fail;refine(GB (ei y s) l (ha _) c w).mono ?_;rintro e _ ⟨rfl,rfl⟩;go_wp2_with fail;go_ret2;exact⟨rfl,rfl⟩
def Wz(a b c d x y:aa)(h1:∀ w,az 278 #[ag a,ag c] w λe w'=>e=.returned (ag x)/\w=w')(h2:∀ w,az 278 #[ag b,ag d] w λe w'=>e=.returned (ag y)/\w=w')(w:ai):az 277 #[aM #[ag a,ag b],aM #[ag c,ag d],.func (.func 278) #[] #[]] w λe w'=>e=.returned (aM #[ag x,ag y])/\Below w w w':=by
 go_in
 go_wp2_with fail;refine iK 13 aH aH ?_;simp only[hI,il,hG,hA]
 repeat (go_big_quiet_step ((first|(with_reducible exact(h1 _).mono λ_ _ h=>⟨h.1,_,h.2.symm⟩)|(with_reducible exact(h2 _).mono λ_ _ h=>⟨h.1,_,h.2.symm⟩))))
 refine wpQuiet_nil ?_;intro _ g;obtain⟨nq,i⟩:=g;subst i;go_wp2_with fail;refine cU (v:=aM #[ag x,ag y]) wU rfl ?_;have f:=(((bY w.heap.size w).alloc bA (ae #[ag a,ag b] 91)).alloc aI (ae #[ag c,ag d] 91)).alloc bU (ae c0 91);refine⟨rfl,lP (lP ?_ ?_ _) ?_ _⟩
 .exact wQ
 all_goals show w.heap.size<=w.heap.size+1+1
 all_goals omega
def WB(a b c d x y:aa)(h1:∀ w,az 281 #[ag a,ag c] w λe w'=>e=.returned (ag x)/\w=w')(h2:∀ w,az 281 #[ag b,ag d] w λe w'=>e=.returned (ag y)/\w=w')(w:ai):az 277 #[aM #[ag a,ag b],aM #[ag c,ag d],.func (.func 281) #[] #[]] w λe w'=>e=.returned (aM #[ag x,ag y])/\Below w w w':=by
 go_in
 go_wp2_with fail;refine iK 13 aH aH ?_;simp only[hI,il,hG,hA]
 repeat (go_big_quiet_step ((first|(with_reducible exact(h1 _).mono λ_ _ h=>⟨h.1,_,h.2.symm⟩)|(with_reducible exact(h2 _).mono λ_ _ h=>⟨h.1,_,h.2.symm⟩))))
 refine wpQuiet_nil ?_;intro _ g;obtain⟨nq,i⟩:=g;subst i;go_wp2_with fail;refine cU (v:=aM #[ag x,ag y]) wU rfl ?_;have f:=(((bY w.heap.size w).alloc bA (ae #[ag a,ag b] 91)).alloc aI (ae #[ag c,ag d] 91)).alloc bU (ae c0 91);refine⟨rfl,lP (lP ?_ ?_ _) ?_ _⟩
 .exact wQ
 all_goals show w.heap.size<=w.heap.size+1+1
 all_goals omega
def WA(a b c d x y:aa)(h1:∀ w,az 371 #[ag a,ag c] w λe w'=>e=.returned (ag x)/\w=w')(h2:∀ w,az 371 #[ag b,ag d] w λe w'=>e=.returned (ag y)/\w=w')(w:ai):az 277 #[aM #[ag a,ag b],aM #[ag c,ag d],.func (.func 371) #[] #[]] w λe w'=>e=.returned (aM #[ag x,ag y])/\Below w w w':=by
 go_in
 go_wp2_with fail;refine iK 13 aH aH ?_;simp only[hI,il,hG,hA]
 repeat (go_big_quiet_step ((first|(with_reducible exact(h1 _).mono λ_ _ h=>⟨h.1,_,h.2.symm⟩)|(with_reducible exact(h2 _).mono λ_ _ h=>⟨h.1,_,h.2.symm⟩))))
 refine wpQuiet_nil ?_;intro _ g;obtain⟨nq,i⟩:=g;subst i;go_wp2_with fail;refine cU (v:=aM #[ag x,ag y]) wU rfl ?_;have f:=(((bY w.heap.size w).alloc bA (ae #[ag a,ag b] 91)).alloc aI (ae #[ag c,ag d] 91)).alloc bU (ae c0 91);refine⟨rfl,lP (lP ?_ ?_ _) ?_ _⟩
 .exact wQ
 all_goals show w.heap.size<=w.heap.size+1+1
 all_goals omega
def kK{w:ai}{b:J}{t:TypeId}{x y:aw}(a:w.heap[b]?=some (ae #[x,y] t (0,0))):(loadCellsFrom (ad b 0 ab) 0 2 #[]).run prog w=.ok #[x,y] w:=by
 have h:=wB (P:=prog) w (ad b 0 ab) [x,y] (λj v m=>by
  rw[hN,gv];exact bb a uP)
 simpa[loadCells]using h
def kb{w:ai}{b:J}{t:TypeId}{u v:aw}(h:w.heap[b]?=some (ae #[u,v] t (0,0)))(x y:aw):((w.setCell (ad b 0 ab) x).setCell (ad b 1 ab) y).heap[b]?=some (ae #[x,y] t (0,0)):=by
 have:=bW (bW h 0 x) 1 y
 simpa using this
def t'(a b c d:aa)(bj:bk a)(aj:bk b)(aq:bk c)(hd:bk d)(w:ai):az 211 #[aM #[ag a,ag b],aM #[ag c,ag d]] w λe w'=>e=.returned (aM #[ag (ds a c),ag (ds b d)])/\Below w w w':=by
 have h:=Wz a b c d (ds a c) (ds b d) (λw=>xK a c bj aq w) (λw=>xK b d aj hd w);generalize ds a c=x at *;generalize ds b d=y at *;have i:=af h;clear h
 go_in
 go_wp2_with fail;refine(i.o _).mono ?_;rintro e an ⟨rfl,h1⟩;have f:an.heap[w.heap.size+1+1]?=some (ae c0 91 (0,0)):=(Keeps.bE (S:=aG) h1 a7).heap LS id;have j:Below w w an:=((((bY w.heap.size w).alloc bA (ae #[ag a,ag b] 91)).alloc aI (ae #[ag c,ag d] 91)).alloc bU (ae c0 91)).trans (h1.mono bU);have eJ:=aP f;have g0:=bJ f;clear h1;go_wp2;have g:=kK (kb f (ag x) (ag y));refine cU (v:=aM #[ag x,ag y]) LZ rfl ?_;exact⟨rfl,(j.setCell zE _).setCell zE _⟩
def Cd(a b c d:aa)(bj:bk a)(aj:bk b)(aq:bk c)(hd:bk d)(w:ai):az 213 #[aM #[ag a,ag b],aM #[ag c,ag d]] w λe w'=>e=.returned (aM #[ag (fx a c),ag (fx b d)])/\Below w w w':=by
 have h:=WB a b c d (fx a c) (fx b d) (λw=>AN a c bj aq w) (λw=>AN b d aj hd w);generalize fx a c=x at *;generalize fx b d=y at *;have i:=af h;clear h
 go_in
 go_wp2_with fail;refine(i.o _).mono ?_;rintro e an ⟨rfl,h1⟩;have f:an.heap[w.heap.size+1+1]?=some (ae c0 91 (0,0)):=(Keeps.bE (S:=aG) h1 a7).heap LS id;have j:Below w w an:=((((bY w.heap.size w).alloc bA (ae #[ag a,ag b] 91)).alloc aI (ae #[ag c,ag d] 91)).alloc bU (ae c0 91)).trans (h1.mono bU);have eJ:=aP f;have g0:=bJ f;clear h1;go_wp2;have g:=kK (kb f (ag x) (ag y));refine cU (v:=aM #[ag x,ag y]) L0 rfl ?_;exact⟨rfl,(j.setCell zE _).setCell zE _⟩
def Cc(a b s:aa)(bj:bk a)(aj:bk b)(ax:bk s)(w:ai):az 361 #[aM #[ag a,ag b],ag s] w λe w'=>e=.returned (aM #[ag (ei a s),ag (ei b s)])/\Below w w w':=by
 have d:=WA a b s s (ei a s) (ei b s) (λw=>vw a s bj ax w) (λw=>vw b s aj ax w);generalize ei a s=x at *;generalize ei b s=y at *;have f:=af d;clear d
 go_in
 go_wp2_with fail;refine(f.o _).mono ?_;rintro e an ⟨rfl,h1⟩;have c:an.heap[w.heap.size+1]?=some (ae c0 91 (0,0)):=(Keeps.bE (S:=aG) h1 a7).heap (by have:=aW (w.alloc (ae #[ag a,ag b] 91)) (ae c0 91);simpa using this) id;have g:Below w w an:=(((bY w.heap.size w).alloc bA (ae #[ag a,ag b] 91)).alloc aI (ae c0 91)).trans (h1.mono bU);have eJ:=aP c;have g0:=bJ c;clear h1;go_wp2;have h:=kK (kb c (ag x) (ag y));refine cU (v:=aM #[ag x,ag y]) (by simp[results,results361,asAddr,loadVar,loadCells,isAgg91,sizeOf91,h]) rfl ?_;exact⟨rfl,(g.setCell rj _).setCell rj _⟩
def hF(p v bm av jw hq:aa):aa×aa×aa:=
 let q:=ds p v
 let a:=ei (tH v) 32768
 if q<bm then(bm,a,jw)else if av<q then(av,a,hq)else(q,v,0)
def JM(p v bm av jw hq:aa)(ar:bk p)(aX:bk v)(w:ai):az 376 #[ag p,ag v,ag bm,ag av,I jw,I hq] w λe w'=>e=aV #[ag (hF p v bm av jw hq).1,ag (hF p v bm av jw hq).2.1,I (hF p v bm av jw hq).2.2]/\w=w':=by
 have c:=xK p v ar aX;have f:=GC v aX;have d:=vw (tH v) 32768 (ha _) fS;unfold hF;simp only;generalize tH v=g at *;generalize ei g 32768=Oa at *;generalize ds p v=q at *;have a:=af c;have b:=af f;have cE:=af d;clear c f d;by_cases h1:q<bm
 .simp only[aD h1]
  go_in
  go_wp2_with fail;refine(a.o w).mono ?_;rintro e _ ⟨rfl,rfl⟩;go_wp2_with fail;refine(b.out w).mono ?_;rintro e _ ⟨rfl,rfl⟩;go_wp2_with fail;refine(cE.out w).mono ?_;rintro e _ ⟨rfl,rfl⟩;go_wp2;go_ret3;exact⟨rfl,rfl⟩
 simp only[aA h1];by_cases h2:av<q
 .simp only[aD h2]
  go_in
  go_wp2_with fail;refine(a.out w).mono ?_;rintro e _ ⟨rfl,rfl⟩;go_wp2_with fail;refine(b.out w).mono ?_;rintro e _ ⟨rfl,rfl⟩;go_wp2_with fail;refine(cE.out w).mono ?_;rintro e _ ⟨rfl,rfl⟩;go_wp2;go_ret3;exact⟨rfl,rfl⟩
 simp only[aA h2]
 go_in
 go_wp2_with fail;refine(a.out w).mono ?_;rintro e _ ⟨rfl,rfl⟩;go_wp2_with fail;refine(b.out w).mono ?_;rintro e _ ⟨rfl,rfl⟩;go_wp2_with fail;refine(cE.out w).mono ?_;rintro e _ ⟨rfl,rfl⟩;go_wp2;go_ret3;exact⟨rfl,rfl⟩
end Go.Proofs.YtalagblioepadaaGreatDoor
