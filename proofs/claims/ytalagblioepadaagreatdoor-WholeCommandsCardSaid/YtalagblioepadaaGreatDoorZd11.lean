/- The proof, part 11. -/
import Derived.Test.YtalagblioepadaaGreatDoorZd08
import Derived.Deep.LoopGhost
import Derived.Shelf.Bits.Mul64
import Derived.Shelf.Strconv.Itoa0
namespace Go.Proofs.YtalagblioepadaaGreatDoor
set_option linter.all false
open Proofs.Tryz List Go.RowKit Go.Shelf
set_option maxRecDepth 100000
set_option maxHeartbeats 1000000
def r0{p:al}(h:p:=by show w.heap.size<=w.heap.size+1;omega):p:=h
def Au{p:al}(h:p:=by show w.heap.size<=w.heap.size+1+1;omega):p:=h
def M7{p:al}(h:p:=by have:=aX ((w.alloc (af #[ai a,ai b] 91)).alloc (af #[ai c,ai d] 91)) (af c_ 91);simpa using this):p:=h
def Ny{p:al}(h:p:=by
 go_wp2_with fail;refine bE (wW x a w) ?_;go_wp2_with fail;refine bE (wW y b w) ?_;go_wp2_with fail;refine bE (wW r d w) ?_;go_wp2_with fail;go_ret
 first|exact⟨rfl,rfl⟩|(refine⟨?_,rfl⟩;show Ending.returned (Value.bool (decide _))=_;rw[di (show ¬ (x*x+y*y<=r*r)by omega)])
 ):p:=h
def N1{p:al}(h:p:=by
 generalize (r+cC)*(r+cC)=H at *;generalize r+cC=dO at *;go_wp2_with fail;refine bE (cI.o _) ?_;simp only;go_wp2_with fail;go_roundg j
 case rel=>exact⟨j,r,rfl,rfl,by rw[<-q],f.o,rfl⟩
 omega
 ):p:=h
def Iu(k:J)(n:aa)(m:aa)(hk:k<63)(hm:m=((2 ^ k-1:J):aa)):bits .and .i64 n m=n%((2 ^ k:J):aa):=by
 have b:2 ^ k<=2 ^ 62:=rX U U;have h1:(BitVec.ofInt 64 m).toNat=2 ^ k-1:=by
  rw[hm,L_]
  have:((2 ^ 64:J):aa)=18446744073709551616:=bt
  omega
 have key:(BitVec.ofInt 64 n &&& BitVec.ofInt 64 m).toNat=(n%((2 ^ 64:J):aa)).toNat%2 ^ k:=by
  rw[BitVec.toNat_and,h1,L_,Nat.and_two_pow_sub_one_eq_mod]
 show IntKind.i64.wrap ((BitVec.ofInt 64 n &&& BitVec.ofInt 64 m).toNat:J)=_;rw[key,DV];have hd:((2 ^ k:J):aa) ∣ ((2 ^ 64:J):aa):=by
  refine⟨((2 ^ (64-k):J):aa),?_⟩;rw[<-Int.natCast_mul,<-Nat.pow_add]
  congr 2
  omega
 have a:(((n%((2 ^ 64:J):aa)).toNat%2 ^ k:J):aa)=n%((2 ^ k:J):aa):=by
  rw[Int.natCast_emod,Int.toNat_of_nonneg (D' _ bt),Int.emod_emod_of_dvd _ hd]
 rw[a];omega
def AW(n:aa):bits .and .i64 n 65535=n%65536:=Iu 16 n 65535 U bt
def O9(n:aa):bits .and .i64 n 32767=n%32768:=Iu 15 n 32767 U bt
def nH(b:aa):aa:=
 let a:=b%65536
 let x:=a%32768
 let p:=x*(32768-x)
 let n:=iz ((p*1048576).tdiv (5368709120-4*p))
 if 32768<=a then um n else n
def sc(a:aa):aa:=nH (a%65536+16384)
def KV(a:aa):bm (nH a):=by
 unfold nH;simp only;split<;>exact hz _
def KX{x:aa}(a:0<=x)(h1:x<32768):0<=x*(32768-x)/\x*(32768-x)<=268435456:=by
 obtain⟨n,rfl⟩:=mj a;refine⟨Eb a U,?_⟩;have h2:((n:aa)-16384)*((n:aa)-16384) >= 0:=by
  rcases Int.le_total ((n:aa)-16384) 0 with h|h
  .exact Mh h h
  exact Eb h h
 have b:((n:aa)-16384)*((n:aa)-16384)=(n:aa)*n-32768*n+268435456:=by
  rw[Int.sub_mul,Ec,Ec];omega
 have c:(n:aa)*(32768-(n:aa))=32768*n-(n:aa)*n:=by
  rw[Ec,Int.mul_comm]
 omega
def Lj(b:aa)(w:aj):aA 373 #[I b] w λe w'=>e=.returned (ai (nH b))/\w=w':=by
 have g:=AW b;unfold nH;simp only;generalize b%65536=a at *;have h1:=O9 a;have c:0<=a%32768/\a%32768<32768:=U;generalize a%32768=x at *;have au:=KX c.1 c.2;have d:IntKind.i64.wrap (5368709120-4*(x*(32768-x)))=5368709120-4*(x*(32768-x)):=eG _ U;have hne:¬ 5368709120-4*(x*(32768-x))=0:=U;have ak:((x*(32768-x)*1048576).tdiv (5368709120-4*(x*(32768-x)))).natAbs<=(x*(32768-x)*1048576).natAbs:=by rw[Int.natAbs_tdiv];exact Es _ _
 have f:IntKind.i64.wrap ((x*(32768-x)*1048576).tdiv (5368709120-4*(x*(32768-x))))=(x*(32768-x)*1048576).tdiv (5368709120-4*(x*(32768-x))):=eG _ U;by_cases an:32768<=a
 .rw[aE an]
  go_in
  go_wp2_with fail;refine bE (re _ _) ?_;go_wp2_with fail;refine bE (HL _ (hz _) _) ?_;go_wp2;go_ret;exact⟨rfl,rfl⟩
 rw[aB an]
 go_in
 go_wp2_with fail;refine bE (re _ _) ?_;go_wp2_with fail;go_ret;exact⟨rfl,rfl⟩
def YS(b:aa)(w:aj):aA 372 #[I b] w λe w'=>e=.returned (ai (sc b))/\w=w':=by
 have d:=AW b;have c:IntKind.i64.wrap (b%65536+16384)=b%65536+16384:=eG _ U;unfold sc;generalize b%65536=a at *
 go_in
 go_wp2_with fail;refine bE (Lj (a+16384) w) ?_;go_wp2;go_ret;exact⟨rfl,rfl⟩
def vY{a:aa}(bh:bm a):0<=a*a/\a*a<=4611686018427387904:=by
 have h:=Hz bh bh;refine⟨?_,h.2⟩;rcases Int.le_total a 0 with h|h
 .exact Mh h h
 exact Eb h h
def wW(a:aa)(bh:bm a)(w:aj):aA 280 #[ai a] w λe w'=>e=.returned (.int .u64 (a*a))/\w=w':=by
 have h:=vY bh;have b:=qd bh
 go_in
 go_wp2;go_ret;exact⟨rfl,rfl⟩
def kO(x y r:aa):a1:=decide (0<=r)&&decide (x*x+y*y<=r*r)
def YT(x y r:aa)(a:bm x)(b:bm y)(d:bm r)(w:aj):aA 365 #[ai x,ai y,ai r] w λe w'=>e=.returned (.bool (kO x y r))/\w=w':=by
 have h1:=vY a;have h2:=vY b;by_cases h:0<=r
 .by_cases c:x*x+y*y<=r*r
  .rw[show kO x y r=true by simp[kO,h,c]]
   go_in
   exact Ny
  rw[show kO x y r=false by simp[kO];omega]
  go_in
  exact Ny
 rw[show kO x y r=false by simp[kO];omega]
 go_in
 go_wp2_with fail;go_ret;exact⟨rfl,rfl⟩
def TB:Go.Shelf.Ren:=⟨fun|129=>188|n=>n,fun|3=>3|4=>4|5=>5|9=>9|46=>227|53=>217|n=>n,fun|n=>n⟩
def TA:Lays.n129 prog TB:={
 mixed:=aI
 f129:=func188.trans (c5 some aI)
 t3:=underlying3
 a3:=isAgg3
 z3:=sizeOf3
 v3:=zeroValue3
 t4:=underlying4
 a4:=isAgg4
 z4:=sizeOf4
 v4:=zeroValue4
 t5:=underlying5
 a5:=isAgg5
 z5:=sizeOf5
 v5:=zeroValue5
 t9:=underlying9
 a9:=isAgg9
 z9:=sizeOf9
 v9:=zeroValue9
 t46:=underlying227
 a46:=isAgg227
 z46:=sizeOf227
 v46:=zeroValue227
 t53:=underlying217
 a53:=isAgg217
 z53:=sizeOf217
 v53:=zeroValue217}
def Uu:Go.Shelf.Ren:=⟨fun|264=>320|n=>n,fun|46=>227|53=>217|n=>n,fun|n=>n⟩
def Ut:Lays.n264 prog Uu:={
 mixed:=aI
 f264:=func320.trans (c5 some aI)
 t46:=underlying227
 a46:=isAgg227
 z46:=sizeOf227
 v46:=zeroValue227
 t53:=underlying217
 a53:=isAgg217
 z53:=sizeOf217
 v53:=zeroValue217}
theorem Gp(x:J)(h:x<18446744073709551616)(w:aj):aA 188 #[.int .u64 x] w λe w'=>e=.returned (I (Lib.bitLen x))/\w=w':=
 (Any.bits_Len64 TA x w U U).mono λ_ _ h=>⟨by rw[h.1];simp,h.2.symm⟩
theorem PH(x y:J)(a:x<18446744073709551616)(b:y<18446744073709551616)(w:aj):aA 320 #[.int .u64 x,.int .u64 y] w λe w'=>e=aY #[.int .u64 ((x*y / 18446744073709551616:J):aa),.int .u64 ((x*y%18446744073709551616:J):aa)]/\w=w':=
 (Any.bits_Mul64 Ut x y a b w).mono λ_ _ h=>⟨h.1,h.2.symm⟩
def kr:J->J->J->J
 | 0,r,_=>r
 | k+1,r,n=>if (r+2 ^ k)*(r+2 ^ k)<=n then kr k (r+2 ^ k) n else kr k r n
def nD(n:J):J:=kr (Lib.bitLen n / 2+1) 0 n
theorem Gk:∀ (f x:J),x<2 ^ f->x<2 ^ Lib.bitLenAux f x
 | 0,x,h=>by simpa[Lib.bitLenAux]using h
 | f+1,x,h=>by
  unfold Lib.bitLenAux;split
  .rename_i a;subst a;simp
  have:=Gk f (x / 2) (by rw[nX]at h;omega)
  rw[qL,nX];omega
theorem bitLenAux_le:∀ (f x:J),Lib.bitLenAux f x<=f
 | 0,x=>by simp[Lib.bitLenAux]
 | f+1,x=>by
  unfold Lib.bitLenAux;split
  .omega
  have:=bitLenAux_le f (x / 2)
  omega
theorem CQ:∀ (k r n:J),r*r<=n->n<(r+2 ^ k)*(r+2 ^ k)->kr k r n*kr k r n<=n/\n<(kr k r n+1)*(kr k r n+1)
 | 0,r,n,h1,h2=>⟨h1,by rw[Nat.pow_zero]at h2;exact h2⟩
 | k+1,r,n,h1,h2=>by
  unfold kr;split
  .rename_i h;refine CQ k _ n h ?_;rw[nX]at h2;rw[show r+2 ^ k+2 ^ k=r+2 ^ k*2 by omega];exact h2
  exact CQ k r n h1 U
def Wm(n:J)(av:n<18446744073709551616):nD n*nD n<=n/\n<(nD n+1)*(nD n+1):=by
 refine CQ _ 0 n U ?_;rw[gP,<-Nat.pow_add];refine mq (Gk 64 n qQ) (rX U ?_);show Lib.bitLen n<=_;omega
def Wo(n:J)(av:n<=9223372036854775808):nD n<4294967296:=by
 have h:=(Wm n U).1;by_cases e:nD n<4294967296
 .exact e
 have:4294967296*4294967296<=nD n*nD n:=Nat.mul_le_mul U U
 omega
def tE(k:J):J:=if k=0 then 0 else 2 ^ (k-1)
structure vH(n K k r:J):al where
 go:kr k r n=kr (K+1) 0 n
 mod:r%2 ^ k=0
 le:r+2 ^ k<=2 ^ (K+1)
def Vp{K:J}(h:K<=32):2 ^ (K+1)<=8589934592:=ca (rX U (show K+1<=33 by omega)) bt
def Wn{n K j r:J}(h:vH n K (j+1) r):(if (r+2 ^ j)*(r+2 ^ j)<=n then vH n K j (r+2 ^ j)else vH n K j r):=by
 have⟨h1,h2,b⟩:=h;have hm:r%2 ^ j=0:=by
  have:2 ^ j ∣ 2 ^ (j+1):=⟨2,(nX 2 j)⟩
  exact Nat.mod_eq_zero_of_dvd (Nat.dvd_trans this (Nat.dvd_of_mod_eq_zero h2))
 rw[show kr (j+1) r n=if (r+2 ^ j)*(r+2 ^ j)<=n then kr j (r+2 ^ j) n else kr j r n from rfl]at h1;split
 .rename_i c;have a:kr j (r+2 ^ j) n=kr (K+1) 0 n:=by rw[<-h1,aE c]
  exact⟨a,by rw[Nat.add_mod_right];exact hm,U⟩
 rename_i c;have a:kr j r n=kr (K+1) 0 n:=by rw[<-h1,aB c]
 exact⟨a,hm,U⟩
def YU(n:J)(av:n<18446744073709551616)(w:aj):aA 279 #[.int .u64 n] w λe w'=>e=.returned (.int .u64 (nD n))/\w=w':=by
 have ak:Lib.bitLen n<=64:=bitLenAux_le 64 n;have C:=Gp n av;unfold nD;generalize Lib.bitLen n=b at *;obtain⟨K,d,B⟩:∃ K,b / 2=K/\K<=32:=⟨b / 2,rfl,U⟩;rw[d];have F:=Vp B;have P:=(nX 2 K).symm;have G:IntKind.u64.wrap (1*2 ^ (K:aa).toNat)=((2 ^ K:J):aa):=by
  rw[Int.one_mul,rN,show((2:aa) ^ K)=((2 ^ K:J):aa)by simp,zQ];omega
 have m:IntKind.u64.wrap (2 ^ K)=((2 ^ K:J):aa):=by
  rw[show((2:aa) ^ K)=((2 ^ K:J):aa)by simp,zQ];omega
 have h:vH n K (K+1) 0:=⟨rfl,aM,U⟩;have s:=ag C
 go_in
 go_wp2_with fail;refine bE (s.o w) ?_;simp only;go_wp2_with fail;have p:=ag d;have u:=ag m;clear d m G;go_loopg [3,4] (K+1) (λg v x wr=>∃ k r:J,g=k/\v=.int .u64 r/\x=.int .u64 (tE k)/\vH n K k r/\w=wr)
 case atStart=>exact⟨K+1,0,rfl,rfl,by rw[p.o,u.o];simp[tE],h,rfl⟩
 obtain⟨k,r,aZ,rfl,rfl,ar,rfl⟩:=hrel;cases k with
 | zero=>
  simp only[tE,if_true];have t:=ag ar.go;go_wp2_with fail;go_ret;exact⟨by rw[<-t.o];rfl,rfl⟩
 | succ j=>
  have a:=Wn ar;have E:=ar.le;have Q:=nX 2 j;have R:0<2 ^ j:=Nat.pos_of_ne_zero aM;simp only[tE,Nat.add_eq_zero_iff,Nat.one_ne_zero,and_false,if_false,Ep];have O:bits .or .u64 (r:aa) ((2 ^ j:J):aa)=((r+2 ^ j:J):aa):=by
   have N:r+2 ^ (j+1)<=8589934592:=ca E F;refine(bits_join .u64 64 bt (λn h h1=>?_) (j+1) (r:aa) ((2 ^ j:J):aa) U ?_ ?_ U ?_ ?_).trans U
   .rw[zQ]
    have:(2:aa) ^ 64=18446744073709551616:=bt
    omega
   .have:=c5 (λz:J=>(z:aa)) ar.mod
    simpa using this
   .have:(2:aa) ^ 64=18446744073709551616:=bt
    omega
   .have:(2:aa) ^ (j+1)=((2 ^ (j+1):J):aa):=aM
    rw[this];omega
   have:(2:aa) ^ 64=18446744073709551616:=bt
   omega
  have l:r+2 ^ j<18446744073709551616:=U;have q:((2 ^ j:J):aa) / 2=(tE j:aa):=by
   unfold tE;cases j with
   | zero=>decide
   | succ i=>rw[if_neg iO,Ep,nX];omega
  have cI:=ag (PH (r+2 ^ j) (r+2 ^ j) l l);generalize S:2 ^ j=cC at *;have M:(0:aa)<((cC:J):aa):=U;by_cases an:(r+cC)*(r+cC)<=n
  .rw[aE an]at a;have y:(r+cC)*(r+cC) / 18446744073709551616=0:=Nat.div_eq_of_lt U;have c:(r+cC)*(r+cC)%18446744073709551616=(r+cC)*(r+cC):=jy U;rw[y,c]at cI;have D:(((r+cC)*(r+cC):J):aa)<=(n:aa):=U;generalize (r+cC)*(r+cC)=H at *;generalize r+cC=dO at *;have f:=ag a;go_wp2_with fail;refine bE (cI.o _) ?_;simp only;go_wp2_with fail;go_roundg j
   case rel=>exact⟨j,dO,rfl,rfl,by rw[<-q],f.o,rfl⟩
   omega
  rw[aB an]at a;have f:=ag a;by_cases A:(r+cC)*(r+cC) / 18446744073709551616=0
  .have c:(r+cC)*(r+cC)%18446744073709551616=(r+cC)*(r+cC):=jy U;rw[A,c]at cI;have D:¬ (((r+cC)*(r+cC):J):aa)<=(n:aa):=U;exact N1
  generalize (r+cC)*(r+cC) / 18446744073709551616=ax at *;generalize (r+cC)*(r+cC)%18446744073709551616=bo at *;have L:((ax:aa) == 0)=false:=by rw[eA];omega
  exact N1
def ph(x y:aa):aa:=iz (nD (x*x+y*y).toNat)
def zx(x y:aa)(b:bm x)(c:bm y)(w:aj):aA 212 #[ai x,ai y] w λe w'=>e=.returned (ai (ph x y))/\w=w':=by
 have h1:=vY b;have h2:=vY c;have f:IntKind.u64.wrap (x*x+y*y)=x*x+y*y:=by rw[zQ];omega
 have⟨n,av⟩:=mj (show 0<=x*x+y*y by omega);have g:n<=9223372036854775808:=U;have a:=YU n U;have j:=Wo n g;unfold ph;rw[av]at f⊢;rw[rN];generalize nD n=r at *;have i:IntKind.i64.wrap (r:aa)=(r:aa):=eG _ U;have d:=ag a;have h:=ag av;clear a
 go_in
 go_wp2_with fail;refine(wW x b w).mono ?_;rintro e _ ⟨rfl,rfl⟩;go_wp2_with fail;refine(wW y c w).mono ?_;rintro e _ ⟨rfl,rfl⟩;go_wp2_with fail;refine(d.out w).mono ?_;rintro e _ ⟨rfl,rfl⟩;go_wp2_with fail;refine(re r w).mono ?_;rintro e _ ⟨rfl,rfl⟩;go_wp2_with fail;go_ret;exact⟨rfl,rfl⟩
def TD(x y:aa):bm (ph x y):=hz _
def sS(x y s:aa):aa:=if ph x y=0 then 0 else mx (eu x s) (ph x y)
def sT(x y s:aa):aa:=if ph x y=0 then 0 else mx (eu y s) (ph x y)
def G'(a b:aa):bm (mx a b):=by
 unfold mx;split
 .exact hz _
 split
 .unfold bm;omega
 split<;>(unfold bm;omega)
def YV(x y s:aa)(d:bm x)(f:bm y)(aw:bm s)(w:aj):aA 384 #[ai x,ai y,ai s] w λe w'=>e=aY #[ai (sS x y s),ai (sT x y s)]/\w=w':=by
 have b:=zx x y d f;have c:=TD x y;unfold sS sT;generalize ph x y=l at *;have a:=ag b;clear b;by_cases h:l=0
 .rw[aE h,aE h];subst h
  go_in
  go_wp2_with fail;refine(a.o w).mono ?_;rintro e _ ⟨rfl,rfl⟩;simp only;go_wp2_with fail;go_ret2;exact⟨rfl,rfl⟩
 rw[aB h,aB h];have g:((l:aa) == 0)=false:=by rw[eA];exact h
 go_in
 go_wp2_with fail;refine(a.out w).mono ?_;rintro e _ ⟨rfl,rfl⟩;simp only;go_wp2_with fail;refine(v7 x s d aw w).mono ?_;rintro e _ ⟨rfl,rfl⟩;go_wp2_with fail;refine(HK (eu x s) l (hz _) c w).mono ?_;rintro e _ ⟨rfl,rfl⟩;go_wp2_with fail;refine(v7 y s f aw w).mono ?_;rintro e _ ⟨rfl,rfl⟩;go_wp2_with fail;refine(HK (eu y s) l (hz _) c w).mono ?_;rintro e _ ⟨rfl,rfl⟩;go_wp2_with fail;go_ret2;exact⟨rfl,rfl⟩
def XU(a b c d x y:aa)(h1:∀ w,aA 278 #[ai a,ai c] w λe w'=>e=.returned (ai x)/\w=w')(h2:∀ w,aA 278 #[ai b,ai d] w λe w'=>e=.returned (ai y)/\w=w')(w:aj):aA 277 #[aL #[ai a,ai b],aL #[ai c,ai d],.func (.func 278) #[] #[]] w λe w'=>e=.returned (aL #[ai x,ai y])/\Below w w w':=by
 go_in
 go_wp2_with fail;refine iN 13 aI aI ?_;simp only[hY,iE,hX,hF]
 repeat (go_big_quiet_step ((first|(with_reducible exact(h1 _).mono λ_ _ h=>⟨h.1,_,h.2.symm⟩)|(with_reducible exact(h2 _).mono λ_ _ h=>⟨h.1,_,h.2.symm⟩))))
 refine wpQuiet_nil ?_;intro _ g;obtain⟨nq,i⟩:=g;subst i;go_wp2_with fail;refine c1 (v:=aL #[ai x,ai y]) xw rfl ?_;have f:=(((b7 w.heap.size w).alloc bx (af #[ai a,ai b] 91)).alloc aM (af #[ai c,ai d] 91)).alloc b1 (af c_ 91);refine⟨rfl,mi (mi ?_ ?_ _) ?_ _⟩
 .exact xr
 all_goals show w.heap.size<=w.heap.size+1+1
 all_goals omega
def XW(a b c d x y:aa)(h1:∀ w,aA 281 #[ai a,ai c] w λe w'=>e=.returned (ai x)/\w=w')(h2:∀ w,aA 281 #[ai b,ai d] w λe w'=>e=.returned (ai y)/\w=w')(w:aj):aA 277 #[aL #[ai a,ai b],aL #[ai c,ai d],.func (.func 281) #[] #[]] w λe w'=>e=.returned (aL #[ai x,ai y])/\Below w w w':=by
 go_in
 go_wp2_with fail;refine iN 13 aI aI ?_;simp only[hY,iE,hX,hF]
 repeat (go_big_quiet_step ((first|(with_reducible exact(h1 _).mono λ_ _ h=>⟨h.1,_,h.2.symm⟩)|(with_reducible exact(h2 _).mono λ_ _ h=>⟨h.1,_,h.2.symm⟩))))
 refine wpQuiet_nil ?_;intro _ g;obtain⟨nq,i⟩:=g;subst i;go_wp2_with fail;refine c1 (v:=aL #[ai x,ai y]) xw rfl ?_;have f:=(((b7 w.heap.size w).alloc bx (af #[ai a,ai b] 91)).alloc aM (af #[ai c,ai d] 91)).alloc b1 (af c_ 91);refine⟨rfl,mi (mi ?_ ?_ _) ?_ _⟩
 .exact xr
 all_goals show w.heap.size<=w.heap.size+1+1
 all_goals omega
def XV(a b c d x y:aa)(h1:∀ w,aA 371 #[ai a,ai c] w λe w'=>e=.returned (ai x)/\w=w')(h2:∀ w,aA 371 #[ai b,ai d] w λe w'=>e=.returned (ai y)/\w=w')(w:aj):aA 277 #[aL #[ai a,ai b],aL #[ai c,ai d],.func (.func 371) #[] #[]] w λe w'=>e=.returned (aL #[ai x,ai y])/\Below w w w':=by
 go_in
 go_wp2_with fail;refine iN 13 aI aI ?_;simp only[hY,iE,hX,hF]
 repeat (go_big_quiet_step ((first|(with_reducible exact(h1 _).mono λ_ _ h=>⟨h.1,_,h.2.symm⟩)|(with_reducible exact(h2 _).mono λ_ _ h=>⟨h.1,_,h.2.symm⟩))))
 refine wpQuiet_nil ?_;intro _ g;obtain⟨nq,i⟩:=g;subst i;go_wp2_with fail;refine c1 (v:=aL #[ai x,ai y]) xw rfl ?_;have f:=(((b7 w.heap.size w).alloc bx (af #[ai a,ai b] 91)).alloc aM (af #[ai c,ai d] 91)).alloc b1 (af c_ 91);refine⟨rfl,mi (mi ?_ ?_ _) ?_ _⟩
 .exact xr
 all_goals show w.heap.size<=w.heap.size+1+1
 all_goals omega
def k'{w:aj}{b:J}{t:TypeId}{x y:ay}(a:w.heap[b]?=some (af #[x,y] t (0,0))):(loadCellsFrom (ae b 0 ad) 0 2 #[]).run prog w=.ok #[x,y] w:=by
 have h:=w_ (P:=prog) w (ae b 0 ad) [x,y] (λj v m=>by
  rw[ij,gP];exact bf a vt)
 simpa[loadCells]using h
def kC{w:aj}{b:J}{t:TypeId}{u v:ay}(h:w.heap[b]?=some (af #[u,v] t (0,0)))(x y:ay):((w.setCell (ae b 0 ad) x).setCell (ae b 1 ad) y).heap[b]?=some (af #[x,y] t (0,0)):=by
 have:=b3 (b3 h 0 x) 1 y
 simpa using this
def uI(a b c d:aa)(bh:bm a)(ak:bm b)(an:bm c)(hd:bm d)(w:aj):aA 211 #[aL #[ai a,ai b],aL #[ai c,ai d]] w λe w'=>e=.returned (aL #[ai (dt a c),ai (dt b d)])/\Below w w w':=by
 have h:=XU a b c d (dt a c) (dt b d) (λw=>yn a c bh an w) (λw=>yn b d ak hd w);generalize dt a c=x at *;generalize dt b d=y at *;have i:=ag h;clear h
 go_in
 go_wp2_with fail;refine(i.o _).mono ?_;rintro e ao ⟨rfl,h1⟩;have f:ao.heap[w.heap.size+1+1]?=some (af c_ 91 (0,0)):=(Keeps.bJ (S:=aG) h1 a8).heap M7 id;have j:Below w w ao:=((((b7 w.heap.size w).alloc bx (af #[ai a,ai b] 91)).alloc aM (af #[ai c,ai d] 91)).alloc b1 (af c_ 91)).trans (h1.mono b1);have eV:=aO f;have g0:=bP f;clear h1;go_wp2;have g:=k' (kC f (ai x) (ai y));refine c1 (v:=aL #[ai x,ai y]) Na rfl ?_;exact⟨rfl,(j.setCell Au _).setCell Au _⟩
def C9(a b c d:aa)(bh:bm a)(ak:bm b)(an:bm c)(hd:bm d)(w:aj):aA 213 #[aL #[ai a,ai b],aL #[ai c,ai d]] w λe w'=>e=.returned (aL #[ai (fK a c),ai (fK b d)])/\Below w w w':=by
 have h:=XW a b c d (fK a c) (fK b d) (λw=>BC a c bh an w) (λw=>BC b d ak hd w);generalize fK a c=x at *;generalize fK b d=y at *;have i:=ag h;clear h
 go_in
 go_wp2_with fail;refine(i.o _).mono ?_;rintro e ao ⟨rfl,h1⟩;have f:ao.heap[w.heap.size+1+1]?=some (af c_ 91 (0,0)):=(Keeps.bJ (S:=aG) h1 a8).heap M7 id;have j:Below w w ao:=((((b7 w.heap.size w).alloc bx (af #[ai a,ai b] 91)).alloc aM (af #[ai c,ai d] 91)).alloc b1 (af c_ 91)).trans (h1.mono b1);have eV:=aO f;have g0:=bP f;clear h1;go_wp2;have g:=k' (kC f (ai x) (ai y));refine c1 (v:=aL #[ai x,ai y]) Nb rfl ?_;exact⟨rfl,(j.setCell Au _).setCell Au _⟩
def C8(a b s:aa)(bh:bm a)(ak:bm b)(aw:bm s)(w:aj):aA 361 #[aL #[ai a,ai b],ai s] w λe w'=>e=.returned (aL #[ai (eu a s),ai (eu b s)])/\Below w w w':=by
 have d:=XV a b s s (eu a s) (eu b s) (λw=>v7 a s bh aw w) (λw=>v7 b s ak aw w);generalize eu a s=x at *;generalize eu b s=y at *;have f:=ag d;clear d
 go_in
 go_wp2_with fail;refine(f.o _).mono ?_;rintro e ao ⟨rfl,h1⟩;have c:ao.heap[w.heap.size+1]?=some (af c_ 91 (0,0)):=(Keeps.bJ (S:=aG) h1 a8).heap (by have:=aX (w.alloc (af #[ai a,ai b] 91)) (af c_ 91);simpa using this) id;have g:Below w w ao:=(((b7 w.heap.size w).alloc bx (af #[ai a,ai b] 91)).alloc aM (af c_ 91)).trans (h1.mono b1);have eV:=aO c;have g0:=bP c;clear h1;go_wp2;have h:=k' (kC c (ai x) (ai y));refine c1 (v:=aL #[ai x,ai y]) (by simp[results,results361,asAddr,loadVar,loadCells,isAgg91,sizeOf91,h]) rfl ?_;exact⟨rfl,(g.setCell r0 _).setCell r0 _⟩
def ia(p v bo ax cZ ab:aa):aa×aa×aa:=
 let q:=dt p v
 let a:=eu (um v) 32768
 if q<bo then(bo,a,cZ)else if ax<q then(ax,a,ab)else(q,v,0)
def KR(p v bo ax cZ ab:aa)(au:bm p)(aU:bm v)(w:aj):aA 376 #[ai p,ai v,ai bo,ai ax,I cZ,I ab] w λe w'=>e=aY #[ai (ia p v bo ax cZ ab).1,ai (ia p v bo ax cZ ab).2.1,I (ia p v bo ax cZ ab).2.2]/\w=w':=by
 have c:=yn p v au aU;have f:=HL v aU;have d:=v7 (um v) 32768 (hz _) gi;unfold ia;simp only;generalize um v=g at *;generalize eu g 32768=Pz at *;generalize dt p v=q at *;have a:=ag c;have b:=ag f;have cI:=ag d;clear c f d;by_cases h1:q<bo
 .simp only[aE h1]
  go_in
  go_wp2_with fail;refine(a.o w).mono ?_;rintro e _ ⟨rfl,rfl⟩;go_wp2_with fail;refine(b.out w).mono ?_;rintro e _ ⟨rfl,rfl⟩;go_wp2_with fail;refine(cI.out w).mono ?_;rintro e _ ⟨rfl,rfl⟩;go_wp2;go_ret3;exact⟨rfl,rfl⟩
 simp only[aB h1];by_cases h2:ax<q
 .simp only[aE h2]
  go_in
  go_wp2_with fail;refine(a.out w).mono ?_;rintro e _ ⟨rfl,rfl⟩;go_wp2_with fail;refine(b.out w).mono ?_;rintro e _ ⟨rfl,rfl⟩;go_wp2_with fail;refine(cI.out w).mono ?_;rintro e _ ⟨rfl,rfl⟩;go_wp2;go_ret3;exact⟨rfl,rfl⟩
 simp only[aB h2]
 go_in
 go_wp2_with fail;refine(a.out w).mono ?_;rintro e _ ⟨rfl,rfl⟩;go_wp2_with fail;refine(b.out w).mono ?_;rintro e _ ⟨rfl,rfl⟩;go_wp2_with fail;refine(cI.out w).mono ?_;rintro e _ ⟨rfl,rfl⟩;go_wp2;go_ret3;exact⟨rfl,rfl⟩
end Go.Proofs.YtalagblioepadaaGreatDoor
