/- The proof, part 23. -/
import Derived.Test.YtalagblioepadaaGreatDoorZb07
import Derived.Test.YtalagblioepadaaGreatDoorZb17
namespace Go.Proofs.YtalagblioepadaaGreatDoor
set_option linter.all false
open Proofs.Tryz List Go.RowKit
set_option maxRecDepth 100000
set_option maxHeartbeats 1600000
def nr{p:ak}(h:p:=by have:=a.size;simp;omega):p:=h
def uH{p:ak}(h:p:=by first|(rw[wrap_u8];simp;omega)|(simp;omega)):p:=h
def DG{p:ak}(h:p:=by
 go_wp2_with fail;refine u.out.mono ?_;rintro e an ⟨v,rfl,m,t⟩;have j:Keeps aG w an:=Keeps.bE t a7;have h1:=H.out.keeps j id;have b0:an.cell? (ad r 1 ab)=some (.bool x.bad):=bb h1 rfl;rw[n.out]at b0;have f1:=bJ h1;have q:=a.out an h1;have y:=af q;have B:=af h1;clear q t h1;go_wp2_with fail;refine y.o.mono ?_;rintro e aB ⟨rfl,h2,hk⟩;have l:Keeps (λb=>b=r) an aB:=((Keeps.refl (λb=>b=r) an).setCell (p:=ad r 1 ab) rfl _).trans hk;have A:=b3 m l (λb aj e=>by have:=(m.lt b aj).1;omega);have z:=(kQ (S:=λb=>b=r) j).trans l;clear m hk l j;go_wp2_with fail;go_ret;exact⟨_,rfl,A,h2,z⟩
 ):p:=h
def D'{p:ak}(h:p:=by
 go_wp2_with fail;refine l.out.mono ?_;rintro e an ⟨rfl,rfl⟩;go_wp2_with fail;refine a.out.mono ?_;rintro e aB ⟨rfl,h2,hk⟩;go_wp2_with fail;go_ret;exact⟨rfl,h2,((Keeps.refl (λb=>b=r) w).setCell (p:=ad r 1 ab) rfl _).trans hk⟩
 ):p:=h
def M0{p:ak}(h:p:=by
 go_wp2;go_ret;exact⟨rfl,by have:=bW H.out 1 (.bool true);simpa[gj]using this,(Keeps.refl (λb=>b=r) w).setCell (p:=ad r 1 ab) rfl _⟩
 ):p:=h
def Na{p:ak}(h:p:=by
 clear c a;go_wp2;go_roundg (9-(k+1))
 case measure=>omega
 exact⟨k+1,rfl,U,by go_num,by rw[v.o];exact Cz U,rfl⟩
 ):p:=h
section
def iw(n:aa):ah aQ:=[UInt8.ofNat (n / 256%256).toNat,UInt8.ofNat (n%256).toNat]
variable{w:ai}{base n:J}{v:aw}{xs:ah aw}
def tM{l:ah aQ}{c:aQ}{k m:J}{y:aa}{ys:ah aw}(a:l[k]?=some c)(d:xs++(l.take k).map eg=ys)(h:w.ownsRow base 5 1 v m (ys++[aF y]))(hm:m=n+(k+1))(b:y=c.toNat):w.ownsRow base 5 1 v (n+(k+1)) (xs++(l.take (k+1)).map eg):=by
 obtain⟨hk,rfl⟩:=hf.1 a;rw[lS hk,jO,<-dD,d];subst b hm;exact h
def KB(b:w.ownsRow base 5 1 v n xs)(r:base<=w.heap.size)(au:n<=4096)(x:aa)(E:0<=x/\x<4294967296):az 201 #[v,aK x,I 4] w λe w'=>∃ v',e=.returned v'/\w'.ownsRow base 5 1 v' (n+4) (xs++(eF x).map eg)/\Below base w w':=by
 have⟨z,av,t,u,y⟩:=ng tw;have q:=af av
 go_in
 go_wp2;go_loopg [0,7] 5 (λg v' i wr=>∃ (k:J) (j:aa),g=5-k/\k<=4/\j=3-(k:aa)/\i=I j/\wr.ownsRow base 5 1 v' (n+k) (xs++((eF x).take k).map eg)/\Below base w wr)
 case atStart=>exact⟨0,3,rfl,U,rfl,rfl,by simpa using b,bY _ _⟩
 obtain⟨k,j,a1,hk,s,rfl,b,a⟩:=hrel;by_cases A:k=0
 .subst A;obtain rfl:j=3:=U;clear s;obtain⟨ys,d⟩:∃ ys,xs++((eF x).take 0).map eg=ys:=⟨_,rfl⟩;rw[d]at b;have h:=af d;go_wp2_with (at_builtin;refine p8 _ rfl (.tmp 14) (.tmp 20) _ rfl base 5 z (aF 0) 1 1 underlying51 q.o t u y rfl bq _ (n+0) _ rfl (b.alloc _) (ad wr 0 ab) 1 1 [aF _] rfl rfl (oa _ _ _) mw jR U nr ?_);intro v' an f p _;have m:=(a.alloc (b7 r a.size) _).grown p nr (λk e=>(b.lt k e).1);go_wp2;go_roundg (5-(0+1))
  case measure=>omega
  exact⟨0+1,_,rfl,U,rfl,by go_num,tM (l:=eF x) (c:=_) (k:=0) rfl h.o f U uH,m⟩
 by_cases B:k=1
 .subst B;obtain rfl:j=2:=U;obtain⟨ys,d⟩:∃ ys,xs++((eF x).take 1).map eg=ys:=⟨_,rfl⟩;rw[d]at b;have h:=af d;clear d;go_wp2_with (at_builtin;refine p8 _ rfl (.tmp 14) (.tmp 20) _ rfl base 5 z (aF 0) 1 1 underlying51 q.o t u y rfl bq _ (n+1) _ rfl (b.alloc _) (ad wr 0 ab) 1 1 [aF _] rfl rfl (oa _ _ _) mw jR U nr ?_);intro v' an f p _;have m:=(a.alloc (b7 r a.size) _).grown p nr (λk e=>(b.lt k e).1);go_wp2;go_roundg (5-(1+1))
  case measure=>omega
  exact⟨1+1,_,rfl,U,rfl,by go_num,tM (l:=eF x) (c:=_) (k:=1) rfl h.o f U uH,m⟩
 by_cases C:k=2
 .subst C;obtain rfl:j=1:=U;clear s;obtain⟨ys,d⟩:∃ ys,xs++((eF x).take 2).map eg=ys:=⟨_,rfl⟩;rw[d]at b;have h:=af d;clear d;go_wp2_with (at_builtin;refine p8 _ rfl (.tmp 14) (.tmp 20) _ rfl base 5 z (aF 0) 1 1 underlying51 q.o t u y rfl bq _ (n+2) _ rfl (b.alloc _) (ad wr 0 ab) 1 1 [aF _] rfl rfl (oa _ _ _) mw jR U nr ?_);intro v' an f p _;have m:=(a.alloc (b7 r a.size) _).grown p nr (λk e=>(b.lt k e).1);go_wp2;go_roundg (5-(2+1))
  case measure=>omega
  exact⟨2+1,_,rfl,U,rfl,by go_num,tM (l:=eF x) (c:=_) (k:=2) rfl h.o f U uH,m⟩
 by_cases D:k=3
 .subst D;obtain rfl:j=0:=U;clear s;obtain⟨ys,d⟩:∃ ys,xs++((eF x).take 3).map eg=ys:=⟨_,rfl⟩;rw[d]at b;have h:=af d;clear d;go_wp2_with (at_builtin;refine p8 _ rfl (.tmp 14) (.tmp 20) _ rfl base 5 z (aF 0) 1 1 underlying51 q.o t u y rfl bq _ (n+3) _ rfl (b.alloc _) (ad wr 0 ab) 1 1 [aF _] rfl rfl (oa _ _ _) mw jR U nr ?_);intro v' an f p _;have m:=(a.alloc (b7 r a.size) _).grown p nr (λk e=>(b.lt k e).1);go_wp2;go_roundg (5-(3+1))
  case measure=>omega
  exact⟨3+1,_,rfl,U,rfl,by go_num,tM (l:=eF x) (c:=_) (k:=3) rfl h.o f U uH,m⟩
 obtain rfl:k=4:=U;obtain rfl:j=-1:=U;clear s A;go_wp2;go_ret;exact⟨_,rfl,b,a⟩
def KA(b:w.ownsRow base 5 1 v n xs)(s:base<=w.heap.size)(au:n<=4096)(x:aa)(C:0<=x/\x<65536):az 202 #[v,bz x,I 2] w λe w'=>∃ v',e=.returned v'/\w'.ownsRow base 5 1 v' (n+2) (xs++(iw x).map eg)/\Below base w w':=by
 have⟨z,av,t,u,y⟩:=ng tw;have r:=af av
 go_in
 go_wp2;go_loopg [0,7] 3 (λg v' i wr=>∃ (k:J) (j:aa),g=3-k/\k<=2/\j=1-(k:aa)/\i=I j/\wr.ownsRow base 5 1 v' (n+k) (xs++((iw x).take k).map eg)/\Below base w wr)
 case atStart=>exact⟨0,1,rfl,U,rfl,rfl,by simpa using b,bY _ _⟩
 obtain⟨k,j,a1,hk,q,rfl,b,a⟩:=hrel;by_cases A:k=0
 .subst A;obtain rfl:j=1:=U;clear q;obtain⟨ys,d⟩:∃ ys,xs++((iw x).take 0).map eg=ys:=⟨_,rfl⟩;rw[d]at b;have h:=af d;clear d;go_wp2_with (at_builtin;refine p8 _ rfl (.tmp 14) (.tmp 20) _ rfl base 5 z (aF 0) 1 1 underlying51 r.o t u y rfl bq _ (n+0) _ rfl (b.alloc _) (ad wr 0 ab) 1 1 [aF _] rfl rfl (oa _ _ _) mw jR U nr ?_);intro v' an f p _;have m:=(a.alloc (b7 s a.size) _).grown p nr (λk e=>(b.lt k e).1);go_wp2;go_roundg (3-(0+1))
  case measure=>omega
  exact⟨0+1,_,rfl,U,rfl,by go_num,tM (l:=iw x) (c:=_) (k:=0) rfl h.o f U uH,m⟩
 by_cases B:k=1
 .subst B;obtain rfl:j=0:=U;clear q;obtain⟨ys,d⟩:∃ ys,xs++((iw x).take 1).map eg=ys:=⟨_,rfl⟩;rw[d]at b;have h:=af d;clear d;go_wp2_with (at_builtin;refine p8 _ rfl (.tmp 14) (.tmp 20) _ rfl base 5 z (aF 0) 1 1 underlying51 r.o t u y rfl bq _ (n+1) _ rfl (b.alloc _) (ad wr 0 ab) 1 1 [aF _] rfl rfl (oa _ _ _) mw jR U nr ?_);intro v' an f p _;have m:=(a.alloc (b7 s a.size) _).grown p nr (λk e=>(b.lt k e).1);go_wp2;go_roundg (3-(1+1))
  case measure=>omega
  exact⟨1+1,_,rfl,U,rfl,by go_num,tM (l:=iw x) (c:=_) (k:=1) rfl h.o f U uH,m⟩
 obtain rfl:k=2:=U;obtain rfl:j=-1:=U;clear q A;go_wp2;go_ret;exact⟨_,rfl,b,a⟩
end
section
def ry(m:aZ):ah aQ:=
 if m.kind=1\/m.kind=2 then eF m.bL else if m.kind=3 then iw m.cl++iw m.cj++lF m.a8 else if m.kind=4 then iw m.cl++eF m.sum
 else if m.kind=5 then iw m.cj else if m.kind=6 then iw m.cl++num (fz m.lead)else []
def nV(m:aZ):ah aQ:=[80,UInt8.ofNat m.kind.toNat]++ry m
def dk(m:aZ):ah aQ:=iI (nV m)
def xh(n:aa):(iw n).length=2:=rfl
def I_(L:ah aQ)(a:fits L=true):(lF L).length<=138:=by
 have b:L.length<=64:=by
  unfold fits at a;simp only[ee,gg]at a;exact a.2
 have:=IC L b (runs L) [] aI
 exact this
def Nw(n:aa)(h:-1000<=n/\n<=1000):(num (fz n)).length<=2:=Bv 1 _ (by unfold fz;split<;>omega)
def IQ(m:aZ)(h:dh m):(nV m).length<=144:=by
 have h1:=I_ m.a8 h.2.1;have h2:=Nw m.lead h.2.2.1;unfold nV ry;simp only[cx,dr,e2];split
 .simp[sg]
 split
 .simp only[cx,xh];omega
 split
 .simp[xh,sg]
 split
 .simp[xh]
 split
 .simp only[cx,xh];omega
 simp
variable{w:ai}{a:b4 Addr}{c:J}
def Yl(m:aZ)(h:c1 w a c m.a8)(d:¬ dh m):az 135 #[(aM #[I m.kind,aK m.bL,bz m.cl,bz m.cj,ao a m.a8.length c,aK m.sum,I m.lead])] w λe w'=>e=aV #[.string ⟨#[]⟩,I 1]/\Below w w w':=by
 have hk:Keeps aG w (w.alloc (ae #[I m.kind,aK m.bL,bz m.cl,bz m.cj,ao a m.a8.length c,aK m.sum,I m.lead] 254)):=(Keeps.refl _ w).alloc _;have b:=CF m (h.keeps hk (λ_ _ _=>id));rw[cZ d]at b
 go_in
 go_wp2_with fail;refine aT b λw' aj=>?_;go_wp2_with fail;go_ret2;exact⟨rfl,((bY _ w).alloc bA _).trans (aj.mono aI)⟩
theorem TO{w:ai}{base:J}(a:base<=w.heap.size)(x y:aa):(w.alloc (ae #[aF x,aF y] 5)).ownsRow base 5 1 (ao (some (ad w 0 ab)) 2 2) 2 [aF x,aF y]:=
 ⟨rfl,.inr ⟨w,2,#[aF x,aF y],rfl,a,aW w _,c9 _,by simp[maxLen],aI,aI⟩⟩
end
section
structure Rd where
 s:cc
 bad:aY
def gj(w:ai)(r:J)(x:Rd):ak:=w.heap[r]?=some (ae #[.string x.s,.bool x.bad] 369 (0,0))
def dP(n:J)(x:Rd):cc×Rd:=if x.bad=true\/x.s.size<n then(⟨#[]⟩,⟨x.s,true⟩)else(x.s.extract 0 n,⟨x.s.extract n x.s.size,false⟩)
variable{w w':ai}{r:J}{x:Rd}
def gj.keeps{S:J->ak}(h:gj w r x)(hk:Keeps S w w')(ax:¬ S r):gj w' r x:=hk.heap h ax
def take_size(n:J)(x:Rd):(dP n x).2.s.size<=x.s.size:=by
 unfold dP;split
 .exact c9 _
 simp
def yu(h:gj w r x)(n:J)(ax:x.s.size<=maxLen):az 301 #[r,I n] w λe w'=>e=.returned (.string (dP n x).1)/\gj w' r (dP n x).2/\Keeps (λb=>b=r) w w':=by
 have⟨s,bad⟩:=x;unfold maxLen at ax;have bu:=aP h;have f0:=bJ h;simp only at ax;have H:=af h;unfold dP;simp only;cases bad with
 | true=>
  rw[aD (.inl rfl)];clear h
  go_in
  exact M0
 | false=>
  by_cases au:s.size<n
  .rw[aD (.inr au)];clear h
   go_in
   exact M0
  rw[aA bU];have a:n<=s.size:=U;clear h au
  go_in
  go_wp2;go_ret;exact⟨rfl,by have:=bW H.out 0 (.string (s.extract n s.size));simpa[gj]using this,(Keeps.refl (λb=>b=r) w).setCell (p:=ad r 0 ab) rfl _⟩
end
variable{w w':ai}{r:J}{x:Rd}
def hO(l:ah aQ):J:=l.foldl (λa c=>a*256+c.toNat) 0
def z'(l:ah aQ)(c:aQ):hO (l++[c])=hO l*256+c.toNat:=by simp[hO,nj]
def z_:∀ (n:J) (l:ah aQ),l.length=n->hO l<256 ^ n:=by
 intro n
 induction n with
 | zero=>intro l h;rw[uv h];decide
 | succ n a=>
  intro l h;have hne:l≠[]:=by intro e;rw[e]at h;simp at h
  rw[<-dropLast_concat_getLast hne,z'];have h1:=a l.dropLast bU;have h2:=(l.getLast hne).toNat_lt;rw[nn];omega
def take_len(n:J)(x:Rd):(dP n x).1.size<=n:=by
 unfold dP;split
 .exact c' _
 rename_i h;simp;omega
def TE(a c:J)(bj:a<256)(aq:c<256):bits .or .u16 ((a:aa)*256) (c:aa)=((a*256+c:J):aa):=by
 have e:(a:aa)*256=((a*256:J):aa):=aI;rw[e,u16_or_nat _ _ U U,nat_join 8 (a*256) c U U]
def TF(a c:J)(bj:a<16777216)(aq:c<256):bits .or .u32 ((a:aa)*256) (c:aa)=((a*256+c:J):aa):=by
 have e:(a:aa)*256=((a*256:J):aa):=aI;rw[e,u32_or_nat _ _ U U,nat_join 8 (a*256) c U U]
def xS(h:gj w r x)(n:J)(au:n<=2)(ax:x.s.size<=maxLen):az 240 #[r,I n] w λe w'=>e=.returned (bz ((hO (dP n x).1.data.toList:J):aa))/\gj w' r (dP n x).2/\Keeps (λb=>b=r) w w':=by
 have A:=take_len n x;have m:=af (yu h n ax);generalize p:dP n x=P at *;have⟨T,y⟩:=P;simp only at A⊢;have G:=af p;clear p
 go_in
 go_wp2_with fail;refine m.o.mono ?_;rintro e an ⟨rfl,h1,u⟩;obtain⟨cap,aB,M,L,q,D,t,_⟩:=xu an T;have i:=af t;have d:Keeps aG an aB:=Keeps.bE q a7;have z:=af (show gj aB r y/\Keeps (λb=>b=r) w aB from⟨h1.keeps d id,u.trans (kQ d)⟩);clear t D q u d h1 m h;go_wp2_with fail;go_loopg [5,13] 9 (λg F E wr=>∃ k:J,g=9-k/\k<=T.size/\E=I k/\F=bz ((hO (T.data.toList.take k):J):aa)/\aB=wr)
 case atStart=>exact⟨0,rfl,c' _,rfl,rfl,rfl⟩
 obtain⟨k,a1,hk,rfl,rfl,rfl⟩:=hrel;by_cases f:k<T.size
 .have C:k<T.data.toList.length:=by simpa using f
  have tz:aB.cell? (ad an (0+k) ab)=some (aF (T.data.toList[k]).toNat):=by rw[gv];exact i.o k f
  have O:aB.cell? (ad an k ab)=some (aF (T.data.toList[k]).toNat):=i.o k f;have c:hO (T.data.toList.take (k+1))=hO (T.data.toList.take k)*256+(T.data.toList[k]).toNat:=by rw[lS C,z']
  have a:=z_ k (T.data.toList.take k) bU;have B:hO (T.data.toList.take k)<256:=lT a (b7 (rh U (show k<=1 by omega)) bq);have aq:=(T.data.toList[k]).toNat_lt;generalize T.data.toList[k]=l at *;generalize hO (T.data.toList.take k)=j at *;have N:=TE j l.toNat B aq;have v:=af c;have K:(l.toNat:aa)<=255:=U;have H:(j:aa)<256:=U;exact Na
 obtain rfl:k=T.size:=U;go_wp2;go_ret;exact⟨qO (by rw[nm aI]),z.o⟩
def GV(h:gj w r x)(n:J)(au:n<=4)(ax:x.s.size<=maxLen):az 241 #[r,I n] w λe w'=>e=.returned (aK ((hO (dP n x).1.data.toList:J):aa))/\gj w' r (dP n x).2/\Keeps (λb=>b=r) w w':=by
 have A:=take_len n x;have m:=af (yu h n ax);generalize p:dP n x=P at *;have⟨T,y⟩:=P;simp only at A⊢;have G:=af p;clear p
 go_in
 go_wp2_with fail;refine m.o.mono ?_;rintro e an ⟨rfl,h1,u⟩;obtain⟨cap,aB,M,L,q,D,t,_⟩:=xu an T;have i:=af t;have d:Keeps aG an aB:=Keeps.bE q a7;have z:=af (show gj aB r y/\Keeps (λb=>b=r) w aB from⟨h1.keeps d id,u.trans (kQ d)⟩);clear t D q u d h1 m h;go_wp2_with fail;go_loopg [5,13] 9 (λg F E wr=>∃ k:J,g=9-k/\k<=T.size/\E=I k/\F=aK ((hO (T.data.toList.take k):J):aa)/\aB=wr)
 case atStart=>exact⟨0,rfl,c' _,rfl,rfl,rfl⟩
 obtain⟨k,a1,hk,rfl,rfl,rfl⟩:=hrel;by_cases f:k<T.size
 .have C:k<T.data.toList.length:=by simpa using f
  have tz:aB.cell? (ad an (0+k) ab)=some (aF (T.data.toList[k]).toNat):=by rw[gv];exact i.o k f
  have O:aB.cell? (ad an k ab)=some (aF (T.data.toList[k]).toNat):=i.o k f;have c:hO (T.data.toList.take (k+1))=hO (T.data.toList.take k)*256+(T.data.toList[k]).toNat:=by rw[lS C,z']
  have a:=z_ k (T.data.toList.take k) bU;have B:hO (T.data.toList.take k)<16777216:=lT a (b7 (rh U (show k<=3 by omega)) bq);have aq:=(T.data.toList[k]).toNat_lt;generalize T.data.toList[k]=l at *;generalize hO (T.data.toList.take k)=j at *;have N:=TF j l.toNat B aq;have v:=af c;have K:(l.toNat:aa)<=255:=U;have H:(j:aa)<16777216:=U;exact Na
 obtain rfl:k=T.size:=U;go_wp2;go_ret;exact⟨qO (by rw[nm aI]),z.o⟩
def mR(x:Rd):ah aQ×Rd:=((iG x.s.data.toList).1,(dP (iG x.s.data.toList).2.1 ⟨x.s,x.bad || ((iG x.s.data.toList).2.2 != 0)⟩).2)
def oZ(x:Rd):aa×Rd:=(ui (cz x.s.data.toList).1,(dP (cz x.s.data.toList).2.1 ⟨x.s,x.bad || ((cz x.s.data.toList).2.2 != 0)⟩).2)
def gj.B_(h:gj w r x)(b:aY):gj (w.setCell (ad r 1 ab) (.bool b)) r ⟨x.s,b⟩:=by
 have:=bW h 1 (.bool b)
 simpa[gj]using this
def UM(h:gj w r x)(ax:x.s.size<=maxLen):az 244 #[r,.func (.func 245) #[] #[]] w λe w'=>e=.returned (I (oZ x).1)/\gj w' r (oZ x).2/\Keeps (λb=>b=r) w w':=by
 have bu:w.cell? (ad r 0 ab)=some (.string x.s):=bb h rfl;have b0:w.cell? (ad r 1 ab)=some (.bool x.bad):=bb h rfl;have f1:=bJ h;have f:=TQ x.s ax w;have j:=h.B_ (x.bad || ((cz x.s.data.toList).2.2 != 0));have g:=yu j (cz x.s.data.toList).2.1 ax;unfold oZ;generalize cz x.s.data.toList=P at *;obtain⟨v,k,d⟩:=P;simp only at f j g⊢;have l:=af f;have a:=af g;clear f g h j;cases aj:x.bad with
 | true=>
  rw[aj]at a b0;simp only[y6]at a⊢;clear aj
  go_in
  exact D'
 | false=>
  rw[aj]at a b0;simp only[wu]at a⊢;clear aj;by_cases c:d=0
  .have i:(d != 0)=false:=by simp[c]
   rw[i]at a⊢;clear c
   go_in
   exact D'
  have i:(d != 0)=true:=by simp[c]
  rw[i]at a⊢;clear c
  go_in
  exact D'
def UN(h:gj w r x)(ax:x.s.size<=maxLen):az 242 #[r,.func (.func 243) #[] #[]] w λe w'=>∃ v,e=.returned v/\w'.ownsRow w.heap.size 5 1 v (mR x).1.length ((mR x).1.map eg)/\gj w' r (mR x).2/\Keeps (λb=>b=r) w w':=by
 have bu:=aP h;have j1:=bR h;have c:=TP x.s ax w;have g:∀ an,gj an r x->_:=λan (h1:gj an r x)=>yu (h1.B_ (x.bad || ((iG x.s.data.toList).2.2 != 0))) (iG x.s.data.toList).2.1 ax;unfold mR;unfold xb at c;generalize iG x.s.data.toList=P at *;obtain⟨L,k,f⟩:=P;simp only at c g⊢;have u:=af c;have a:=af g;have H:=af h;clear c g h;cases aj:x.bad with
 | true=>
  rw[aj]at a;simp only[y6]at a⊢;have n:=af aj;clear aj
  go_in
  exact DG
 | false=>
  rw[aj]at a;simp only[wu]at a⊢;have n:=af aj;clear aj;by_cases d:f=0
  .have i:(f != 0)=false:=by simp[d]
   rw[i]at a⊢;clear d
   go_in
   exact DG
  have i:(f != 0)=true:=by simp[d]
  rw[i]at a⊢;clear d
  go_in
  exact DG
def Ii{L:ah aQ}{k:aa}(h:0<L.length↔k=3)(hk:k≠3):L=[]:=by
 rcases rf L.length with a|a
 .exact uv a
 exact absurd (h.1 a) hk
end Go.Proofs.YtalagblioepadaaGreatDoor
