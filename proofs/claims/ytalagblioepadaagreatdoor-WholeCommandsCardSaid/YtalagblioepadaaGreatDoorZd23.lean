/- The proof, part 23. -/
import Derived.Test.YtalagblioepadaaGreatDoorZd07
import Derived.Test.YtalagblioepadaaGreatDoorZd17
namespace Go.Proofs.YtalagblioepadaaGreatDoor
set_option linter.all false
open Proofs.Tryz List Go.RowKit
set_option maxRecDepth 100000
set_option maxHeartbeats 1600000
def nZ{p:al}(h:p:=by have:=a.size;simp;omega):p:=h
def vk{p:al}(h:p:=by first|(rw[wrap_u8];simp;omega)|(simp;omega)):p:=h
def EC{p:al}(h:p:=by
 go_wp2_with fail;refine u.out.mono ?_;rintro e ao ⟨v,rfl,m,t⟩;have j:Keeps aG w ao:=Keeps.bJ t a8;have h1:=H.out.keeps j id;have b6:ao.cell? (ae r 1 ad)=some (.bool x.bad):=bf h1 rfl;rw[n.out]at b6;have f1:=bP h1;have q:=a.out ao h1;have y:=ag q;have B:=ag h1;clear q t h1;go_wp2_with fail;refine y.o.mono ?_;rintro e aD ⟨rfl,h2,hk⟩;have l:Keeps (λb=>b=r) ao aD:=((Keeps.refl (λb=>b=r) ao).setCell (p:=ae r 1 ad) rfl _).trans hk;have A:=b5 m l (λb ak e=>by have:=(m.lt b ak).1;omega);have z:=(lj (S:=λb=>b=r) j).trans l;clear m hk l j;go_wp2_with fail;go_ret;exact⟨_,rfl,A,h2,z⟩
 ):p:=h
def E9{p:al}(h:p:=by
 go_wp2_with fail;refine l.out.mono ?_;rintro e ao ⟨rfl,rfl⟩;go_wp2_with fail;refine a.out.mono ?_;rintro e aD ⟨rfl,h2,hk⟩;go_wp2_with fail;go_ret;exact⟨rfl,h2,((Keeps.refl (λb=>b=r) w).setCell (p:=ae r 1 ad) rfl _).trans hk⟩
 ):p:=h
def Oh{p:al}(h:p:=by
 go_wp2;go_ret;exact⟨rfl,by have:=b3 H.out 1 (.bool true);simpa[gH]using this,(Keeps.refl (λb=>b=r) w).setCell (p:=ae r 1 ad) rfl _⟩
 ):p:=h
def Ox{p:al}(h:p:=by
 clear c a;go_wp2;go_roundg (9-(k+1))
 case measure=>omega
 exact⟨k+1,rfl,U,by go_num,by rw[v.o];exact Dw U,rfl⟩
 ):p:=h
section
def iT(n:aa):ah aT:=[UInt8.ofNat (n / 256%256).toNat,UInt8.ofNat (n%256).toNat]
variable{w:aj}{base n:J}{v:ay}{xs:ah ay}
def uv{l:ah aT}{c:aT}{k m:J}{y:aa}{ys:ah ay}(a:l[k]?=some c)(d:xs++(l.take k).map er=ys)(h:w.ownsRow base 5 1 v m (ys++[aH y]))(hm:m=n+(k+1))(b:y=c.toNat):w.ownsRow base 5 1 v (n+(k+1)) (xs++(l.take (k+1)).map er):=by
 obtain⟨hk,rfl⟩:=hD.1 a;rw[kY hk,jx,<-dL,d];subst b hm;exact h
def LK(b:w.ownsRow base 5 1 v n xs)(r:base<=w.heap.size)(av:n<=4096)(x:aa)(E:0<=x/\x<4294967296):aA 201 #[v,aR x,I 4] w λe w'=>∃ v',e=.returned v'/\w'.ownsRow base 5 1 v' (n+4) (xs++(eS x).map er)/\Below base w w':=by
 have⟨z,ax,t,u,y⟩:=nP t';have q:=ag ax
 go_in
 go_wp2;go_loopg [0,7] 5 (λg v' i wr=>∃ (k:J) (j:aa),g=5-k/\k<=4/\j=3-(k:aa)/\i=I j/\wr.ownsRow base 5 1 v' (n+k) (xs++((eS x).take k).map er)/\Below base w wr)
 case atStart=>exact⟨0,3,rfl,U,rfl,rfl,by simpa using b,b7 _ _⟩
 obtain⟨k,j,aZ,hk,s,rfl,b,a⟩:=hrel;by_cases A:k=0
 .subst A;obtain rfl:j=3:=U;clear s;obtain⟨ys,d⟩:∃ ys,xs++((eS x).take 0).map er=ys:=⟨_,rfl⟩;rw[d]at b;have h:=ag d;go_wp2_with (at_builtin;refine qE _ rfl (.tmp 14) (.tmp 20) _ rfl base 5 z (aH 0) 1 1 underlying51 q.o t u y rfl bt _ (n+0) _ rfl (b.alloc _) (ae wr 0 ad) 1 1 [aH _] rfl rfl (oQ _ _ _) mZ kd U nZ ?_);intro v' ao f p _;have m:=(a.alloc (ca r a.size) _).grown p nZ (λk e=>(b.lt k e).1);go_wp2;go_roundg (5-(0+1))
  case measure=>omega
  exact⟨0+1,_,rfl,U,rfl,by go_num,uv (l:=eS x) (c:=_) (k:=0) rfl h.o f U vk,m⟩
 by_cases B:k=1
 .subst B;obtain rfl:j=2:=U;obtain⟨ys,d⟩:∃ ys,xs++((eS x).take 1).map er=ys:=⟨_,rfl⟩;rw[d]at b;have h:=ag d;clear d;go_wp2_with (at_builtin;refine qE _ rfl (.tmp 14) (.tmp 20) _ rfl base 5 z (aH 0) 1 1 underlying51 q.o t u y rfl bt _ (n+1) _ rfl (b.alloc _) (ae wr 0 ad) 1 1 [aH _] rfl rfl (oQ _ _ _) mZ kd U nZ ?_);intro v' ao f p _;have m:=(a.alloc (ca r a.size) _).grown p nZ (λk e=>(b.lt k e).1);go_wp2;go_roundg (5-(1+1))
  case measure=>omega
  exact⟨1+1,_,rfl,U,rfl,by go_num,uv (l:=eS x) (c:=_) (k:=1) rfl h.o f U vk,m⟩
 by_cases C:k=2
 .subst C;obtain rfl:j=1:=U;clear s;obtain⟨ys,d⟩:∃ ys,xs++((eS x).take 2).map er=ys:=⟨_,rfl⟩;rw[d]at b;have h:=ag d;clear d;go_wp2_with (at_builtin;refine qE _ rfl (.tmp 14) (.tmp 20) _ rfl base 5 z (aH 0) 1 1 underlying51 q.o t u y rfl bt _ (n+2) _ rfl (b.alloc _) (ae wr 0 ad) 1 1 [aH _] rfl rfl (oQ _ _ _) mZ kd U nZ ?_);intro v' ao f p _;have m:=(a.alloc (ca r a.size) _).grown p nZ (λk e=>(b.lt k e).1);go_wp2;go_roundg (5-(2+1))
  case measure=>omega
  exact⟨2+1,_,rfl,U,rfl,by go_num,uv (l:=eS x) (c:=_) (k:=2) rfl h.o f U vk,m⟩
 by_cases D:k=3
 .subst D;obtain rfl:j=0:=U;clear s;obtain⟨ys,d⟩:∃ ys,xs++((eS x).take 3).map er=ys:=⟨_,rfl⟩;rw[d]at b;have h:=ag d;clear d;go_wp2_with (at_builtin;refine qE _ rfl (.tmp 14) (.tmp 20) _ rfl base 5 z (aH 0) 1 1 underlying51 q.o t u y rfl bt _ (n+3) _ rfl (b.alloc _) (ae wr 0 ad) 1 1 [aH _] rfl rfl (oQ _ _ _) mZ kd U nZ ?_);intro v' ao f p _;have m:=(a.alloc (ca r a.size) _).grown p nZ (λk e=>(b.lt k e).1);go_wp2;go_roundg (5-(3+1))
  case measure=>omega
  exact⟨3+1,_,rfl,U,rfl,by go_num,uv (l:=eS x) (c:=_) (k:=3) rfl h.o f U vk,m⟩
 obtain rfl:k=4:=U;obtain rfl:j=-1:=U;clear s A;go_wp2;go_ret;exact⟨_,rfl,b,a⟩
def LJ(b:w.ownsRow base 5 1 v n xs)(s:base<=w.heap.size)(av:n<=4096)(x:aa)(C:0<=x/\x<65536):aA 202 #[v,bC x,I 2] w λe w'=>∃ v',e=.returned v'/\w'.ownsRow base 5 1 v' (n+2) (xs++(iT x).map er)/\Below base w w':=by
 have⟨z,ax,t,u,y⟩:=nP t';have r:=ag ax
 go_in
 go_wp2;go_loopg [0,7] 3 (λg v' i wr=>∃ (k:J) (j:aa),g=3-k/\k<=2/\j=1-(k:aa)/\i=I j/\wr.ownsRow base 5 1 v' (n+k) (xs++((iT x).take k).map er)/\Below base w wr)
 case atStart=>exact⟨0,1,rfl,U,rfl,rfl,by simpa using b,b7 _ _⟩
 obtain⟨k,j,aZ,hk,q,rfl,b,a⟩:=hrel;by_cases A:k=0
 .subst A;obtain rfl:j=1:=U;clear q;obtain⟨ys,d⟩:∃ ys,xs++((iT x).take 0).map er=ys:=⟨_,rfl⟩;rw[d]at b;have h:=ag d;clear d;go_wp2_with (at_builtin;refine qE _ rfl (.tmp 14) (.tmp 20) _ rfl base 5 z (aH 0) 1 1 underlying51 r.o t u y rfl bt _ (n+0) _ rfl (b.alloc _) (ae wr 0 ad) 1 1 [aH _] rfl rfl (oQ _ _ _) mZ kd U nZ ?_);intro v' ao f p _;have m:=(a.alloc (ca s a.size) _).grown p nZ (λk e=>(b.lt k e).1);go_wp2;go_roundg (3-(0+1))
  case measure=>omega
  exact⟨0+1,_,rfl,U,rfl,by go_num,uv (l:=iT x) (c:=_) (k:=0) rfl h.o f U vk,m⟩
 by_cases B:k=1
 .subst B;obtain rfl:j=0:=U;clear q;obtain⟨ys,d⟩:∃ ys,xs++((iT x).take 1).map er=ys:=⟨_,rfl⟩;rw[d]at b;have h:=ag d;clear d;go_wp2_with (at_builtin;refine qE _ rfl (.tmp 14) (.tmp 20) _ rfl base 5 z (aH 0) 1 1 underlying51 r.o t u y rfl bt _ (n+1) _ rfl (b.alloc _) (ae wr 0 ad) 1 1 [aH _] rfl rfl (oQ _ _ _) mZ kd U nZ ?_);intro v' ao f p _;have m:=(a.alloc (ca s a.size) _).grown p nZ (λk e=>(b.lt k e).1);go_wp2;go_roundg (3-(1+1))
  case measure=>omega
  exact⟨1+1,_,rfl,U,rfl,by go_num,uv (l:=iT x) (c:=_) (k:=1) rfl h.o f U vk,m⟩
 obtain rfl:k=2:=U;obtain rfl:j=-1:=U;clear q A;go_wp2;go_ret;exact⟨_,rfl,b,a⟩
end
section
def r8(m:a6):ah aT:=
 if m.kind=1\/m.kind=2 then eS m.bQ else if m.kind=3 then iT m.cr++iT m.cp++l_ m.a_ else if m.kind=4 then iT m.cr++eS m.sum
 else if m.kind=5 then iT m.cp else if m.kind=6 then iT m.cr++num (fN m.lead)else []
def oE(m:a6):ah aT:=[80,UInt8.ofNat m.kind.toNat]++r8 m
def dv(m:a6):ah aT:=i' (oE m)
def xV(n:aa):(iT n).length=2:=rfl
def Kc(L:ah aT)(a:fits L=true):(l_ L).length<=138:=by
 have b:L.length<=64:=by
  unfold fits at a;simp only[ep,gh]at a;exact a.2
 have:=JH L b (runs L) [] aM
 exact this
def OP(n:aa)(h:-1000<=n/\n<=1000):(num (fN n)).length<=2:=Co 1 _ (by unfold fN;split<;>omega)
def JV(m:a6)(h:ds m):(oE m).length<=144:=by
 have h1:=Kc m.a_ h.2.1;have h2:=OP m.lead h.2.2.1;unfold oE r8;simp only[cx,dy,fg];split
 .simp[sP]
 split
 .simp only[cx,xV];omega
 split
 .simp[xV,sP]
 split
 .simp[xV]
 split
 .simp only[cx,xV];omega
 simp
variable{w:aj}{a:b_ Addr}{c:J}
def ZI(m:a6)(h:c' w a c m.a_)(d:¬ ds m):aA 135 #[(aL #[I m.kind,aR m.bQ,bC m.cr,bC m.cp,aq a m.a_.length c,aR m.sum,I m.lead])] w λe w'=>e=aY #[.string ⟨#[]⟩,I 1]/\Below w w w':=by
 have hk:Keeps aG w (w.alloc (af #[I m.kind,aR m.bQ,bC m.cr,bC m.cp,aq a m.a_.length c,aR m.sum,I m.lead] 254)):=(Keeps.refl _ w).alloc _;have b:=DC m (h.keeps hk (λ_ _ _=>id));rw[di d]at b
 go_in
 go_wp2_with fail;refine aW b λw' ak=>?_;go_wp2_with fail;go_ret2;exact⟨rfl,((b7 _ w).alloc bx _).trans (ak.mono aM)⟩
theorem U5{w:aj}{base:J}(a:base<=w.heap.size)(x y:aa):(w.alloc (af #[aH x,aH y] 5)).ownsRow base 5 1 (aq (some (ae w 0 ad)) 2 2) 2 [aH x,aH y]:=
 ⟨rfl,.inr ⟨w,2,#[aH x,aH y],rfl,a,aX w _,df _,by simp[maxLen],aM,aM⟩⟩
end
section
structure Rd where
 s:ch
 bad:a1
def gH(w:aj)(r:J)(x:Rd):al:=w.heap[r]?=some (af #[.string x.s,.bool x.bad] 369 (0,0))
def ea(n:J)(x:Rd):ch×Rd:=if x.bad=true\/x.s.size<n then(⟨#[]⟩,⟨x.s,true⟩)else(x.s.extract 0 n,⟨x.s.extract n x.s.size,false⟩)
variable{w w':aj}{r:J}{x:Rd}
def gH.keeps{S:J->al}(h:gH w r x)(hk:Keeps S w w')(aw:¬ S r):gH w' r x:=hk.heap h aw
def take_size(n:J)(x:Rd):(ea n x).2.s.size<=x.s.size:=by
 unfold ea;split
 .exact df _
 simp
def y8(h:gH w r x)(n:J)(aw:x.s.size<=maxLen):aA 301 #[r,I n] w λe w'=>e=.returned (.string (ea n x).1)/\gH w' r (ea n x).2/\Keeps (λb=>b=r) w w':=by
 have⟨s,bad⟩:=x;unfold maxLen at aw;have bz:=aO h;have f0:=bP h;simp only at aw;have H:=ag h;unfold ea;simp only;cases bad with
 | true=>
  rw[aE (.inl rfl)];clear h
  go_in
  exact Oh
 | false=>
  by_cases av:s.size<n
  .rw[aE (.inr av)];clear h
   go_in
   exact Oh
  rw[aB b1];have a:n<=s.size:=U;clear h av
  go_in
  go_wp2;go_ret;exact⟨rfl,by have:=b3 H.out 0 (.string (s.extract n s.size));simpa[gH]using this,(Keeps.refl (λb=>b=r) w).setCell (p:=ae r 0 ad) rfl _⟩
end
variable{w w':aj}{r:J}{x:Rd}
def ik(l:ah aT):J:=l.foldl (λa c=>a*256+c.toNat) 0
def AY(l:ah aT)(c:aT):ik (l++[c])=ik l*256+c.toNat:=by simp[ik,mX]
def AX:∀ (n:J) (l:ah aT),l.length=n->ik l<256 ^ n:=by
 intro n
 induction n with
 | zero=>intro l h;rw[uZ h];decide
 | succ n a=>
  intro l h;have hne:l≠[]:=by intro e;rw[e]at h;simp at h
  rw[<-dropLast_concat_getLast hne,AY];have h1:=a l.dropLast b1;have h2:=(l.getLast hne).toNat_lt;rw[nX];omega
def take_len(n:J)(x:Rd):(ea n x).1.size<=n:=by
 unfold ea;split
 .exact de _
 rename_i h;simp;omega
def UU(a c:J)(bh:a<256)(an:c<256):bits .or .u16 ((a:aa)*256) (c:aa)=((a*256+c:J):aa):=by
 have e:(a:aa)*256=((a*256:J):aa):=aM;rw[e,u16_or_nat _ _ U U,nat_join 8 (a*256) c U U]
def UW(a c:J)(bh:a<16777216)(an:c<256):bits .or .u32 ((a:aa)*256) (c:aa)=((a*256+c:J):aa):=by
 have e:(a:aa)*256=((a*256:J):aa):=aM;rw[e,u32_or_nat _ _ U U,nat_join 8 (a*256) c U U]
def yv(h:gH w r x)(n:J)(av:n<=2)(aw:x.s.size<=maxLen):aA 240 #[r,I n] w λe w'=>e=.returned (bC ((ik (ea n x).1.data.toList:J):aa))/\gH w' r (ea n x).2/\Keeps (λb=>b=r) w w':=by
 have A:=take_len n x;have m:=ag (y8 h n aw);generalize p:ea n x=P at *;have⟨T,y⟩:=P;simp only at A⊢;have G:=ag p;clear p
 go_in
 go_wp2_with fail;refine m.o.mono ?_;rintro e ao ⟨rfl,h1,u⟩;obtain⟨cap,aD,M,L,q,D,t,_⟩:=x9 ao T;have i:=ag t;have d:Keeps aG ao aD:=Keeps.bJ q a8;have z:=ag (show gH aD r y/\Keeps (λb=>b=r) w aD from⟨h1.keeps d id,u.trans (lj d)⟩);clear t D q u d h1 m h;go_wp2_with fail;go_loopg [5,13] 9 (λg F E wr=>∃ k:J,g=9-k/\k<=T.size/\E=I k/\F=bC ((ik (T.data.toList.take k):J):aa)/\aD=wr)
 case atStart=>exact⟨0,rfl,de _,rfl,rfl,rfl⟩
 obtain⟨k,aZ,hk,rfl,rfl,rfl⟩:=hrel;by_cases f:k<T.size
 .have C:k<T.data.toList.length:=by simpa using f
  have ub:aD.cell? (ae ao (0+k) ad)=some (aH (T.data.toList[k]).toNat):=by rw[gP];exact i.o k f
  have O:aD.cell? (ae ao k ad)=some (aH (T.data.toList[k]).toNat):=i.o k f;have c:ik (T.data.toList.take (k+1))=ik (T.data.toList.take k)*256+(T.data.toList[k]).toNat:=by rw[kY C,AY]
  have a:=AX k (T.data.toList.take k) b1;have B:ik (T.data.toList.take k)<256:=mq a (ca (rX U (show k<=1 by omega)) bt);have an:=(T.data.toList[k]).toNat_lt;generalize T.data.toList[k]=l at *;generalize ik (T.data.toList.take k)=j at *;have N:=UU j l.toNat B an;have v:=ag c;have K:(l.toNat:aa)<=255:=U;have H:(j:aa)<256:=U;exact Ox
 obtain rfl:k=T.size:=U;go_wp2;go_ret;exact⟨rq (by rw[nV aM]),z.o⟩
def H2(h:gH w r x)(n:J)(av:n<=4)(aw:x.s.size<=maxLen):aA 241 #[r,I n] w λe w'=>e=.returned (aR ((ik (ea n x).1.data.toList:J):aa))/\gH w' r (ea n x).2/\Keeps (λb=>b=r) w w':=by
 have A:=take_len n x;have m:=ag (y8 h n aw);generalize p:ea n x=P at *;have⟨T,y⟩:=P;simp only at A⊢;have G:=ag p;clear p
 go_in
 go_wp2_with fail;refine m.o.mono ?_;rintro e ao ⟨rfl,h1,u⟩;obtain⟨cap,aD,M,L,q,D,t,_⟩:=x9 ao T;have i:=ag t;have d:Keeps aG ao aD:=Keeps.bJ q a8;have z:=ag (show gH aD r y/\Keeps (λb=>b=r) w aD from⟨h1.keeps d id,u.trans (lj d)⟩);clear t D q u d h1 m h;go_wp2_with fail;go_loopg [5,13] 9 (λg F E wr=>∃ k:J,g=9-k/\k<=T.size/\E=I k/\F=aR ((ik (T.data.toList.take k):J):aa)/\aD=wr)
 case atStart=>exact⟨0,rfl,de _,rfl,rfl,rfl⟩
 obtain⟨k,aZ,hk,rfl,rfl,rfl⟩:=hrel;by_cases f:k<T.size
 .have C:k<T.data.toList.length:=by simpa using f
  have ub:aD.cell? (ae ao (0+k) ad)=some (aH (T.data.toList[k]).toNat):=by rw[gP];exact i.o k f
  have O:aD.cell? (ae ao k ad)=some (aH (T.data.toList[k]).toNat):=i.o k f;have c:ik (T.data.toList.take (k+1))=ik (T.data.toList.take k)*256+(T.data.toList[k]).toNat:=by rw[kY C,AY]
  have a:=AX k (T.data.toList.take k) b1;have B:ik (T.data.toList.take k)<16777216:=mq a (ca (rX U (show k<=3 by omega)) bt);have an:=(T.data.toList[k]).toNat_lt;generalize T.data.toList[k]=l at *;generalize ik (T.data.toList.take k)=j at *;have N:=UW j l.toNat B an;have v:=ag c;have K:(l.toNat:aa)<=255:=U;have H:(j:aa)<16777216:=U;exact Ox
 obtain rfl:k=T.size:=U;go_wp2;go_ret;exact⟨rq (by rw[nV aM]),z.o⟩
def nA(x:Rd):ah aT×Rd:=((i_ x.s.data.toList).1,(ea (i_ x.s.data.toList).2.1 ⟨x.s,x.bad || ((i_ x.s.data.toList).2.2 != 0)⟩).2)
def pw(x:Rd):aa×Rd:=(uR (cE x.s.data.toList).1,(ea (cE x.s.data.toList).2.1 ⟨x.s,x.bad || ((cE x.s.data.toList).2.2 != 0)⟩).2)
def gH.C3(h:gH w r x)(b:a1):gH (w.setCell (ae r 1 ad) (.bool b)) r ⟨x.s,b⟩:=by
 have:=b3 h 1 (.bool b)
 simpa[gH]using this
def V1(h:gH w r x)(aw:x.s.size<=maxLen):aA 244 #[r,.func (.func 245) #[] #[]] w λe w'=>e=.returned (I (pw x).1)/\gH w' r (pw x).2/\Keeps (λb=>b=r) w w':=by
 have bz:w.cell? (ae r 0 ad)=some (.string x.s):=bf h rfl;have b6:w.cell? (ae r 1 ad)=some (.bool x.bad):=bf h rfl;have f1:=bP h;have f:=U7 x.s aw w;have j:=h.C3 (x.bad || ((cE x.s.data.toList).2.2 != 0));have g:=y8 j (cE x.s.data.toList).2.1 aw;unfold pw;generalize cE x.s.data.toList=P at *;obtain⟨v,k,d⟩:=P;simp only at f j g⊢;have l:=ag f;have a:=ag g;clear f g h j;cases ak:x.bad with
 | true=>
  rw[ak]at a b6;simp only[zO]at a⊢;clear ak
  go_in
  exact E9
 | false=>
  rw[ak]at a b6;simp only[w4]at a⊢;clear ak;by_cases c:d=0
  .have i:(d != 0)=false:=by simp[c]
   rw[i]at a⊢;clear c
   go_in
   exact E9
  have i:(d != 0)=true:=by simp[c]
  rw[i]at a⊢;clear c
  go_in
  exact E9
def V2(h:gH w r x)(aw:x.s.size<=maxLen):aA 242 #[r,.func (.func 243) #[] #[]] w λe w'=>∃ v,e=.returned v/\w'.ownsRow w.heap.size 5 1 v (nA x).1.length ((nA x).1.map er)/\gH w' r (nA x).2/\Keeps (λb=>b=r) w w':=by
 have bz:=aO h;have kn:=bT h;have c:=U6 x.s aw w;have g:∀ ao,gH ao r x->_:=λao (h1:gH ao r x)=>y8 (h1.C3 (x.bad || ((i_ x.s.data.toList).2.2 != 0))) (i_ x.s.data.toList).2.1 aw;unfold nA;unfold xM at c;generalize i_ x.s.data.toList=P at *;obtain⟨L,k,f⟩:=P;simp only at c g⊢;have u:=ag c;have a:=ag g;have H:=ag h;clear c g h;cases ak:x.bad with
 | true=>
  rw[ak]at a;simp only[zO]at a⊢;have n:=ag ak;clear ak
  go_in
  exact EC
 | false=>
  rw[ak]at a;simp only[w4]at a⊢;have n:=ag ak;clear ak;by_cases d:f=0
  .have i:(f != 0)=false:=by simp[d]
   rw[i]at a⊢;clear d
   go_in
   exact EC
  have i:(f != 0)=true:=by simp[d]
  rw[i]at a⊢;clear d
  go_in
  exact EC
def Jo{L:ah aT}{k:aa}(h:0<L.length↔k=3)(hk:k≠3):L=[]:=by
 rcases rW L.length with a|a
 .exact uZ a
 exact absurd (h.1 a) hk
end Go.Proofs.YtalagblioepadaaGreatDoor
