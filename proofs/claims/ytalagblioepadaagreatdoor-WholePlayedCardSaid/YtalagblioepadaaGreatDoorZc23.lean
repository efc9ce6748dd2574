/- The proof, part 23. -/
import Derived.Test.YtalagblioepadaaGreatDoorZc07
import Derived.Test.YtalagblioepadaaGreatDoorZc17
namespace Go.Proofs.YtalagblioepadaaGreatDoor
set_option linter.all false
open Proofs.Tryz List Go.RowKit
set_option maxRecDepth 100000
set_option maxHeartbeats 1600000
def nI{p:ak}(h:p:=by have:=a.size;simp;omega):p:=h
def uW{p:ak}(h:p:=by first|(rw[wrap_u8];simp;omega)|(simp;omega)):p:=h
def D6{p:ak}(h:p:=by
 go_wp2_with fail;refine u.out.mono ?_;rintro e ao ⟨v,rfl,m,t⟩;have j:Keeps aI w ao:=Keeps.bD t a7;have h1:=H.out.keeps j id;have bY:ao.cell? (ad r 1 ab)=some (.bool x.bad):=bb h1 rfl;rw[n.out]at bY;have f1:=bI h1;have q:=a.out ao h1;have y:=af q;have B:=af h1;clear q t h1;go_wp2_with fail;refine y.o.mono ?_;rintro e aC ⟨rfl,h2,hk⟩;have l:Keeps (λb=>b=r) ao aC:=((Keeps.refl (λb=>b=r) ao).setCell (p:=ad r 1 ab) rfl _).trans hk;have A:=b4 m l (λb aj e=>by have:=(m.lt b aj).1;omega);have z:=(k2 (S:=λb=>b=r) j).trans l;clear m hk l j;go_wp2_with fail;go_ret;exact⟨_,rfl,A,h2,z⟩
 ):p:=h
def EB{p:ak}(h:p:=by
 go_wp2_with fail;refine l.out.mono ?_;rintro e ao ⟨rfl,rfl⟩;go_wp2_with fail;refine a.out.mono ?_;rintro e aC ⟨rfl,h2,hk⟩;go_wp2_with fail;go_ret;exact⟨rfl,h2,((Keeps.refl (λb=>b=r) w).setCell (p:=ad r 1 ab) rfl _).trans hk⟩
 ):p:=h
def Nz{p:ak}(h:p:=by
 go_wp2;go_ret;exact⟨rfl,by have:=bV H.out 1 (.bool true);simpa[gr]using this,(Keeps.refl (λb=>b=r) w).setCell (p:=ad r 1 ab) rfl _⟩
 ):p:=h
def NL{p:ak}(h:p:=by
 clear c a;go_wp2;go_roundg (9-(k+1))
 case measure=>omega
 exact⟨k+1,rfl,U,by go_num,by rw[v.o];exact C1 U,rfl⟩
 ):p:=h
section
def iD(n:aa):ah aR:=[UInt8.ofNat (n / 256%256).toNat,UInt8.ofNat (n%256).toNat]
variable{w:ai}{base n:J}{v:ax}{xs:ah ax}
def uc{l:ah aR}{c:aR}{k m:J}{y:aa}{ys:ah ax}(a:l[k]?=some c)(d:xs++(l.take k).map ef=ys)(h:w.ownsRow base 5 1 v m (ys++[aF y]))(hm:m=n+(k+1))(b:y=c.toNat):w.ownsRow base 5 1 v (n+(k+1)) (xs++(l.take (k+1)).map ef):=by
 obtain⟨hk,rfl⟩:=hp.1 a;rw[l6 hk,jy,<-dD,d];subst b hm;exact h
def K7(b:w.ownsRow base 5 1 v n xs)(r:base<=w.heap.size)(ar:n<=4096)(x:aa)(E:0<=x/\x<4294967296):aA 201 #[v,aP x,I 4] w λe w'=>∃ v',e=.returned v'/\w'.ownsRow base 5 1 v' (n+4) (xs++(eI x).map ef)/\Below base w w':=by
 have⟨z,aw,t,u,y⟩:=ny tM;have q:=af aw
 go_in
 go_wp2;go_loopg [0,7] 5 (λg v' i wr=>∃ (k:J) (j:aa),g=5-k/\k<=4/\j=3-(k:aa)/\i=I j/\wr.ownsRow base 5 1 v' (n+k) (xs++((eI x).take k).map ef)/\Below base w wr)
 case atStart=>exact⟨0,3,rfl,U,rfl,rfl,by simpa using b,b3 _ _⟩
 obtain⟨k,j,aZ,hk,s,rfl,b,a⟩:=hrel;by_cases A:k=0
 .subst A;obtain rfl:j=3:=U;clear s;obtain⟨ys,d⟩:∃ ys,xs++((eI x).take 0).map ef=ys:=⟨_,rfl⟩;rw[d]at b;have h:=af d;go_wp2_with (at_builtin;refine ql _ rfl (.tmp 14) (.tmp 20) _ rfl base 5 z (aF 0) 1 1 underlying51 q.o t u y rfl bq _ (n+0) _ rfl (b.alloc _) (ad wr 0 ab) 1 1 [aF _] rfl rfl (oy _ _ _) mJ jY U nI ?_);intro v' ao f p _;have m:=(a.alloc (b7 r a.size) _).grown p nI (λk e=>(b.lt k e).1);go_wp2;go_roundg (5-(0+1))
  case measure=>omega
  exact⟨0+1,_,rfl,U,rfl,by go_num,uc (l:=eI x) (c:=_) (k:=0) rfl h.o f U uW,m⟩
 by_cases B:k=1
 .subst B;obtain rfl:j=2:=U;obtain⟨ys,d⟩:∃ ys,xs++((eI x).take 1).map ef=ys:=⟨_,rfl⟩;rw[d]at b;have h:=af d;clear d;go_wp2_with (at_builtin;refine ql _ rfl (.tmp 14) (.tmp 20) _ rfl base 5 z (aF 0) 1 1 underlying51 q.o t u y rfl bq _ (n+1) _ rfl (b.alloc _) (ad wr 0 ab) 1 1 [aF _] rfl rfl (oy _ _ _) mJ jY U nI ?_);intro v' ao f p _;have m:=(a.alloc (b7 r a.size) _).grown p nI (λk e=>(b.lt k e).1);go_wp2;go_roundg (5-(1+1))
  case measure=>omega
  exact⟨1+1,_,rfl,U,rfl,by go_num,uc (l:=eI x) (c:=_) (k:=1) rfl h.o f U uW,m⟩
 by_cases C:k=2
 .subst C;obtain rfl:j=1:=U;clear s;obtain⟨ys,d⟩:∃ ys,xs++((eI x).take 2).map ef=ys:=⟨_,rfl⟩;rw[d]at b;have h:=af d;clear d;go_wp2_with (at_builtin;refine ql _ rfl (.tmp 14) (.tmp 20) _ rfl base 5 z (aF 0) 1 1 underlying51 q.o t u y rfl bq _ (n+2) _ rfl (b.alloc _) (ad wr 0 ab) 1 1 [aF _] rfl rfl (oy _ _ _) mJ jY U nI ?_);intro v' ao f p _;have m:=(a.alloc (b7 r a.size) _).grown p nI (λk e=>(b.lt k e).1);go_wp2;go_roundg (5-(2+1))
  case measure=>omega
  exact⟨2+1,_,rfl,U,rfl,by go_num,uc (l:=eI x) (c:=_) (k:=2) rfl h.o f U uW,m⟩
 by_cases D:k=3
 .subst D;obtain rfl:j=0:=U;clear s;obtain⟨ys,d⟩:∃ ys,xs++((eI x).take 3).map ef=ys:=⟨_,rfl⟩;rw[d]at b;have h:=af d;clear d;go_wp2_with (at_builtin;refine ql _ rfl (.tmp 14) (.tmp 20) _ rfl base 5 z (aF 0) 1 1 underlying51 q.o t u y rfl bq _ (n+3) _ rfl (b.alloc _) (ad wr 0 ab) 1 1 [aF _] rfl rfl (oy _ _ _) mJ jY U nI ?_);intro v' ao f p _;have m:=(a.alloc (b7 r a.size) _).grown p nI (λk e=>(b.lt k e).1);go_wp2;go_roundg (5-(3+1))
  case measure=>omega
  exact⟨3+1,_,rfl,U,rfl,by go_num,uc (l:=eI x) (c:=_) (k:=3) rfl h.o f U uW,m⟩
 obtain rfl:k=4:=U;obtain rfl:j=-1:=U;clear s A;go_wp2;go_ret;exact⟨_,rfl,b,a⟩
def K6(b:w.ownsRow base 5 1 v n xs)(s:base<=w.heap.size)(ar:n<=4096)(x:aa)(C:0<=x/\x<65536):aA 202 #[v,bx x,I 2] w λe w'=>∃ v',e=.returned v'/\w'.ownsRow base 5 1 v' (n+2) (xs++(iD x).map ef)/\Below base w w':=by
 have⟨z,aw,t,u,y⟩:=ny tM;have r:=af aw
 go_in
 go_wp2;go_loopg [0,7] 3 (λg v' i wr=>∃ (k:J) (j:aa),g=3-k/\k<=2/\j=1-(k:aa)/\i=I j/\wr.ownsRow base 5 1 v' (n+k) (xs++((iD x).take k).map ef)/\Below base w wr)
 case atStart=>exact⟨0,1,rfl,U,rfl,rfl,by simpa using b,b3 _ _⟩
 obtain⟨k,j,aZ,hk,q,rfl,b,a⟩:=hrel;by_cases A:k=0
 .subst A;obtain rfl:j=1:=U;clear q;obtain⟨ys,d⟩:∃ ys,xs++((iD x).take 0).map ef=ys:=⟨_,rfl⟩;rw[d]at b;have h:=af d;clear d;go_wp2_with (at_builtin;refine ql _ rfl (.tmp 14) (.tmp 20) _ rfl base 5 z (aF 0) 1 1 underlying51 r.o t u y rfl bq _ (n+0) _ rfl (b.alloc _) (ad wr 0 ab) 1 1 [aF _] rfl rfl (oy _ _ _) mJ jY U nI ?_);intro v' ao f p _;have m:=(a.alloc (b7 s a.size) _).grown p nI (λk e=>(b.lt k e).1);go_wp2;go_roundg (3-(0+1))
  case measure=>omega
  exact⟨0+1,_,rfl,U,rfl,by go_num,uc (l:=iD x) (c:=_) (k:=0) rfl h.o f U uW,m⟩
 by_cases B:k=1
 .subst B;obtain rfl:j=0:=U;clear q;obtain⟨ys,d⟩:∃ ys,xs++((iD x).take 1).map ef=ys:=⟨_,rfl⟩;rw[d]at b;have h:=af d;clear d;go_wp2_with (at_builtin;refine ql _ rfl (.tmp 14) (.tmp 20) _ rfl base 5 z (aF 0) 1 1 underlying51 r.o t u y rfl bq _ (n+1) _ rfl (b.alloc _) (ad wr 0 ab) 1 1 [aF _] rfl rfl (oy _ _ _) mJ jY U nI ?_);intro v' ao f p _;have m:=(a.alloc (b7 s a.size) _).grown p nI (λk e=>(b.lt k e).1);go_wp2;go_roundg (3-(1+1))
  case measure=>omega
  exact⟨1+1,_,rfl,U,rfl,by go_num,uc (l:=iD x) (c:=_) (k:=1) rfl h.o f U uW,m⟩
 obtain rfl:k=2:=U;obtain rfl:j=-1:=U;clear q A;go_wp2;go_ret;exact⟨_,rfl,b,a⟩
end
section
def rQ(m:a1):ah aR:=
 if m.kind=1\/m.kind=2 then eI m.bK else if m.kind=3 then iD m.cj++iD m.ch++lU m.a8 else if m.kind=4 then iD m.cj++eI m.sum
 else if m.kind=5 then iD m.ch else if m.kind=6 then iD m.cj++num (fC m.lead)else []
def od(m:a1):ah aR:=[80,UInt8.ofNat m.kind.toNat]++rQ m
def dn(m:a1):ah aR:=iO (od m)
def xD(n:aa):(iD n).length=2:=rfl
def JB(L:ah aR)(a:fits L=true):(lU L).length<=138:=by
 have b:L.length<=64:=by
  unfold fits at a;simp only[d',fZ]at a;exact a.2
 have:=I4 L b (runs L) [] aK
 exact this
def N5(n:aa)(h:-1000<=n/\n<=1000):(num (fC n)).length<=2:=BU 1 _ (by unfold fC;split<;>omega)
def Jf(m:a1)(h:di m):(od m).length<=144:=by
 have h1:=JB m.a8 h.2.1;have h2:=N5 m.lead h.2.2.1;unfold od rQ;simp only[cx,ds,e_];split
 .simp[sv]
 split
 .simp only[cx,xD];omega
 split
 .simp[xD,sv]
 split
 .simp[xD]
 split
 .simp only[cx,xD];omega
 simp
variable{w:ai}{a:b5 Addr}{c:J}
def YZ(m:a1)(h:c3 w a c m.a8)(d:¬ di m):aA 135 #[(aQ #[I m.kind,aP m.bK,bx m.cj,bx m.ch,aq a m.a8.length c,aP m.sum,I m.lead])] w λe w'=>e=aV #[.string ⟨#[]⟩,I 1]/\Below w w w':=by
 have hk:Keeps aI w (w.alloc (ae #[I m.kind,aP m.bK,bx m.cj,bx m.ch,aq a m.a8.length c,aP m.sum,I m.lead] 254)):=(Keeps.refl _ w).alloc _;have b:=C7 m (h.keeps hk (λ_ _ _=>id));rw[dd d]at b
 go_in
 go_wp2_with fail;refine aU b λw' aj=>?_;go_wp2_with fail;go_ret2;exact⟨rfl,((b3 _ w).alloc bs _).trans (aj.mono aK)⟩
theorem Uq{w:ai}{base:J}(a:base<=w.heap.size)(x y:aa):(w.alloc (ae #[aF x,aF y] 5)).ownsRow base 5 1 (aq (some (ad w 0 ab)) 2 2) 2 [aF x,aF y]:=
 ⟨rfl,.inr ⟨w,2,#[aF x,aF y],rfl,a,aX w _,c9 _,by simp[maxLen],aK,aK⟩⟩
end
section
structure Rd where
 s:cc
 bad:aY
def gr(w:ai)(r:J)(x:Rd):ak:=w.heap[r]?=some (ae #[.string x.s,.bool x.bad] 369 (0,0))
def dQ(n:J)(x:Rd):cc×Rd:=if x.bad=true\/x.s.size<n then(⟨#[]⟩,⟨x.s,true⟩)else(x.s.extract 0 n,⟨x.s.extract n x.s.size,false⟩)
variable{w w':ai}{r:J}{x:Rd}
def gr.keeps{S:J->ak}(h:gr w r x)(hk:Keeps S w w')(av:¬ S r):gr w' r x:=hk.heap h av
def take_size(n:J)(x:Rd):(dQ n x).2.s.size<=x.s.size:=by
 unfold dQ;split
 .exact c9 _
 simp
def yQ(h:gr w r x)(n:J)(av:x.s.size<=maxLen):aA 301 #[r,I n] w λe w'=>e=.returned (.string (dQ n x).1)/\gr w' r (dQ n x).2/\Keeps (λb=>b=r) w w':=by
 have⟨s,bad⟩:=x;unfold maxLen at av;have bt:=aS h;have f0:=bI h;simp only at av;have H:=af h;unfold dQ;simp only;cases bad with
 | true=>
  rw[aD (.inl rfl)];clear h
  go_in
  exact Nz
 | false=>
  by_cases ar:s.size<n
  .rw[aD (.inr ar)];clear h
   go_in
   exact Nz
  rw[az bT];have a:n<=s.size:=U;clear h ar
  go_in
  go_wp2;go_ret;exact⟨rfl,by have:=bV H.out 0 (.string (s.extract n s.size));simpa[gr]using this,(Keeps.refl (λb=>b=r) w).setCell (p:=ad r 0 ab) rfl _⟩
end
variable{w w':ai}{r:J}{x:Rd}
def h4(l:ah aR):J:=l.foldl (λa c=>a*256+c.toNat) 0
def Av(l:ah aR)(c:aR):h4 (l++[c])=h4 l*256+c.toNat:=by simp[h4,nB]
def Au:∀ (n:J) (l:ah aR),l.length=n->h4 l<256 ^ n:=by
 intro n
 induction n with
 | zero=>intro l h;rw[uK h];decide
 | succ n a=>
  intro l h;have hne:l≠[]:=by intro e;rw[e]at h;simp at h
  rw[<-dropLast_concat_getLast hne,Av];have h1:=a l.dropLast bT;have h2:=(l.getLast hne).toNat_lt;rw[nG];omega
def take_len(n:J)(x:Rd):(dQ n x).1.size<=n:=by
 unfold dQ;split
 .exact c' _
 rename_i h;simp;omega
def Ug(a c:J)(bd:a<256)(al:c<256):bits .or .u16 ((a:aa)*256) (c:aa)=((a*256+c:J):aa):=by
 have e:(a:aa)*256=((a*256:J):aa):=aK;rw[e,u16_or_nat _ _ U U,nat_join 8 (a*256) c U U]
def Uh(a c:J)(bd:a<16777216)(al:c<256):bits .or .u32 ((a:aa)*256) (c:aa)=((a*256+c:J):aa):=by
 have e:(a:aa)*256=((a*256:J):aa):=aK;rw[e,u32_or_nat _ _ U U,nat_join 8 (a*256) c U U]
def yc(h:gr w r x)(n:J)(ar:n<=2)(av:x.s.size<=maxLen):aA 240 #[r,I n] w λe w'=>e=.returned (bx ((h4 (dQ n x).1.data.toList:J):aa))/\gr w' r (dQ n x).2/\Keeps (λb=>b=r) w w':=by
 have A:=take_len n x;have m:=af (yQ h n av);generalize p:dQ n x=P at *;have⟨T,y⟩:=P;simp only at A⊢;have G:=af p;clear p
 go_in
 go_wp2_with fail;refine m.o.mono ?_;rintro e ao ⟨rfl,h1,u⟩;obtain⟨cap,aC,M,L,q,D,t,_⟩:=xR ao T;have i:=af t;have d:Keeps aI ao aC:=Keeps.bD q a7;have z:=af (show gr aC r y/\Keeps (λb=>b=r) w aC from⟨h1.keeps d id,u.trans (k2 d)⟩);clear t D q u d h1 m h;go_wp2_with fail;go_loopg [5,13] 9 (λg F E wr=>∃ k:J,g=9-k/\k<=T.size/\E=I k/\F=bx ((h4 (T.data.toList.take k):J):aa)/\aC=wr)
 case atStart=>exact⟨0,rfl,c' _,rfl,rfl,rfl⟩
 obtain⟨k,aZ,hk,rfl,rfl,rfl⟩:=hrel;by_cases f:k<T.size
 .have C:k<T.data.toList.length:=by simpa using f
  have tO:aC.cell? (ad ao (0+k) ab)=some (aF (T.data.toList[k]).toNat):=by rw[gC];exact i.o k f
  have O:aC.cell? (ad ao k ab)=some (aF (T.data.toList[k]).toNat):=i.o k f;have c:h4 (T.data.toList.take (k+1))=h4 (T.data.toList.take k)*256+(T.data.toList[k]).toNat:=by rw[l6 C,Av]
  have a:=Au k (T.data.toList.take k) bT;have B:h4 (T.data.toList.take k)<256:=l7 a (b7 (rF U (show k<=1 by omega)) bq);have al:=(T.data.toList[k]).toNat_lt;generalize T.data.toList[k]=l at *;generalize h4 (T.data.toList.take k)=j at *;have N:=Ug j l.toNat B al;have v:=af c;have K:(l.toNat:aa)<=255:=U;have H:(j:aa)<256:=U;exact NL
 obtain rfl:k=T.size:=U;go_wp2;go_ret;exact⟨q6 (by rw[nF aK]),z.o⟩
def Hn(h:gr w r x)(n:J)(ar:n<=4)(av:x.s.size<=maxLen):aA 241 #[r,I n] w λe w'=>e=.returned (aP ((h4 (dQ n x).1.data.toList:J):aa))/\gr w' r (dQ n x).2/\Keeps (λb=>b=r) w w':=by
 have A:=take_len n x;have m:=af (yQ h n av);generalize p:dQ n x=P at *;have⟨T,y⟩:=P;simp only at A⊢;have G:=af p;clear p
 go_in
 go_wp2_with fail;refine m.o.mono ?_;rintro e ao ⟨rfl,h1,u⟩;obtain⟨cap,aC,M,L,q,D,t,_⟩:=xR ao T;have i:=af t;have d:Keeps aI ao aC:=Keeps.bD q a7;have z:=af (show gr aC r y/\Keeps (λb=>b=r) w aC from⟨h1.keeps d id,u.trans (k2 d)⟩);clear t D q u d h1 m h;go_wp2_with fail;go_loopg [5,13] 9 (λg F E wr=>∃ k:J,g=9-k/\k<=T.size/\E=I k/\F=aP ((h4 (T.data.toList.take k):J):aa)/\aC=wr)
 case atStart=>exact⟨0,rfl,c' _,rfl,rfl,rfl⟩
 obtain⟨k,aZ,hk,rfl,rfl,rfl⟩:=hrel;by_cases f:k<T.size
 .have C:k<T.data.toList.length:=by simpa using f
  have tO:aC.cell? (ad ao (0+k) ab)=some (aF (T.data.toList[k]).toNat):=by rw[gC];exact i.o k f
  have O:aC.cell? (ad ao k ab)=some (aF (T.data.toList[k]).toNat):=i.o k f;have c:h4 (T.data.toList.take (k+1))=h4 (T.data.toList.take k)*256+(T.data.toList[k]).toNat:=by rw[l6 C,Av]
  have a:=Au k (T.data.toList.take k) bT;have B:h4 (T.data.toList.take k)<16777216:=l7 a (b7 (rF U (show k<=3 by omega)) bq);have al:=(T.data.toList[k]).toNat_lt;generalize T.data.toList[k]=l at *;generalize h4 (T.data.toList.take k)=j at *;have N:=Uh j l.toNat B al;have v:=af c;have K:(l.toNat:aa)<=255:=U;have H:(j:aa)<16777216:=U;exact NL
 obtain rfl:k=T.size:=U;go_wp2;go_ret;exact⟨q6 (by rw[nF aK]),z.o⟩
def nf(x:Rd):ah aR×Rd:=((iL x.s.data.toList).1,(dQ (iL x.s.data.toList).2.1 ⟨x.s,x.bad || ((iL x.s.data.toList).2.2 != 0)⟩).2)
def pb(x:Rd):aa×Rd:=(uC (cz x.s.data.toList).1,(dQ (cz x.s.data.toList).2.1 ⟨x.s,x.bad || ((cz x.s.data.toList).2.2 != 0)⟩).2)
def gr.Cw(h:gr w r x)(b:aY):gr (w.setCell (ad r 1 ab) (.bool b)) r ⟨x.s,b⟩:=by
 have:=bV h 1 (.bool b)
 simpa[gr]using this
def Vn(h:gr w r x)(av:x.s.size<=maxLen):aA 244 #[r,.func (.func 245) #[] #[]] w λe w'=>e=.returned (I (pb x).1)/\gr w' r (pb x).2/\Keeps (λb=>b=r) w w':=by
 have bt:w.cell? (ad r 0 ab)=some (.string x.s):=bb h rfl;have bY:w.cell? (ad r 1 ab)=some (.bool x.bad):=bb h rfl;have f1:=bI h;have f:=Us x.s av w;have j:=h.Cw (x.bad || ((cz x.s.data.toList).2.2 != 0));have g:=yQ j (cz x.s.data.toList).2.1 av;unfold pb;generalize cz x.s.data.toList=P at *;obtain⟨v,k,d⟩:=P;simp only at f j g⊢;have l:=af f;have a:=af g;clear f g h j;cases aj:x.bad with
 | true=>
  rw[aj]at a bY;simp only[zs]at a⊢;clear aj
  go_in
  exact EB
 | false=>
  rw[aj]at a bY;simp only[wO]at a⊢;clear aj;by_cases c:d=0
  .have i:(d != 0)=false:=by simp[c]
   rw[i]at a⊢;clear c
   go_in
   exact EB
  have i:(d != 0)=true:=by simp[c]
  rw[i]at a⊢;clear c
  go_in
  exact EB
def Vo(h:gr w r x)(av:x.s.size<=maxLen):aA 242 #[r,.func (.func 243) #[] #[]] w λe w'=>∃ v,e=.returned v/\w'.ownsRow w.heap.size 5 1 v (nf x).1.length ((nf x).1.map ef)/\gr w' r (nf x).2/\Keeps (λb=>b=r) w w':=by
 have bt:=aS h;have j9:=bP h;have c:=Ur x.s av w;have g:∀ ao,gr ao r x->_:=λao (h1:gr ao r x)=>yQ (h1.Cw (x.bad || ((iL x.s.data.toList).2.2 != 0))) (iL x.s.data.toList).2.1 av;unfold nf;unfold xx at c;generalize iL x.s.data.toList=P at *;obtain⟨L,k,f⟩:=P;simp only at c g⊢;have u:=af c;have a:=af g;have H:=af h;clear c g h;cases aj:x.bad with
 | true=>
  rw[aj]at a;simp only[zs]at a⊢;have n:=af aj;clear aj
  go_in
  exact D6
 | false=>
  rw[aj]at a;simp only[wO]at a⊢;have n:=af aj;clear aj;by_cases d:f=0
  .have i:(f != 0)=false:=by simp[d]
   rw[i]at a⊢;clear d
   go_in
   exact D6
  have i:(f != 0)=true:=by simp[d]
  rw[i]at a⊢;clear d
  go_in
  exact D6
def IJ{L:ah aR}{k:aa}(h:0<L.length↔k=3)(hk:k≠3):L=[]:=by
 rcases rD L.length with a|a
 .exact uK a
 exact absurd (h.1 a) hk
end Go.Proofs.YtalagblioepadaaGreatDoor
