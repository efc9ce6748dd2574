/- The proof, part 16. -/
import Derived.Test.YtalagblioepadaaGreatDoorZd14
namespace Go.Proofs.YtalagblioepadaaGreatDoor
set_option linter.all false
open Proofs.Tryz List Go.RowKit
set_option maxRecDepth 100000
set_option maxHeartbeats 1600000
def tk{p:al}(h:p:=by unfold fk;omega):p:=h
def xz{p:al}(h:p:=by rw[h.fR];exact e8 _ h.pos):p:=h
def Nj{p:al}(h:p:=by rw[d.out];exact u _ _ _ c ((Keeps.refl _ wr).drewN q)):p:=h
def Nz{p:al}(h:p:=by
 rw[e,c _ (by simpa using aw) (λx d=>b x (by simp[d]))];by_cases h1:g∈a
 .rw[aE h1,aE (by simp[h1])]
 rw[aB h1];by_cases h2:g=f
 .subst h2;rw[aE aM,u_ (by rw[aw];exact e8 _ au)]
 rw[aB (by simp[h1,h2]),qF (λh=>h2 (Cj aZ (b f aM) h.symm))]
 ):p:=h
def NA{p:al}(h:p:=by
 rw[I9]at aZ;split at aZ
 .rename_i e;subst e;cases aZ;rw[u_ xz]
 rename_i e;have ax:=h.gR _ (ui aZ);rw[qF (λc=>e (Cj (first:=first) ⟨ax.1,ax.2.1⟩ ⟨a.1,a.2.1⟩ c.symm))];exact h.mQ g y aZ
 ):p:=h
def NK{p:al}(h:p:=by
 split
 .exact⟨_,rfl⟩
 rename_i av;rw[yO (p:=λn=>!p n)]at a;split at a
 .exact h.lo f h1 h2 e a
 rename_i au;rcases i:dM L f with _|x
 .exact h.lo f h1 h2 e i
 exact absurd ((d f).2 ⟨by rw[i];rfl,by simpa using au⟩) av
 ):p:=h
def NM{p:al}(h:p:=by
 rw[<-HE h.dz first size (λp au=>⟨(h.gR p au).1,(h.gR p au).2.1⟩)];rw[filter_filter];refine xb λf a=>?_;obtain⟨i,ax,rfl⟩:=e9.1 a;have ax:=pI.1 ax;rw[h.has (first+i) U U]
 ):p:=h
def NN{p:al}(h:p:=by
 rw[fx,e9];constructor
 .rintro⟨⟨q,b,rfl⟩,au⟩;exact⟨by rw[Cg h.dz (x:=q.2) b];rfl,au⟩
 rintro⟨aw,au⟩;obtain⟨x,j⟩:=Ev.1 aw;exact⟨⟨_,ui j,rfl⟩,au⟩
 ):p:=h
def NR{p:al}(h:p:=by
 by_cases a:f<=1073741824
 .rcases b:dM L f with _|x
  .have⟨y,c⟩:=h.lo f h1 h2 a b;rw[c];simp
  rw[h.mQ f x b];simp[a]
 rw[Cd (L:=L) (f:=f) (λp au e=>a (by have:=(h.gR p au).2.2;omega))];simp[a]
 ):p:=h
def NU{p:al}(h:p:=by
 go_wp2_with fail;go_roundw
 case rel=>exact⟨k+1,U,by go_num,i,j,a.drew q,by rw[d.out,aB (by have:=g.out;simp;omega),eB];exact u _ _ _ c ((Keeps.refl _ wr).drewN q),x⟩
 simp[intOf];omega
 ):p:=h
def NX{p:al}(h:p:=by
 go_wp2_with fail;go_roundw
 case rel=>exact⟨k+1,U,by go_num,i,j,a.drew q,by rw[d.out,DS,aB aM,eB];exact u _ _ _ c ((Keeps.refl _ wr).drewN q),x⟩
 simp[intOf];omega
 ):p:=h
def N0{p:al}(h:p:=by
 rintro e aD ⟨rfl,q,rfl⟩;go_wp2_with fail;go_roundw
 case rel=>exact⟨k+1,U,by go_num,i,j,a.drew q,Nj,x⟩
 simp[intOf];omega
 ):p:=h
def N5{p:al}(h:p:=by
 rw[I9]at aZ;split at aZ
 .cases aZ
 rename_i e;rw[qF (λc=>e (Cj (first:=first) ⟨h1,h2⟩ ⟨a.1,a.2.1⟩ c.symm))];exact h.lo g h1 h2 b aZ
 ):p:=h
def Oc{p:al}(h:p:=by
 go_wp2;go_roundw
 case rel=>exact⟨k+1,U,by go_num,R,T,P,by rw[d.out,aE (by have:=g.out;simp;omega)];exact O,ca x Q⟩
 simp[intOf];omega
 ):p:=h
def OH{p:al}(h:p:=by
 obtain⟨q,b,rfl⟩:=e9.1 (fx.1 a).1;exact⟨(h.gR q b).1,(h.gR q b).2.1⟩
 ):p:=h
def OK{p:al}(h:p:=by
 rw[qK,jx,rO,xi,filter_cons,z8]
 ):p:=h
def Mp{p:al}(h:p:=by
 go_wp2_with fail;refine d.out.mono ?_;rintro e w' ⟨rfl,q,rfl⟩;go_wp2;go_ret2;exact⟨rfl,_,rfl⟩
 ):p:=h
def ME{p:al}(h:p:=by
 rcases rW d with hd|hd
 .subst hd;rw[Nat.mul_zero]at e;omega
 exact hd
 ):p:=h
def vi{p:al}(h:p:=by
 go_wp2;go_quiet (fail);go_wp2;go_ret;exact⟨rfl,_,rfl⟩
 ):p:=h
section
def mO(S:ah (aa×a1)):ah ay:=S.flatMap λp=>[(aH p.1),.bool p.2]
def X8(S:ah (aa×a1)):(mO S).length=S.length*2:=by
 induction S with
 | nil=>rfl
 | cons c S a=>simp only[mO,jc,qG,nR,fg]at a⊢;omega
def KY(S:ah (aa×a1))(i:J)(h:i<S.length):(mO S)[i*2]?=some (aH (S[i].1))/\(mO S)[i*2+1]?=some (.bool S[i].2):=by
 induction S generalizing i with
 | nil=>exact absurd h (kZ _)
 | cons c S a=>
  simp only[mO,jc]at a⊢;cases i with
  | zero=>simp
  | succ i=>
   have:=a i ic
   simp only[kc,xf,kV,nT];exact this
def X9(S:ah (aa×a1))(i:J)(x:aa)(b:a1):((mO S).set (i*2) (aH x)).set (i*2+1) (.bool b)=mO (S.set i (x,b)):=by
 induction S generalizing i with
 | nil=>rfl
 | cons c S a=>
  cases i with
  | zero=>rfl
  | succ i=>
   have h:=a i;simp only[mO,jc,kc,kV,nT,xm]at h⊢;rw[h]
structure WinAt(w:aj)(r B size first:J)(S:ah (aa×a1)):al where
 head:w.heap[r]?=some (af #[I first,aq (some (ae B 0 ad)) size size] 417 (0,0))
 body:w.heap[B]?=some (af (mO S).toArray 422 (0,0))
 fR:S.length=size
 pos:0<size
 most:size<=4096
 fst:first<=1073741824
 ne:r≠B
namespace WinAt
variable{w w':aj}{r B size first:J}{S:ah (aa×a1)}
theorem keeps{T:J->al}(h:WinAt w r B size first S)(hk:Keeps T w w')(h1:¬ T r)(h2:¬ T B):WinAt w' r B size first S:=
 ⟨hk.heap h.head h1,hk.heap h.body h2,h.fR,h.pos,h.most,h.fst,h.ne⟩
def drew(h:WinAt w r B size first S)(n:J):WinAt (w.drewN n) r B size first S:=⟨h.head,h.body,h.fR,h.pos,h.most,h.fst,h.ne⟩
def bz(h:WinAt w r B size first S):w.cell? (ae r 0 ad)=some (I first):=bf h.head rfl
def b6(h:WinAt w r B size first S):w.cell? (ae r 1 ad)=some (aq (some (ae B 0 ad)) size size):=bf h.head rfl
end WinAt
def fk(first size:J)(f:aa):al:=(first:aa)<=f/\f<first+size/\f<=1073741824
section
variable{w w':aj}{r B size first:J}{S:ah (aa×a1)}
def DB(h:WinAt w r B size first S)(f:aa)(a:¬ fk first size f)(j:-9223372036854775808<=f/\f<=9223372036854775807):aA 291 #[r,I f] w λe w'=>e=.returned (.pointer none)/\∃ q,w'=w.drewN q:=by
 have bz:=h.bz;have b6:=h.b6;have bR:=h.fst;have g:=h.most;unfold fk at a;by_cases h1:f<first
 .clear a
  go_in
  exact vi
 by_cases h2:f<first+size
 .have i:1073741824<f:=U;have b:f-first<size:=U
  have c:(first:aa)<=f:=U;have d:IntKind.i64.wrap (f-first)=f-first:=eG _ U
  clear a
  go_in
  exact vi
 have b:(size:aa)<=f-first:=U
 have c:(first:aa)<=f:=U;have d:IntKind.i64.wrap (f-first)=f-first:=eG _ U
 clear a
 go_in
 go_wp2;go_quiet (fail);go_wp2;go_ret;exact⟨rfl,_,rfl⟩
def zD(h:WinAt w r B size first S)(n k:J)(f:aa)(a:f=n)(b:fk first size f)(hk:n%size=k):aA 291 #[r,I f] w λe w'=>e=.returned (.pointer (some (ae B (k*2) ad)))/\∃ q,w'=w.drewN q:=by
 have bz:=h.bz;have b6:=h.b6;have bR:=h.fst;have c:=h.most;have⟨h1,h2,g⟩:=b;have i:f-first<size:=U
 have l:IntKind.i64.wrap (f-first)=f-first:=eG _ U
 have j:k<size:=hk▸e8 _ h.pos;have aK:f.tmod (size:aa)=(k:aa):=by
  rw[a,oS U,<-hk];simp
 have m:((size:aa) == 0)=false:=by have:=h.pos;rw[eA];omega
 have d:0<=f:=U;clear hk a
 go_in
 go_wp2;go_quiet (fail);go_wp2;go_quiet (fail);go_wp2;go_ret;exact⟨rfl,_,by rw[D1]⟩
def Zz(h:WinAt w r B size first S):aA 342 #[r] w λe w'=>e=.returned (I first)/\w=w':=by
 have bz:=h.bz
 go_in
 go_wp2;go_ret;exact⟨rfl,rfl⟩
end
end
section
variable{w w':aj}{r B size first:J}{S:ah (aa×a1)}
def WinAt.slot(h:WinAt w r B size first S){k:J}{x:aa}{b:a1}(hk:S[k]?=some (x,b)):w.cell? (ae B (k*2) ad)=some (aH x)/\w.cell? (ae B (k*2+1) ad)=some (.bool b):=by
 have⟨a,c⟩:=hD.1 hk;have⟨h1,h2⟩:=KY S k a;rw[c]at h1 h2;exact⟨bf h.body (by simpa using h1),bf h.body AH⟩
theorem WinAt.wR(h:WinAt w r B size first S)(k:J)(x:aa)(b:a1):WinAt ((w.setCell (ae B (k*2) ad) (aH x)).setCell (ae B (k*2+1) ad) (.bool b)) r B size first (S.set k (x,b)):=
 ⟨e0 (e0 h.head h.ne _) h.ne _,by have:=b3 (b3 h.body (k*2) (aH x)) (k*2+1) (.bool b);rw[<-X9];simpa using this,by simpa using h.fR,h.pos,h.most,h.fst,h.ne⟩
def ZB(h:WinAt w r B size first S)(f:aa)(a:¬ fk first size f)(b:-9223372036854775808<=f/\f<=9223372036854775807):aA 226 #[r,I f] w λe w'=>e=aY #[(aH 0),false]/\∃ q,w'=w.drewN q:=by
 have c:=ag (DB h f a b);clear a b
 go_in
 go_wp2_with fail;refine c.o.mono ?_;rintro e w' ⟨rfl,q,rfl⟩;go_wp2;go_ret2;exact⟨rfl,_,rfl⟩
def LF(h:WinAt w r B size first S)(n k:J)(f:aa)(c:f=n)(a:fk first size f)(hk:n%size=k)(x:aa)(b:a1)(ar:S[k]?=some (x,b)):aA 226 #[r,I f] w λe w'=>e=aY #[if b then(aH x)else(aH 0),.bool b]/\∃ q,w'=w.drewN q:=by
 have d:=ag (zD h n k f c a hk);have⟨fF,s1⟩:=h.slot ar;clear c a hk ar;cases b with
 | true=>
  go_in
  exact Mp
 | false=>
  go_in
  exact Mp
def ZD(h:WinAt w r B size first S)(f:aa)(b:¬ fk first size f)(c:-9223372036854775808<=f/\f<=9223372036854775807)(x:aa):aA 248 #[r,I f,(aH x)] w λe w'=>e=.returned (I (if f<first then 10 else 8))/\∃ q,w'=w.drewN q:=by
 have a:=ag (DB h f b c);have bz:=h.bz;clear b c;by_cases h1:f<first
 .rw[aE h1]
  go_in
  go_wp2_with fail;refine a.o.mono ?_;rintro e w' ⟨rfl,q,rfl⟩;go_wp2;go_ret;exact⟨rfl,_,rfl⟩
 rw[aB h1]
 go_in
 go_wp2_with fail;refine a.out.mono ?_;rintro e w' ⟨rfl,q,rfl⟩;go_wp2;go_ret;exact⟨rfl,_,rfl⟩
def ZC(h:WinAt w r B size first S)(n k:J)(f:aa)(c:f=n)(a:fk first size f)(hk:n%size=k)(y:aa):aA 248 #[r,I f,(aH y)] w λe w'=>e=.returned (I 0)/\WinAt w' r B size first (S.set k (y,true))/\Keeps (λb=>b=B) w w':=by
 have d:=ag (zD h n k f c a hk);have bz:=h.bz;have g:k<S.length:=by rw[h.fR,<-hk];exact e8 _ h.pos
 have⟨fF,s1⟩:=h.slot (k:=k) (x:=S[k].1) (b:=S[k].2) (gA g);have g0:=fO h.body (k*2);have g1:=fO h.body (k*2+1);have h1:=a.1;clear c a hk
 go_in
 go_wp2_with fail;refine d.o.mono ?_;rintro e w' ⟨rfl,q,rfl⟩;go_wp2;go_ret;exact⟨rfl,(h.drew q).wR k y true,(((Keeps.refl (λb=>b=B) w).drewN q).setCell (p:=ae B (k*2) ad) rfl _).setCell (p:=ae B (k*2+1) ad) rfl _⟩
end
def S2:(prog.info? 422).map (λi=>(i.zero,i.size,i.bytes))=some (some (aL #[(aH 0),false]),2,2):=aI
def X_(n:J):madeCells (aL #[(aH 0),false]).cells (n*2)=(mO (replicate n ((0:aa),false))).toArray:=by
 apply DR.1;apply ext_getElem?;intro j;by_cases a:j<n*2
 .have b:j / 2<(replicate n ((0:aa),false)).length:=b1;obtain⟨h1,h2⟩:=KY (replicate n ((0:aa),false)) (j / 2) b;simp only[getElem_replicate]at h1 h2;rcases Nat.mod_two_eq_zero_or_one j with h|h
  .have e:j / 2*2=j:=U;rw[e]at h1;rw[h1];simp[madeCells,a,Value.cells,h]
  have e:j / 2*2+1=j:=U;rw[e]at h2;rw[h2];simp[madeCells,a,Value.cells,h]
 rw[s9 (by simp[madeCells];omega),s9 (by show(mO _).length<=j;rw[X8,va];omega)]
def LG(size first:J)(h1:1<=size)(h2:size<=4096)(f:first<=1073741824)(w:aj):aA 258 #[I size,I first] w λe w'=>e=aY #[.pointer (some (ae (w+1) 0 ad)),I 0]/\WinAt w' (w.heap.size+1) w.heap.size size first (replicate size (0,false))/\Below w w w'/\w'.heap.size=w.heap.size+2:=by
 have⟨i,ax,g,h,d⟩:=nP S2;have hd:decide (1<=(size:aa)/\(size:aa)<=4096)=true:=b1;have b:=run_make (P:=prog) w 415 422 i (aL #[(aH 0),false]) underlying415 ax g .i64 .i64 size size U (jw _) vu U;rw[h,rN,X_]at b;have⟨Z,a⟩:=cT (replicate size ((0:aa),false));have c:=ag a;rw[<-a]at b;rw[<-a];clear a
 go_in
 go_wp2_with fail;refine bE (za size w) ?_;rw[hd];go_wp2;go_ret2;refine⟨rfl,⟨?_,?_,by rw[c.o];simp,h1,h2,f,U⟩,((b7 _ w).alloc bx _).alloc aM _,aM⟩
 .have:=aX (w.alloc (af (mO Z).toArray 422)) (af #[I first,aq (some (ae w 0 ad)) size size] 417)
  simpa using this
 have:=cw (aX w (af (mO Z).toArray 422)) (af #[I first,aq (some (ae w 0 ad)) size size] 417)
 simpa using this
section
attribute [local go_sem] Oper.semAt_some
def qb(S:ah (aa×a1))(size f:J):a1:=decide (f<=1073741824)&&((S[f%size]?).map (·.2)).getD false
def jZ(S:ah (aa×a1))(size first:J)(fr:aa)(k:J):ah J:=((range k).map (first+·)).filter λf=>decide (fr<=(f:aa))&&qb S size f
def By(S:ah (aa×a1))(size first:J)(fr:aa)(k:J):jZ S size first fr (k+1)=jZ S size first fr k++if (decide (fr<=((first+k:J):aa))&&qb S size (first+k))=true then [first+k]else []:=by
 unfold jZ;exact OK
def RE(S:ah (aa×a1))(size first:J)(fr:aa)(k:J)(hk:k<size)(h:(decide (fr<=((first+k:J):aa))&&qb S size (first+k))=true):∃ rest,jZ S size first fr size=jZ S size first fr k++(first+k) :: rest:=by
 have:∀ d,∃ rest,jZ S size first fr (k+1+d)=jZ S size first fr k++(first+k) :: rest:=by
  intro d
  induction d with
  | zero=>exact⟨[],by rw[rV,By,if_pos h]⟩
  | succ d b=>
   have⟨r,a⟩:=b;exact⟨r++_,by rw[<-hZ,By,a,dL,kV]⟩
 have⟨r,a⟩:=this (size-(k+1));exact⟨r,by rw[<-a];congr 1;omega⟩
section
variable{w w':aj}{r B size first:J}{S:ah (aa×a1)}
def ZG(r:J)(f:aa)(w:aj):aA 290 #[r,I f] w λe w'=>e=.returned (.func (.func 330) #[] #[w.heap.size,.pointer (some (ae (w+1) 0 ad))])/\(w.alloc (af #[r] 165)).alloc (af #[I f] 3)=w':=by
 go_in
 go_wp2;go_ret;exact⟨rfl,rfl⟩
def SB(h:WinAt w r B size first S)(n:J):qb S size n=(decide (n<=1073741824)&&(S[n%size]'(xz)).2):=by
 unfold qb;rw[gA xz];rfl
def RC(h:WinAt w r B size first S)(s m:J)(fr:aa)(an:w.cell? (ae s 0 ad)=some (.pointer (some (ae r 0 ad))))(h2:w.cell? (ae m 0 ad)=some (I fr))(y:J->al)(C:¬ y s/\¬ y m/\¬ y r/\¬ y B)(vl:s<w.heap.size/\m<w.heap.size):p0 prog 330 #[s,m] (λf:J=>#[I f]) (jZ S size first fr size) y (λ_=>False) w:=by
 intro l Y W l' hk w' u gf ab;subst l';have kn:=bT h.head;have ys:=bT h.body;have bR:=h.fst;have sd:=h.most;refine gU.2 ?_;have hd:=hk.cell an id;have K:=h.keeps hk id id;have s':=K.b6
 go_in
 go_wp2_with fail
 go_loopw [14] (λv wr=>∃ k:J,k<=size/\v=I k/\wr.cell? (ae s 0 ad)=some (.pointer (some (ae r 0 ad)))/\wr.cell? (ae m 0 ad)=some (I fr)/\WinAt wr r B size first S/\Y (jZ S size first fr k) wr/\w.heap.size+2<=wr.heap.size)
  (λv _=>size-(intOf v).toNat)
 case atStart=>exact⟨0,de _,rfl,hd,hk.cell h2 id,K,by simpa[jZ]using ab,U⟩
 obtain⟨k,v',rfl,i,j,a,c,x⟩:=hrel;by_cases m':k<size
 .have bz:=a.bz;have t:=By S size first fr k
  have E:=SB a (first+k);have D:(first:aa)+(k:aa)=((first+k:J):aa):=U;by_cases g':1073741824<first+k
  .have M:=ag (DB a ((first:aa)+k) tk U);have aS:qb S size (first+k)=false:=by rw[E];simp;omega
   rw[aS,DS,aB aM,eB]at t;have d:=ag t;clear aS E t D g';by_cases lb:fr<=(first:aa)+k
   .go_wp2_with fail;refine M.o.mono ?_;exact N0
   go_wp2_with fail;refine M.out.mono ?_;exact N0
  obtain⟨b,z⟩:∃ b,(first+k)%size=b:=⟨_,rfl⟩;have V:b<S.length:=by rw[a.fR,<-z];exact e8 _ a.pos
  have F:=ag (zD a (first+k) b ((first:aa)+k) D tk z);have ar:S[b]?=some ((S[b].1:aa),S[b].2):=gA V;have⟨_,s1⟩:=a.slot ar;have aS:qb S size (first+k)=S[b].2:=by rw[E];simp only[z];rw[show decide (first+k<=1073741824)=true from ei U,s7]
  have H:=RE S size first fr k m'
  rw[aS]at t H;generalize S[b].2=Z at *;have X:=ag H;have d:=ag t;have g:=ag D;clear H t E aS ar z D;by_cases lb:fr<=(first:aa)+k
  .cases Z with
   | false=>
    go_wp2_with fail;refine F.out.mono ?_;rintro e aD ⟨rfl,q,rfl⟩;exact NX
   | true=>
    go_wp2_with fail;refine F.out.mono ?_;rintro e aD ⟨rfl,q,rfl⟩;have a':=u _ _ _ c ((Keeps.refl _ wr).drewN q);obtain⟨rest,G⟩:=X.out (by simp;have:=g.out;omega);obtain⟨fn,tmps,assign,body,N,L⟩:=gf (jZ S size first fr k) (first+k) rest (wr.drewN q) G a';have ps:=ag G;clear G;rw[<-g.out]at N;go_upto_region 6 with fail
    refine(oR (n:=0)).1 ?_;gi_wp2;refine⟨rfl,L.mono ?_⟩;rintro e r' ⟨rfl,O,A⟩;clear N L;have R:=A.cell (p:=ae s 0 ad) i (λh=>h.elim C.1 (λh=>m_));have T:=A.cell (p:=ae m 0 ad) j (λh=>h.elim C.2.1 (λh=>m_));have P:=(a.drew q).keeps A (λh=>h.elim C.2.2.1 a8) (λh=>h.elim C.2.2.2 a8);have Q:=A.size;gi_wp2;exact Oc
  go_wp2_with fail;refine F.out.mono ?_;rintro e aD ⟨rfl,q,rfl⟩;exact NU
 have he:k=size:=U;subst he;go_wp2_with fail;go_end0;exact⟨⟨_,rfl⟩,c⟩
end
end
def ix(L:ah J):ah aa:=L.map λf:J=>(f:aa)
def RD(S:ah (aa×a1))(size first:J)(fr:aa)(k:J):(jZ S size first fr k).length<=k:=by
 exact ca (ml _ _) aM
section
variable{w w':aj}{r B size first:J}{S:ah (aa×a1)}
def ZE(h:WinAt w r B size first S)(fr:aa):aA 78 #[.func (.func 330) #[] #[w.heap.size,.pointer (some (ae (w+1) 0 ad))]] ((w.alloc (af #[r] 165)).alloc (af #[I fr] 3)) λe w'=>
   ∃ v,e=.returned v/\w'.ownsRow (w.heap.size+5) 3 1 v (jZ S size first fr size).length (lh (ix (jZ S size first fr size)))/\Below w w w':=by
 obtain⟨aD,a⟩:∃ aD,(w.alloc (af #[r] 165)).alloc (af #[I fr] 3)=aD:=⟨_,rfl⟩;have hk:Keeps aG w aD:=by rw[<-a];exact((Keeps.refl _ w).alloc _).alloc _
 have aw:aD.heap.size=w.heap.size+2:=by rw[<-a];simp
 have an:aD.cell? (ae w 0 ad)=some (.pointer (some (ae r 0 ad))):=by rw[<-a];exact q2 (oc _ _ _) _
 have d:aD.cell? (ae (w+1) 0 ad)=some (I fr):=by rw[<-a];have:=oc (w.alloc (af #[r] 165)) (I fr) 3;rw[fH]at this;exact this
 have kn:=bT h.head;have g:=bT h.body;rw[a]
 have ak:=KC (w:=aD) (λf:J=>(f:aa)) 330 #[w.heap.size,.pointer (some (ae (w+1) 0 ad))] (enters_of func330 aI rfl) (jZ S size first fr size) (ca (RD _ _ _ _ _) h.most)
  (RC ((h.keeps hk id id).keeps ((bb aD).alloc _) id id) w.heap.size (w.heap.size+1) fr (q2 an _) (q2 d _) _ ⟨U,U,U,U⟩ ⟨b1,b1⟩)
 rw[aw]at ak;exact ak.mono λe w' ⟨v,h1,b,c⟩=>⟨v,h1,b,(hk.below bx (λ_ _=>id)).trans (c.mono U)⟩
def ZA(h:WinAt w r B size first S):aA 225 #[r] w λe w'=>
   ∃ v,e=.returned v/\w'.ownsRow (w.heap.size+5) 3 1 v (jZ S size first 0 size).length (lh (ix (jZ S size first 0 size)))/\Below w w w':=by
 go_in
 go_wp2_with fail;refine bE (ZG r 0 w) ?_;go_wp2_with fail;refine(ZE h 0).mono ?_;rintro e bq ⟨v,rfl,h1,h2⟩;go_wp2;go_ret;exact⟨_,rfl,h1,h2⟩
end
section
structure Slots(S:ah (aa×a1))(size first:J)(L:ah (J×aa)):al where
 fR:S.length=size
 pos:0<size
 dz:pS L
 gR:∀ p∈L,first<=p.1/\p.1<first+size/\p.1<=1073741824
 mQ:∀ f x,dM L f=some x->S[f%size]?=some (x,true)
 lo:∀ f,first<=f->f<first+size->f<=1073741824->dM L f=none->∃ y,S[f%size]?=some (y,false)
def lf(S:ah (aa×a1))(size:J)(a:ah J):ah (aa×a1):=a.foldl (λS f=>S.set (f%size) (0,false)) S
def QC(S:ah (aa×a1))(size:J)(a:ah J):(lf S size a).length=S.length:=by
 unfold lf
 induction a generalizing S with
 | nil=>rfl
 | cons f a b=>rw[oU,b];simp
def QD(S:ah (aa×a1))(size:J)(a:ah J)(f:J):lf S size (a++[f])=(lf S size a).set (f%size) (0,false):=by
 unfold lf;rw[mX];rfl
def Cj{size first a b:J}(bh:first<=a/\a<first+size)(ak:first<=b/\b<first+size)(h:a%size=b%size):a=b:=by
 have h1:=pK a size;have h2:=pK b size;rw[h]at h1;rcases Nat.lt_trichotomy (a / size) (b / size)with c|c|c
 .have:=Aj size c
  rw[Nat.mul_succ]at this;omega
 .rw[c]at h1;omega
 have:=Aj size c
 rw[Nat.mul_succ]at this;omega
def Ha(S:ah (aa×a1))(size first:J)(a:ah J)(aw:S.length=size)(b:∀ f∈a,first<=f/\f<first+size)(g:J)(aZ:first<=g/\g<first+size):(lf S size a)[g%size]?=if g∈a then some (0,false)else S[g%size]?:=by
 have au:0<size:=U
 induction a generalizing S with
 | nil=>rfl
 | cons f a c=>
  have e:lf S size (f :: a)=lf (S.set (f%size) (0,false)) size a:=rfl;exact Nz
def Cd{α:Type}{L:ah (J×α)}{f:J}(h:∀ p∈L,p.1≠f):dM L f=none:=by
 rcases a:dM L f with _|x
 .rfl
 exact absurd rfl (h _ (ui a))
namespace Slots
variable{S:ah (aa×a1)}{size first:J}{L:ah (J×aa)}
def put(h:Slots S size first L)(f:J)(x:aa)(a:first<=f/\f<first+size/\f<=1073741824):Slots (S.set (f%size) (x,true)) size first (fa L f x) where
 fR:=by simpa using h.fR
 pos:=h.pos
 dz:=F_ h.dz f x
 gR p au:=by
  rcases Ch au with rfl|au
  .exact a
  exact h.gR p au
 mQ g y aZ:=by
  exact NA
 lo g h1 h2 b aZ:=by
  exact N5
def has(h:Slots S size first L)(f:J)(h1:first<=f)(h2:f<first+size):qb S size f=(dM L f).isSome:=by
 unfold qb;exact NR
def tU(h:Slots S size first L)(fr:aa):jZ S size first fr size=(L.map (·.1)).filter λf:J=>decide (fr<=(f:aa)):=by
 exact NM
def drop(h:Slots S size first L)(p:J->a1):Slots (lf S size ((L.map (·.1)).filter p)) size first (L.filter λq=>!p q.1):=by
 have g:∀ f∈(L.map (·.1)).filter p,first<=f/\f<first+size:=λf a=>by
  exact OH
 have d:∀ f,f∈(L.map (·.1)).filter p↔(dM L f).isSome=true/\p f=true:=λf=>by
  exact NN
 refine⟨by rw[QC,h.fR],h.pos,F9 h.dz _,λq b=>h.gR q (fx.1 b).1,λf x a=>?_,λf h1 h2 e a=>?_⟩
 .rw[yO (p:=λn=>!p n)]at a;split at a
  .rename_i au;have ax:=h.gR _ (ui a);rw[Ha S size first _ h.fR g f ⟨ax.1,ax.2.1⟩,aB (λc=>by have:=((d f).1 c).2;simp[this]at au)];exact h.mQ f x a
  cases a
 rw[Ha S size first _ h.fR g f ⟨h1,h2⟩];exact NK
def move(h:Slots S size first L)(n:J)(av:first<=n)(a:∀ p∈L,n<=p.1):Slots S size n L where
 fR:=h.fR
 pos:=h.pos
 dz:=h.dz
 gR p au:=⟨a p au,by have:=h.gR p au;omega,(h.gR p au).2.2⟩
 mQ:=h.mQ
 lo f h1 h2 c g:=by
  by_cases k:f<first+size
  .exact h.lo f U k c g
  have au:=h.pos;have e:=pK (f-first) size;have hm:=e8 (f-first) au;generalize o:(f-first)%size=gM at *;generalize (f-first) / size=d at *;have hd:0<d:=by
   exact ME
  have j:=Aj size hd;rw[Ak]at j;have i:f=first+gM+size*d:=U
  have l:f%size=(first+gM)%size:=by rw[i,Mj]
  rw[l];refine h.lo (first+gM) U U U (Cd λp b m=>?_)
  have:=a p b
  omega
end Slots
end
def hb{α:Type}:ah (J×α)->aa->Option α
 | [],_=>none
 | (g,y) :: r,f=>if (g:aa)=f then some y else hb r f
def uh{α:Type}(L:ah (J×α))(n:J):hb L (n:aa)=dM L n:=by
 induction L with
 | nil=>rfl
 | cons c L a=>
  have⟨g,y⟩:=c;simp only[hb,dM,a];by_cases h:g=n
  .rw[aE U,aE h]
  rw[aB U,aB h]
def I8{α:Type}{L:ah (J×α)}{f:aa}(h:∀ p∈L,((p.1:J):aa)≠f):hb L f=none:=by
 induction L with
 | nil=>rfl
 | cons c L a=>
  have⟨g,y⟩:=c;simp only[hb];rw[aB (h (g,y) aM),a (λp au=>h p (by simp[au]))]
end Go.Proofs.YtalagblioepadaaGreatDoor
