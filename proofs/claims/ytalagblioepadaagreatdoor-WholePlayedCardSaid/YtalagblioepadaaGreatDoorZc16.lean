/- The proof, part 16. -/
import Derived.Test.YtalagblioepadaaGreatDoorZc14
namespace Go.Proofs.YtalagblioepadaaGreatDoor
set_option linter.all false
open Proofs.Tryz List Go.RowKit
set_option maxRecDepth 100000
set_option maxHeartbeats 1600000
def s4{p:ak}(h:p:=by unfold fc;omega):p:=h
def xg{p:ak}(h:p:=by rw[h.fG];exact e2 _ h.pos):p:=h
def MD{p:ak}(h:p:=by rw[d.out];exact u _ _ _ c ((Keeps.refl _ wr).drewN q)):p:=h
def MR{p:ak}(h:p:=by
 rw[e,c _ (by simpa using av) (λx d=>b x (by simp[d]))];by_cases h1:g∈a
 .rw[aD h1,aD (by simp[h1])]
 rw[az h1];by_cases h2:g=f
 .subst h2;rw[aD aK,uL (by rw[av];exact e2 _ au)]
 rw[az (by simp[h1,h2]),qn (λh=>h2 (BP aZ (b f aK) h.symm))]
 ):p:=h
def MS{p:ak}(h:p:=by
 rw[Iu]at aZ;split at aZ
 .rename_i e;subst e;cases aZ;rw[uL xg]
 rename_i e;have aw:=h.gG _ (tV aZ);rw[qn (λc=>e (BP (first:=first) ⟨aw.1,aw.2.1⟩ ⟨a.1,a.2.1⟩ c.symm))];exact h.mA g y aZ
 ):p:=h
def M1{p:ak}(h:p:=by
 split
 .exact⟨_,rfl⟩
 rename_i ar;rw[yx (p:=λn=>!p n)]at a;split at a
 .exact h.k7 f h1 h2 e a
 rename_i au;rcases i:dE L f with _|x
 .exact h.k7 f h1 h2 e i
 exact absurd ((d f).2 ⟨by rw[i];rfl,by simpa using au⟩) ar
 ):p:=h
def M4{p:ak}(h:p:=by
 rw[<-G1 h.dL first size (λp au=>⟨(h.gG p au).1,(h.gG p au).2.1⟩)];rw[filter_filter];refine wX λf a=>?_;obtain⟨i,aw,rfl⟩:=e3.1 a;have aw:=po.1 aw;rw[h.has (first+i) U U]
 ):p:=h
def M5{p:ak}(h:p:=by
 rw[eR,e3];constructor
 .rintro⟨⟨q,b,rfl⟩,au⟩;exact⟨by rw[BM h.dL (x:=q.2) b];rfl,au⟩
 rintro⟨av,au⟩;obtain⟨x,j⟩:=DZ.1 av;exact⟨⟨_,tV j,rfl⟩,au⟩
 ):p:=h
def M9{p:ak}(h:p:=by
 by_cases a:f<=1073741824
 .rcases b:dE L f with _|x
  .have⟨y,c⟩:=h.k7 f h1 h2 a b;rw[c];simp
  rw[h.mA f x b];simp[a]
 rw[BI (L:=L) (f:=f) (λp au e=>a (by have:=(h.gG p au).2.2;omega))];simp[a]
 ):p:=h
def M'{p:ak}(h:p:=by
 go_wp2_with fail;go_roundw
 case rel=>exact⟨k+1,U,by go_num,i,j,a.drew q,by rw[d.out,az (by have:=g.out;simp;omega),e4];exact u _ _ _ c ((Keeps.refl _ wr).drewN q),x⟩
 simp[intOf];omega
 ):p:=h
def Nc{p:ak}(h:p:=by
 go_wp2_with fail;go_roundw
 case rel=>exact⟨k+1,U,by go_num,i,j,a.drew q,by rw[d.out,Dm,az aK,e4];exact u _ _ _ c ((Keeps.refl _ wr).drewN q),x⟩
 simp[intOf];omega
 ):p:=h
def Nf{p:ak}(h:p:=by
 rintro e aC ⟨rfl,q,rfl⟩;go_wp2_with fail;go_roundw
 case rel=>exact⟨k+1,U,by go_num,i,j,a.drew q,MD,x⟩
 simp[intOf];omega
 ):p:=h
def Nl{p:ak}(h:p:=by
 rw[Iu]at aZ;split at aZ
 .cases aZ
 rename_i e;rw[qn (λc=>e (BP (first:=first) ⟨h1,h2⟩ ⟨a.1,a.2.1⟩ c.symm))];exact h.k7 g h1 h2 b aZ
 ):p:=h
def Nv{p:ak}(h:p:=by
 go_wp2;go_roundw
 case rel=>exact⟨k+1,U,by go_num,R,T,P,by rw[d.out,aD (by have:=g.out;simp;omega)];exact O,b7 x Q⟩
 simp[intOf];omega
 ):p:=h
def NV{p:ak}(h:p:=by
 obtain⟨q,b,rfl⟩:=e3.1 (eR.1 a).1;exact⟨(h.gG q b).1,(h.gG q b).2.1⟩
 ):p:=h
def NY{p:ak}(h:p:=by
 rw[qs,jy,rr,w2,filter_cons,zF]
 ):p:=h
def N2{p:ak}(h:p:=by
 go_wp2_with fail;refine d.out.mono ?_;rintro e w' ⟨rfl,q,rfl⟩;go_wp2;go_ret2;exact⟨rfl,_,rfl⟩
 ):p:=h
def L1{p:ak}(h:p:=by
 rcases rD d with hd|hd
 .subst hd;rw[Nat.mul_zero]at e;omega
 exact hd
 ):p:=h
def uU{p:ak}(h:p:=by
 go_wp2;go_quiet (fail);go_wp2;go_ret;exact⟨rfl,_,rfl⟩
 ):p:=h
section
def my(S:ah (aa×aY)):ah ax:=S.flatMap λp=>[(aF p.1),.bool p.2]
def Xp(S:ah (aa×aY)):(my S).length=S.length*2:=by
 induction S with
 | nil=>rfl
 | cons c S a=>simp only[my,iS,pn,mG,e_]at a⊢;omega
def Kl(S:ah (aa×aY))(i:J)(h:i<S.length):(my S)[i*2]?=some (aF (S[i].1))/\(my S)[i*2+1]?=some (.bool S[i].2):=by
 induction S generalizing i with
 | nil=>exact absurd h (lp _)
 | cons c S a=>
  simp only[my,iS]at a⊢;cases i with
  | zero=>simp
  | succ i=>
   have:=a i ik
   simp only[jX,wZ,kF,nD];exact this
def Xq(S:ah (aa×aY))(i:J)(x:aa)(b:aY):((my S).set (i*2) (aF x)).set (i*2+1) (.bool b)=my (S.set i (x,b)):=by
 induction S generalizing i with
 | nil=>rfl
 | cons c S a=>
  cases i with
  | zero=>rfl
  | succ i=>
   have h:=a i;simp only[my,iS,jX,kF,nD,w5]at h⊢;rw[h]
structure WinAt(w:ai)(r B size first:J)(S:ah (aa×aY)):ak where
 head:w.heap[r]?=some (ae #[I first,aq (some (ad B 0 ab)) size size] 417 (0,0))
 body:w.heap[B]?=some (ae (my S).toArray 422 (0,0))
 fG:S.length=size
 pos:0<size
 most:size<=4096
 fst:first<=1073741824
 ne:r≠B
namespace WinAt
variable{w w':ai}{r B size first:J}{S:ah (aa×aY)}
theorem keeps{T:J->ak}(h:WinAt w r B size first S)(hk:Keeps T w w')(h1:¬ T r)(h2:¬ T B):WinAt w' r B size first S:=
 ⟨hk.heap h.head h1,hk.heap h.body h2,h.fG,h.pos,h.most,h.fst,h.ne⟩
def drew(h:WinAt w r B size first S)(n:J):WinAt (w.drewN n) r B size first S:=⟨h.head,h.body,h.fG,h.pos,h.most,h.fst,h.ne⟩
def bt(h:WinAt w r B size first S):w.cell? (ad r 0 ab)=some (I first):=bb h.head rfl
def bY(h:WinAt w r B size first S):w.cell? (ad r 1 ab)=some (aq (some (ad B 0 ab)) size size):=bb h.head rfl
end WinAt
def fc(first size:J)(f:aa):ak:=(first:aa)<=f/\f<first+size/\f<=1073741824
section
variable{w w':ai}{r B size first:J}{S:ah (aa×aY)}
def C6(h:WinAt w r B size first S)(f:aa)(a:¬ fc first size f)(j:-9223372036854775808<=f/\f<=9223372036854775807):aA 291 #[r,I f] w λe w'=>e=.returned (.pointer none)/\∃ q,w'=w.drewN q:=by
 have bt:=h.bt;have bY:=h.bY;have bO:=h.fst;have g:=h.most;unfold fc at a;by_cases h1:f<first
 .clear a
  go_in
  exact uU
 by_cases h2:f<first+size
 .have i:1073741824<f:=U;have b:f-first<size:=U
  have c:(first:aa)<=f:=U;have d:IntKind.i64.wrap (f-first)=f-first:=ev _ U
  clear a
  go_in
  exact uU
 have b:(size:aa)<=f-first:=U
 have c:(first:aa)<=f:=U;have d:IntKind.i64.wrap (f-first)=f-first:=ev _ U
 clear a
 go_in
 go_wp2;go_quiet (fail);go_wp2;go_ret;exact⟨rfl,_,rfl⟩
def zg(h:WinAt w r B size first S)(n k:J)(f:aa)(a:f=n)(b:fc first size f)(hk:n%size=k):aA 291 #[r,I f] w λe w'=>e=.returned (.pointer (some (ad B (k*2) ab)))/\∃ q,w'=w.drewN q:=by
 have bt:=h.bt;have bY:=h.bY;have bO:=h.fst;have c:=h.most;have⟨h1,h2,g⟩:=b;have i:f-first<size:=U
 have l:IntKind.i64.wrap (f-first)=f-first:=ev _ U
 have j:k<size:=hk▸e2 _ h.pos;have aO:f.tmod (size:aa)=(k:aa):=by
  rw[a,oA U,<-hk];simp
 have m:((size:aa) == 0)=false:=by have:=h.pos;rw[eu];omega
 have d:0<=f:=U;clear hk a
 go_in
 go_wp2;go_quiet (fail);go_wp2;go_quiet (fail);go_wp2;go_ret;exact⟨rfl,_,by rw[Dw]⟩
def YQ(h:WinAt w r B size first S):aA 342 #[r] w λe w'=>e=.returned (I first)/\w=w':=by
 have bt:=h.bt
 go_in
 go_wp2;go_ret;exact⟨rfl,rfl⟩
end
end
section
variable{w w':ai}{r B size first:J}{S:ah (aa×aY)}
def WinAt.slot(h:WinAt w r B size first S){k:J}{x:aa}{b:aY}(hk:S[k]?=some (x,b)):w.cell? (ad B (k*2) ab)=some (aF x)/\w.cell? (ad B (k*2+1) ab)=some (.bool b):=by
 have⟨a,c⟩:=hp.1 hk;have⟨h1,h2⟩:=Kl S k a;rw[c]at h1 h2;exact⟨bb h.body (by simpa using h1),bb h.body (by simpa using h2)⟩
theorem WinAt.wB(h:WinAt w r B size first S)(k:J)(x:aa)(b:aY):WinAt ((w.setCell (ad B (k*2) ab) (aF x)).setCell (ad B (k*2+1) ab) (.bool b)) r B size first (S.set k (x,b)):=
 ⟨eU (eU h.head h.ne _) h.ne _,by have:=bV (bV h.body (k*2) (aF x)) (k*2+1) (.bool b);rw[<-Xq];simpa using this,by simpa using h.fG,h.pos,h.most,h.fst,h.ne⟩
def YS(h:WinAt w r B size first S)(f:aa)(a:¬ fc first size f)(b:-9223372036854775808<=f/\f<=9223372036854775807):aA 226 #[r,I f] w λe w'=>e=aV #[(aF 0),false]/\∃ q,w'=w.drewN q:=by
 have c:=af (C6 h f a b);clear a b
 go_in
 go_wp2_with fail;refine c.o.mono ?_;rintro e w' ⟨rfl,q,rfl⟩;go_wp2;go_ret2;exact⟨rfl,_,rfl⟩
def K2(h:WinAt w r B size first S)(n k:J)(f:aa)(c:f=n)(a:fc first size f)(hk:n%size=k)(x:aa)(b:aY)(an:S[k]?=some (x,b)):aA 226 #[r,I f] w λe w'=>e=aV #[if b then(aF x)else(aF 0),.bool b]/\∃ q,w'=w.drewN q:=by
 have d:=af (zg h n k f c a hk);have⟨fF,s1⟩:=h.slot an;clear c a hk an;cases b with
 | true=>
  go_in
  exact N2
 | false=>
  go_in
  exact N2
def YU(h:WinAt w r B size first S)(f:aa)(b:¬ fc first size f)(c:-9223372036854775808<=f/\f<=9223372036854775807)(x:aa):aA 248 #[r,I f,(aF x)] w λe w'=>e=.returned (I (if f<first then 10 else 8))/\∃ q,w'=w.drewN q:=by
 have a:=af (C6 h f b c);have bt:=h.bt;clear b c;by_cases h1:f<first
 .rw[aD h1]
  go_in
  go_wp2_with fail;refine a.o.mono ?_;rintro e w' ⟨rfl,q,rfl⟩;go_wp2;go_ret;exact⟨rfl,_,rfl⟩
 rw[az h1]
 go_in
 go_wp2_with fail;refine a.out.mono ?_;rintro e w' ⟨rfl,q,rfl⟩;go_wp2;go_ret;exact⟨rfl,_,rfl⟩
def YT(h:WinAt w r B size first S)(n k:J)(f:aa)(c:f=n)(a:fc first size f)(hk:n%size=k)(y:aa):aA 248 #[r,I f,(aF y)] w λe w'=>e=.returned (I 0)/\WinAt w' r B size first (S.set k (y,true))/\Keeps (λb=>b=B) w w':=by
 have d:=af (zg h n k f c a hk);have bt:=h.bt;have g:k<S.length:=by rw[h.fG,<-hk];exact e2 _ h.pos
 have⟨fF,s1⟩:=h.slot (k:=k) (x:=S[k].1) (b:=S[k].2) (gl g);have g0:=fx h.body (k*2);have g1:=fx h.body (k*2+1);have h1:=a.1;clear c a hk
 go_in
 go_wp2_with fail;refine d.o.mono ?_;rintro e w' ⟨rfl,q,rfl⟩;go_wp2;go_ret;exact⟨rfl,(h.drew q).wB k y true,(((Keeps.refl (λb=>b=B) w).drewN q).setCell (p:=ad B (k*2) ab) rfl _).setCell (p:=ad B (k*2+1) ab) rfl _⟩
end
def Sh:(prog.info? 422).map (λi=>(i.zero,i.size,i.bytes))=some (some (aQ #[(aF 0),false]),2,2):=aH
def Xr(n:J):madeCells (aQ #[(aF 0),false]).cells (n*2)=(my (replicate n ((0:aa),false))).toArray:=by
 apply Dl.1;apply ext_getElem?;intro j;by_cases a:j<n*2
 .have b:j / 2<(replicate n ((0:aa),false)).length:=bT;obtain⟨h1,h2⟩:=Kl (replicate n ((0:aa),false)) (j / 2) b;simp only[getElem_replicate]at h1 h2;rcases Nat.mod_two_eq_zero_or_one j with h|h
  .have e:j / 2*2=j:=U;rw[e]at h1;rw[h1];simp[madeCells,a,Value.cells,h]
  have e:j / 2*2+1=j:=U;rw[e]at h2;rw[h2];simp[madeCells,a,Value.cells,h]
 rw[sN (by simp[madeCells];omega),sN (by show(my _).length<=j;rw[Xp,uN];omega)]
def K3(size first:J)(h1:1<=size)(h2:size<=4096)(f:first<=1073741824)(w:ai):aA 258 #[I size,I first] w λe w'=>e=aV #[.pointer (some (ad (w+1) 0 ab)),I 0]/\WinAt w' (w.heap.size+1) w.heap.size size first (replicate size (0,false))/\Below w w w'/\w'.heap.size=w.heap.size+2:=by
 have⟨i,aw,g,h,d⟩:=ny Sh;have hd:decide (1<=(size:aa)/\(size:aa)<=4096)=true:=bT;have b:=run_make (P:=prog) w 415 422 i (aQ #[(aF 0),false]) underlying415 aw g .i64 .i64 size size U (jw _) vd U;rw[h,rq,Xr]at b;have⟨Z,a⟩:=cO (replicate size ((0:aa),false));have c:=af a;rw[<-a]at b;rw[<-a];clear a
 go_in
 go_wp2_with fail;refine bA (yU size w) ?_;rw[hd];go_wp2;go_ret2;refine⟨rfl,⟨?_,?_,by rw[c.o];simp,h1,h2,f,U⟩,((b3 _ w).alloc bs _).alloc aK _,aK⟩
 .have:=aX (w.alloc (ae (my Z).toArray 422)) (ae #[I first,aq (some (ad w 0 ab)) size size] 417)
  simpa using this
 have:=cm (aX w (ae (my Z).toArray 422)) (ae #[I first,aq (some (ad w 0 ab)) size size] 417)
 simpa using this
section
attribute [local go_sem] Oper.semAt_some
def pU(S:ah (aa×aY))(size f:J):aY:=decide (f<=1073741824)&&((S[f%size]?).map (·.2)).getD false
def jL(S:ah (aa×aY))(size first:J)(fr:aa)(k:J):ah J:=((range k).map (first+·)).filter λf=>decide (fr<=(f:aa))&&pU S size f
def A5(S:ah (aa×aY))(size first:J)(fr:aa)(k:J):jL S size first fr (k+1)=jL S size first fr k++if (decide (fr<=((first+k:J):aa))&&pU S size (first+k))=true then [first+k]else []:=by
 unfold jL;exact NY
def QU(S:ah (aa×aY))(size first:J)(fr:aa)(k:J)(hk:k<size)(h:(decide (fr<=((first+k:J):aa))&&pU S size (first+k))=true):∃ rest,jL S size first fr size=jL S size first fr k++(first+k) :: rest:=by
 have:∀ d,∃ rest,jL S size first fr (k+1+d)=jL S size first fr k++(first+k) :: rest:=by
  intro d
  induction d with
  | zero=>exact⟨[],by rw[rC,A5,if_pos h]⟩
  | succ d b=>
   have⟨r,a⟩:=b;exact⟨r++_,by rw[<-ih,A5,a,dD,kF]⟩
 have⟨r,a⟩:=this (size-(k+1));exact⟨r,by rw[<-a];congr 1;omega⟩
section
variable{w w':ai}{r B size first:J}{S:ah (aa×aY)}
def YX(r:J)(f:aa)(w:ai):aA 290 #[r,I f] w λe w'=>e=.returned (.func (.func 330) #[] #[w.heap.size,.pointer (some (ad (w+1) 0 ab))])/\(w.alloc (ae #[r] 165)).alloc (ae #[I f] 3)=w':=by
 go_in
 go_wp2;go_ret;exact⟨rfl,rfl⟩
def RS(h:WinAt w r B size first S)(n:J):pU S size n=(decide (n<=1073741824)&&(S[n%size]'(xg)).2):=by
 unfold pU;rw[gl xg];rfl
def QS(h:WinAt w r B size first S)(s m:J)(fr:aa)(al:w.cell? (ad s 0 ab)=some (.pointer (some (ad r 0 ab))))(lb:w.cell? (ad m 0 ab)=some (I fr))(y:J->ak)(C:¬ y s/\¬ y m/\¬ y r/\¬ y B)(vl:s<w.heap.size/\m<w.heap.size):pI prog 330 #[s,m] (λf:J=>#[I f]) (jL S size first fr size) y (λ_=>False) w:=by
 intro l Y W mv hk w' u g' a';subst mv;have j9:=bP h.head;have ys:=bP h.body;have bO:=h.fst;have sd:=h.most;refine gK.2 ?_;have h2:=hk.cell al id;have K:=h.keeps hk id id;have s':=K.bY
 go_in
 go_wp2_with fail
 go_loopw [14] (λv wr=>∃ k:J,k<=size/\v=I k/\wr.cell? (ad s 0 ab)=some (.pointer (some (ad r 0 ab)))/\wr.cell? (ad m 0 ab)=some (I fr)/\WinAt wr r B size first S/\Y (jL S size first fr k) wr/\w.heap.size+2<=wr.heap.size)
  (λv _=>size-(intOf v).toNat)
 case atStart=>exact⟨0,c' _,rfl,h2,hk.cell lb id,K,by simpa[jL]using a',U⟩
 obtain⟨k,v',rfl,i,j,a,c,x⟩:=hrel;by_cases m':k<size
 .have bt:=a.bt;have t:=A5 S size first fr k
  have E:=RS a (first+k);have D:(first:aa)+(k:aa)=((first+k:J):aa):=U;by_cases hd:1073741824<first+k
  .have M:=af (C6 a ((first:aa)+k) s4 U);have aJ:pU S size (first+k)=false:=by rw[E];simp;omega
   rw[aJ,Dm,az aK,e4]at t;have d:=af t;clear aJ E t D hd;by_cases l':fr<=(first:aa)+k
   .go_wp2_with fail;refine M.o.mono ?_;exact Nf
   go_wp2_with fail;refine M.out.mono ?_;exact Nf
  obtain⟨b,z⟩:∃ b,(first+k)%size=b:=⟨_,rfl⟩;have V:b<S.length:=by rw[a.fG,<-z];exact e2 _ a.pos
  have F:=af (zg a (first+k) b ((first:aa)+k) D s4 z);have an:S[b]?=some ((S[b].1:aa),S[b].2):=gl V;have⟨_,s1⟩:=a.slot an;have aJ:pU S size (first+k)=S[b].2:=by rw[E];simp only[z];rw[show decide (first+k<=1073741824)=true from ee U,sL]
  have H:=QU S size first fr k m'
  rw[aJ]at t H;generalize S[b].2=Z at *;have X:=af H;have d:=af t;have g:=af D;clear H t E aJ an z D;by_cases l':fr<=(first:aa)+k
  .cases Z with
   | false=>
    go_wp2_with fail;refine F.out.mono ?_;rintro e aC ⟨rfl,q,rfl⟩;exact Nc
   | true=>
    go_wp2_with fail;refine F.out.mono ?_;rintro e aC ⟨rfl,q,rfl⟩;have gf:=u _ _ _ c ((Keeps.refl _ wr).drewN q);obtain⟨rest,G⟩:=X.out (by simp;have:=g.out;omega);obtain⟨fn,tmps,assign,body,N,L⟩:=g' (jL S size first fr k) (first+k) rest (wr.drewN q) G gf;have ps:=af G;clear G;rw[<-g.out]at N;go_upto_region 6 with fail
    refine(oz (n:=0)).1 ?_;gi_wp2;refine⟨rfl,L.mono ?_⟩;rintro e r' ⟨rfl,O,A⟩;clear N L;have R:=A.cell (p:=ad s 0 ab) i (λh=>h.elim C.1 (λh=>mK));have T:=A.cell (p:=ad m 0 ab) j (λh=>h.elim C.2.1 (λh=>mK));have P:=(a.drew q).keeps A (λh=>h.elim C.2.2.1 a7) (λh=>h.elim C.2.2.2 a7);have Q:=A.size;gi_wp2;exact Nv
  go_wp2_with fail;refine F.out.mono ?_;rintro e aC ⟨rfl,q,rfl⟩;exact M'
 have he:k=size:=U;subst he;go_wp2_with fail;go_end0;exact⟨⟨_,rfl⟩,c⟩
end
end
def h9(L:ah J):ah aa:=L.map λf:J=>(f:aa)
def QT(S:ah (aa×aY))(size first:J)(fr:aa)(k:J):(jL S size first fr k).length<=k:=by
 exact b7 (mH _ _) aK
section
variable{w w':ai}{r B size first:J}{S:ah (aa×aY)}
def YV(h:WinAt w r B size first S)(fr:aa):aA 78 #[.func (.func 330) #[] #[w.heap.size,.pointer (some (ad (w+1) 0 ab))]] ((w.alloc (ae #[r] 165)).alloc (ae #[I fr] 3)) λe w'=>
   ∃ v,e=.returned v/\w'.ownsRow (w.heap.size+5) 3 1 v (jL S size first fr size).length (k1 (h9 (jL S size first fr size)))/\Below w w w':=by
 obtain⟨aC,a⟩:∃ aC,(w.alloc (ae #[r] 165)).alloc (ae #[I fr] 3)=aC:=⟨_,rfl⟩;have hk:Keeps aI w aC:=by rw[<-a];exact((Keeps.refl _ w).alloc _).alloc _
 have av:aC.heap.size=w.heap.size+2:=by rw[<-a];simp
 have al:aC.cell? (ad w 0 ab)=some (.pointer (some (ad r 0 ab))):=by rw[<-a];exact qK (nS _ _ _) _
 have d:aC.cell? (ad (w+1) 0 ab)=some (I fr):=by rw[<-a];have:=nS (w.alloc (ae #[r] 165)) (I fr) 3;rw[fK]at this;exact this
 have j9:=bP h.head;have g:=bP h.body;rw[a]
 have aj:=JZ (w:=aC) (λf:J=>(f:aa)) 330 #[w.heap.size,.pointer (some (ad (w+1) 0 ab))] (enters_of func330 aH rfl) (jL S size first fr size) (b7 (QT _ _ _ _ _) h.most)
  (QS ((h.keeps hk id id).keeps ((ba aC).alloc _) id id) w.heap.size (w.heap.size+1) fr (qK al _) (qK d _) _ ⟨U,U,U,U⟩ ⟨bT,bT⟩)
 rw[av]at aj;exact aj.mono λe w' ⟨v,h1,b,c⟩=>⟨v,h1,b,(hk.below bs (λ_ _=>id)).trans (c.mono U)⟩
def YR(h:WinAt w r B size first S):aA 225 #[r] w λe w'=>
   ∃ v,e=.returned v/\w'.ownsRow (w.heap.size+5) 3 1 v (jL S size first 0 size).length (k1 (h9 (jL S size first 0 size)))/\Below w w w':=by
 go_in
 go_wp2_with fail;refine bA (YX r 0 w) ?_;go_wp2_with fail;refine(YV h 0).mono ?_;rintro e bm ⟨v,rfl,h1,h2⟩;go_wp2;go_ret;exact⟨_,rfl,h1,h2⟩
end
section
structure Slots(S:ah (aa×aY))(size first:J)(L:ah (J×aa)):ak where
 fG:S.length=size
 pos:0<size
 dL:pC L
 gG:∀ p∈L,first<=p.1/\p.1<first+size/\p.1<=1073741824
 mA:∀ f x,dE L f=some x->S[f%size]?=some (x,true)
 k7:∀ f,first<=f->f<first+size->f<=1073741824->dE L f=none->∃ y,S[f%size]?=some (y,false)
def kY(S:ah (aa×aY))(size:J)(a:ah J):ah (aa×aY):=a.foldl (λS f=>S.set (f%size) (0,false)) S
def PV(S:ah (aa×aY))(size:J)(a:ah J):(kY S size a).length=S.length:=by
 unfold kY
 induction a generalizing S with
 | nil=>rfl
 | cons f a b=>rw[oC,b];simp
def PW(S:ah (aa×aY))(size:J)(a:ah J)(f:J):kY S size (a++[f])=(kY S size a).set (f%size) (0,false):=by
 unfold kY;rw[nB];rfl
def BP{size first a b:J}(bd:first<=a/\a<first+size)(aj:first<=b/\b<first+size)(h:a%size=b%size):a=b:=by
 have h1:=pr a size;have h2:=pr b size;rw[h]at h1;rcases Nat.lt_trichotomy (a / size) (b / size)with c|c|c
 .have:=zR size c
  rw[Nat.mul_succ]at this;omega
 .rw[c]at h1;omega
 have:=zR size c
 rw[Nat.mul_succ]at this;omega
def Gv(S:ah (aa×aY))(size first:J)(a:ah J)(av:S.length=size)(b:∀ f∈a,first<=f/\f<first+size)(g:J)(aZ:first<=g/\g<first+size):(kY S size a)[g%size]?=if g∈a then some (0,false)else S[g%size]?:=by
 have au:0<size:=U
 induction a generalizing S with
 | nil=>rfl
 | cons f a c=>
  have e:kY S size (f :: a)=kY (S.set (f%size) (0,false)) size a:=rfl;exact MR
def BI{α:Type}{L:ah (J×α)}{f:J}(h:∀ p∈L,p.1≠f):dE L f=none:=by
 rcases a:dE L f with _|x
 .rfl
 exact absurd rfl (h _ (tV a))
namespace Slots
variable{S:ah (aa×aY)}{size first:J}{L:ah (J×aa)}
def put(h:Slots S size first L)(f:J)(x:aa)(a:first<=f/\f<first+size/\f<=1073741824):Slots (S.set (f%size) (x,true)) size first (e7 L f x) where
 fG:=by simpa using h.fG
 pos:=h.pos
 dL:=FA h.dL f x
 gG p au:=by
  rcases BN au with rfl|au
  .exact a
  exact h.gG p au
 mA g y aZ:=by
  exact MS
 k7 g h1 h2 b aZ:=by
  exact Nl
def has(h:Slots S size first L)(f:J)(h1:first<=f)(h2:f<first+size):pU S size f=(dE L f).isSome:=by
 unfold pU;exact M9
def tE(h:Slots S size first L)(fr:aa):jL S size first fr size=(L.map (·.1)).filter λf:J=>decide (fr<=(f:aa)):=by
 exact M4
def drop(h:Slots S size first L)(p:J->aY):Slots (kY S size ((L.map (·.1)).filter p)) size first (L.filter λq=>!p q.1):=by
 have g:∀ f∈(L.map (·.1)).filter p,first<=f/\f<first+size:=λf a=>by
  exact NV
 have d:∀ f,f∈(L.map (·.1)).filter p↔(dE L f).isSome=true/\p f=true:=λf=>by
  exact M5
 refine⟨by rw[PV,h.fG],h.pos,Fz h.dL _,λq b=>h.gG q (eR.1 b).1,λf x a=>?_,λf h1 h2 e a=>?_⟩
 .rw[yx (p:=λn=>!p n)]at a;split at a
  .rename_i au;have aw:=h.gG _ (tV a);rw[Gv S size first _ h.fG g f ⟨aw.1,aw.2.1⟩,az (λc=>by have:=((d f).1 c).2;simp[this]at au)];exact h.mA f x a
  cases a
 rw[Gv S size first _ h.fG g f ⟨h1,h2⟩];exact M1
def move(h:Slots S size first L)(n:J)(ar:first<=n)(a:∀ p∈L,n<=p.1):Slots S size n L where
 fG:=h.fG
 pos:=h.pos
 dL:=h.dL
 gG p au:=⟨a p au,by have:=h.gG p au;omega,(h.gG p au).2.2⟩
 mA:=h.mA
 k7 f h1 h2 c g:=by
  by_cases k:f<first+size
  .exact h.k7 f U k c g
  have au:=h.pos;have e:=pr (f-first) size;have hm:=e2 (f-first) au;generalize o:(f-first)%size=gy at *;generalize (f-first) / size=d at *;have hd:0<d:=by
   exact L1
  have j:=zR size hd;rw[zS]at j;have i:f=first+gy+size*d:=U
  have l:f%size=(first+gy)%size:=by rw[i,LI]
  rw[l];refine h.k7 (first+gy) U U U (BI λp b m=>?_)
  have:=a p b
  omega
end Slots
end
def gQ{α:Type}:ah (J×α)->aa->Option α
 | [],_=>none
 | (g,y) :: r,f=>if (g:aa)=f then some y else gQ r f
def tU{α:Type}(L:ah (J×α))(n:J):gQ L (n:aa)=dE L n:=by
 induction L with
 | nil=>rfl
 | cons c L a=>
  have⟨g,y⟩:=c;simp only[gQ,dE,a];by_cases h:g=n
  .rw[aD U,aD h]
  rw[az U,az h]
def It{α:Type}{L:ah (J×α)}{f:aa}(h:∀ p∈L,((p.1:J):aa)≠f):gQ L f=none:=by
 induction L with
 | nil=>rfl
 | cons c L a=>
  have⟨g,y⟩:=c;simp only[gQ];rw[az (h (g,y) aK),a (λp au=>h p (by simp[au]))]
end Go.Proofs.YtalagblioepadaaGreatDoor
