/- The proof, part 16. -/
import Derived.Test.YtalagblioepadaaGreatDoorZb14
namespace Go.Proofs.YtalagblioepadaaGreatDoor
set_option linter.all false
open Proofs.Tryz List Go.RowKit
set_option maxRecDepth 100000
set_option maxHeartbeats 1600000
def sQ{p:ak}(h:p:=by unfold e8;omega):p:=h
def wX{p:ak}(h:p:=by rw[h.fC];exact eW _ h.pos):p:=h
def L7{p:ak}(h:p:=by rw[d.out];exact u _ _ _ c ((Keeps.refl _ wr).drewN q)):p:=h
def Mj{p:ak}(h:p:=by
 rw[e,c _ (by simpa using ax) (λx d=>b x (by simp[d]))];by_cases h1:g∈a
 .rw[aD h1,aD (by simp[h1])]
 rw[aA h1];by_cases h2:g=f
 .subst h2;rw[aD aI,uw (by rw[ax];exact eW _ ar)]
 rw[aA (by simp[h1,h2]),p_ (λh=>h2 (Bq a1 (b f aI) h.symm))]
 ):p:=h
def Mk{p:ak}(h:p:=by
 rw[H0]at a1;split at a1
 .rename_i e;subst e;cases a1;rw[uw wX]
 rename_i e;have av:=h.gz _ (tF a1);rw[p_ (λc=>e (Bq (first:=first) ⟨av.1,av.2.1⟩ ⟨a.1,a.2.1⟩ c.symm))];exact h.mi g y a1
 ):p:=h
def Mt{p:ak}(h:p:=by
 split
 .exact⟨_,rfl⟩
 rename_i au;rw[yb (p:=λn=>!p n)]at a;split at a
 .exact h.kU f h1 h2 e a
 rename_i ar;rcases i:dB L f with _|x
 .exact h.kU f h1 h2 e i
 exact absurd ((d f).2 ⟨by rw[i];rfl,by simpa using ar⟩) au
 ):p:=h
def Mv{p:ak}(h:p:=by
 rw[<-Gv h.ef first size (λp ar=>⟨(h.gz p ar).1,(h.gz p ar).2.1⟩)];rw[filter_filter];refine wD λf a=>?_;obtain⟨i,av,rfl⟩:=fu.1 a;have av:=ph.1 av;rw[h.has (first+i) U U]
 ):p:=h
def Mw{p:ak}(h:p:=by
 rw[fR,fu];constructor
 .rintro⟨⟨q,b,rfl⟩,ar⟩;exact⟨by rw[Bn h.ef (x:=q.2) b];rfl,ar⟩
 rintro⟨ax,ar⟩;obtain⟨x,j⟩:=Dz.1 ax;exact⟨⟨_,tF j,rfl⟩,ar⟩
 ):p:=h
def MA{p:ak}(h:p:=by
 by_cases a:f<=1073741824
 .rcases b:dB L f with _|x
  .have⟨y,c⟩:=h.kU f h1 h2 a b;rw[c];simp
  rw[h.mi f x b];simp[a]
 rw[Bk (L:=L) (f:=f) (λp ar e=>a (by have:=(h.gz p ar).2.2;omega))];simp[a]
 ):p:=h
def MC{p:ak}(h:p:=by
 go_wp2_with fail;go_roundw
 case rel=>exact⟨k+1,U,by go_num,i,j,a.drew q,by rw[d.out,aA (by have:=g.out;simp;omega),eX];exact u _ _ _ c ((Keeps.refl _ wr).drewN q),x⟩
 simp[intOf];omega
 ):p:=h
def MF{p:ak}(h:p:=by
 go_wp2_with fail;go_roundw
 case rel=>exact⟨k+1,U,by go_num,i,j,a.drew q,by rw[d.out,CY,aA aI,eX];exact u _ _ _ c ((Keeps.refl _ wr).drewN q),x⟩
 simp[intOf];omega
 ):p:=h
def MH{p:ak}(h:p:=by
 rintro e aB ⟨rfl,q,rfl⟩;go_wp2_with fail;go_roundw
 case rel=>exact⟨k+1,U,by go_num,i,j,a.drew q,L7,x⟩
 simp[intOf];omega
 ):p:=h
def MN{p:ak}(h:p:=by
 rw[H0]at a1;split at a1
 .cases a1
 rename_i e;rw[p_ (λc=>e (Bq (first:=first) ⟨h1,h2⟩ ⟨a.1,a.2.1⟩ c.symm))];exact h.kU g h1 h2 b a1
 ):p:=h
def MW{p:ak}(h:p:=by
 go_wp2;go_roundw
 case rel=>exact⟨k+1,U,by go_num,R,T,P,by rw[d.out,aD (by have:=g.out;simp;omega)];exact O,b7 x Q⟩
 simp[intOf];omega
 ):p:=h
def Nl{p:ak}(h:p:=by
 obtain⟨q,b,rfl⟩:=fu.1 (fR.1 a).1;exact⟨(h.gz q b).1,(h.gz q b).2.1⟩
 ):p:=h
def Np{p:ak}(h:p:=by
 rw[q',jO,q5,zn,filter_cons,zj]
 ):p:=h
def Nt{p:ak}(h:p:=by
 go_wp2_with fail;refine d.out.mono ?_;rintro e w' ⟨rfl,q,rfl⟩;go_wp2;go_ret2;exact⟨rfl,_,rfl⟩
 ):p:=h
def Ls{p:ak}(h:p:=by
 rcases rf d with hd|hd
 .subst hd;rw[Nat.mul_zero]at e;omega
 exact hd
 ):p:=h
def uF{p:ak}(h:p:=by
 go_wp2;go_quiet (fail);go_wp2;go_ret;exact⟨rfl,_,rfl⟩
 ):p:=h
section
def mg(S:ah (aa×aY)):ah aw:=S.flatMap λp=>[(aF p.1),.bool p.2]
def WO(S:ah (aa×aY)):(mg S).length=S.length*2:=by
 induction S with
 | nil=>rfl
 | cons c S a=>simp only[mg,iL,sC,pg,e2]at a⊢;omega
def JT(S:ah (aa×aY))(i:J)(h:i<S.length):(mg S)[i*2]?=some (aF (S[i].1))/\(mg S)[i*2+1]?=some (.bool S[i].2):=by
 induction S generalizing i with
 | nil=>exact absurd h (k7 _)
 | cons c S a=>
  simp only[mg,iL]at a⊢;cases i with
  | zero=>simp
  | succ i=>
   have:=a i h8
   simp only[jQ,wF,ku,oi];exact this
def WQ(S:ah (aa×aY))(i:J)(x:aa)(b:aY):((mg S).set (i*2) (aF x)).set (i*2+1) (.bool b)=mg (S.set i (x,b)):=by
 induction S generalizing i with
 | nil=>rfl
 | cons c S a=>
  cases i with
  | zero=>rfl
  | succ i=>
   have h:=a i;simp only[mg,iL,jQ,ku,oi,wL]at h⊢;rw[h]
structure WinAt(w:ai)(r B size first:J)(S:ah (aa×aY)):ak where
 head:w.heap[r]?=some (ae #[I first,ao (some (ad B 0 ab)) size size] 417 (0,0))
 body:w.heap[B]?=some (ae (mg S).toArray 422 (0,0))
 fC:S.length=size
 pos:0<size
 most:size<=4096
 fst:first<=1073741824
 ne:r≠B
namespace WinAt
variable{w w':ai}{r B size first:J}{S:ah (aa×aY)}
theorem keeps{T:J->ak}(h:WinAt w r B size first S)(hk:Keeps T w w')(h1:¬ T r)(h2:¬ T B):WinAt w' r B size first S:=
 ⟨hk.heap h.head h1,hk.heap h.body h2,h.fC,h.pos,h.most,h.fst,h.ne⟩
def drew(h:WinAt w r B size first S)(n:J):WinAt (w.drewN n) r B size first S:=⟨h.head,h.body,h.fC,h.pos,h.most,h.fst,h.ne⟩
def bu(h:WinAt w r B size first S):w.cell? (ad r 0 ab)=some (I first):=bb h.head rfl
def b0(h:WinAt w r B size first S):w.cell? (ad r 1 ab)=some (ao (some (ad B 0 ab)) size size):=bb h.head rfl
end WinAt
def e8(first size:J)(f:aa):ak:=(first:aa)<=f/\f<first+size/\f<=1073741824
section
variable{w w':ai}{r B size first:J}{S:ah (aa×aY)}
def CE(h:WinAt w r B size first S)(f:aa)(a:¬ e8 first size f)(j:-9223372036854775808<=f/\f<=9223372036854775807):az 291 #[r,I f] w λe w'=>e=.returned (.pointer none)/\∃ q,w'=w.drewN q:=by
 have bu:=h.bu;have b0:=h.b0;have bP:=h.fst;have g:=h.most;unfold e8 at a;by_cases h1:f<first
 .clear a
  go_in
  exact uF
 by_cases h2:f<first+size
 .have i:1073741824<f:=U;have b:f-first<size:=U
  have c:(first:aa)<=f:=U;have d:IntKind.i64.wrap (f-first)=f-first:=et _ U
  clear a
  go_in
  exact uF
 have b:(size:aa)<=f-first:=U
 have c:(first:aa)<=f:=U;have d:IntKind.i64.wrap (f-first)=f-first:=et _ U
 clear a
 go_in
 go_wp2;go_quiet (fail);go_wp2;go_ret;exact⟨rfl,_,rfl⟩
def yW(h:WinAt w r B size first S)(n k:J)(f:aa)(a:f=n)(b:e8 first size f)(hk:n%size=k):az 291 #[r,I f] w λe w'=>e=.returned (.pointer (some (ad B (k*2) ab)))/\∃ q,w'=w.drewN q:=by
 have bu:=h.bu;have b0:=h.b0;have bP:=h.fst;have c:=h.most;have⟨h1,h2,g⟩:=b;have i:f-first<size:=U
 have l:IntKind.i64.wrap (f-first)=f-first:=et _ U
 have j:k<size:=hk▸eW _ h.pos;have aN:f.tmod (size:aa)=(k:aa):=by
  rw[a,pf U,<-hk];simp
 have m:((size:aa) == 0)=false:=by have:=h.pos;rw[er];omega
 have d:0<=f:=U;clear hk a
 go_in
 go_wp2;go_quiet (fail);go_wp2;go_quiet (fail);go_wp2;go_ret;exact⟨rfl,_,by rw[C7]⟩
def Yc(h:WinAt w r B size first S):az 342 #[r] w λe w'=>e=.returned (I first)/\w=w':=by
 have bu:=h.bu
 go_in
 go_wp2;go_ret;exact⟨rfl,rfl⟩
end
end
section
variable{w w':ai}{r B size first:J}{S:ah (aa×aY)}
def WinAt.slot(h:WinAt w r B size first S){k:J}{x:aa}{b:aY}(hk:S[k]?=some (x,b)):w.cell? (ad B (k*2) ab)=some (aF x)/\w.cell? (ad B (k*2+1) ab)=some (.bool b):=by
 have⟨a,c⟩:=hf.1 hk;have⟨h1,h2⟩:=JT S k a;rw[c]at h1 h2;exact⟨bb h.body (by simpa using h1),bb h.body (by simpa using h2)⟩
theorem WinAt.wb(h:WinAt w r B size first S)(k:J)(x:aa)(b:aY):WinAt ((w.setCell (ad B (k*2) ab) (aF x)).setCell (ad B (k*2+1) ab) (.bool b)) r B size first (S.set k (x,b)):=
 ⟨eO (eO h.head h.ne _) h.ne _,by have:=bW (bW h.body (k*2) (aF x)) (k*2+1) (.bool b);rw[<-WQ];simpa using this,by simpa using h.fC,h.pos,h.most,h.fst,h.ne⟩
def Ye(h:WinAt w r B size first S)(f:aa)(a:¬ e8 first size f)(b:-9223372036854775808<=f/\f<=9223372036854775807):az 226 #[r,I f] w λe w'=>e=aV #[(aF 0),false]/\∃ q,w'=w.drewN q:=by
 have c:=af (CE h f a b);clear a b
 go_in
 go_wp2_with fail;refine c.o.mono ?_;rintro e w' ⟨rfl,q,rfl⟩;go_wp2;go_ret2;exact⟨rfl,_,rfl⟩
def Kw(h:WinAt w r B size first S)(n k:J)(f:aa)(c:f=n)(a:e8 first size f)(hk:n%size=k)(x:aa)(b:aY)(al:S[k]?=some (x,b)):az 226 #[r,I f] w λe w'=>e=aV #[if b then(aF x)else(aF 0),.bool b]/\∃ q,w'=w.drewN q:=by
 have d:=af (yW h n k f c a hk);have⟨fo,s1⟩:=h.slot al;clear c a hk al;cases b with
 | true=>
  go_in
  exact Nt
 | false=>
  go_in
  exact Nt
def Yg(h:WinAt w r B size first S)(f:aa)(b:¬ e8 first size f)(c:-9223372036854775808<=f/\f<=9223372036854775807)(x:aa):az 248 #[r,I f,(aF x)] w λe w'=>e=.returned (I (if f<first then 10 else 8))/\∃ q,w'=w.drewN q:=by
 have a:=af (CE h f b c);have bu:=h.bu;clear b c;by_cases h1:f<first
 .rw[aD h1]
  go_in
  go_wp2_with fail;refine a.o.mono ?_;rintro e w' ⟨rfl,q,rfl⟩;go_wp2;go_ret;exact⟨rfl,_,rfl⟩
 rw[aA h1]
 go_in
 go_wp2_with fail;refine a.out.mono ?_;rintro e w' ⟨rfl,q,rfl⟩;go_wp2;go_ret;exact⟨rfl,_,rfl⟩
def Yf(h:WinAt w r B size first S)(n k:J)(f:aa)(c:f=n)(a:e8 first size f)(hk:n%size=k)(y:aa):az 248 #[r,I f,(aF y)] w λe w'=>e=.returned (I 0)/\WinAt w' r B size first (S.set k (y,true))/\Keeps (λb=>b=B) w w':=by
 have d:=af (yW h n k f c a hk);have bu:=h.bu;have g:k<S.length:=by rw[h.fC,<-hk];exact eW _ h.pos
 have⟨fo,s1⟩:=h.slot (k:=k) (x:=S[k].1) (b:=S[k].2) (gb g);have g0:=fJ h.body (k*2);have g1:=fJ h.body (k*2+1);have h1:=a.1;clear c a hk
 go_in
 go_wp2_with fail;refine d.o.mono ?_;rintro e w' ⟨rfl,q,rfl⟩;go_wp2;go_ret;exact⟨rfl,(h.drew q).wb k y true,(((Keeps.refl (λb=>b=B) w).drewN q).setCell (p:=ad B (k*2) ab) rfl _).setCell (p:=ad B (k*2+1) ab) rfl _⟩
end
def RG:(prog.info? 422).map (λi=>(i.zero,i.size,i.bytes))=some (some (aM #[(aF 0),false]),2,2):=aH
def WR(n:J):madeCells (aM #[(aF 0),false]).cells (n*2)=(mg (replicate n ((0:aa),false))).toArray:=by
 apply CX.1;apply ext_getElem?;intro j;by_cases a:j<n*2
 .have b:j / 2<(replicate n ((0:aa),false)).length:=bU;obtain⟨h1,h2⟩:=JT (replicate n ((0:aa),false)) (j / 2) b;simp only[getElem_replicate]at h1 h2;rcases Nat.mod_two_eq_zero_or_one j with h|h
  .have e:j / 2*2=j:=U;rw[e]at h1;rw[h1];simp[madeCells,a,Value.cells,h]
  have e:j / 2*2+1=j:=U;rw[e]at h2;rw[h2];simp[madeCells,a,Value.cells,h]
 rw[sB (by simp[madeCells];omega),sB (by show(mg _).length<=j;rw[WO,uy];omega)]
def Kx(size first:J)(h1:1<=size)(h2:size<=4096)(f:first<=1073741824)(w:ai):az 258 #[I size,I first] w λe w'=>e=aV #[.pointer (some (ad (w+1) 0 ab)),I 0]/\WinAt w' (w.heap.size+1) w.heap.size size first (replicate size (0,false))/\Below w w w'/\w'.heap.size=w.heap.size+2:=by
 have⟨i,av,g,h,d⟩:=ng RG;have hd:decide (1<=(size:aa)/\(size:aa)<=4096)=true:=bU;have b:=run_make (P:=prog) w 415 422 i (aM #[(aF 0),false]) underlying415 av g .i64 .i64 size size U (jm _) uQ U;rw[h,q4,WR]at b;have⟨Z,a⟩:=cQ (replicate size ((0:aa),false));have c:=af a;rw[<-a]at b;rw[<-a];clear a
 go_in
 go_wp2_with fail;refine br (yy size w) ?_;rw[hd];go_wp2;go_ret2;refine⟨rfl,⟨?_,?_,by rw[c.o];simp,h1,h2,f,U⟩,((bY _ w).alloc bA _).alloc aI _,aI⟩
 .have:=aW (w.alloc (ae (mg Z).toArray 422)) (ae #[I first,ao (some (ad w 0 ab)) size size] 417)
  simpa using this
 have:=cm (aW w (ae (mg Z).toArray 422)) (ae #[I first,ao (some (ad w 0 ab)) size size] 417)
 simpa using this
section
attribute [local go_sem] Oper.semAt_some
def pG(S:ah (aa×aY))(size f:J):aY:=decide (f<=1073741824)&&((S[f%size]?).map (·.2)).getD false
def jA(S:ah (aa×aY))(size first:J)(fr:aa)(k:J):ah J:=((range k).map (first+·)).filter λf=>decide (fr<=(f:aa))&&pG S size f
def AK(S:ah (aa×aY))(size first:J)(fr:aa)(k:J):jA S size first fr (k+1)=jA S size first fr k++if (decide (fr<=((first+k:J):aa))&&pG S size (first+k))=true then [first+k]else []:=by
 unfold jA;exact Np
def Qj(S:ah (aa×aY))(size first:J)(fr:aa)(k:J)(hk:k<size)(h:(decide (fr<=((first+k:J):aa))&&pG S size (first+k))=true):∃ rest,jA S size first fr size=jA S size first fr k++(first+k) :: rest:=by
 have:∀ d,∃ rest,jA S size first fr (k+1+d)=jA S size first fr k++(first+k) :: rest:=by
  intro d
  induction d with
  | zero=>exact⟨[],by rw[re,AK,if_pos h]⟩
  | succ d b=>
   have⟨r,a⟩:=b;exact⟨r++_,by rw[<-iN,AK,a,dD,ku]⟩
 have⟨r,a⟩:=this (size-(k+1));exact⟨r,by rw[<-a];congr 1;omega⟩
section
variable{w w':ai}{r B size first:J}{S:ah (aa×aY)}
def Yj(r:J)(f:aa)(w:ai):az 290 #[r,I f] w λe w'=>e=.returned (.func (.func 330) #[] #[w.heap.size,.pointer (some (ad (w+1) 0 ab))])/\(w.alloc (ae #[r] 165)).alloc (ae #[I f] 3)=w':=by
 go_in
 go_wp2;go_ret;exact⟨rfl,rfl⟩
def Rg(h:WinAt w r B size first S)(n:J):pG S size n=(decide (n<=1073741824)&&(S[n%size]'(wX)).2):=by
 unfold pG;rw[gb wX];rfl
def Qh(h:WinAt w r B size first S)(s m:J)(fr:aa)(aq:w.cell? (ad s 0 ab)=some (.pointer (some (ad r 0 ab))))(lb:w.cell? (ad m 0 ab)=some (I fr))(y:J->ak)(C:¬ y s/\¬ y m/\¬ y r/\¬ y B)(v':s<w.heap.size/\m<w.heap.size):pt prog 330 #[s,m] (λf:J=>#[I f]) (jA S size first fr size) y (λ_=>False) w:=by
 intro l Y W m' hk ys u g' a';subst m';have j1:=bR h.head;have zd:=bR h.body;have bP:=h.fst;have s':=h.most;refine gD.2 ?_;have h2:=hk.cell aq id;have K:=h.keeps hk id id;have vl:=K.b0
 go_in
 go_wp2_with fail
 go_loopw [14] (λv wr=>∃ k:J,k<=size/\v=I k/\wr.cell? (ad s 0 ab)=some (.pointer (some (ad r 0 ab)))/\wr.cell? (ad m 0 ab)=some (I fr)/\WinAt wr r B size first S/\Y (jA S size first fr k) wr/\w.heap.size+2<=wr.heap.size)
  (λv _=>size-(intOf v).toNat)
 case atStart=>exact⟨0,c' _,rfl,h2,hk.cell lb id,K,by simpa[jA]using a',U⟩
 obtain⟨k,w',rfl,i,j,a,c,x⟩:=hrel;by_cases ps:k<size
 .have bu:=a.bu;have t:=AK S size first fr k
  have E:=Rg a (first+k);have D:(first:aa)+(k:aa)=((first+k:J):aa):=U;by_cases hd:1073741824<first+k
  .have M:=af (CE a ((first:aa)+k) sQ U);have aR:pG S size (first+k)=false:=by rw[E];simp;omega
   rw[aR,CY,aA aI,eX]at t;have d:=af t;clear aR E t D hd;by_cases l':fr<=(first:aa)+k
   .go_wp2_with fail;refine M.o.mono ?_;exact MH
   go_wp2_with fail;refine M.out.mono ?_;exact MH
  obtain⟨b,z⟩:∃ b,(first+k)%size=b:=⟨_,rfl⟩;have V:b<S.length:=by rw[a.fC,<-z];exact eW _ a.pos
  have F:=af (yW a (first+k) b ((first:aa)+k) D sQ z);have al:S[b]?=some ((S[b].1:aa),S[b].2):=gb V;have⟨_,s1⟩:=a.slot al;have aR:pG S size (first+k)=S[b].2:=by rw[E];simp only[z];rw[show decide (first+k<=1073741824)=true from ed U,sz]
  have H:=Qj S size first fr k ps
  rw[aR]at t H;generalize S[b].2=Z at *;have X:=af H;have d:=af t;have g:=af D;clear H t E aR al z D;by_cases l':fr<=(first:aa)+k
  .cases Z with
   | false=>
    go_wp2_with fail;refine F.out.mono ?_;rintro e aB ⟨rfl,q,rfl⟩;exact MF
   | true=>
    go_wp2_with fail;refine F.out.mono ?_;rintro e aB ⟨rfl,q,rfl⟩;have gf:=u _ _ _ c ((Keeps.refl _ wr).drewN q);obtain⟨rest,G⟩:=X.out (by simp;have:=g.out;omega);obtain⟨fn,tmps,assign,body,N,L⟩:=g' (jA S size first fr k) (first+k) rest (wr.drewN q) G gf;have r':=af G;clear G;rw[<-g.out]at N;go_upto_region 6 with fail
    refine(ob (n:=0)).1 ?_;gi_wp2;refine⟨rfl,L.mono ?_⟩;rintro e sd ⟨rfl,O,A⟩;clear N L;have R:=A.cell (p:=ad s 0 ab) i (λh=>h.elim C.1 (λh=>mx));have T:=A.cell (p:=ad m 0 ab) j (λh=>h.elim C.2.1 (λh=>mx));have P:=(a.drew q).keeps A (λh=>h.elim C.2.2.1 a7) (λh=>h.elim C.2.2.2 a7);have Q:=A.size;gi_wp2;exact MW
  go_wp2_with fail;refine F.out.mono ?_;rintro e aB ⟨rfl,q,rfl⟩;exact MC
 have he:k=size:=U;subst he;go_wp2_with fail;go_end0;exact⟨⟨_,rfl⟩,c⟩
end
end
def hW(L:ah J):ah aa:=L.map λf:J=>(f:aa)
def Qi(S:ah (aa×aY))(size first:J)(fr:aa)(k:J):(jA S size first fr k).length<=k:=by
 exact b7 (mv _ _) aI
section
variable{w w':ai}{r B size first:J}{S:ah (aa×aY)}
def Yh(h:WinAt w r B size first S)(fr:aa):az 78 #[.func (.func 330) #[] #[w.heap.size,.pointer (some (ad (w+1) 0 ab))]] ((w.alloc (ae #[r] 165)).alloc (ae #[I fr] 3)) λe w'=>
   ∃ v,e=.returned v/\w'.ownsRow (w.heap.size+5) 3 1 v (jA S size first fr size).length (kP (hW (jA S size first fr size)))/\Below w w w':=by
 obtain⟨aB,a⟩:∃ aB,(w.alloc (ae #[r] 165)).alloc (ae #[I fr] 3)=aB:=⟨_,rfl⟩;have hk:Keeps aG w aB:=by rw[<-a];exact((Keeps.refl _ w).alloc _).alloc _
 have ax:aB.heap.size=w.heap.size+2:=by rw[<-a];simp
 have aq:aB.cell? (ad w 0 ab)=some (.pointer (some (ad r 0 ab))):=by rw[<-a];exact qt (nB _ _ _) _
 have d:aB.cell? (ad (w+1) 0 ab)=some (I fr):=by rw[<-a];have:=nB (w.alloc (ae #[r] 165)) (I fr) 3;rw[fF]at this;exact this
 have j1:=bR h.head;have g:=bR h.body;rw[a]
 have aj:=Jx (w:=aB) (λf:J=>(f:aa)) 330 #[w.heap.size,.pointer (some (ad (w+1) 0 ab))] (enters_of func330 aH rfl) (jA S size first fr size) (b7 (Qi _ _ _ _ _) h.most)
  (Qh ((h.keeps hk id id).keeps ((a_ aB).alloc _) id id) w.heap.size (w.heap.size+1) fr (qt aq _) (qt d _) _ ⟨U,U,U,U⟩ ⟨bU,bU⟩)
 rw[ax]at aj;exact aj.mono λe w' ⟨v,h1,b,c⟩=>⟨v,h1,b,(hk.below bA (λ_ _=>id)).trans (c.mono U)⟩
def Yd(h:WinAt w r B size first S):az 225 #[r] w λe w'=>
   ∃ v,e=.returned v/\w'.ownsRow (w.heap.size+5) 3 1 v (jA S size first 0 size).length (kP (hW (jA S size first 0 size)))/\Below w w w':=by
 go_in
 go_wp2_with fail;refine br (Yj r 0 w) ?_;go_wp2_with fail;refine(Yh h 0).mono ?_;rintro e bn ⟨v,rfl,h1,h2⟩;go_wp2;go_ret;exact⟨_,rfl,h1,h2⟩
end
section
structure Slots(S:ah (aa×aY))(size first:J)(L:ah (J×aa)):ak where
 fC:S.length=size
 pos:0<size
 ef:pk L
 gz:∀ p∈L,first<=p.1/\p.1<first+size/\p.1<=1073741824
 mi:∀ f x,dB L f=some x->S[f%size]?=some (x,true)
 kU:∀ f,first<=f->f<first+size->f<=1073741824->dB L f=none->∃ y,S[f%size]?=some (y,false)
def kN(S:ah (aa×aY))(size:J)(a:ah J):ah (aa×aY):=a.foldl (λS f=>S.set (f%size) (0,false)) S
def Ph(S:ah (aa×aY))(size:J)(a:ah J):(kN S size a).length=S.length:=by
 unfold kN
 induction a generalizing S with
 | nil=>rfl
 | cons f a b=>rw[od,b];simp
def Pj(S:ah (aa×aY))(size:J)(a:ah J)(f:J):kN S size (a++[f])=(kN S size a).set (f%size) (0,false):=by
 unfold kN;rw[nj];rfl
def Bq{size first a b:J}(bj:first<=a/\a<first+size)(aj:first<=b/\b<first+size)(h:a%size=b%size):a=b:=by
 have h1:=o_ a size;have h2:=o_ b size;rw[h]at h1;rcases Nat.lt_trichotomy (a / size) (b / size)with c|c|c
 .have:=zx size c
  rw[Nat.mul_succ]at this;omega
 .rw[c]at h1;omega
 have:=zx size c
 rw[Nat.mul_succ]at this;omega
def F1(S:ah (aa×aY))(size first:J)(a:ah J)(ax:S.length=size)(b:∀ f∈a,first<=f/\f<first+size)(g:J)(a1:first<=g/\g<first+size):(kN S size a)[g%size]?=if g∈a then some (0,false)else S[g%size]?:=by
 have ar:0<size:=U
 induction a generalizing S with
 | nil=>rfl
 | cons f a c=>
  have e:kN S size (f :: a)=kN (S.set (f%size) (0,false)) size a:=rfl;exact Mj
def Bk{α:Type}{L:ah (J×α)}{f:J}(h:∀ p∈L,p.1≠f):dB L f=none:=by
 rcases a:dB L f with _|x
 .rfl
 exact absurd rfl (h _ (tF a))
namespace Slots
variable{S:ah (aa×aY)}{size first:J}{L:ah (J×aa)}
def put(h:Slots S size first L)(f:J)(x:aa)(a:first<=f/\f<first+size/\f<=1073741824):Slots (S.set (f%size) (x,true)) size first (eY L f x) where
 fC:=by simpa using h.fC
 pos:=h.pos
 ef:=E8 h.ef f x
 gz p ar:=by
  rcases Bo ar with rfl|ar
  .exact a
  exact h.gz p ar
 mi g y a1:=by
  exact Mk
 kU g h1 h2 b a1:=by
  exact MN
def has(h:Slots S size first L)(f:J)(h1:first<=f)(h2:f<first+size):pG S size f=(dB L f).isSome:=by
 unfold pG;exact MA
def tp(h:Slots S size first L)(fr:aa):jA S size first fr size=(L.map (·.1)).filter λf:J=>decide (fr<=(f:aa)):=by
 exact Mv
def drop(h:Slots S size first L)(p:J->aY):Slots (kN S size ((L.map (·.1)).filter p)) size first (L.filter λq=>!p q.1):=by
 have g:∀ f∈(L.map (·.1)).filter p,first<=f/\f<first+size:=λf a=>by
  exact Nl
 have d:∀ f,f∈(L.map (·.1)).filter p↔(dB L f).isSome=true/\p f=true:=λf=>by
  exact Mw
 refine⟨by rw[Ph,h.fC],h.pos,E7 h.ef _,λq b=>h.gz q (fR.1 b).1,λf x a=>?_,λf h1 h2 e a=>?_⟩
 .rw[yb (p:=λn=>!p n)]at a;split at a
  .rename_i ar;have av:=h.gz _ (tF a);rw[F1 S size first _ h.fC g f ⟨av.1,av.2.1⟩,aA (λc=>by have:=((d f).1 c).2;simp[this]at ar)];exact h.mi f x a
  cases a
 rw[F1 S size first _ h.fC g f ⟨h1,h2⟩];exact Mt
def move(h:Slots S size first L)(n:J)(au:first<=n)(a:∀ p∈L,n<=p.1):Slots S size n L where
 fC:=h.fC
 pos:=h.pos
 ef:=h.ef
 gz p ar:=⟨a p ar,by have:=h.gz p ar;omega,(h.gz p ar).2.2⟩
 mi:=h.mi
 kU f h1 h2 c g:=by
  by_cases k:f<first+size
  .exact h.kU f U k c g
  have ar:=h.pos;have e:=o_ (f-first) size;have hm:=eW (f-first) ar;generalize o:(f-first)%size=gp at *;generalize (f-first) / size=d at *;have hd:0<d:=by
   exact Ls
  have j:=zx size hd;rw[zy]at j;have i:f=first+gp+size*d:=U
  have l:f%size=(first+gp)%size:=by rw[i,La]
  rw[l];refine h.kU (first+gp) U U U (Bk λp b m=>?_)
  have:=a p b
  omega
end Slots
end
def gL{α:Type}:ah (J×α)->aa->Option α
 | [],_=>none
 | (g,y) :: r,f=>if (g:aa)=f then some y else gL r f
def tE{α:Type}(L:ah (J×α))(n:J):gL L (n:aa)=dB L n:=by
 induction L with
 | nil=>rfl
 | cons c L a=>
  have⟨g,y⟩:=c;simp only[gL,dB,a];by_cases h:g=n
  .rw[aD U,aD h]
  rw[aA U,aA h]
def HZ{α:Type}{L:ah (J×α)}{f:aa}(h:∀ p∈L,((p.1:J):aa)≠f):gL L f=none:=by
 induction L with
 | nil=>rfl
 | cons c L a=>
  have⟨g,y⟩:=c;simp only[gL];rw[aA (h (g,y) aI),a (λp ar=>h p (by simp[ar]))]
end Go.Proofs.YtalagblioepadaaGreatDoor
