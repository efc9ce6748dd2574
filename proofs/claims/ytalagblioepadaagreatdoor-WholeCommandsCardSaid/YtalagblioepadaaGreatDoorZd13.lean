/- The proof, part 13. -/
import Derived.Test.YtalagblioepadaaGreatDoorZd10
import Derived.Test.YtalagblioepadaaGreatDoorZd03
import Derived.Deep.Cut
import Derived.OwnWalkIn
import Derived.TacticsInMore
import Derived.Shelf.Abstract
namespace Go.Proofs.YtalagblioepadaaGreatDoor
set_option linter.all false
open Proofs.Tryz List Go.RowKit
set_option maxRecDepth 100000
def Og{p:al}(h:p:=by
 go_wp2;have X:L.drop (j+k)=(c :: r).drop k:=by rw[<-O.out,mV]
 have ps:(B.setCell (ae f 0 ad) (aq m (r.length+1-k) (g-k))).cell? (ae f 0 ad)=some (aq m (r.length+1-k) (g-k)):=w8 _ _ _ m';have aav:j+(r.length+1)=L.length:=by have:=c5 length O.out;simp at this;omega
 have sd:Keeps (λk=>k=f) B (B.setCell (ae f 0 ad) (aq m (r.length+1-k) (g-k))):=(Keeps.refl (λk=>k=f) B).setCell (p:=ae f 0 ad) rfl _;refine⟨⟨j+k,m,g-k,pre++[(c,k)],U,?_,by rw[Me];exact r',?_,?_,?_,V _ _ _ l' sd,?_⟩,?_⟩
 .rw[ps,X,gg,dy]
 .rw[X];exact lb.keeps sd (λ_ x i=>(F x i).2.2)
 .intro x i;have⟨y,P,Q⟩:=g' x i;have⟨z,S,T⟩:=gf y P;exact⟨z,S,Q.trans T⟩
 .rw[X,G.out,runs,u.out];simp
 .have:=t.size;simp at this;simp;omega
 rw[s'];unfold uE;rw[ps];show r.length+1-k<r.length+1;omega
 ):p:=h
def N'{p:al}(h:p:=by
 intro x i;have⟨y,P,Q⟩:=g' x i;have⟨z,S,T⟩:=gf y P;rw[Q,T];exact Tq (λe=>by have h:=O.out;rw[e]at h;simp at h) z S
 ):p:=h
def Ob{p:al}(h:p:=by
 rw[u.out];exact(TS.keeps ((bb wr).drewN (q+nq)) (λ_ _ _ h=>h)).keeps t (λ_ x i h=>h.elim (F x i).2.1 (λh=>by have:=(F x i).1;omega))
 ):p:=h
def c'(w:aj)(a:b_ Addr)(cap:J)(L:ah aT):al:=
 L.length<=cap/\cap<=maxLen/\(L=[]\/∃ b o,a=some (ae b o ad)/\∀ i (h:i<L.length),w.cell? (ae b (o+i) ad)=some (er L[i]))
def U_(w:aj)(a:b_ Addr)(n cap:J):aA 268 #[aq a n cap] w λe w'=>e=.returned (.func (.func 312) #[] #[w.heap.size])/\w.alloc (af #[aq a n cap] 51)=w':=by
 go_in
 go_wp2;go_ret;exact⟨rfl,rfl⟩
def c'.keeps{A B:aj}{a:b_ Addr}{cap:J}{L:ah aT}{S:J->al}(h:c' A a cap L)(hk:Keeps S A B)(aw:L≠[]->∀ x,a=some x->¬ S x.block):c' B a cap L:=by
 have⟨h1,h2,d⟩:=h;refine⟨h1,h2,?_⟩;by_cases c:L=[]
 .exact .inl c
 obtain⟨b,o,rfl,an⟩:=d.resolve_left c;exact .inr ⟨b,o,rfl,λi ax=>hk.cell (an i ax) (aw c (ae b o ad) rfl)⟩
theorem c'.at'{w:aj}{a:b_ Addr}{cap:J}{L:ah aT}(h:c' w a cap L)(hne:L≠[]):∃ b o,a=some (ae b o ad)/\∀ i (ax:i<L.length),w.cell? (ae b (o+i) ad)=some (er L[i]):=
 h.2.2.resolve_left hne
def c'.lt{w:aj}{a:b_ Addr}{cap:J}{L:ah aT}(h:c' w a cap L)(hne:L≠[])(x:Addr)(c:a=some x):x.block<w.heap.size:=by
 obtain⟨b,o,rfl,an⟩:=h.at' hne;cases c
 have:=mU w _ (an 0 (qH.2 hne))
 exact this
theorem c'.drop{w:aj}{a:b_ Addr}{cap:J}{L:ah aT}(h:c' w a cap L)(n:J)(av:n<=L.length):∃ a',(∀ ao:aj,(Instr.slice 51 (aq a L.length cap) (some (I n)) none none).run prog ao=.ok (aq a' (L.length-n) (cap-n)) ao)/\c' w a' (cap-n) (L.drop n)/\(∀ x,a'=some x->∃ y,a=some y/\x.block=y.block):=by
 have⟨h1,h2,d⟩:=h;refine⟨if cap=n then a else a.map (·.add (n*1)),λao=>?_,⟨b1,U,?_⟩,?_⟩
 .rw[run_slice_l ao 51 a L.length cap underlying51 .i64 n U U];simp[go_sem,sliced]
 .rcases d with rfl|⟨b,o,rfl,an⟩
  .exact .inl aM
  by_cases e:n=L.length
  .exact .inl (by simp[e])
  refine .inr ⟨b,o+n,?_,λi ax=>?_⟩
  .rw[aB U];simp[ij]
  simp only[gg]at ax;rw[hZ,an (n+i) U];simp
 intro x c;split at c
 .exact⟨x,c,rfl⟩
 cases a with
 | none=>simp at c
 | some y=>
  simp at c;refine⟨y,rfl,?_⟩;rw[<-c];unfold Addr.add;split<;>rfl
def uE(w:aj)(B:J):J:=match w.cell? ⟨B,0,none⟩with|some (.slice _ n _)=>n|_=>0
def YB(w:aj)(f:J)(w':f<w.heap.size)(a:b_ Addr)(cap:J)(L:ah aT)(an:w.cell? (ae f 0 ad)=some (aq a L.length cap))(zp:w.frozen? (ae f 0 ad)=false)(ys:c' w a cap L)(v:J->al)(C:¬ v f)(Tq:L≠[]->∀ x,a=some x->x.block<w.heap.size/\¬ v x.block/\x.block≠f):p0 prog 312 #[f] (λp:aT×J=>#[aH p.1.toNat,I p.2]) (runs L) v (λk=>k=f) w:=by
 intro l vl W CW hk aat V ab v';subst CW;refine gU.2 ?_
 go_in
 go_wp2
 go_loopw [3] (λ_ wr=>∃ (j:J) (a':b_ Addr) (g:J) (pre:ah (aT×J)),j<=L.length/\wr.cell? (ae f 0 ad)=some (.slice a' (L.drop j).length g)/\wr.frozen? (ae f 0 ad)=false/\c' wr a' g (L.drop j)/\(∀ x,a'=some x->∃ y,a=some y/\x.block=y.block)/\runs L=pre++runs (L.drop j)/\vl pre wr/\w.heap.size+2<=wr.heap.size)
  (λ_ wr=>uE wr f)
 case atStart=>exact⟨0,a,cap,[],de _,by simpa using hk.cell an (λh=>h),by rw[hk.frozen w' (λh=>h)];exact zp,by simpa using ys.keeps hk (λ_ _ _ h=>h),λx i=>⟨x,i,rfl⟩,aM,v',U⟩
 have⟨j,a',g,pre,V',s,D,Z,gf,St,K,aau⟩:=hrel;generalize zd:L.drop j=R at *;have O:=ag zd;have G:=ag St;cases R with
 | nil=>
  go_wp2;go_end0;exact⟨⟨_,rfl⟩,by have h:=G.out;rw[runs,eB]at h;rw[h];exact K⟩
 | cons c r=>
  have hle:=zi c r;obtain⟨h1,h2,H⟩:=id Z;rcases H with H|⟨b,o,rfl,an⟩
  .cases H
  have fr:wr.cell? (ae b o ad)=some (aH c.toNat):=an 0 aM;have Y:=ag an;clear an;have⟨m,N,TS,g'⟩:=Z.drop (same c r+1) b1;simp only[dy]at h1 s N;unfold maxLen at h2;go_wp2;go_loopw [3] (λn aD=>∃ k q:J,1<=k/\k<=same c r+1/\n=I k/\aD=wr.drewN q) (λn _=>same c r+1-(intOf n).toNat)
  case atStart=>exact⟨1,0,U,U,rfl,rfl⟩
  obtain⟨k,q,W',aaq,rfl,rfl⟩:=hrel;by_cases aar:k<same c r+1
  .have Aw:=Ks c r (k-1) U U;have M:wr.cell? (ae b (o+k) ad)=some (aH c.toNat):=by
    have:=Y.o k b1
    rw[getElem_cons]at this;simpa[er,show k≠0 by omega,Aw]using this
   have hd:decide ((k:aa)<(r.length:aa)+1)=true:=b1;go_wp2;go_quiet (fail);go_wp2;go_roundw
   case rel=>exact⟨k+1,_,U,U,by go_num,rfl⟩
   simp[intOf];omega
  have E:k=same c r+1:=U;have u:=ag E;by_cases T':k<r.length+1
  .obtain⟨d,M,aas⟩:∃ d:aT,wr.cell? (ae b (o+k) ad)=some (aH d.toNat)/\((d.toNat:aa) == (c.toNat:aa))=false:=by
    have Q':same c r<r.length:=U;have hne:=Ku c r Q'
    have:=Y.o (same c r+1) b1
    rw[getElem_cons]at this;refine⟨r[same c r],by rw[E];simpa[er]using this,?_⟩;rw[eA];intro h;exact hne (Am.1 U)
   have hd:decide ((k:aa)<(r.length:aa)+1)=true:=b1;clear E;go_wp2;go_quiet (fail);go_upto_region 4 with(fail)
   refine(oR (n:=0)).1 ?_;rw[<-u.o]at N;obtain⟨fn,tmps,assign,body,A,z⟩:=ab pre (c,k) (runs (r.drop (same c r))) (wr.drewN (q+nq)) (by rw[G.out,runs,u.o]) (V _ _ _ K ((Keeps.refl _ wr).drewN (q+nq)));dsimp only at A;gi_wp2;refine⟨rfl,z.mono ?_⟩;rintro e B ⟨rfl,l',t⟩;have F:∀ x,m=some x->x.block<w.heap.size/\¬ v x.block/\x.block≠f:=by
    exact N'
   have m':B.cell? (ae f 0 ad)=some (aq (some (ae b o ad)) (r.length+1) g):=t.cell (p:=ae f 0 ad) s (λh=>h.elim C (λh=>m_));have r':B.frozen? (ae f 0 ad)=false:=(t.frozen (p:=ae f 0 ad) b1 (λh=>h.elim C (λh=>m_))).trans D;have lb:c' B m (g-k) ((c :: r).drop k):=by
    exact Ob
   have s':uE wr f=r.length+1:=by unfold uE;rw[s]
   clear A z fr s D
   try clear M
   gi_wp2;exact Og
  have hd:decide ((k:aa)<(r.length:aa)+1)=false:=b1;clear E;go_wp2;go_quiet (fail);go_upto_region 4 with(fail)
  refine(oR (n:=0)).1 ?_;rw[<-u.out]at N;obtain⟨fn,tmps,assign,body,A,z⟩:=ab pre (c,k) (runs (r.drop (same c r))) (wr.drewN (q+nq)) (by rw[G.out,runs,u.out]) (V _ _ _ K ((Keeps.refl _ wr).drewN (q+nq)));dsimp only at A;gi_wp2;refine⟨rfl,z.mono ?_⟩;rintro e B ⟨rfl,l',t⟩;have F:∀ x,m=some x->x.block<w.heap.size/\¬ v x.block/\x.block≠f:=by
   exact N'
  have m':B.cell? (ae f 0 ad)=some (aq (some (ae b o ad)) (r.length+1) g):=t.cell (p:=ae f 0 ad) s (λh=>h.elim C (λh=>m_));have r':B.frozen? (ae f 0 ad)=false:=(t.frozen (p:=ae f 0 ad) b1 (λh=>h.elim C (λh=>m_))).trans D;have lb:c' B m (g-k) ((c :: r).drop k):=by
   exact Ob
  have s':uE wr f=r.length+1:=by unfold uE;rw[s]
  clear A z fr s D
  try clear M
  gi_wp2;exact Og
end Go.Proofs.YtalagblioepadaaGreatDoor
