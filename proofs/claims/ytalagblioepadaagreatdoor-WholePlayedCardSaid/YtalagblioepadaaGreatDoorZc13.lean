/- The proof, part 13. -/
import Derived.Test.YtalagblioepadaaGreatDoorZc10
import Derived.Test.YtalagblioepadaaGreatDoorZc03
import Derived.Deep.Cut
import Derived.OwnWalkIn
import Derived.TacticsInMore
import Derived.Shelf.Abstract
namespace Go.Proofs.YtalagblioepadaaGreatDoor
set_option linter.all false
open Proofs.Tryz List Go.RowKit
set_option maxRecDepth 100000
def NA{p:ak}(h:p:=by
 go_wp2;have X:L.drop (j+k)=(c :: r).drop k:=by rw[<-O.out,mF]
 have ps:(B.setCell (ad f 0 ab) (aq m (r.length+1-k) (g-k))).cell? (ad f 0 ab)=some (aq m (r.length+1-k) (g-k)):=wS _ _ _ m';have ZM:j+(r.length+1)=L.length:=by have:=cV length O.out;simp at this;omega
 have sd:Keeps (λk=>k=f) B (B.setCell (ad f 0 ab) (aq m (r.length+1-k) (g-k))):=(Keeps.refl (λk=>k=f) B).setCell (p:=ad f 0 ab) rfl _;refine⟨⟨j+k,m,g-k,pre++[(c,k)],U,?_,by rw[LC];exact r',?_,?_,?_,V _ _ _ mv sd,?_⟩,?_⟩
 .rw[ps,X,gm,ds]
 .rw[X];exact l'.keeps sd (λ_ x i=>(F x i).2.2)
 .intro x i;have⟨y,P,Q⟩:=lb x i;have⟨z,S,T⟩:=g' y P;exact⟨z,S,Q.trans T⟩
 .rw[X,G.out,runs,u.out];simp
 .have:=t.size;simp at this;simp;omega
 rw[s'];unfold um;rw[ps];show r.length+1-k<r.length+1;omega
 ):p:=h
def Ns{p:ak}(h:p:=by
 intro x i;have⟨y,P,Q⟩:=lb x i;have⟨z,S,T⟩:=g' y P;rw[Q,T];exact Tq (λe=>by have h:=O.out;rw[e]at h;simp at h) z S
 ):p:=h
def Nu{p:ak}(h:p:=by
 rw[u.out];exact(TS.keeps ((ba wr).drewN (q+nq)) (λ_ _ _ h=>h)).keeps t (λ_ x i h=>h.elim (F x i).2.1 (λh=>by have:=(F x i).1;omega))
 ):p:=h
def c3(w:ai)(a:b5 Addr)(cap:J)(L:ah aR):ak:=
 L.length<=cap/\cap<=maxLen/\(L=[]\/∃ b o,a=some (ad b o ab)/\∀ i (h:i<L.length),w.cell? (ad b (o+i) ab)=some (ef L[i]))
def Uv(w:ai)(a:b5 Addr)(n cap:J):aA 268 #[aq a n cap] w λe w'=>e=.returned (.func (.func 312) #[] #[w.heap.size])/\w.alloc (ae #[aq a n cap] 51)=w':=by
 go_in
 go_wp2;go_ret;exact⟨rfl,rfl⟩
def c3.keeps{A B:ai}{a:b5 Addr}{cap:J}{L:ah aR}{S:J->ak}(h:c3 A a cap L)(hk:Keeps S A B)(av:L≠[]->∀ x,a=some x->¬ S x.block):c3 B a cap L:=by
 have⟨h1,h2,d⟩:=h;refine⟨h1,h2,?_⟩;by_cases c:L=[]
 .exact .inl c
 obtain⟨b,o,rfl,al⟩:=d.resolve_left c;exact .inr ⟨b,o,rfl,λi aw=>hk.cell (al i aw) (av c (ad b o ab) rfl)⟩
theorem c3.at'{w:ai}{a:b5 Addr}{cap:J}{L:ah aR}(h:c3 w a cap L)(hne:L≠[]):∃ b o,a=some (ad b o ab)/\∀ i (aw:i<L.length),w.cell? (ad b (o+i) ab)=some (ef L[i]):=
 h.2.2.resolve_left hne
def c3.lt{w:ai}{a:b5 Addr}{cap:J}{L:ah aR}(h:c3 w a cap L)(hne:L≠[])(x:Addr)(c:a=some x):x.block<w.heap.size:=by
 obtain⟨b,o,rfl,al⟩:=h.at' hne;cases c
 have:=mE w _ (al 0 (qo.2 hne))
 exact this
theorem c3.drop{w:ai}{a:b5 Addr}{cap:J}{L:ah aR}(h:c3 w a cap L)(n:J)(ar:n<=L.length):∃ a',(∀ ao:ai,(Instr.slice 51 (aq a L.length cap) (some (I n)) none none).run prog ao=.ok (aq a' (L.length-n) (cap-n)) ao)/\c3 w a' (cap-n) (L.drop n)/\(∀ x,a'=some x->∃ y,a=some y/\x.block=y.block):=by
 have⟨h1,h2,d⟩:=h;refine⟨if cap=n then a else a.map (·.add (n*1)),λao=>?_,⟨bT,U,?_⟩,?_⟩
 .rw[run_slice_l ao 51 a L.length cap underlying51 .i64 n U U];simp[go_sem,sliced]
 .rcases d with rfl|⟨b,o,rfl,al⟩
  .exact .inl aK
  by_cases e:n=L.length
  .exact .inl (by simp[e])
  refine .inr ⟨b,o+n,?_,λi aw=>?_⟩
  .rw[az U];simp[h3]
  simp only[gm]at aw;rw[ih,al (n+i) U];simp
 intro x c;split at c
 .exact⟨x,c,rfl⟩
 cases a with
 | none=>simp at c
 | some y=>
  simp at c;refine⟨y,rfl,?_⟩;rw[<-c];unfold Addr.add;split<;>rfl
def um(w:ai)(B:J):J:=match w.cell? ⟨B,0,none⟩with|some (.slice _ n _)=>n|_=>0
def XS(w:ai)(f:J)(w':f<w.heap.size)(a:b5 Addr)(cap:J)(L:ah aR)(al:w.cell? (ad f 0 ab)=some (aq a L.length cap))(zp:w.frozen? (ad f 0 ab)=false)(ys:c3 w a cap L)(v:J->ak)(C:¬ v f)(Tq:L≠[]->∀ x,a=some x->x.block<w.heap.size/\¬ v x.block/\x.block≠f):pI prog 312 #[f] (λp:aR×J=>#[aF p.1.toNat,I p.2]) (runs L) v (λk=>k=f) w:=by
 intro l vl W CW hk ZK V fr v';subst CW;refine gK.2 ?_
 go_in
 go_wp2
 go_loopw [3] (λ_ wr=>∃ (j:J) (a':b5 Addr) (g:J) (pre:ah (aR×J)),j<=L.length/\wr.cell? (ad f 0 ab)=some (.slice a' (L.drop j).length g)/\wr.frozen? (ad f 0 ab)=false/\c3 wr a' g (L.drop j)/\(∀ x,a'=some x->∃ y,a=some y/\x.block=y.block)/\runs L=pre++runs (L.drop j)/\vl pre wr/\w.heap.size+2<=wr.heap.size)
  (λ_ wr=>um wr f)
 case atStart=>exact⟨0,a,cap,[],c' _,by simpa using hk.cell al (λh=>h),by rw[hk.frozen w' (λh=>h)];exact zp,by simpa using ys.keeps hk (λ_ _ _ h=>h),λx i=>⟨x,i,rfl⟩,aK,v',U⟩
 have⟨j,a',g,pre,V',s,D,Z,g',St,K,ZL⟩:=hrel;generalize zd:L.drop j=R at *;have O:=af zd;have G:=af St;cases R with
 | nil=>
  go_wp2;go_end0;exact⟨⟨_,rfl⟩,by have h:=G.out;rw[runs,e4]at h;rw[h];exact K⟩
 | cons c r=>
  have ZH:=y2 c r;obtain⟨h1,h2,H⟩:=id Z;rcases H with H|⟨b,o,rfl,al⟩
  .cases H
  have gf:wr.cell? (ad b o ab)=some (aF c.toNat):=al 0 aK;have Y:=af al;clear al;have⟨m,N,TS,lb⟩:=Z.drop (same c r+1) bT;simp only[ds]at h1 s N;unfold maxLen at h2;go_wp2;go_loopw [3] (λn aC=>∃ k q:J,1<=k/\k<=same c r+1/\n=I k/\aC=wr.drewN q) (λn _=>same c r+1-(intOf n).toNat)
  case atStart=>exact⟨1,0,U,U,rfl,rfl⟩
  obtain⟨k,q,W',ZG,rfl,rfl⟩:=hrel;by_cases ZI:k<same c r+1
  .have Aw:=JQ c r (k-1) U U;have M:wr.cell? (ad b (o+k) ab)=some (aF c.toNat):=by
    have:=Y.o k bT
    rw[getElem_cons]at this;simpa[ef,show k≠0 by omega,Aw]using this
   have hd:decide ((k:aa)<(r.length:aa)+1)=true:=bT;go_wp2;go_quiet (fail);go_wp2;go_roundw
   case rel=>exact⟨k+1,_,U,U,by go_num,rfl⟩
   simp[intOf];omega
  have E:k=same c r+1:=U;have u:=af E;by_cases T':k<r.length+1
  .obtain⟨d,M,ZJ⟩:∃ d:aR,wr.cell? (ad b (o+k) ab)=some (aF d.toNat)/\((d.toNat:aa) == (c.toNat:aa))=false:=by
    have Q':same c r<r.length:=U;have hne:=JS c r Q'
    have:=Y.o (same c r+1) bT
    rw[getElem_cons]at this;refine⟨r[same c r],by rw[E];simpa[ef]using this,?_⟩;rw[eu];intro h;exact hne (zT.1 U)
   have hd:decide ((k:aa)<(r.length:aa)+1)=true:=bT;clear E;go_wp2;go_quiet (fail);go_upto_region 4 with(fail)
   refine(oz (n:=0)).1 ?_;rw[<-u.o]at N;obtain⟨fn,tmps,assign,body,A,z⟩:=fr pre (c,k) (runs (r.drop (same c r))) (wr.drewN (q+nq)) (by rw[G.out,runs,u.o]) (V _ _ _ K ((Keeps.refl _ wr).drewN (q+nq)));dsimp only at A;gi_wp2;refine⟨rfl,z.mono ?_⟩;rintro e B ⟨rfl,mv,t⟩;have F:∀ x,m=some x->x.block<w.heap.size/\¬ v x.block/\x.block≠f:=by
    exact Ns
   have m':B.cell? (ad f 0 ab)=some (aq (some (ad b o ab)) (r.length+1) g):=t.cell (p:=ad f 0 ab) s (λh=>h.elim C (λh=>mK));have r':B.frozen? (ad f 0 ab)=false:=(t.frozen (p:=ad f 0 ab) bT (λh=>h.elim C (λh=>mK))).trans D;have l':c3 B m (g-k) ((c :: r).drop k):=by
    exact Nu
   have s':um wr f=r.length+1:=by unfold um;rw[s]
   clear A z gf s D
   try clear M
   gi_wp2;exact NA
  have hd:decide ((k:aa)<(r.length:aa)+1)=false:=bT;clear E;go_wp2;go_quiet (fail);go_upto_region 4 with(fail)
  refine(oz (n:=0)).1 ?_;rw[<-u.out]at N;obtain⟨fn,tmps,assign,body,A,z⟩:=fr pre (c,k) (runs (r.drop (same c r))) (wr.drewN (q+nq)) (by rw[G.out,runs,u.out]) (V _ _ _ K ((Keeps.refl _ wr).drewN (q+nq)));dsimp only at A;gi_wp2;refine⟨rfl,z.mono ?_⟩;rintro e B ⟨rfl,mv,t⟩;have F:∀ x,m=some x->x.block<w.heap.size/\¬ v x.block/\x.block≠f:=by
   exact Ns
  have m':B.cell? (ad f 0 ab)=some (aq (some (ad b o ab)) (r.length+1) g):=t.cell (p:=ad f 0 ab) s (λh=>h.elim C (λh=>mK));have r':B.frozen? (ad f 0 ab)=false:=(t.frozen (p:=ad f 0 ab) bT (λh=>h.elim C (λh=>mK))).trans D;have l':c3 B m (g-k) ((c :: r).drop k):=by
   exact Nu
  have s':um wr f=r.length+1:=by unfold um;rw[s]
  clear A z gf s D
  try clear M
  gi_wp2;exact NA
end Go.Proofs.YtalagblioepadaaGreatDoor
