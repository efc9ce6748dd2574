/- The proof, part 13. -/
import Derived.Test.YtalagblioepadaaGreatDoorZb10
import Derived.Test.YtalagblioepadaaGreatDoorZb03
import Derived.Deep.Cut
import Derived.OwnWalkIn
import Derived.TacticsInMore
import Derived.Shelf.Abstract
namespace Go.Proofs.YtalagblioepadaaGreatDoor
set_option linter.all false
open Proofs.Tryz List Go.RowKit
set_option maxRecDepth 100000
def M1{p:ak}(h:p:=by
 go_wp2;have X:L.drop (j+k)=(c :: r).drop k:=by rw[<-O.out,mr]
 have r':(B.setCell (ad f 0 ab) (ao m (r.length+1-k) (g-k))).cell? (ad f 0 ab)=some (ao m (r.length+1-k) (g-k)):=wz _ _ _ ps;have Y9:j+(r.length+1)=L.length:=by have:=cV length O.out;simp at this;omega
 have s':Keeps (λk=>k=f) B (B.setCell (ad f 0 ab) (ao m (r.length+1-k) (g-k))):=(Keeps.refl (λk=>k=f) B).setCell (p:=ad f 0 ab) rfl _;refine⟨⟨j+k,m,g-k,pre++[(c,k)],U,?_,by rw[K7];exact sd,?_,?_,?_,V _ _ _ m' s',?_⟩,?_⟩
 .rw[r',X,gd,dr]
 .rw[X];exact l'.keeps s' (λ_ x i=>(F x i).2.2)
 .intro x i;have⟨y,P,Q⟩:=lb x i;have⟨z,S,T⟩:=g' y P;exact⟨z,S,Q.trans T⟩
 .rw[X,G.out,runs,u.out];simp
 .have:=t.size;simp at this;simp;omega
 rw[vl];unfold tW;rw[r'];show r.length+1-k<r.length+1;omega
 ):p:=h
def MT{p:ak}(h:p:=by
 intro x i;have⟨y,P,Q⟩:=lb x i;have⟨z,S,T⟩:=g' y P;rw[Q,T];exact TS (λe=>by have h:=O.out;rw[e]at h;simp at h) z S
 ):p:=h
def MV{p:ak}(h:p:=by
 rw[u.out];exact(T'.keeps ((a_ wr).drewN (q+nq)) (λ_ _ _ h=>h)).keeps t (λ_ x i h=>h.elim (F x i).2.1 (λh=>by have:=(F x i).1;omega))
 ):p:=h
def c1(w:ai)(a:b4 Addr)(cap:J)(L:ah aQ):ak:=
 L.length<=cap/\cap<=maxLen/\(L=[]\/∃ b o,a=some (ad b o ab)/\∀ i (h:i<L.length),w.cell? (ad b (o+i) ab)=some (eg L[i]))
def TU(w:ai)(a:b4 Addr)(n cap:J):az 268 #[ao a n cap] w λe w'=>e=.returned (.func (.func 312) #[] #[w.heap.size])/\w.alloc (ae #[ao a n cap] 51)=w':=by
 go_in
 go_wp2;go_ret;exact⟨rfl,rfl⟩
def c1.keeps{A B:ai}{a:b4 Addr}{cap:J}{L:ah aQ}{S:J->ak}(h:c1 A a cap L)(hk:Keeps S A B)(ax:L≠[]->∀ x,a=some x->¬ S x.block):c1 B a cap L:=by
 have⟨h1,h2,d⟩:=h;refine⟨h1,h2,?_⟩;by_cases c:L=[]
 .exact .inl c
 obtain⟨b,o,rfl,aq⟩:=d.resolve_left c;exact .inr ⟨b,o,rfl,λi av=>hk.cell (aq i av) (ax c (ad b o ab) rfl)⟩
theorem c1.at'{w:ai}{a:b4 Addr}{cap:J}{L:ah aQ}(h:c1 w a cap L)(hne:L≠[]):∃ b o,a=some (ad b o ab)/\∀ i (av:i<L.length),w.cell? (ad b (o+i) ab)=some (eg L[i]):=
 h.2.2.resolve_left hne
def c1.lt{w:ai}{a:b4 Addr}{cap:J}{L:ah aQ}(h:c1 w a cap L)(hne:L≠[])(x:Addr)(c:a=some x):x.block<w.heap.size:=by
 obtain⟨b,o,rfl,aq⟩:=h.at' hne;cases c
 have:=mq w _ (aq 0 (p'.2 hne))
 exact this
theorem c1.drop{w:ai}{a:b4 Addr}{cap:J}{L:ah aQ}(h:c1 w a cap L)(n:J)(au:n<=L.length):∃ a',(∀ an:ai,(Instr.slice 51 (ao a L.length cap) (some (I n)) none none).run prog an=.ok (ao a' (L.length-n) (cap-n)) an)/\c1 w a' (cap-n) (L.drop n)/\(∀ x,a'=some x->∃ y,a=some y/\x.block=y.block):=by
 have⟨h1,h2,d⟩:=h;refine⟨if cap=n then a else a.map (·.add (n*1)),λan=>?_,⟨bU,U,?_⟩,?_⟩
 .rw[run_slice_l an 51 a L.length cap underlying51 .i64 n U U];simp[go_sem,sliced]
 .rcases d with rfl|⟨b,o,rfl,aq⟩
  .exact .inl aI
  by_cases e:n=L.length
  .exact .inl (by simp[e])
  refine .inr ⟨b,o+n,?_,λi av=>?_⟩
  .rw[aA U];simp[hN]
  simp only[gd]at av;rw[iN,aq (n+i) U];simp
 intro x c;split at c
 .exact⟨x,c,rfl⟩
 cases a with
 | none=>simp at c
 | some y=>
  simp at c;refine⟨y,rfl,?_⟩;rw[<-c];unfold Addr.add;split<;>rfl
def tW(w:ai)(B:J):J:=match w.cell? ⟨B,0,none⟩with|some (.slice _ n _)=>n|_=>0
def Xf(w:ai)(f:J)(ys:f<w.heap.size)(a:b4 Addr)(cap:J)(L:ah aQ)(aq:w.cell? (ad f 0 ab)=some (ao a L.length cap))(Aw:w.frozen? (ad f 0 ab)=false)(zd:c1 w a cap L)(v:J->ak)(C:¬ v f)(TS:L≠[]->∀ x,a=some x->x.block<w.heap.size/\¬ v x.block/\x.block≠f):pt prog 312 #[f] (λp:aQ×J=>#[aF p.1.toNat,I p.2]) (runs L) v (λk=>k=f) w:=by
 intro l v' W Q' hk Y7 V fr w';subst Q';refine gD.2 ?_
 go_in
 go_wp2
 go_loopw [3] (λ_ wr=>∃ (j:J) (a':b4 Addr) (g:J) (pre:ah (aQ×J)),j<=L.length/\wr.cell? (ad f 0 ab)=some (.slice a' (L.drop j).length g)/\wr.frozen? (ad f 0 ab)=false/\c1 wr a' g (L.drop j)/\(∀ x,a'=some x->∃ y,a=some y/\x.block=y.block)/\runs L=pre++runs (L.drop j)/\v' pre wr/\w.heap.size+2<=wr.heap.size)
  (λ_ wr=>tW wr f)
 case atStart=>exact⟨0,a,cap,[],c' _,by simpa using hk.cell aq (λh=>h),by rw[hk.frozen ys (λh=>h)];exact Aw,by simpa using zd.keeps hk (λ_ _ _ h=>h),λx i=>⟨x,i,rfl⟩,aI,w',U⟩
 have⟨j,a',g,pre,W',s,D,Z,g',Tq,K,Y8⟩:=hrel;generalize zp:L.drop j=R at *;have O:=af zp;have G:=af Tq;cases R with
 | nil=>
  go_wp2;go_end0;exact⟨⟨_,rfl⟩,by have h:=G.out;rw[runs,eX]at h;rw[h];exact K⟩
 | cons c r=>
  have Y4:=yG c r;obtain⟨h1,h2,H⟩:=id Z;rcases H with H|⟨b,o,rfl,aq⟩
  .cases H
  have gf:wr.cell? (ad b o ab)=some (aF c.toNat):=aq 0 aI;have Y:=af aq;clear aq;have⟨m,N,T',lb⟩:=Z.drop (same c r+1) bU;simp only[dr]at h1 s N;unfold maxLen at h2;go_wp2;go_loopw [3] (λn aB=>∃ k q:J,1<=k/\k<=same c r+1/\n=I k/\aB=wr.drewN q) (λn _=>same c r+1-(intOf n).toNat)
  case atStart=>exact⟨1,0,U,U,rfl,rfl⟩
  obtain⟨k,q,Y2,Y3,rfl,rfl⟩:=hrel;by_cases Y5:k<same c r+1
  .have CW:=Jo c r (k-1) U U;have M:wr.cell? (ad b (o+k) ab)=some (aF c.toNat):=by
    have:=Y.o k bU
    rw[getElem_cons]at this;simpa[eg,show k≠0 by omega,CW]using this
   have hd:decide ((k:aa)<(r.length:aa)+1)=true:=bU;go_wp2;go_quiet (fail);go_wp2;go_roundw
   case rel=>exact⟨k+1,_,U,U,by go_num,rfl⟩
   simp[intOf];omega
  have E:k=same c r+1:=U;have u:=af E;by_cases V':k<r.length+1
  .obtain⟨d,M,Y6⟩:∃ d:aQ,wr.cell? (ad b (o+k) ab)=some (aF d.toNat)/\((d.toNat:aa) == (c.toNat:aa))=false:=by
    have St:same c r<r.length:=U;have hne:=Jq c r St
    have:=Y.o (same c r+1) bU
    rw[getElem_cons]at this;refine⟨r[same c r],by rw[E];simpa[eg]using this,?_⟩;rw[er];intro h;exact hne (zz.1 U)
   have hd:decide ((k:aa)<(r.length:aa)+1)=true:=bU;clear E;go_wp2;go_quiet (fail);go_upto_region 4 with(fail)
   refine(ob (n:=0)).1 ?_;rw[<-u.o]at N;obtain⟨fn,tmps,assign,body,A,z⟩:=fr pre (c,k) (runs (r.drop (same c r))) (wr.drewN (q+nq)) (by rw[G.out,runs,u.o]) (V _ _ _ K ((Keeps.refl _ wr).drewN (q+nq)));dsimp only at A;gi_wp2;refine⟨rfl,z.mono ?_⟩;rintro e B ⟨rfl,m',t⟩;have F:∀ x,m=some x->x.block<w.heap.size/\¬ v x.block/\x.block≠f:=by
    exact MT
   have ps:B.cell? (ad f 0 ab)=some (ao (some (ad b o ab)) (r.length+1) g):=t.cell (p:=ad f 0 ab) s (λh=>h.elim C (λh=>mx));have sd:B.frozen? (ad f 0 ab)=false:=(t.frozen (p:=ad f 0 ab) bU (λh=>h.elim C (λh=>mx))).trans D;have l':c1 B m (g-k) ((c :: r).drop k):=by
    exact MV
   have vl:tW wr f=r.length+1:=by unfold tW;rw[s]
   clear A z gf s D
   try clear M
   gi_wp2;exact M1
  have hd:decide ((k:aa)<(r.length:aa)+1)=false:=bU;clear E;go_wp2;go_quiet (fail);go_upto_region 4 with(fail)
  refine(ob (n:=0)).1 ?_;rw[<-u.out]at N;obtain⟨fn,tmps,assign,body,A,z⟩:=fr pre (c,k) (runs (r.drop (same c r))) (wr.drewN (q+nq)) (by rw[G.out,runs,u.out]) (V _ _ _ K ((Keeps.refl _ wr).drewN (q+nq)));dsimp only at A;gi_wp2;refine⟨rfl,z.mono ?_⟩;rintro e B ⟨rfl,m',t⟩;have F:∀ x,m=some x->x.block<w.heap.size/\¬ v x.block/\x.block≠f:=by
   exact MT
  have ps:B.cell? (ad f 0 ab)=some (ao (some (ad b o ab)) (r.length+1) g):=t.cell (p:=ad f 0 ab) s (λh=>h.elim C (λh=>mx));have sd:B.frozen? (ad f 0 ab)=false:=(t.frozen (p:=ad f 0 ab) bU (λh=>h.elim C (λh=>mx))).trans D;have l':c1 B m (g-k) ((c :: r).drop k):=by
   exact MV
  have vl:tW wr f=r.length+1:=by unfold tW;rw[s]
  clear A z gf s D
  try clear M
  gi_wp2;exact M1
end Go.Proofs.YtalagblioepadaaGreatDoor
