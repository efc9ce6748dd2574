/- The proof, part 2. -/
import Derived.Test.YtalagblioepadaaGreatDoorZe01
namespace Go.Proofs.YtalagblioepadaaGreatDoor
set_option linter.all false
open List Go.RowKit
set_option maxRecDepth 100000
variable{f:J}
section
variable{α:Type}
def eu:ai (J×α)->J->Option α
 | [],_=>none
 | (g,y) :: r,f=>if g=f then some y else eu r f
def qY(L:ai (J×α)):ae:=L.Pairwise λp q=>p.1<q.1
def fR:ai (J×α)->J->α->ai (J×α)
 | [],f,x=>[(f,x)]
 | (g,y) :: r,f,x=>if f<=g then(f,x) :: ((g,y) :: r).filter (λp=>p.1 != f)else(g,y) :: fR r f x
def Bn(L:ai (J×α))(p:J->aY)(f:J):eu (L.filter λq=>p q.1) f=if p f then eu L f else none:=by
 induction L with
 | nil=>simp[eu]
 | cons c r a=>
  have⟨g,y⟩:=c;by_cases ao:p g
  .rw[r0 (by simpa using ao)];simp only[eu];by_cases e:g=f
   .subst e;simp[ao]
   rw[az e,az e,a]
  rw[oX (by simpa using ao),a];simp only[eu];by_cases e:g=f
  .subst e;simp[ao]
  rw[az e]
def Na(L:ai (J×α))(f:J)(x:α)(a:J):eu (fR L f x) a=if a=f then some x else eu L a:=by
 induction L with
 | nil=>
  simp only[fR,eu];by_cases e:f=a
  .subst e;simp
  rw[az e,az (h4 e)]
 | cons c r b=>
  have⟨g,y⟩:=c;simp only[fR];split
  .rename_i h;have h1:=Bn ((g,y) :: r) (λn=>n != f) a;simp only[eu]at h1⊢;by_cases e:f=a
   .subst e;simp
   rw[az e,az (h4 e),h1,aD (by simpa using Ne.symm e)]
  rename_i h;simp only[eu];by_cases e:g=a
  .rw[aD e,aD e,az I]
  rw[az e,az e,b]
def Nh{L:ai (J×α)}{x:α}{p:J×α}(h:p∈fR L f x):p=(f,x)\/p∈L:=by
 induction L with
 | nil=>exact .inl (by simpa[fR]using h)
 | cons c r a=>
  have⟨g,y⟩:=c;simp only[fR]at h;split at h
  .rcases fW.1 h with h|h
   .exact .inl h
   exact .inr (hN.1 h).1
  rcases fW.1 h with h|h
  .exact .inr (by rw[h];simp)
  rcases a h with h|h
  .exact .inl h
  exact .inr (by simp[h])
def Kr{L:ai (J×α)}(h:qY L)(f:J)(x:α):qY (fR L f x):=by
 induction L with
 | nil=>simp[fR,qY]
 | cons c r d=>
  have⟨g,y⟩:=c;have an:=k4.1 h;simp only[fR];split
  .rename_i b;refine k4.2 ⟨λp ao=>?_,h.filter _⟩;have⟨h1,h2⟩:=hN.1 ao;have a:p.1≠f:=by simpa using h2
   rcases fW.1 h1 with h1|h1
   .rw[h1]at a⊢;simp at a⊢;omega
   have:=an.1 p h1;simp at this⊢;omega
  rename_i b;refine k4.2 ⟨λp ao=>?_,d an.2⟩;rcases Nh ao with h1|h1
  .rw[h1];simp;omega
  exact an.1 p h1
def Kq{L:ai (J×α)}(h:qY L)(p:J×α->aY):qY (L.filter p):=h.filter _
def wA{L:ai (J×α)}{x:α}(h:eu L f=some x):(f,x)∈L:=by
 induction L with
 | nil=>cases h
 | cons c r a=>
  have⟨g,y⟩:=c;simp only[eu]at h;split at h
  .rename_i e;subst e;cases h;simp
  simp[a h]
def Ft{L:ai (J×α)}(bg:qY L){x:α}(h:(f,x)∈L):eu L f=some x:=by
 induction L with
 | nil=>cases h
 | cons c r a=>
  obtain⟨g,y⟩:=c;have an:=k4.1 bg;simp only[eu];rcases fW.1 h with h|h
  .cases h;rw[aD rfl]
  have:=an.1 _ h
  simp at this;rw[az I];exact a an.2 h
def LN{L:ai (J×α)}(bg:qY L)(first size:J)(j:∀ p∈L,first<=p.1/\p.1<first+size):((range size).map (first+·)).filter (λf=>(eu L f).isSome)=L.map (·.1):=by
 have key:∀ (d c:ai J),d.Pairwise (·<·)->c.Pairwise (·<·)->(∀ n,n∈d↔n∈c)->d=c:=by
  intro d
  induction d with
  | nil=>
   intro c _ _ h;cases c with
   | nil=>rfl
   | cons b r=>have:=(h b).2 nA;cases this
  | cons a r k=>
   intro c h1 h2 h;cases c with
   | nil=>have:=(h a).1 nA;cases this
   | cons b s=>
    have bP:=k4.1 h1;have bB:=k4.1 h2;have i:a=b:=by
     rcases fW.1 ((h a).1 aM)with e|e
     .exact e
     rcases fW.1 ((h b).2 aM)with g|g
     .exact g.symm
     have:=bP.1 b g;have:=bB.1 a e;omega
    subst i;rw[k s bP.2 bB.2 (λn=>⟨λaw=>by
     rcases fW.1 ((h n).1 (by simp[aw]))with e|e
     .have:=bP.1 n aw;omega
     .exact e,λaw=>by
     rcases fW.1 ((h n).2 (by simp[aw]))with e|e
     .have:=bB.1 n aw;omega
     .exact e⟩)]
 refine key _ _ (Pairwise.filter _ ?_) ?_ λn=>?_
 .rw[xh];exact(pairwise_lt_range).imp a1
 .rw[xh];exact bg
 rw[hN,gO,gO];constructor
 .rintro⟨_,h⟩;obtain⟨x,ak⟩:=HQ.1 h;exact⟨(n,x),wA ak,rfl⟩
 rintro⟨⟨f,x⟩,ao,rfl⟩;have h1:=j _ ao;exact⟨⟨f-first,by simp;simp at h1;omega,by simp at h1⊢;omega⟩,by simp[Ft bg ao]⟩
end
end Go.Proofs.YtalagblioepadaaGreatDoor
