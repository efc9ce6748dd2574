/- The proof, part 17. -/
import Derived.Test.YtalagblioepadaaGreatDoorZb15
namespace Go.Proofs.YtalagblioepadaaGreatDoor
set_option linter.all false
open Proofs.Tryz List Go.RowKit
set_option maxRecDepth 100000
set_option maxHeartbeats 4000000
def uI{p:ak}(h:p:=by simp[results,results265,go_sem]):p:=h
def sM{p:ak}(h:p:=by
 go_wp2_with fail;refine o9 aH aH ?_
 repeat (go_big_quiet_step (first|(go_at_call 265;exact Calls.ka (CG m a c _))|(go_at_call 264;exact Calls.ka (j.o _))|(go_at_call 266;exact Calls.jv (i.o _))))
 refine wpQuiet_nil ?_;intro _ l;have⟨x,n⟩:=l;subst n;go_wp2_with fail
 all_goals
  go_ret;exact⟨UU f.o,((bY _ w).alloc bA _).trans (x.below.mono aI)⟩
 ):p:=h
def MX{p:ak}(h:p:=by
 rintro e w' ⟨rfl,q,rfl⟩;go_wp2_with fail;go_ret;exact⟨kY (by rw[c.out];simp),Ff (((bY _ w).alloc bA _).alloc aI _) _⟩
 ):p:=h
def zR{p:ak}(h:p:=by
 go_wp2_with fail;go_ret;exact⟨kY (by rw[c.o]),((bY _ w).alloc bA _).alloc aI _⟩
 ):p:=h
def Ax(w:ai)(a b:b4 Addr)(fa fA:J)(L M:ah aQ)(u:c1 w a fa L)(f:c1 w b fA M):az 311 #[ao a L.length fa,ao b M.length fA] w λe w'=>e=.returned (.bool (decide (L=M)))/\∃ q,w'=w.drewN q:=by
 have D:M.length<=9223372036854775807:=b7 f.1 f.2.1;by_cases g:L.length=M.length
 .have v:((L.length:aa) == (M.length:aa))=true:=by rw[np];omega
  have F:((L.length:aa) != (M.length:aa))=false:=by simp[g]
  have n:=af g
  go_in
  go_wp2;go_loopw [13] (λi wr=>∃ k q:J,k<=L.length/\i=I k/\w.drewN q=wr/\Hid (∀ j (h1:j<L.length) (h2:j<M.length),j<k->L[j]=M[j])) (λi _=>L.length-(intOf i).toNat)
  case atStart=>exact⟨0,0,c' _,rfl,rfl,λ_ _ _ h=>absurd h (k7 _)⟩
  obtain⟨k,q,hk,rfl,rfl,p⟩:=hrel;by_cases m:k<L.length
  .have l:k<M.length:=by have:=n.o;omega
   obtain⟨bP,y,rfl,r⟩:=u.at' (by intro h;rw[h]at m;exact k7 _ m);obtain⟨t,z,rfl,s⟩:=f.at' (by intro h;rw[h]at l;exact k7 _ l);have B:w.cell? (ad bP (y+k) ab)=some (aF L[k].toNat):=r k m;have C:w.cell? (ad t (z+k) ab)=some (aF M[k].toNat):=s k l;clear r s;by_cases c:L[k]=M[k]
   .have x:((L[k].toNat:aa) == (M[k].toNat:aa))=true:=by rw[np,c]
    have E:((L[k].toNat:aa) != (M[k].toNat:aa))=false:=by simp[c]
    go_wp2;go_quiet (fail);go_wp2;go_roundw
    case rel=>exact⟨k+1,q+nq,U,by go_num,rfl,λj h1 h2 A=>by
     by_cases e:j=k
     .subst e;exact c
     .exact p j h1 h2 U⟩
    simp[intOf];omega
   have hne:¬ (L[k].toNat:aa)=(M[k].toNat:aa):=λh=>c (zz.1 U);have x:((L[k].toNat:aa) == (M[k].toNat:aa))=false:=by rw[er];exact hne
   have hfin:decide (L=M)=false:=by
    rw[sJ];intro h;subst h;exact c rfl
   have d:=af hfin;go_wp2;go_quiet (fail);go_wp2;go_ret;exact⟨by rw[d.o];rfl,q+nq,by simp[World.drewN,iN]⟩
  have hfin:decide (L=M)=true:=by
   rw[gg];exact ext_getElem n.o λj h1 h2=>p j h1 h2 U
  have d:=af hfin;go_wp2;go_ret;exact⟨by rw[d.o];rfl,q,rfl⟩
 have v:((L.length:aa) == (M.length:aa))=false:=by rw[er];omega
 have hfin:decide (L=M)=false:=by
  rw[sJ];intro h;exact g (by rw[h])
 go_in
 go_wp2;go_ret;exact⟨by rw[hfin];rfl,0,rfl⟩
section
def Ff{B:J}{a w:ai}(h:Below B a w)(n:J):Below B a (w.drewN n):=h.trans ⟨rfl,rfl,rfl,c9 _,λ_ _=>rfl⟩
def q2(k:aa)(w:ai):az 200 #[I k] w λe w'=>e=.returned (I (f' k))/\w=w':=by
 unfold f';by_cases h1:k=1
 .subst h1
  go_in
  go_wp2;go_ret;exact⟨rfl,rfl⟩
 by_cases h2:k=2
 .subst h2
  go_in
  go_wp2;go_ret;exact⟨rfl,rfl⟩
 by_cases a:k=3
 .subst a
  go_in
  go_wp2;go_ret;exact⟨rfl,rfl⟩
 by_cases b:k=4
 .subst b
  go_in
  go_wp2;go_ret;exact⟨rfl,rfl⟩
 by_cases c:k=5
 .subst c
  go_in
  go_wp2;go_ret;exact⟨rfl,rfl⟩
 by_cases d:k=6
 .subst d
  go_in
  go_wp2;go_ret;exact⟨rfl,rfl⟩
 have f:(k == 1)=false:=by rw[er];exact h1
 have g:(k == 2)=false:=by rw[er];exact h2
 have h:(k == 3)=false:=by rw[er];exact a
 have i:(k == 4)=false:=by rw[er];exact b
 have j:(k == 5)=false:=by rw[er];exact c
 have l:(k == 6)=false:=by rw[er];exact d
 rw[aA U,aA a,aA b,aA c,aA d];clear h1 h2 a b c d
 go_in
 go_wp2;go_ret;exact⟨rfl,rfl⟩
variable{w:ai}{a b:aZ}{xd hq:b4 Addr}{fa fA:J}
def Ym(n:c1 w xd fa a.a8)(p:c1 w hq fA b.a8):az 264 #[(aM #[I a.kind,aK a.bL,bz a.cl,bz a.cj,ao xd a.a8.length fa,aK a.sum,I a.lead]),(aM #[I b.kind,aK b.bL,bz b.cl,bz b.cj,ao hq b.a8.length fA,aK b.sum,I b.lead])] w λe w'=>e=.returned (.bool (nY a b))/\Below w w w':=by
 have ax:nY a b=(decide (a.kind=b.kind)&&decide (a.bL=b.bL)&&decide (a.cl=b.cl)&&decide (a.cj=b.cj)&&decide (a.a8=b.a8)&&decide (a.sum=b.sum)&&decide (a.lead=b.lead)):=rfl;have g:=af (n.keeps (((a_ w).alloc (ae #[I a.kind,aK a.bL,bz a.cl,bz a.cj,ao xd a.a8.length fa,aK a.sum,I a.lead] 254)).alloc (ae #[I b.kind,aK b.bL,bz b.cl,bz b.cj,ao hq b.a8.length fA,aK b.sum,I b.lead] 254)) (λ_ _ _=>id));have h:=af (p.keeps (((a_ w).alloc (ae #[I a.kind,aK a.bL,bz a.cl,bz a.cj,ao xd a.a8.length fa,aK a.sum,I a.lead] 254)).alloc (ae #[I b.kind,aK b.bL,bz b.cl,bz b.cj,ao hq b.a8.length fA,aK b.sum,I b.lead] 254)) (λ_ _ _=>id));by_cases h1:a.kind=b.kind;rotate_left
 .have k:(a.kind == b.kind)=false:=by rw[er];exact h1
  have c:=af (show nY a b=false by simp[ax,h1]);clear h1 ax
  go_in
  exact zR
 have r:(a.kind == b.kind)=true:=by rw[np];exact h1
 by_cases h2:a.bL=b.bL;rotate_left
 .have k:(a.bL == b.bL)=false:=by rw[er];exact h2
  have c:=af (show nY a b=false by simp[ax,h2]);clear h1 h2 ax
  go_in
  exact zR
 have s:(a.bL == b.bL)=true:=by rw[np];exact h2
 by_cases d:a.cl=b.cl;rotate_left
 .have k:(a.cl == b.cl)=false:=by rw[er];exact d
  have c:=af (show nY a b=false by simp[ax,d]);clear h1 h2 d ax
  go_in
  exact zR
 have t:(a.cl == b.cl)=true:=by rw[np];exact d
 by_cases f:a.cj=b.cj;rotate_left
 .have k:(a.cj == b.cj)=false:=by rw[er];exact f
  have c:=af (show nY a b=false by simp[ax,f]);clear h1 h2 d f ax
  go_in
  exact zR
 have u:(a.cj == b.cj)=true:=by rw[np];exact f
 have hfin:nY a b=(decide (a.a8=b.a8)&&(a.sum == b.sum)&&(a.lead == b.lead)):=by
  rw[ax];simp[h1,h2,d,f];rfl
 have c:=af hfin;clear h1 h2 d f ax hfin;by_cases i:decide (a.a8=b.a8)=true
 .rw[i]at c;by_cases j:(a.sum == b.sum)=true
  .rw[j]at c
   go_in
   go_wp2_with fail;refine(Ax _ _ _ _ _ a.a8 b.a8 g.o h.o).mono ?_;exact MX
  have m:(a.sum == b.sum)=false:=by simpa using j
  rw[m]at c;clear j
  go_in
  go_wp2_with fail;refine(Ax _ _ _ _ _ a.a8 b.a8 g.out h.out).mono ?_;exact MX
 have l:decide (a.a8=b.a8)=false:=by simpa using i
 rw[l]at c;clear i
 go_in
 go_wp2_with fail;refine(Ax _ _ _ _ _ a.a8 b.a8 g.out h.out).mono ?_;rintro e w' ⟨rfl,q,rfl⟩;go_wp2_with fail;go_ret;exact⟨kY (by rw[c.out];simp),Ff (((bY _ w).alloc bA _).alloc aI _) _⟩
end
variable{w:ai}{m:aZ}{a:b4 Addr}{c:J}
def kH(m:aZ)(a:b4 Addr):b4 Addr:=if m.kind=3 then a else none
def kI(m:aZ)(c:J):J:=if m.kind=3 then c else 0
def CG(m:aZ)(a:b4 Addr)(c:J)(w:ai):az 265 #[(aM #[I m.kind,aK m.bL,bz m.cl,bz m.cj,ao a m.a8.length c,aK m.sum,I m.lead])] w λe w'=>e=.returned (aM #[I (gV m).kind,aK (gV m).bL,bz (gV m).cl,bz (gV m).cj,.slice (kH m a) (gV m).a8.length (kI m c),aK (gV m).sum,I (gV m).lead])/\Below w w w':=by
 by_cases b:m.kind=3
 .have au:f' m.kind=14:=by simp[f',b]
  have aj:gV m=⟨m.kind,0,m.cl,m.cj,m.a8,0,0⟩:=by simp[gV,b]
  have bj:kH m a=a:=by simp[kH,b]
  have aq:kI m c=c:=by simp[kI,b]
  rw[aj,bj,aq];have d:=af au;clear au aj bj aq b
  go_in
  go_wp2_with fail;refine(q2 _ _).mono ?_;rintro e w' ⟨rfl,rfl⟩;rw[d.out];go_wp2_with fail;exact cU (v:=aM #[I m.kind,aK 0,bz m.cl,bz m.cj,ao a m.a8.length c,aK 0,I 0]) uI rfl ⟨rfl,(((bY _ w).alloc bA _).alloc aI _).alloc bU _⟩
 by_cases h1:m.kind=1\/m.kind=2
 .have au:f' m.kind=1:=by rcases h1 with h|h<;>simp[f',h]
  have aj:gV m=⟨m.kind,m.bL,0,0,[],0,0⟩:=by rcases h1 with h|h<;>simp[gV,h]
  have bj:kH m a=none:=by simp[kH,b]
  have aq:kI m c=0:=by simp[kI,b]
  rw[aj,bj,aq];have d:=af au;clear au aj bj aq b h1
  go_in
  go_wp2_with fail;refine(q2 _ _).mono ?_;rintro e w' ⟨rfl,rfl⟩;rw[d.out];go_wp2_with fail;exact cU (v:=aM #[I m.kind,aK m.bL,bz 0,bz 0,ao none 0 0,aK 0,I 0]) uI rfl ⟨rfl,(((bY _ w).alloc bA _).alloc aI _).alloc bU _⟩
 by_cases h2:m.kind=4
 .have au:f' m.kind=18:=by simp[f',h2]
  have aj:gV m=⟨m.kind,0,m.cl,0,[],m.sum,0⟩:=by simp[gV,h2]
  have bj:kH m a=none:=by simp[kH,b]
  have aq:kI m c=0:=by simp[kI,b]
  rw[aj,bj,aq];have d:=af au;clear au aj bj aq b h1 h2
  go_in
  go_wp2_with fail;refine(q2 _ _).mono ?_;rintro e w' ⟨rfl,rfl⟩;rw[d.out];go_wp2_with fail;exact cU (v:=aM #[I m.kind,aK 0,bz m.cl,bz 0,ao none 0 0,aK m.sum,I 0]) uI rfl ⟨rfl,(((bY _ w).alloc bA _).alloc aI _).alloc bU _⟩
 by_cases f:m.kind=5
 .have au:f' m.kind=4:=by simp[f',f]
  have aj:gV m=⟨m.kind,0,0,m.cj,[],0,0⟩:=by simp[gV,f]
  have bj:kH m a=none:=by simp[kH,b]
  have aq:kI m c=0:=by simp[kI,b]
  rw[aj,bj,aq];have d:=af au;clear au aj bj aq b h1 h2 f
  go_in
  go_wp2_with fail;refine(q2 _ _).mono ?_;rintro e w' ⟨rfl,rfl⟩;rw[d.out];go_wp2_with fail;exact cU (v:=aM #[I m.kind,aK 0,bz 0,bz m.cj,ao none 0 0,aK 0,I 0]) uI rfl ⟨rfl,(((bY _ w).alloc bA _).alloc aI _).alloc bU _⟩
 by_cases g:m.kind=6
 .have au:f' m.kind=34:=by simp[f',g]
  have aj:gV m=⟨m.kind,0,m.cl,0,[],0,m.lead⟩:=by simp[gV,g]
  have bj:kH m a=none:=by simp[kH,b]
  have aq:kI m c=0:=by simp[kI,b]
  rw[aj,bj,aq];have d:=af au;clear au aj bj aq b h1 h2 f g
  go_in
  go_wp2_with fail;refine(q2 _ _).mono ?_;rintro e w' ⟨rfl,rfl⟩;rw[d.out];go_wp2_with fail;exact cU (v:=aM #[I m.kind,aK 0,bz m.cl,bz 0,ao none 0 0,aK 0,I m.lead]) uI rfl ⟨rfl,(((bY _ w).alloc bA _).alloc aI _).alloc bU _⟩
 have au:f' m.kind=0:=by simp[f',b,h1,h2,f,g]
 have aj:gV m=⟨m.kind,0,0,0,[],0,0⟩:=by simp[gV,b,h1,h2,f,g]
 have bj:kH m a=none:=by simp[kH,b]
 have aq:kI m c=0:=by simp[kI,b]
 rw[aj,bj,aq];have d:=af au;clear au aj bj aq b h1 h2 f g
 go_in
 go_wp2_with fail;refine(q2 _ _).mono ?_;rintro e w' ⟨rfl,rfl⟩;rw[d.out];go_wp2_with fail;exact cU (v:=aM #[I m.kind,aK 0,bz 0,bz 0,ao none 0 0,aK 0,I 0]) uI rfl ⟨rfl,(((bY _ w).alloc bA _).alloc aI _).alloc bU _⟩
theorem c1.none(w:ai):c1 w none 0 []:=⟨c9 _,c' _,.inl rfl⟩
theorem c1.after{L:ah aQ}(h:c1 w a c L)(x:kz w):c1 x.to a c L:=
 h.keeps (S:=aG) (Keeps.bE x.below a7) (λ_ _ _=>id)
def NZ(m:aZ)(h:c1 w a c m.a8):c1 w (kH m a) (kI m c) (gV m).a8:=by
 unfold kH kI gV;by_cases b:m.kind=3
 .simp only[b];exact h
 simp only[aA b];exact c1.none w
def Od(w:ai)(bQ:a6 aw)(t:TypeId){k:J}{v:aw}(aX:bQ[k]?=some v):(w.alloc (ae bQ t)).cell? (ad w k ab)=some v:=by
 unfold World.cell?;rw[World.alloc_heap_new];exact aX
def I6{m:aZ}(h:dh m):Ending.returned (.bool true)=.returned (.bool (decide (dh m))):=by rw[ed h]
def UU{m:aZ}(h:¬ dh m):Ending.returned (.bool false)=.returned (.bool (decide (dh m))):=by rw[cZ h]
def CF(m:aZ)(h:c1 w a c m.a8):az 199 #[(aM #[I m.kind,aK m.bL,bz m.cl,bz m.cj,ao a m.a8.length c,aK m.sum,I m.lead])] w λe w'=>e=.returned (.bool (decide (dh m)))/\Below w w w':=by
 have hk:Keeps aG w (w.alloc (ae #[I m.kind,aK m.bL,bz m.cl,bz m.cj,ao a m.a8.length c,aK m.sum,I m.lead] 254)):=(Keeps.refl _ w).alloc _;have h1:=h.keeps hk (λ_ _ _=>id);have j:=af (λx:kz (w.alloc (ae #[I m.kind,aK m.bL,bz m.cl,bz m.cj,ao a m.a8.length c,aK m.sum,I m.lead] 254))=>Ym (a:=m) (b:=gV m) (h1.after x) (NZ m (h1.after x)));have i:=af (λx:kz (w.alloc (ae #[I m.kind,aK m.bL,bz m.cl,bz m.cj,ao a m.a8.length c,aK m.sum,I m.lead] 254))=>It x.to a c m.a8 (h1.after x))
 have aq:∀ (k:J) (v:aw),(#[I m.kind,aK m.bL,bz m.cl,bz m.cj,ao a m.a8.length c,aK m.sum,I m.lead]:a6 aw)[k]?=some v->∀ x:kz (w.alloc (ae #[I m.kind,aK m.bL,bz m.cl,bz m.cj,ao a m.a8.length c,aK m.sum,I m.lead] 254)),x.to.cell? (ad w k ab)=some v:=λk v aX x=>
  (Keeps.bE (S:=aG) x.below a7).cell (p:=ad w k ab) (Od w _ _ aX) id
 have bu:=aq 0 _ rfl;have b0:=aq 1 _ rfl;have bs:=aq 2 _ rfl;have ez:=aq 3 _ rfl;have dR:=aq 4 _ rfl;have fV:=aq 5 _ rfl;have dS:=aq 6 _ rfl;have u:=af (UY m);clear aq h h1 hk;by_cases h1:m.kind<1
 .have f:=af (show ¬ dh m from λh=>by have:=h.1.1;omega);have z:decide (m.kind<1)=true:=by simpa using h1
  go_in
  exact sM
 have z:decide (m.kind<1)=false:=by simpa using h1
 by_cases h2:7<m.kind
 .have f:=af (show ¬ dh m from λh=>by have:=h.1.2;omega);have A:decide (7<m.kind)=true:=by simpa using h2
  go_in
  exact sM
 have A:decide (7<m.kind)=false:=by simpa using h2
 by_cases ax:nY m (gV m)=true;rotate_left
 .have s:nY m (gV m)=false:=by simpa using ax
  have f:=af (show ¬ dh m from λh=>ax ((u.o.1 h).2.1));rw[s]at j;clear ax s
  go_in
  exact sM
 rw[ax]at j;by_cases d:fits m.a8=true;rotate_left
 .have r:fits m.a8=false:=by simpa using d
  have f:=af (show ¬ dh m from λh=>d h.2.1);rw[r]at i;clear d r ax
  go_in
  exact sM
 rw[d]at i;by_cases C:m.lead < -1000
 .have f:=af (show ¬ dh m from λh=>by have:=h.2.2.1.1;omega);clear d ax
  go_in
  exact sM
 by_cases D:1000<m.lead
 .have f:=af (show ¬ dh m from λh=>by have:=h.2.2.1.2;omega);clear d ax
  go_in
  exact sM
 by_cases g:m.kind=3/\m.a8.length=0
 .have f:=af (show ¬ dh m from λh=>by have:=(h.2.2.2.2.2.2.1).2 g.1;omega);have y:(m.kind != 3)=false:=by simp[g.1]
  have B:decide (0<m.a8.length)=false:=by simp[jn.1 g.2]
  clear d ax g
  go_in
  exact sM
 have t:=af (show dh m from u.o.2 ⟨⟨U,U⟩,ax,d,⟨U,U⟩,U⟩);clear d ax;by_cases q:m.kind=3
 .have y:(m.kind != 3)=false:=by simp[q]
  have B:0<m.a8.length:=U;clear g q
  go_in
  go_wp2_with fail;refine o9 aH aH ?_
  repeat (go_big_quiet_step (first|(go_at_call 265;exact Calls.ka (CG m a c _))|(go_at_call 264;exact Calls.ka (j.o _))|(go_at_call 266;exact Calls.jv (i.o _))))
  refine wpQuiet_nil ?_;intro _ l;have⟨x,n⟩:=l;subst n;go_wp2_with fail
  all_goals
   go_ret;exact⟨I6 t.o,((bY _ w).alloc bA _).trans (x.below.mono aI)⟩
 have y:(m.kind != 3)=true:=by simp[q]
 clear g q
 go_in
 go_wp2_with fail;refine o9 aH aH ?_
 repeat (go_big_quiet_step (first|(go_at_call 265;exact Calls.ka (CG m a c _))|(go_at_call 264;exact Calls.ka (j.o _))|(go_at_call 266;exact Calls.jv (i.o _))))
 refine wpQuiet_nil ?_;intro _ l;have⟨x,n⟩:=l;subst n;go_wp2_with fail
 all_goals
  go_ret;exact⟨I6 t.o,((bY _ w).alloc bA _).trans (x.below.mono aI)⟩
end Go.Proofs.YtalagblioepadaaGreatDoor
