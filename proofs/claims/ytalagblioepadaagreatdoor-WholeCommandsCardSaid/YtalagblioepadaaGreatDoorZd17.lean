/- The proof, part 17. -/
import Derived.Test.YtalagblioepadaaGreatDoorZd15
namespace Go.Proofs.YtalagblioepadaaGreatDoor
set_option linter.all false
open Proofs.Tryz List Go.RowKit
set_option maxRecDepth 100000
set_option maxHeartbeats 4000000
def vm{p:al}(h:p:=by simp[results,results265,go_sem]):p:=h
def tg{p:al}(h:p:=by
 go_wp2_with fail;refine pF aI aI ?_
 repeat (go_big_quiet_step (first|(go_at_call 265;exact Calls.kB (DD m a c _))|(go_at_call 264;exact Calls.kB (j.o _))|(go_at_call 266;exact Calls.jU (i.o _))))
 refine wpQuiet_nil ?_;intro _ l;have⟨x,n⟩:=l;subst n;go_wp2_with fail
 all_goals
  go_ret;exact⟨Wb f.o,((b7 _ w).alloc bx _).trans (x.below.mono aM)⟩
 ):p:=h
def Od{p:al}(h:p:=by
 rintro e w' ⟨rfl,q,rfl⟩;go_wp2_with fail;go_ret;exact⟨lu (by rw[c.out];simp),Gi (((b7 _ w).alloc bx _).alloc aM _) _⟩
 ):p:=h
def Ap{p:al}(h:p:=by
 go_wp2_with fail;go_ret;exact⟨lu (by rw[c.o]),((b7 _ w).alloc bx _).alloc aM _⟩
 ):p:=h
def Bl(w:aj)(a b:b_ Addr)(fs fP:J)(L M:ah aT)(u:c' w a fs L)(f:c' w b fP M):aA 311 #[aq a L.length fs,aq b M.length fP] w λe w'=>e=.returned (.bool (decide (L=M)))/\∃ q,w'=w.drewN q:=by
 have D:M.length<=9223372036854775807:=ca f.1 f.2.1;by_cases g:L.length=M.length
 .have v:((L.length:aa) == (M.length:aa))=true:=by rw[nY];omega
  have F:((L.length:aa) != (M.length:aa))=false:=by simp[g]
  have n:=ag g
  go_in
  go_wp2;go_loopw [13] (λi wr=>∃ k q:J,k<=L.length/\i=I k/\w.drewN q=wr/\Hid (∀ j (h1:j<L.length) (h2:j<M.length),j<k->L[j]=M[j])) (λi _=>L.length-(intOf i).toNat)
  case atStart=>exact⟨0,0,de _,rfl,rfl,λ_ _ _ h=>absurd h (kZ _)⟩
  obtain⟨k,q,hk,rfl,rfl,p⟩:=hrel;by_cases m:k<L.length
  .have l:k<M.length:=by have:=n.o;omega
   obtain⟨bR,y,rfl,r⟩:=u.at' (by intro h;rw[h]at m;exact kZ _ m);obtain⟨t,z,rfl,s⟩:=f.at' (by intro h;rw[h]at l;exact kZ _ l);have B:w.cell? (ae bR (y+k) ad)=some (aH L[k].toNat):=r k m;have C:w.cell? (ae t (z+k) ad)=some (aH M[k].toNat):=s k l;clear r s;by_cases c:L[k]=M[k]
   .have x:((L[k].toNat:aa) == (M[k].toNat:aa))=true:=by rw[nY,c]
    have E:((L[k].toNat:aa) != (M[k].toNat:aa))=false:=by simp[c]
    go_wp2;go_quiet (fail);go_wp2;go_roundw
    case rel=>exact⟨k+1,q+nq,U,by go_num,rfl,λj h1 h2 A=>by
     by_cases e:j=k
     .subst e;exact c
     .exact p j h1 h2 U⟩
    simp[intOf];omega
   have hne:¬ (L[k].toNat:aa)=(M[k].toNat:aa):=λh=>c (Am.1 U);have x:((L[k].toNat:aa) == (M[k].toNat:aa))=false:=by rw[eA];exact hne
   have hfin:decide (L=M)=false:=by
    rw[pO];intro h;subst h;exact c rfl
   have d:=ag hfin;go_wp2;go_quiet (fail);go_wp2;go_ret;exact⟨by rw[d.o];rfl,q+nq,by simp[World.drewN,hZ]⟩
  have hfin:decide (L=M)=true:=by
   rw[gh];exact ext_getElem n.o λj h1 h2=>p j h1 h2 U
  have d:=ag hfin;go_wp2;go_ret;exact⟨by rw[d.o];rfl,q,rfl⟩
 have v:((L.length:aa) == (M.length:aa))=false:=by rw[eA];omega
 have hfin:decide (L=M)=false:=by
  rw[pO];intro h;exact g (by rw[h])
 go_in
 go_wp2;go_ret;exact⟨by rw[hfin];rfl,0,rfl⟩
section
def Gi{B:J}{a w:aj}(h:Below B a w)(n:J):Below B a (w.drewN n):=h.trans ⟨rfl,rfl,rfl,df _,λ_ _=>rfl⟩
def rL(k:aa)(w:aj):aA 200 #[I k] w λe w'=>e=.returned (I (gv k))/\w=w':=by
 unfold gv;by_cases h1:k=1
 .subst h1
  go_in
  go_wp2;go_ret;exact⟨rfl,rfl⟩
 by_cases h2:k=2
 .subst h2
  go_in
  go_wp2;go_ret;exact⟨rfl,rfl⟩
 by_cases a:k=3
 .subst a
  go_in
  go_wp2;go_ret;exact⟨rfl,rfl⟩
 by_cases b:k=4
 .subst b
  go_in
  go_wp2;go_ret;exact⟨rfl,rfl⟩
 by_cases c:k=5
 .subst c
  go_in
  go_wp2;go_ret;exact⟨rfl,rfl⟩
 by_cases d:k=6
 .subst d
  go_in
  go_wp2;go_ret;exact⟨rfl,rfl⟩
 have f:(k == 1)=false:=by rw[eA];exact h1
 have g:(k == 2)=false:=by rw[eA];exact h2
 have h:(k == 3)=false:=by rw[eA];exact a
 have i:(k == 4)=false:=by rw[eA];exact b
 have j:(k == 5)=false:=by rw[eA];exact c
 have l:(k == 6)=false:=by rw[eA];exact d
 rw[aB U,aB a,aB b,aB c,aB d];clear h1 h2 a b c d
 go_in
 go_wp2;go_ret;exact⟨rfl,rfl⟩
variable{w:aj}{a b:a6}{xP ab:b_ Addr}{fs fP:J}
def ZJ(n:c' w xP fs a.a_)(p:c' w ab fP b.a_):aA 264 #[(aL #[I a.kind,aR a.bQ,bC a.cr,bC a.cp,aq xP a.a_.length fs,aR a.sum,I a.lead]),(aL #[I b.kind,aR b.bQ,bC b.cr,bC b.cp,aq ab b.a_.length fP,aR b.sum,I b.lead])] w λe w'=>e=.returned (.bool (oG a b))/\Below w w w':=by
 have aw:oG a b=(decide (a.kind=b.kind)&&decide (a.bQ=b.bQ)&&decide (a.cr=b.cr)&&decide (a.cp=b.cp)&&decide (a.a_=b.a_)&&decide (a.sum=b.sum)&&decide (a.lead=b.lead)):=rfl;have g:=ag (n.keeps (((bb w).alloc (af #[I a.kind,aR a.bQ,bC a.cr,bC a.cp,aq xP a.a_.length fs,aR a.sum,I a.lead] 254)).alloc (af #[I b.kind,aR b.bQ,bC b.cr,bC b.cp,aq ab b.a_.length fP,aR b.sum,I b.lead] 254)) (λ_ _ _=>id));have h:=ag (p.keeps (((bb w).alloc (af #[I a.kind,aR a.bQ,bC a.cr,bC a.cp,aq xP a.a_.length fs,aR a.sum,I a.lead] 254)).alloc (af #[I b.kind,aR b.bQ,bC b.cr,bC b.cp,aq ab b.a_.length fP,aR b.sum,I b.lead] 254)) (λ_ _ _=>id));by_cases h1:a.kind=b.kind;rotate_left
 .have k:(a.kind == b.kind)=false:=by rw[eA];exact h1
  have c:=ag (show oG a b=false by simp[aw,h1]);clear h1 aw
  go_in
  exact Ap
 have r:(a.kind == b.kind)=true:=by rw[nY];exact h1
 by_cases h2:a.bQ=b.bQ;rotate_left
 .have k:(a.bQ == b.bQ)=false:=by rw[eA];exact h2
  have c:=ag (show oG a b=false by simp[aw,h2]);clear h1 h2 aw
  go_in
  exact Ap
 have s:(a.bQ == b.bQ)=true:=by rw[nY];exact h2
 by_cases d:a.cr=b.cr;rotate_left
 .have k:(a.cr == b.cr)=false:=by rw[eA];exact d
  have c:=ag (show oG a b=false by simp[aw,d]);clear h1 h2 d aw
  go_in
  exact Ap
 have t:(a.cr == b.cr)=true:=by rw[nY];exact d
 by_cases f:a.cp=b.cp;rotate_left
 .have k:(a.cp == b.cp)=false:=by rw[eA];exact f
  have c:=ag (show oG a b=false by simp[aw,f]);clear h1 h2 d f aw
  go_in
  exact Ap
 have u:(a.cp == b.cp)=true:=by rw[nY];exact f
 have hfin:oG a b=(decide (a.a_=b.a_)&&(a.sum == b.sum)&&(a.lead == b.lead)):=by
  rw[aw];simp[h1,h2,d,f];rfl
 have c:=ag hfin;clear h1 h2 d f aw hfin;by_cases i:decide (a.a_=b.a_)=true
 .rw[i]at c;by_cases j:(a.sum == b.sum)=true
  .rw[j]at c
   go_in
   go_wp2_with fail;refine(Bl _ _ _ _ _ a.a_ b.a_ g.o h.o).mono ?_;exact Od
  have m:(a.sum == b.sum)=false:=by simpa using j
  rw[m]at c;clear j
  go_in
  go_wp2_with fail;refine(Bl _ _ _ _ _ a.a_ b.a_ g.out h.out).mono ?_;exact Od
 have l:decide (a.a_=b.a_)=false:=by simpa using i
 rw[l]at c;clear i
 go_in
 go_wp2_with fail;refine(Bl _ _ _ _ _ a.a_ b.a_ g.out h.out).mono ?_;rintro e w' ⟨rfl,q,rfl⟩;go_wp2_with fail;go_ret;exact⟨lu (by rw[c.out];simp),Gi (((b7 _ w).alloc bx _).alloc aM _) _⟩
end
variable{w:aj}{m:a6}{a:b_ Addr}{c:J}
def k8(m:a6)(a:b_ Addr):b_ Addr:=if m.kind=3 then a else none
def k9(m:a6)(c:J):J:=if m.kind=3 then c else 0
def DD(m:a6)(a:b_ Addr)(c:J)(w:aj):aA 265 #[(aL #[I m.kind,aR m.bQ,bC m.cr,bC m.cp,aq a m.a_.length c,aR m.sum,I m.lead])] w λe w'=>e=.returned (aL #[I (ho m).kind,aR (ho m).bQ,bC (ho m).cr,bC (ho m).cp,.slice (k8 m a) (ho m).a_.length (k9 m c),aR (ho m).sum,I (ho m).lead])/\Below w w w':=by
 by_cases b:m.kind=3
 .have av:gv m.kind=14:=by simp[gv,b]
  have ak:ho m=⟨m.kind,0,m.cr,m.cp,m.a_,0,0⟩:=by simp[ho,b]
  have bh:k8 m a=a:=by simp[k8,b]
  have an:k9 m c=c:=by simp[k9,b]
  rw[ak,bh,an];have d:=ag av;clear av ak bh an b
  go_in
  go_wp2_with fail;refine(rL _ _).mono ?_;rintro e w' ⟨rfl,rfl⟩;rw[d.out];go_wp2_with fail;exact c1 (v:=aL #[I m.kind,aR 0,bC m.cr,bC m.cp,aq a m.a_.length c,aR 0,I 0]) vm rfl ⟨rfl,(((b7 _ w).alloc bx _).alloc aM _).alloc b1 _⟩
 by_cases h1:m.kind=1\/m.kind=2
 .have av:gv m.kind=1:=by rcases h1 with h|h<;>simp[gv,h]
  have ak:ho m=⟨m.kind,m.bQ,0,0,[],0,0⟩:=by rcases h1 with h|h<;>simp[ho,h]
  have bh:k8 m a=none:=by simp[k8,b]
  have an:k9 m c=0:=by simp[k9,b]
  rw[ak,bh,an];have d:=ag av;clear av ak bh an b h1
  go_in
  go_wp2_with fail;refine(rL _ _).mono ?_;rintro e w' ⟨rfl,rfl⟩;rw[d.out];go_wp2_with fail;exact c1 (v:=aL #[I m.kind,aR m.bQ,bC 0,bC 0,aq none 0 0,aR 0,I 0]) vm rfl ⟨rfl,(((b7 _ w).alloc bx _).alloc aM _).alloc b1 _⟩
 by_cases h2:m.kind=4
 .have av:gv m.kind=18:=by simp[gv,h2]
  have ak:ho m=⟨m.kind,0,m.cr,0,[],m.sum,0⟩:=by simp[ho,h2]
  have bh:k8 m a=none:=by simp[k8,b]
  have an:k9 m c=0:=by simp[k9,b]
  rw[ak,bh,an];have d:=ag av;clear av ak bh an b h1 h2
  go_in
  go_wp2_with fail;refine(rL _ _).mono ?_;rintro e w' ⟨rfl,rfl⟩;rw[d.out];go_wp2_with fail;exact c1 (v:=aL #[I m.kind,aR 0,bC m.cr,bC 0,aq none 0 0,aR m.sum,I 0]) vm rfl ⟨rfl,(((b7 _ w).alloc bx _).alloc aM _).alloc b1 _⟩
 by_cases f:m.kind=5
 .have av:gv m.kind=4:=by simp[gv,f]
  have ak:ho m=⟨m.kind,0,0,m.cp,[],0,0⟩:=by simp[ho,f]
  have bh:k8 m a=none:=by simp[k8,b]
  have an:k9 m c=0:=by simp[k9,b]
  rw[ak,bh,an];have d:=ag av;clear av ak bh an b h1 h2 f
  go_in
  go_wp2_with fail;refine(rL _ _).mono ?_;rintro e w' ⟨rfl,rfl⟩;rw[d.out];go_wp2_with fail;exact c1 (v:=aL #[I m.kind,aR 0,bC 0,bC m.cp,aq none 0 0,aR 0,I 0]) vm rfl ⟨rfl,(((b7 _ w).alloc bx _).alloc aM _).alloc b1 _⟩
 by_cases g:m.kind=6
 .have av:gv m.kind=34:=by simp[gv,g]
  have ak:ho m=⟨m.kind,0,m.cr,0,[],0,m.lead⟩:=by simp[ho,g]
  have bh:k8 m a=none:=by simp[k8,b]
  have an:k9 m c=0:=by simp[k9,b]
  rw[ak,bh,an];have d:=ag av;clear av ak bh an b h1 h2 f g
  go_in
  go_wp2_with fail;refine(rL _ _).mono ?_;rintro e w' ⟨rfl,rfl⟩;rw[d.out];go_wp2_with fail;exact c1 (v:=aL #[I m.kind,aR 0,bC m.cr,bC 0,aq none 0 0,aR 0,I m.lead]) vm rfl ⟨rfl,(((b7 _ w).alloc bx _).alloc aM _).alloc b1 _⟩
 have av:gv m.kind=0:=by simp[gv,b,h1,h2,f,g]
 have ak:ho m=⟨m.kind,0,0,0,[],0,0⟩:=by simp[ho,b,h1,h2,f,g]
 have bh:k8 m a=none:=by simp[k8,b]
 have an:k9 m c=0:=by simp[k9,b]
 rw[ak,bh,an];have d:=ag av;clear av ak bh an b h1 h2 f g
 go_in
 go_wp2_with fail;refine(rL _ _).mono ?_;rintro e w' ⟨rfl,rfl⟩;rw[d.out];go_wp2_with fail;exact c1 (v:=aL #[I m.kind,aR 0,bC 0,bC 0,aq none 0 0,aR 0,I 0]) vm rfl ⟨rfl,(((b7 _ w).alloc bx _).alloc aM _).alloc b1 _⟩
theorem c'.none(w:aj):c' w none 0 []:=⟨df _,de _,.inl rfl⟩
theorem c'.after{L:ah aT}(h:c' w a c L)(x:k0 w):c' x.to a c L:=
 h.keeps (S:=aG) (Keeps.bJ x.below a8) (λ_ _ _=>id)
def Pj(m:a6)(h:c' w a c m.a_):c' w (k8 m a) (k9 m c) (ho m).a_:=by
 unfold k8 k9 ho;by_cases b:m.kind=3
 .simp only[b];exact h
 simp only[aB b];exact c'.none w
def PC(w:aj)(bV:a7 ay)(t:TypeId){k:J}{v:ay}(aU:bV[k]?=some v):(w.alloc (af bV t)).cell? (ae w k ad)=some v:=by
 unfold World.cell?;rw[World.alloc_heap_new];exact aU
def J_{m:a6}(h:ds m):Ending.returned (.bool true)=.returned (.bool (decide (ds m))):=by rw[ei h]
def Wb{m:a6}(h:¬ ds m):Ending.returned (.bool false)=.returned (.bool (decide (ds m))):=by rw[di h]
def DC(m:a6)(h:c' w a c m.a_):aA 199 #[(aL #[I m.kind,aR m.bQ,bC m.cr,bC m.cp,aq a m.a_.length c,aR m.sum,I m.lead])] w λe w'=>e=.returned (.bool (decide (ds m)))/\Below w w w':=by
 have hk:Keeps aG w (w.alloc (af #[I m.kind,aR m.bQ,bC m.cr,bC m.cp,aq a m.a_.length c,aR m.sum,I m.lead] 254)):=(Keeps.refl _ w).alloc _;have h1:=h.keeps hk (λ_ _ _=>id);have j:=ag (λx:k0 (w.alloc (af #[I m.kind,aR m.bQ,bC m.cr,bC m.cp,aq a m.a_.length c,aR m.sum,I m.lead] 254))=>ZJ (a:=m) (b:=ho m) (h1.after x) (Pj m (h1.after x)));have i:=ag (λx:k0 (w.alloc (af #[I m.kind,aR m.bQ,bC m.cr,bC m.cp,aq a m.a_.length c,aR m.sum,I m.lead] 254))=>Jy x.to a c m.a_ (h1.after x))
 have an:∀ (k:J) (v:ay),(#[I m.kind,aR m.bQ,bC m.cr,bC m.cp,aq a m.a_.length c,aR m.sum,I m.lead]:a7 ay)[k]?=some v->∀ x:k0 (w.alloc (af #[I m.kind,aR m.bQ,bC m.cr,bC m.cp,aq a m.a_.length c,aR m.sum,I m.lead] 254)),x.to.cell? (ae w k ad)=some v:=λk v aU x=>
  (Keeps.bJ (S:=aG) x.below a8).cell (p:=ae w k ad) (PC w _ _ aU) id
 have bz:=an 0 _ rfl;have b6:=an 1 _ rfl;have bw:=an 2 _ rfl;have eC:=an 3 _ rfl;have dY:=an 4 _ rfl;have fV:=an 5 _ rfl;have ek:=an 6 _ rfl;have u:=ag (We m);clear an h h1 hk;by_cases h1:m.kind<1
 .have f:=ag (show ¬ ds m from λh=>by have:=h.1.1;omega);have z:decide (m.kind<1)=true:=by simpa using h1
  go_in
  exact tg
 have z:decide (m.kind<1)=false:=by simpa using h1
 by_cases h2:7<m.kind
 .have f:=ag (show ¬ ds m from λh=>by have:=h.1.2;omega);have A:decide (7<m.kind)=true:=by simpa using h2
  go_in
  exact tg
 have A:decide (7<m.kind)=false:=by simpa using h2
 by_cases aw:oG m (ho m)=true;rotate_left
 .have s:oG m (ho m)=false:=by simpa using aw
  have f:=ag (show ¬ ds m from λh=>aw ((u.o.1 h).2.1));rw[s]at j;clear aw s
  go_in
  exact tg
 rw[aw]at j;by_cases d:fits m.a_=true;rotate_left
 .have r:fits m.a_=false:=by simpa using d
  have f:=ag (show ¬ ds m from λh=>d h.2.1);rw[r]at i;clear d r aw
  go_in
  exact tg
 rw[d]at i;by_cases C:m.lead < -1000
 .have f:=ag (show ¬ ds m from λh=>by have:=h.2.2.1.1;omega);clear d aw
  go_in
  exact tg
 by_cases D:1000<m.lead
 .have f:=ag (show ¬ ds m from λh=>by have:=h.2.2.1.2;omega);clear d aw
  go_in
  exact tg
 by_cases g:m.kind=3/\m.a_.length=0
 .have f:=ag (show ¬ ds m from λh=>by have:=(h.2.2.2.2.2.2.1).2 g.1;omega);have y:(m.kind != 3)=false:=by simp[g.1]
  have B:decide (0<m.a_.length)=false:=by simp[jP.1 g.2]
  clear d aw g
  go_in
  exact tg
 have t:=ag (show ds m from u.o.2 ⟨⟨U,U⟩,aw,d,⟨U,U⟩,U⟩);clear d aw;by_cases q:m.kind=3
 .have y:(m.kind != 3)=false:=by simp[q]
  have B:0<m.a_.length:=U;clear g q
  go_in
  go_wp2_with fail;refine pF aI aI ?_
  repeat (go_big_quiet_step (first|(go_at_call 265;exact Calls.kB (DD m a c _))|(go_at_call 264;exact Calls.kB (j.o _))|(go_at_call 266;exact Calls.jU (i.o _))))
  refine wpQuiet_nil ?_;intro _ l;have⟨x,n⟩:=l;subst n;go_wp2_with fail
  all_goals
   go_ret;exact⟨J_ t.o,((b7 _ w).alloc bx _).trans (x.below.mono aM)⟩
 have y:(m.kind != 3)=true:=by simp[q]
 clear g q
 go_in
 go_wp2_with fail;refine pF aI aI ?_
 repeat (go_big_quiet_step (first|(go_at_call 265;exact Calls.kB (DD m a c _))|(go_at_call 264;exact Calls.kB (j.o _))|(go_at_call 266;exact Calls.jU (i.o _))))
 refine wpQuiet_nil ?_;intro _ l;have⟨x,n⟩:=l;subst n;go_wp2_with fail
 all_goals
  go_ret;exact⟨J_ t.o,((b7 _ w).alloc bx _).trans (x.below.mono aM)⟩
end Go.Proofs.YtalagblioepadaaGreatDoor
