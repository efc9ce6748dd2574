/- The proof, part 17. -/
import Derived.Test.YtalagblioepadaaGreatDoorZc15
namespace Go.Proofs.YtalagblioepadaaGreatDoor
set_option linter.all false
open Proofs.Tryz List Go.RowKit
set_option maxRecDepth 100000
set_option maxHeartbeats 4000000
def uX{p:ak}(h:p:=by simp[results,results265,go_sem]):p:=h
def sY{p:ak}(h:p:=by
 go_wp2_with fail;refine pk aH aH ?_
 repeat (go_big_quiet_step (first|(go_at_call 265;exact Calls.kl (C8 m a c _))|(go_at_call 264;exact Calls.kl (j.o _))|(go_at_call 266;exact Calls.jF (i.o _))))
 refine wpQuiet_nil ?_;intro _ l;have⟨x,n⟩:=l;subst n;go_wp2_with fail
 all_goals
  go_ret;exact⟨Vu f.o,((b3 _ w).alloc bs _).trans (x.below.mono aK)⟩
 ):p:=h
def Nw{p:ak}(h:p:=by
 rintro e w' ⟨rfl,q,rfl⟩;go_wp2_with fail;go_ret;exact⟨k_ (by rw[c.out];simp),FI (((b3 _ w).alloc bs _).alloc aK _) _⟩
 ):p:=h
def Ag{p:ak}(h:p:=by
 go_wp2_with fail;go_ret;exact⟨k_ (by rw[c.o]),((b3 _ w).alloc bs _).alloc aK _⟩
 ):p:=h
def AS(w:ai)(a b:b5 Addr)(fh fD:J)(L M:ah aR)(u:c3 w a fh L)(f:c3 w b fD M):aA 311 #[aq a L.length fh,aq b M.length fD] w λe w'=>e=.returned (.bool (decide (L=M)))/\∃ q,w'=w.drewN q:=by
 have D:M.length<=9223372036854775807:=b7 f.1 f.2.1;by_cases g:L.length=M.length
 .have v:((L.length:aa) == (M.length:aa))=true:=by rw[nH];omega
  have F:((L.length:aa) != (M.length:aa))=false:=by simp[g]
  have n:=af g
  go_in
  go_wp2;go_loopw [13] (λi wr=>∃ k q:J,k<=L.length/\i=I k/\w.drewN q=wr/\Hid (∀ j (h1:j<L.length) (h2:j<M.length),j<k->L[j]=M[j])) (λi _=>L.length-(intOf i).toNat)
  case atStart=>exact⟨0,0,c' _,rfl,rfl,λ_ _ _ h=>absurd h (lp _)⟩
  obtain⟨k,q,hk,rfl,rfl,p⟩:=hrel;by_cases m:k<L.length
  .have l:k<M.length:=by have:=n.o;omega
   obtain⟨bO,y,rfl,r⟩:=u.at' (by intro h;rw[h]at m;exact lp _ m);obtain⟨t,z,rfl,s⟩:=f.at' (by intro h;rw[h]at l;exact lp _ l);have B:w.cell? (ad bO (y+k) ab)=some (aF L[k].toNat):=r k m;have C:w.cell? (ad t (z+k) ab)=some (aF M[k].toNat):=s k l;clear r s;by_cases c:L[k]=M[k]
   .have x:((L[k].toNat:aa) == (M[k].toNat:aa))=true:=by rw[nH,c]
    have E:((L[k].toNat:aa) != (M[k].toNat:aa))=false:=by simp[c]
    go_wp2;go_quiet (fail);go_wp2;go_roundw
    case rel=>exact⟨k+1,q+nq,U,by go_num,rfl,λj h1 h2 A=>by
     by_cases e:j=k
     .subst e;exact c
     .exact p j h1 h2 U⟩
    simp[intOf];omega
   have hne:¬ (L[k].toNat:aa)=(M[k].toNat:aa):=λh=>c (zT.1 U);have x:((L[k].toNat:aa) == (M[k].toNat:aa))=false:=by rw[eu];exact hne
   have hfin:decide (L=M)=false:=by
    rw[px];intro h;subst h;exact c rfl
   have d:=af hfin;go_wp2;go_quiet (fail);go_wp2;go_ret;exact⟨by rw[d.o];rfl,q+nq,by simp[World.drewN,ih]⟩
  have hfin:decide (L=M)=true:=by
   rw[fZ];exact ext_getElem n.o λj h1 h2=>p j h1 h2 U
  have d:=af hfin;go_wp2;go_ret;exact⟨by rw[d.o];rfl,q,rfl⟩
 have v:((L.length:aa) == (M.length:aa))=false:=by rw[eu];omega
 have hfin:decide (L=M)=false:=by
  rw[px];intro h;exact g (by rw[h])
 go_in
 go_wp2;go_ret;exact⟨by rw[hfin];rfl,0,rfl⟩
section
def FI{B:J}{a w:ai}(h:Below B a w)(n:J):Below B a (w.drewN n):=h.trans ⟨rfl,rfl,rfl,c9 _,λ_ _=>rfl⟩
def rn(k:aa)(w:ai):aA 200 #[I k] w λe w'=>e=.returned (I (gj k))/\w=w':=by
 unfold gj;by_cases h1:k=1
 .subst h1
  go_in
  go_wp2;go_ret;exact⟨rfl,rfl⟩
 by_cases h2:k=2
 .subst h2
  go_in
  go_wp2;go_ret;exact⟨rfl,rfl⟩
 by_cases a:k=3
 .subst a
  go_in
  go_wp2;go_ret;exact⟨rfl,rfl⟩
 by_cases b:k=4
 .subst b
  go_in
  go_wp2;go_ret;exact⟨rfl,rfl⟩
 by_cases c:k=5
 .subst c
  go_in
  go_wp2;go_ret;exact⟨rfl,rfl⟩
 by_cases d:k=6
 .subst d
  go_in
  go_wp2;go_ret;exact⟨rfl,rfl⟩
 have f:(k == 1)=false:=by rw[eu];exact h1
 have g:(k == 2)=false:=by rw[eu];exact h2
 have h:(k == 3)=false:=by rw[eu];exact a
 have i:(k == 4)=false:=by rw[eu];exact b
 have j:(k == 5)=false:=by rw[eu];exact c
 have l:(k == 6)=false:=by rw[eu];exact d
 rw[az U,az a,az b,az c,az d];clear h1 h2 a b c d
 go_in
 go_wp2;go_ret;exact⟨rfl,rfl⟩
variable{w:ai}{a b:a1}{xz hx:b5 Addr}{fh fD:J}
def Y0(n:c3 w xz fh a.a8)(p:c3 w hx fD b.a8):aA 264 #[(aQ #[I a.kind,aP a.bK,bx a.cj,bx a.ch,aq xz a.a8.length fh,aP a.sum,I a.lead]),(aQ #[I b.kind,aP b.bK,bx b.cj,bx b.ch,aq hx b.a8.length fD,aP b.sum,I b.lead])] w λe w'=>e=.returned (.bool (oh a b))/\Below w w w':=by
 have av:oh a b=(decide (a.kind=b.kind)&&decide (a.bK=b.bK)&&decide (a.cj=b.cj)&&decide (a.ch=b.ch)&&decide (a.a8=b.a8)&&decide (a.sum=b.sum)&&decide (a.lead=b.lead)):=rfl;have g:=af (n.keeps (((ba w).alloc (ae #[I a.kind,aP a.bK,bx a.cj,bx a.ch,aq xz a.a8.length fh,aP a.sum,I a.lead] 254)).alloc (ae #[I b.kind,aP b.bK,bx b.cj,bx b.ch,aq hx b.a8.length fD,aP b.sum,I b.lead] 254)) (λ_ _ _=>id));have h:=af (p.keeps (((ba w).alloc (ae #[I a.kind,aP a.bK,bx a.cj,bx a.ch,aq xz a.a8.length fh,aP a.sum,I a.lead] 254)).alloc (ae #[I b.kind,aP b.bK,bx b.cj,bx b.ch,aq hx b.a8.length fD,aP b.sum,I b.lead] 254)) (λ_ _ _=>id));by_cases h1:a.kind=b.kind;rotate_left
 .have k:(a.kind == b.kind)=false:=by rw[eu];exact h1
  have c:=af (show oh a b=false by simp[av,h1]);clear h1 av
  go_in
  exact Ag
 have r:(a.kind == b.kind)=true:=by rw[nH];exact h1
 by_cases h2:a.bK=b.bK;rotate_left
 .have k:(a.bK == b.bK)=false:=by rw[eu];exact h2
  have c:=af (show oh a b=false by simp[av,h2]);clear h1 h2 av
  go_in
  exact Ag
 have s:(a.bK == b.bK)=true:=by rw[nH];exact h2
 by_cases d:a.cj=b.cj;rotate_left
 .have k:(a.cj == b.cj)=false:=by rw[eu];exact d
  have c:=af (show oh a b=false by simp[av,d]);clear h1 h2 d av
  go_in
  exact Ag
 have t:(a.cj == b.cj)=true:=by rw[nH];exact d
 by_cases f:a.ch=b.ch;rotate_left
 .have k:(a.ch == b.ch)=false:=by rw[eu];exact f
  have c:=af (show oh a b=false by simp[av,f]);clear h1 h2 d f av
  go_in
  exact Ag
 have u:(a.ch == b.ch)=true:=by rw[nH];exact f
 have hfin:oh a b=(decide (a.a8=b.a8)&&(a.sum == b.sum)&&(a.lead == b.lead)):=by
  rw[av];simp[h1,h2,d,f];rfl
 have c:=af hfin;clear h1 h2 d f av hfin;by_cases i:decide (a.a8=b.a8)=true
 .rw[i]at c;by_cases j:(a.sum == b.sum)=true
  .rw[j]at c
   go_in
   go_wp2_with fail;refine(AS _ _ _ _ _ a.a8 b.a8 g.o h.o).mono ?_;exact Nw
  have m:(a.sum == b.sum)=false:=by simpa using j
  rw[m]at c;clear j
  go_in
  go_wp2_with fail;refine(AS _ _ _ _ _ a.a8 b.a8 g.out h.out).mono ?_;exact Nw
 have l:decide (a.a8=b.a8)=false:=by simpa using i
 rw[l]at c;clear i
 go_in
 go_wp2_with fail;refine(AS _ _ _ _ _ a.a8 b.a8 g.out h.out).mono ?_;rintro e w' ⟨rfl,q,rfl⟩;go_wp2_with fail;go_ret;exact⟨k_ (by rw[c.out];simp),FI (((b3 _ w).alloc bs _).alloc aK _) _⟩
end
variable{w:ai}{m:a1}{a:b5 Addr}{c:J}
def kR(m:a1)(a:b5 Addr):b5 Addr:=if m.kind=3 then a else none
def kS(m:a1)(c:J):J:=if m.kind=3 then c else 0
def C8(m:a1)(a:b5 Addr)(c:J)(w:ai):aA 265 #[(aQ #[I m.kind,aP m.bK,bx m.cj,bx m.ch,aq a m.a8.length c,aP m.sum,I m.lead])] w λe w'=>e=.returned (aQ #[I (hb m).kind,aP (hb m).bK,bx (hb m).cj,bx (hb m).ch,.slice (kR m a) (hb m).a8.length (kS m c),aP (hb m).sum,I (hb m).lead])/\Below w w w':=by
 by_cases b:m.kind=3
 .have ar:gj m.kind=14:=by simp[gj,b]
  have aj:hb m=⟨m.kind,0,m.cj,m.ch,m.a8,0,0⟩:=by simp[hb,b]
  have bd:kR m a=a:=by simp[kR,b]
  have al:kS m c=c:=by simp[kS,b]
  rw[aj,bd,al];have d:=af ar;clear ar aj bd al b
  go_in
  go_wp2_with fail;refine(rn _ _).mono ?_;rintro e w' ⟨rfl,rfl⟩;rw[d.out];go_wp2_with fail;exact cU (v:=aQ #[I m.kind,aP 0,bx m.cj,bx m.ch,aq a m.a8.length c,aP 0,I 0]) uX rfl ⟨rfl,(((b3 _ w).alloc bs _).alloc aK _).alloc bT _⟩
 by_cases h1:m.kind=1\/m.kind=2
 .have ar:gj m.kind=1:=by rcases h1 with h|h<;>simp[gj,h]
  have aj:hb m=⟨m.kind,m.bK,0,0,[],0,0⟩:=by rcases h1 with h|h<;>simp[hb,h]
  have bd:kR m a=none:=by simp[kR,b]
  have al:kS m c=0:=by simp[kS,b]
  rw[aj,bd,al];have d:=af ar;clear ar aj bd al b h1
  go_in
  go_wp2_with fail;refine(rn _ _).mono ?_;rintro e w' ⟨rfl,rfl⟩;rw[d.out];go_wp2_with fail;exact cU (v:=aQ #[I m.kind,aP m.bK,bx 0,bx 0,aq none 0 0,aP 0,I 0]) uX rfl ⟨rfl,(((b3 _ w).alloc bs _).alloc aK _).alloc bT _⟩
 by_cases h2:m.kind=4
 .have ar:gj m.kind=18:=by simp[gj,h2]
  have aj:hb m=⟨m.kind,0,m.cj,0,[],m.sum,0⟩:=by simp[hb,h2]
  have bd:kR m a=none:=by simp[kR,b]
  have al:kS m c=0:=by simp[kS,b]
  rw[aj,bd,al];have d:=af ar;clear ar aj bd al b h1 h2
  go_in
  go_wp2_with fail;refine(rn _ _).mono ?_;rintro e w' ⟨rfl,rfl⟩;rw[d.out];go_wp2_with fail;exact cU (v:=aQ #[I m.kind,aP 0,bx m.cj,bx 0,aq none 0 0,aP m.sum,I 0]) uX rfl ⟨rfl,(((b3 _ w).alloc bs _).alloc aK _).alloc bT _⟩
 by_cases f:m.kind=5
 .have ar:gj m.kind=4:=by simp[gj,f]
  have aj:hb m=⟨m.kind,0,0,m.ch,[],0,0⟩:=by simp[hb,f]
  have bd:kR m a=none:=by simp[kR,b]
  have al:kS m c=0:=by simp[kS,b]
  rw[aj,bd,al];have d:=af ar;clear ar aj bd al b h1 h2 f
  go_in
  go_wp2_with fail;refine(rn _ _).mono ?_;rintro e w' ⟨rfl,rfl⟩;rw[d.out];go_wp2_with fail;exact cU (v:=aQ #[I m.kind,aP 0,bx 0,bx m.ch,aq none 0 0,aP 0,I 0]) uX rfl ⟨rfl,(((b3 _ w).alloc bs _).alloc aK _).alloc bT _⟩
 by_cases g:m.kind=6
 .have ar:gj m.kind=34:=by simp[gj,g]
  have aj:hb m=⟨m.kind,0,m.cj,0,[],0,m.lead⟩:=by simp[hb,g]
  have bd:kR m a=none:=by simp[kR,b]
  have al:kS m c=0:=by simp[kS,b]
  rw[aj,bd,al];have d:=af ar;clear ar aj bd al b h1 h2 f g
  go_in
  go_wp2_with fail;refine(rn _ _).mono ?_;rintro e w' ⟨rfl,rfl⟩;rw[d.out];go_wp2_with fail;exact cU (v:=aQ #[I m.kind,aP 0,bx m.cj,bx 0,aq none 0 0,aP 0,I m.lead]) uX rfl ⟨rfl,(((b3 _ w).alloc bs _).alloc aK _).alloc bT _⟩
 have ar:gj m.kind=0:=by simp[gj,b,h1,h2,f,g]
 have aj:hb m=⟨m.kind,0,0,0,[],0,0⟩:=by simp[hb,b,h1,h2,f,g]
 have bd:kR m a=none:=by simp[kR,b]
 have al:kS m c=0:=by simp[kS,b]
 rw[aj,bd,al];have d:=af ar;clear ar aj bd al b h1 h2 f g
 go_in
 go_wp2_with fail;refine(rn _ _).mono ?_;rintro e w' ⟨rfl,rfl⟩;rw[d.out];go_wp2_with fail;exact cU (v:=aQ #[I m.kind,aP 0,bx 0,bx 0,aq none 0 0,aP 0,I 0]) uX rfl ⟨rfl,(((b3 _ w).alloc bs _).alloc aK _).alloc bT _⟩
theorem c3.none(w:ai):c3 w none 0 []:=⟨c9 _,c' _,.inl rfl⟩
theorem c3.after{L:ah aR}(h:c3 w a c L)(x:kJ w):c3 x.to a c L:=
 h.keeps (S:=aI) (Keeps.bD x.below a7) (λ_ _ _=>id)
def Oz(m:a1)(h:c3 w a c m.a8):c3 w (kR m a) (kS m c) (hb m).a8:=by
 unfold kR kS hb;by_cases b:m.kind=3
 .simp only[b];exact h
 simp only[az b];exact c3.none w
def OP(w:ai)(bQ:a6 ax)(t:TypeId){k:J}{v:ax}(aW:bQ[k]?=some v):(w.alloc (ae bQ t)).cell? (ad w k ab)=some v:=by
 unfold World.cell?;rw[World.alloc_heap_new];exact aW
def Jw{m:a1}(h:di m):Ending.returned (.bool true)=.returned (.bool (decide (di m))):=by rw[ee h]
def Vu{m:a1}(h:¬ di m):Ending.returned (.bool false)=.returned (.bool (decide (di m))):=by rw[dd h]
def C7(m:a1)(h:c3 w a c m.a8):aA 199 #[(aQ #[I m.kind,aP m.bK,bx m.cj,bx m.ch,aq a m.a8.length c,aP m.sum,I m.lead])] w λe w'=>e=.returned (.bool (decide (di m)))/\Below w w w':=by
 have hk:Keeps aI w (w.alloc (ae #[I m.kind,aP m.bK,bx m.cj,bx m.ch,aq a m.a8.length c,aP m.sum,I m.lead] 254)):=(Keeps.refl _ w).alloc _;have h1:=h.keeps hk (λ_ _ _=>id);have j:=af (λx:kJ (w.alloc (ae #[I m.kind,aP m.bK,bx m.cj,bx m.ch,aq a m.a8.length c,aP m.sum,I m.lead] 254))=>Y0 (a:=m) (b:=hb m) (h1.after x) (Oz m (h1.after x)));have i:=af (λx:kJ (w.alloc (ae #[I m.kind,aP m.bK,bx m.cj,bx m.ch,aq a m.a8.length c,aP m.sum,I m.lead] 254))=>IV x.to a c m.a8 (h1.after x))
 have al:∀ (k:J) (v:ax),(#[I m.kind,aP m.bK,bx m.cj,bx m.ch,aq a m.a8.length c,aP m.sum,I m.lead]:a6 ax)[k]?=some v->∀ x:kJ (w.alloc (ae #[I m.kind,aP m.bK,bx m.cj,bx m.ch,aq a m.a8.length c,aP m.sum,I m.lead] 254)),x.to.cell? (ad w k ab)=some v:=λk v aW x=>
  (Keeps.bD (S:=aI) x.below a7).cell (p:=ad w k ab) (OP w _ _ aW) id
 have bt:=al 0 _ rfl;have bY:=al 1 _ rfl;have bo:=al 2 _ rfl;have eo:=al 3 _ rfl;have dM:=al 4 _ rfl;have fN:=al 5 _ rfl;have eb:=al 6 _ rfl;have u:=af (Vx m);clear al h h1 hk;by_cases h1:m.kind<1
 .have f:=af (show ¬ di m from λh=>by have:=h.1.1;omega);have z:decide (m.kind<1)=true:=by simpa using h1
  go_in
  exact sY
 have z:decide (m.kind<1)=false:=by simpa using h1
 by_cases h2:7<m.kind
 .have f:=af (show ¬ di m from λh=>by have:=h.1.2;omega);have A:decide (7<m.kind)=true:=by simpa using h2
  go_in
  exact sY
 have A:decide (7<m.kind)=false:=by simpa using h2
 by_cases av:oh m (hb m)=true;rotate_left
 .have s:oh m (hb m)=false:=by simpa using av
  have f:=af (show ¬ di m from λh=>av ((u.o.1 h).2.1));rw[s]at j;clear av s
  go_in
  exact sY
 rw[av]at j;by_cases d:fits m.a8=true;rotate_left
 .have r:fits m.a8=false:=by simpa using d
  have f:=af (show ¬ di m from λh=>d h.2.1);rw[r]at i;clear d r av
  go_in
  exact sY
 rw[d]at i;by_cases C:m.lead < -1000
 .have f:=af (show ¬ di m from λh=>by have:=h.2.2.1.1;omega);clear d av
  go_in
  exact sY
 by_cases D:1000<m.lead
 .have f:=af (show ¬ di m from λh=>by have:=h.2.2.1.2;omega);clear d av
  go_in
  exact sY
 by_cases g:m.kind=3/\m.a8.length=0
 .have f:=af (show ¬ di m from λh=>by have:=(h.2.2.2.2.2.2.1).2 g.1;omega);have y:(m.kind != 3)=false:=by simp[g.1]
  have B:decide (0<m.a8.length)=false:=by simp[jx.1 g.2]
  clear d av g
  go_in
  exact sY
 have t:=af (show di m from u.o.2 ⟨⟨U,U⟩,av,d,⟨U,U⟩,U⟩);clear d av;by_cases q:m.kind=3
 .have y:(m.kind != 3)=false:=by simp[q]
  have B:0<m.a8.length:=U;clear g q
  go_in
  go_wp2_with fail;refine pk aH aH ?_
  repeat (go_big_quiet_step (first|(go_at_call 265;exact Calls.kl (C8 m a c _))|(go_at_call 264;exact Calls.kl (j.o _))|(go_at_call 266;exact Calls.jF (i.o _))))
  refine wpQuiet_nil ?_;intro _ l;have⟨x,n⟩:=l;subst n;go_wp2_with fail
  all_goals
   go_ret;exact⟨Jw t.o,((b3 _ w).alloc bs _).trans (x.below.mono aK)⟩
 have y:(m.kind != 3)=true:=by simp[q]
 clear g q
 go_in
 go_wp2_with fail;refine pk aH aH ?_
 repeat (go_big_quiet_step (first|(go_at_call 265;exact Calls.kl (C8 m a c _))|(go_at_call 264;exact Calls.kl (j.o _))|(go_at_call 266;exact Calls.jF (i.o _))))
 refine wpQuiet_nil ?_;intro _ l;have⟨x,n⟩:=l;subst n;go_wp2_with fail
 all_goals
  go_ret;exact⟨Jw t.o,((b3 _ w).alloc bs _).trans (x.below.mono aK)⟩
end Go.Proofs.YtalagblioepadaaGreatDoor
