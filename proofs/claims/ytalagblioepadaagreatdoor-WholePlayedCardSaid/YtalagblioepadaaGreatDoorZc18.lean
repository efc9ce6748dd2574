/- The proof, part 18. -/
import Derived.Test.YtalagblioepadaaGreatDoorZc06
import Derived.Test.YtalagblioepadaaGreatDoorZc15
namespace Go.Proofs.YtalagblioepadaaGreatDoor
set_option linter.all false
open Proofs.Tryz List Go.RowKit
set_option maxRecDepth 100000
def z_{p:ak}(h:p:=by simp[eg];omega):p:=h
def My{p:ak}(h:p:=by have:=bV a 0 (.string ⟨(S++L).toArray⟩);simpa[ta]using this):p:=h
variable{w:ai}
def ta(w:ai)(r:J)(S:ah aR):ak:=w.heap[r]?=some (ae #[.string ⟨S.toArray⟩] 484 (0,0))
def J6{cs:a6 ax}{o:J}{v:ax}(h:cs[o]?=some v):cs.setIfInBounds o v=cs:=by
 apply py;intro k;by_cases hk:k=o
 .subst hk
  have:=(kf.1 h).1
  rw[zq this,h]
 rw[wM (λe=>hk e.symm)]
def Zb(r B o:J)(S:ah aR)(cs:a6 ax)(t:TypeId)(n:J)(h:ta w r S)(c:w.heap[B]?=some (ae cs t (0,0)))(hne:B≠r)(al:cs[o]?=some (I (n:aa)))(ar:n<=9223372036854775807)(av:S.length+10<=9223372036854775807):aA 424 #[r,.pointer (some (ad B o ab))] w λe w'=>e=aV #[]/\ta w' r (S++num n)/\w'.heap[B]?=some (ae cs t (0,0))/\Keeps (λb=>b=r) w w':=by
 have l:=j8 (S:=aI) (w:=w.drew) (p:=ad r 0 ab) (bb h rfl) id;have h1:=j8 (S:=aI) (w:=w.drew) (p:=ad B o ab) (bb c al) id;have i:=n' n qy;have m:=λw=>xA w S (num n) U;have g:=λw=>yG n qy w;generalize num n=L at *;have j:=af i
 go_in
 go_wp2_with fail;refine cH 13 ?_;refine fs (λ_=>False) (.range 8) [8,9] 3 ?_;refine gi λK f=>?_;go_simp;refine aU (g _) λao aj=>?_;have hk:Keeps aI w.drew ao:=Keeps.bD aj a7;refine f _ _ (c0 (hk)) ?_;refine n3 (c0 (hk)) ?_;have a:=hk.heap h id;have d:Keeps (λb=>b=r) w ao:=⟨hk.os,hk.tape,hk.output,hk.size,λk h _=>hk.block k h id⟩;have q:=aS a;have s:=bI a;refine fs (λ_=>False) [10,11] [] 1 (hP ?_);refine fs (λ_=>True) [] [12] 0 ?_;refine n3 (c0 ((Keeps.refl _ ao).setCell trivial _)) ?_;refine iu ?_;go_wp2;refine qk (v:=aV #[]) jj rfl ?_;exact⟨rfl,My,eU (hk.heap c id) hne _,d.setCell (p:=ad r 0 ab) rfl _⟩
def Zc(r B o:J)(S:ah aR)(cs:a6 ax)(t:TypeId)(n:aa)(h:ta w r S)(c:w.heap[B]?=some (ae cs t (0,0)))(hne:B≠r)(al:cs[o]?=some (ag n))(ar:-2147483648<=n/\n<=2147483647)(av:S.length+10<=9223372036854775807):aA 425 #[r,.pointer (some (ad B o ab))] w λe w'=>e=aV #[]/\ta w' r (S++num (fC n))/\w'.heap[B]?=some (ae cs t (0,0))/\Keeps (λb=>b=r) w w':=by
 have l:=j8 (S:=aI) (w:=w.drew) (p:=ad r 0 ab) (bb h rfl) id;have h1:=j8 (S:=aI) (w:=w.drew) (p:=ad B o ab) (bb c al) id;have i:=n' (fC n) (by unfold fB fC;split<;>omega);have m:=λw=>xA w S (num (fC n)) U;have g:=λw=>IW n U w;generalize num (fC n)=L at *;have j:=af i
 go_in
 go_wp2_with fail;refine cH 13 ?_;refine fs (λ_=>False) (.range 8) [8,9] 3 ?_;refine gi λK f=>?_;go_simp;refine aU (g _) λao aj=>?_;have hk:Keeps aI w.drew ao:=Keeps.bD aj a7;refine f _ _ (c0 (hk)) ?_;refine n3 (c0 (hk)) ?_;have a:=hk.heap h id;have d:Keeps (λb=>b=r) w ao:=⟨hk.os,hk.tape,hk.output,hk.size,λk h _=>hk.block k h id⟩;have q:=aS a;have s:=bI a;refine fs (λ_=>False) [10,11] [] 1 (hP ?_);refine fs (λ_=>True) [] [12] 0 ?_;refine n3 (c0 ((Keeps.refl _ ao).setCell trivial _)) ?_;refine iu ?_;go_wp2;refine qk (v:=aV #[]) jj rfl ?_;exact⟨rfl,My,eU (hk.heap c id) hne _,d.setCell (p:=ad r 0 ab) rfl _⟩
section
variable{w:ai}
def dt(j:J):IntKind:=if j=1 then .u32 else if j<4 then .i64 else if j<24 then(if (j-4)%10<4 then .i32 else .i64)else if (j-24)%6<4 then .i32 else .i64
def bn(v:J->aa):a6 ax:=((range 60).map λj=>Value.int (dt j) (v j)).toArray
def bF(v:J->aa)(o:J)(x:aa):J->aa:=λj=>if j=o then x else v j
def eg(v:J->aa):(bn v).size=60:=by simp[bn]
def ft(v:J->aa){o:J}(h:o<60):(bn v)[o]?=some (.int (dt o) (v o)):=by simp[bn,h]
def yC(v:J->aa)(o:J)(x:aa):(bn v).setIfInBounds o (.int (dt o) x)=bn (bF v o x):=by
 apply py;intro k;by_cases hk:k<60
 .rw[ft _ hk,Array.getElem?_setIfInBounds,eg,ft _ hk];by_cases e:o=k
  .subst e;rw[aD rfl,aD hk];simp[bF]
  rw[az e];simp[bF,show ¬ k=o from λh=>e h.symm]
 rw[l0 z_,l0 z_]
def mO(k:IntKind)(n:aa):ak:=match k with
 | .i32=>-2147483648<=n/\n<=2147483647
 | .u32=>0<=n/\n<=4294967295
 | _=>-9223372036854775808<=n/\n<=9223372036854775807
structure e'(ea:Type) where
 T:TypeId
 r:J
 tz:FuncId
 tA:FuncId
 St:ea->J->ai->ak
 aI:ea->aa->ea×aa
 si:ea->aa->ea×aa
 p3:aa->ak
variable{ea:Type}
abbrev e'.at(c:e' ea):ax:=.pointer (some (ad c.r 0 ab))
abbrev e'.val(c:e' ea):ax:=.iface c.T c.at
structure e'.oP(c:e' ea):ak where
 Ap:∀ w,(nilAhead 647 c.T c.at "promptbook/freeze.number").run prog w=.ok (some false) w
 Fu:∀ w,(nilAhead 647 c.T c.at "promptbook/freeze.signed").run prog w=.ok (some false) w
 lI:∀ w,(method 647 c.T c.at "promptbook/freeze.number").run prog w=.ok (c.tz,c.at) w
 cH:∀ w,(method 647 c.T c.at "promptbook/freeze.signed").run prog w=.ok (c.tA,c.at) w
 xT:∀ x y w,(callFunc c.tz #[x,y]).run prog w=.ok (.enter c.tz #[x,y]) w
 Gw:∀ x y w,(callFunc c.tA #[x,y]).run prog w=.ok (.enter c.tA #[x,y]) w
 keeps:∀ {S:J->ak} {s k w w'},c.St s k w->Keeps S w w'->¬ S c.r->c.St s k w'
 less:∀ {s k j w},c.St s (k+j) w->c.St s k w
 there:∀ {s k w},c.St s k w->c.r<w.heap.size
 num:∀ {s k B o cs t n} (w:ai),c.St s (k+1) w->w.heap[B]?=some (ae cs t (0,0))->B≠c.r->cs[o]?=some (I n)->mO .i64 n->c.p3 n->
  Calls prog c.tz #[c.at,.pointer (some (ad B o ab))] w λe w'=>e=aV #[]/\c.St (c.aI s n).1 k w'/\w'.heap[B]?=some (ae (cs.setIfInBounds o (I (c.aI s n).2)) t (0,0))/\Keeps (λb=>b=c.r\/b=B) w w'
 Kb:∀ {s k B o cs t n} (w:ai),c.St s (k+1) w->w.heap[B]?=some (ae cs t (0,0))->B≠c.r->cs[o]?=some (ag n)->mO .i32 n->
  Calls prog c.tA #[c.at,.pointer (some (ad B o ab))] w λe w'=>e=aV #[]/\c.St (c.si s n).1 k w'/\w'.heap[B]?=some (ae (cs.setIfInBounds o (ag (c.si s n).2)) t (0,0))/\Keeps (λb=>b=c.r\/b=B) w w'
 GL:∀ s n,mO .i64 n->mO .i64 (c.aI s n).2
 ok:∀ s n,mO .i64 n->c.p3 n->c.p3 (c.aI s n).2
 okB:∀ n,0<=n->c.p3 n
 okW:∀ s n,mO .u32 n->c.p3 n->c.p3 (IntKind.u32.wrap (c.aI s n).2)
 GM:∀ s n,mO .i32 n->mO .i32 (c.si s n).2
def e'.step(c:e' ea)(p:ea×(J->aa))(o:J):ea×(J->aa):=match dt o with
 | .i32=>((c.si p.1 (p.2 o)).1,bF p.2 o (c.si p.1 (p.2 o)).2)
 | .u32=>((c.aI p.1 (p.2 o)).1,bF p.2 o (IntKind.u32.wrap (c.aI p.1 (p.2 o)).2))
 | _=>((c.aI p.1 (p.2 o)).1,bF p.2 o (c.aI p.1 (p.2 o)).2)
structure Fr(c:e' ea)(w:ai)(B:J)(p:ea×(J->aa))(k:J):ak where
 st:c.St p.1 k w
 bc:w.heap[B]?=some (ae (bn p.2) 99 (0,0))
 ne:B≠c.r
 fit:∀ j,j<60->mO (dt j) (p.2 j)/\(dt j≠.i32->c.p3 (p.2 j))
def lL(c:e' ea)(B:J)(b:J):ak:=b=c.r\/b=B
section
variable{c:e' ea}{B:J}{p:ea×(J->aa)}{k:J}
theorem Fr.keeps(al:c.oP){S:J->ak}{w w':ai}(h:Fr c w B p k)(hk:Keeps S w w')(h1:¬ S c.r)(h2:¬ S B):Fr c w' B p k:=⟨al.keeps h.st hk h1,hk.heap h.bc h2,h.ne,h.fit⟩
def tD(al:c.oP)(o:J)(b:o<60)(hk:dt o=.i64)(w:ai)(h:Fr c w B p (k+1)):Calls prog c.tz #[c.at,.pointer (some (ad B o ab))] w λe w'=>e=aV #[]/\Fr c w' B (c.step p o) k/\Keeps (lL c B) w w':=by
 have a:=h.fit o b;rw[hk]at a;have aZ:=ft p.2 b;rw[hk]at aZ;refine aU (al.num w h.st h.bc h.ne aZ a.1 (a.2 aK)) ?_;rintro w' ⟨h1,h2,d⟩;refine⟨rfl,⟨?_,?_,h.ne,?_⟩,d⟩
 .simpa only[e'.step,hk]using h1
 .have:=yC p.2 o (c.aI p.1 (p.2 o)).2
  rw[hk]at this;rw[h2,this];simp only[e'.step,hk]
 intro j f;simp only[e'.step,hk,bF];by_cases e:j=o
 .subst e;rw[aD rfl,hk];exact⟨al.GL _ _ a.1,λ_=>al.ok _ _ a.1 (a.2 aK)⟩
 rw[az e];exact h.fit j f
def G0(al:c.oP)(o:J)(b:o<60)(hk:dt o=.i32)(w:ai)(h:Fr c w B p (k+1)):Calls prog c.tA #[c.at,.pointer (some (ad B o ab))] w λe w'=>e=aV #[]/\Fr c w' B (c.step p o) k/\Keeps (lL c B) w w':=by
 have a:=h.fit o b;rw[hk]at a;have aZ:=ft p.2 b;rw[hk]at aZ;refine aU (al.Kb w h.st h.bc h.ne aZ a.1) ?_;rintro w' ⟨h1,h2,d⟩;refine⟨rfl,⟨?_,?_,h.ne,?_⟩,d⟩
 .simpa only[e'.step,hk]using h1
 .have:=yC p.2 o (c.si p.1 (p.2 o)).2
  rw[hk]at this;rw[h2,this];simp only[e'.step,hk]
 intro j f;simp only[e'.step,hk,bF];by_cases e:j=o
 .subst e;rw[aD rfl,hk];exact⟨al.GM _ _ a.1,λh=>absurd rfl h⟩
 rw[az e];exact h.fit j f
theorem Fr.drew(al:c.oP){w:ai}(h:Fr c w B p k):Fr c w.drew B p k:=h.keeps al (ba w).drew id id
def x5(al:c.oP)(o:J)(l:o+1<60)(h1:dt o=.i32)(h2:dt (o+1)=.i32)(w:ai)(h:Fr c w B p (k+2)):aA 381 #[c.val,.pointer (some (ad B o ab))] w λe w'=>e=aV #[]/\Fr c w' B (c.step (c.step p o) (o+1)) k/\Keeps (lL c B) w w':=by
 have m:=al.Fu;have q:=al.cH;have n:=al.Gw;have j:=λw p k=>G0 (B:=B) (p:=p) (k:=k) al o U h1 w
 go_in
 go_wp2_with fail;refine cH 8 ?_;refine fs (λ_=>True) (.range 4) [4,5,6,7] 0 ?_;refine ir (c0 (Keeps.refl _ _)) ?_;refine ir (c0 (Keeps.refl _ _)) ?_;refine ir (c0 (Keeps.refl _ _)) ?_;refine kv λK a=>?_;go_simp;refine aU (j _ _ _ (h.drew al)) ?_;rintro ao ⟨f,b⟩;refine a _ _ (c0 (b.mono λ_ _ _=>trivial)) ?_;refine iu ?_;have g:=f.drew al;go_wp2_with fail;refine cH 8 ?_;refine fs (λ_=>True) (.range 4) [4,5,6,7] 0 ?_;refine ir (c0 (Keeps.refl _ _)) ?_;refine ir (c0 (Keeps.refl _ _)) ?_;refine ir (c0 (Keeps.refl _ _)) ?_;refine kv λK a=>?_;go_simp;refine aU ((λw p k=>G0 (B:=B) (p:=p) (k:=k) al (o+1) l h2 w) _ _ _ g) ?_;rintro aC ⟨i,d⟩;refine a _ _ (c0 (d.mono λ_ _ _=>trivial)) ?_;refine iu ?_;go_wp2;refine qk (v:=aV #[]) jj rfl ?_;exact⟨rfl,i,((Keeps.refl _ w).drew.trans b).drew.trans d⟩
def e'.steps(c:e' ea)(p:ea×(J->aa))(l:ah J):ea×(J->aa):=l.foldl c.step p
def sn(o:J):ah J:=[o,o+1,o+2,o+3,o+4,o+5]
def QQ(al:c.oP)(o:J)(C:o+5<60)(f:dt o=.i32)(h1:dt (o+1)=.i32)(h2:dt (o+2)=.i32)(g:dt (o+3)=.i32)(i:dt (o+4)=.i64)(j:dt (o+5)=.i64)(w:ai)(h:Fr c w B p (k+6)):aA 368 #[c.val,.pointer (some (ad B o ab))] w λe w'=>e=aV #[]/\Fr c w' B (c.steps p (sn o)) k/\Keeps (lL c B) w w':=by
 have D:=al.Ap;have F:=al.lI;have E:=al.xT;have t:=λw p k=>tD (B:=B) (p:=p) (k:=k) al (o+4) U i w;have u:=λw p k=>tD (B:=B) (p:=p) (k:=k) al (o+5) C j w;have x:=λw p k=>x5 (B:=B) (p:=p) (k:=k) al o U f h1 w;have y:=λw p k=>x5 (B:=B) (p:=p) (k:=k) al (o+2) U h2 g w
 go_in
 go_wp2_with fail;refine aU (x _ _ _ h) ?_;rintro ao ⟨l,z⟩;go_wp2_with fail;refine aU (y _ _ _ l) ?_;rintro aC ⟨m,A⟩;have n:=m.drew al;go_wp2_with fail;refine cH 8 ?_;refine fs (λ_=>True) (.range 4) [4,5,6,7] 0 ?_;refine ir (c0 (Keeps.refl _ _)) ?_;refine ir (c0 (Keeps.refl _ _)) ?_;refine ir (c0 (Keeps.refl _ _)) ?_;refine kv λK a=>?_;go_simp;refine aU (t _ _ _ n) ?_;rintro bm ⟨q,b⟩;refine a _ _ (c0 (b.mono λ_ _ _=>trivial)) ?_;refine iu ?_;have r:=q.drew al;go_wp2_with fail;refine cH 8 ?_;refine fs (λ_=>True) (.range 4) [4,5,6,7] 0 ?_;refine ir (c0 (Keeps.refl _ _)) ?_;refine ir (c0 (Keeps.refl _ _)) ?_;refine ir (c0 (Keeps.refl _ _)) ?_;refine kv λK a=>?_;go_simp;refine aU (u _ _ _ r) ?_;rintro G ⟨s,d⟩;refine a _ _ (c0 (d.mono λ_ _ _=>trivial)) ?_;refine iu ?_;go_wp2;refine qk (v:=aV #[]) jj rfl ?_;exact⟨rfl,s,(((z.trans A).drew.trans b).drew.trans d)⟩
end
end
variable{ea:Type}{c:e' ea}{B:J}{p:ea×(J->aa)}{k:J}
def p8(B o:J):a6 ax:=#[.pointer (some (ad B (o+4) ab)),.pointer (some (ad B (o+5) ab)),.pointer (some (ad B (o+6) ab)),.pointer (some (ad B (o+7) ab)),.pointer (some (ad B (o+8) ab)),.pointer (some (ad B (o+9) ab))]
def UN(B o j:J)(h:j<6):(p8 B o)[j]?=some (.pointer (some (ad B (o+4+j) ab))):=by
 match j,h with
 | 0,_=>rfl
 | 1,_=>rfl
 | 2,_=>rfl
 | 3,_=>rfl
 | 4,_=>rfl
 | 5,_=>rfl
def q3(o j:J):ah J:=[o,o+1,o+2,o+3]++(range j).map λi=>o+4+i
def XO(c:e' ea)(p:ea×(J->aa))(o j:J):c.steps p (q3 o (j+1))=c.step (c.steps p (q3 o j)) (o+4+j):=by
 unfold q3 e'.steps;rw[qs,jy,<-dD,nB];rfl
structure xw(c:e' ea)(w wr:ai)(B N o k j:J)(p:ea×(J->aa)):ak where
 fr:Fr c wr B (c.steps p (q3 o j)) (k+(6-j))
 ptr:wr.heap[N]?=some (ae (p8 B o) 383 (0,0))
 new:N≠c.r/\N≠B
 keeps:Keeps (lL c B) w wr
theorem xw.cell{w wr:ai}{N o j:J}(h:xw c w wr B N o k j p)(i:J)(aw:i<6):wr.cell? (ad N i ab)=some (.pointer (some (ad B (o+4+i) ab))):=bb h.ptr (UN B o i aw)
def GZ(al:c.oP)(o:J)(T:o+9<60)(q:dt o=.i32)(h1:dt (o+1)=.i32)(h2:dt (o+2)=.i32)(a:dt (o+3)=.i32)(b:∀ j,j<6->dt (o+4+j)=.i64)(w:ai)(h:Fr c w B p (k+10)):aA 367 #[c.val,.pointer (some (ad B o ab))] w λe w'=>e=aV #[]/\Fr c w' B (c.steps p (q3 o 6)) k/\Keeps (lL c B) w w':=by
 have R:=al.lI;have Q:=al.xT;have y:=λj (D:j<6) w p k=>tD (B:=B) (p:=p) (k:=k) al (o+4+j) U (b j D) w;have A:=λw p k=>x5 (B:=B) (p:=p) (k:=k) al o U q h1 w;have C:=λw p k=>x5 (B:=B) (p:=p) (k:=k) al (o+2) U h2 a w
 go_in
 go_wp2_with fail;refine(A _ _ _ h).mono ?_;rintro e ao ⟨rfl,s,E⟩;go_wp2_with fail;refine(C _ _ _ s).mono ?_;rintro e aC ⟨rfl,f,F⟩;go_wp2_with fail;refine cH 21 ?_;refine fs (λ_=>False) [0,1,2,3,4,5,6,7,8,9,10,11,12,13,14,15,16,17,20] [18,19] 0 ?_;refine gi λK d=>?_;go_simp;have l:Keeps aI aC.drew (aC.alloc (ae (p8 B o) 383)).drew:=⟨rfl,rfl,rfl,aK,λk hk _=>zv _ _ _ hk⟩;refine d _ _ (c0 (l)) ?_;clear d K;refine kv λK d=>?_;go_simp;refine d _ _ (c0 (l)) ?_;clear d K;refine iu ?_;have m:Keeps aI aC (aC.alloc (ae (p8 B o) 383)).drew:=((Keeps.refl _ aC).alloc _).drew;have z:(aC.alloc (ae (p8 B o) 383)).drew.heap[aC.heap.size]?=some (ae (p8 B o) 383 (0,0)):=aX aC _;have t:=f.keeps al m id id;have O:=al.there f.st;have P:=bP f.bc;have H:xw c w (aC.alloc (ae (p8 B o) 383)).drew B aC.heap.size o k 0 p:=⟨t,z,⟨U,U⟩,(E.trans F).trans (m.mono λ_ _ x=>x.elim)⟩;have n:=af H;clear H t z m l s f E F h A C O P q h1 h2 a b;change Exit.then _ _ _ _ (aC.alloc (ae (p8 B o) 383)).drew;generalize (aC.alloc (ae (p8 B o) 383)).drew=bm at *;generalize aC.heap.size=N at *;have M:=af y;clear y;go_wp2_with fail;go_loopw [5,36] (λ_ i wr=>∃ j:J,j<=6/\i=I j/\Hid (xw c w wr B N o k j p)) (λ_ i _=>6-(intOf i).toNat)
 case atStart=>exact⟨0,U,rfl,n⟩
 obtain⟨j,D,rfl,aT⟩:=hrel;obtain⟨L,rfl⟩:∃ L:ai,L=wr:=⟨_,rfl⟩;clear n;by_cases S:(j:aa)<6
 .have W:=aT.out.cell j U;have r:=aT.out.fr;rw[show k+(6-j)=(k+(6-(j+1)))+1 by omega]at r;go_wp2_with fail;refine(M.o j U _ _ _ r).mono ?_;rintro e V ⟨rfl,u,G⟩;rw[<-XO]at u;go_wp2_with fail;go_roundw
  case rel=>
   have⟨h1,h2,⟨a,b⟩,g⟩:=aT.out;exact⟨j+1,U,by go_num,⟨u,G.heap h2 (λh=>h.elim a b),⟨a,b⟩,g.trans G⟩⟩
  simp[intOf];omega
 obtain rfl:j=6:=U;obtain⟨h1,h2,a,g⟩:=aT.out;go_wp2;refine qk (v:=aV #[]) jj rfl ?_;exact⟨rfl,h1,g⟩
end Go.Proofs.YtalagblioepadaaGreatDoor
