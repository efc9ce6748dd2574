/- The proof, part 18. -/
import Derived.Test.YtalagblioepadaaGreatDoorZb06
import Derived.Test.YtalagblioepadaaGreatDoorZb15
namespace Go.Proofs.YtalagblioepadaaGreatDoor
set_option linter.all false
open Proofs.Tryz List Go.RowKit
set_option maxRecDepth 100000
def zK{p:ak}(h:p:=by simp[eh];omega):p:=h
def L2{p:ak}(h:p:=by have:=bW a 0 (.string ⟨(S++L).toArray⟩);simpa[sX]using this):p:=h
variable{w:ai}
def sX(w:ai)(r:J)(S:ah aQ):ak:=w.heap[r]?=some (ae #[.string ⟨S.toArray⟩] 484 (0,0))
def JE{cs:a6 aw}{o:J}{v:aw}(h:cs[o]?=some v):cs.setIfInBounds o v=cs:=by
 apply pc;intro k;by_cases hk:k=o
 .subst hk
  have:=(j8.1 h).1
  rw[y4 this,h]
 rw[wo (λe=>hk e.symm)]
def Yz(r B o:J)(S:ah aQ)(cs:a6 aw)(t:TypeId)(n:J)(h:sX w r S)(c:w.heap[B]?=some (ae cs t (0,0)))(hne:B≠r)(aq:cs[o]?=some (I (n:aa)))(au:n<=9223372036854775807)(ax:S.length+10<=9223372036854775807):az 424 #[r,.pointer (some (ad B o ab))] w λe w'=>e=aV #[]/\sX w' r (S++num n)/\w'.heap[B]?=some (ae cs t (0,0))/\Keeps (λb=>b=r) w w':=by
 have l:=j0 (S:=aG) (w:=w.drew) (p:=ad r 0 ab) (bb h rfl) id;have h1:=j0 (S:=aG) (w:=w.drew) (p:=ad B o ab) (bb c aq) id;have i:=nR n qh;have m:=λw=>xe w S (num n) U;have g:=λw=>yk n qh w;generalize num n=L at *;have j:=af i
 go_in
 go_wp2_with fail;refine cB 13 ?_;refine fk (λ_=>False) (.range 8) [8,9] 3 ?_;refine f_ λK f=>?_;go_simp;refine aT (g _) λan aj=>?_;have hk:Keeps aG w.drew an:=Keeps.bE aj a7;refine f _ _ (cX (hk)) ?_;refine nM (cX (hk)) ?_;have a:=hk.heap h id;have d:Keeps (λb=>b=r) w an:=⟨hk.os,hk.tape,hk.output,hk.size,λk h _=>hk.block k h id⟩;have q:=aP a;have s:=bJ a;refine fk (λ_=>False) [10,11] [] 1 (hC ?_);refine fk (λ_=>True) [] [12] 0 ?_;refine nM (cX ((Keeps.refl _ an).setCell trivial _)) ?_;refine ih ?_;go_wp2;refine p7 (v:=aV #[]) jc rfl ?_;exact⟨rfl,L2,eO (hk.heap c id) hne _,d.setCell (p:=ad r 0 ab) rfl _⟩
def YA(r B o:J)(S:ah aQ)(cs:a6 aw)(t:TypeId)(n:aa)(h:sX w r S)(c:w.heap[B]?=some (ae cs t (0,0)))(hne:B≠r)(aq:cs[o]?=some (ag n))(au:-2147483648<=n/\n<=2147483647)(ax:S.length+10<=9223372036854775807):az 425 #[r,.pointer (some (ad B o ab))] w λe w'=>e=aV #[]/\sX w' r (S++num (fz n))/\w'.heap[B]?=some (ae cs t (0,0))/\Keeps (λb=>b=r) w w':=by
 have l:=j0 (S:=aG) (w:=w.drew) (p:=ad r 0 ab) (bb h rfl) id;have h1:=j0 (S:=aG) (w:=w.drew) (p:=ad B o ab) (bb c aq) id;have i:=nR (fz n) (by unfold fy fz;split<;>omega);have m:=λw=>xe w S (num (fz n)) U;have g:=λw=>Iu n U w;generalize num (fz n)=L at *;have j:=af i
 go_in
 go_wp2_with fail;refine cB 13 ?_;refine fk (λ_=>False) (.range 8) [8,9] 3 ?_;refine f_ λK f=>?_;go_simp;refine aT (g _) λan aj=>?_;have hk:Keeps aG w.drew an:=Keeps.bE aj a7;refine f _ _ (cX (hk)) ?_;refine nM (cX (hk)) ?_;have a:=hk.heap h id;have d:Keeps (λb=>b=r) w an:=⟨hk.os,hk.tape,hk.output,hk.size,λk h _=>hk.block k h id⟩;have q:=aP a;have s:=bJ a;refine fk (λ_=>False) [10,11] [] 1 (hC ?_);refine fk (λ_=>True) [] [12] 0 ?_;refine nM (cX ((Keeps.refl _ an).setCell trivial _)) ?_;refine ih ?_;go_wp2;refine p7 (v:=aV #[]) jc rfl ?_;exact⟨rfl,L2,eO (hk.heap c id) hne _,d.setCell (p:=ad r 0 ab) rfl _⟩
section
variable{w:ai}
def dt(j:J):IntKind:=if j=1 then .u32 else if j<4 then .i64 else if j<24 then(if (j-4)%10<4 then .i32 else .i64)else if (j-24)%6<4 then .i32 else .i64
def bo(v:J->aa):a6 aw:=((range 60).map λj=>Value.int (dt j) (v j)).toArray
def bH(v:J->aa)(o:J)(x:aa):J->aa:=λj=>if j=o then x else v j
def eh(v:J->aa):(bo v).size=60:=by simp[bo]
def fl(v:J->aa){o:J}(h:o<60):(bo v)[o]?=some (.int (dt o) (v o)):=by simp[bo,h]
def yg(v:J->aa)(o:J)(x:aa):(bo v).setIfInBounds o (.int (dt o) x)=bo (bH v o x):=by
 apply pc;intro k;by_cases hk:k<60
 .rw[fl _ hk,Array.getElem?_setIfInBounds,eh,fl _ hk];by_cases e:o=k
  .subst e;rw[aD rfl,aD hk];simp[bH]
  rw[aA e];simp[bH,show ¬ k=o from λh=>e h.symm]
 rw[lO zK,lO zK]
def mC(k:IntKind)(n:aa):ak:=match k with
 | .i32=>-2147483648<=n/\n<=2147483647
 | .u32=>0<=n/\n<=4294967295
 | _=>-9223372036854775808<=n/\n<=9223372036854775807
structure e4(eb:Type) where
 T:TypeId
 r:J
 tj:FuncId
 tk:FuncId
 St:eb->J->ai->ak
 aG:eb->aa->eb×aa
 r4:eb->aa->eb×aa
 pO:aa->ak
variable{eb:Type}
abbrev e4.at(c:e4 eb):aw:=.pointer (some (ad c.r 0 ab))
abbrev e4.val(c:e4 eb):aw:=.iface c.T c.at
structure e4.oC(c:e4 eb):ak where
 z6:∀ w,(nilAhead 647 c.T c.at "promptbook/freeze.number").run prog w=.ok (some false) w
 E2:∀ w,(nilAhead 647 c.T c.at "promptbook/freeze.signed").run prog w=.ok (some false) w
 lq:∀ w,(method 647 c.T c.at "promptbook/freeze.number").run prog w=.ok (c.tj,c.at) w
 cB:∀ w,(method 647 c.T c.at "promptbook/freeze.signed").run prog w=.ok (c.tk,c.at) w
 xw:∀ x y w,(callFunc c.tj #[x,y]).run prog w=.ok (.enter c.tj #[x,y]) w
 F2:∀ x y w,(callFunc c.tk #[x,y]).run prog w=.ok (.enter c.tk #[x,y]) w
 keeps:∀ {S:J->ak} {s k w w'},c.St s k w->Keeps S w w'->¬ S c.r->c.St s k w'
 less:∀ {s k j w},c.St s (k+j) w->c.St s k w
 there:∀ {s k w},c.St s k w->c.r<w.heap.size
 num:∀ {s k B o cs t n} (w:ai),c.St s (k+1) w->w.heap[B]?=some (ae cs t (0,0))->B≠c.r->cs[o]?=some (I n)->mC .i64 n->c.pO n->
  Calls prog c.tj #[c.at,.pointer (some (ad B o ab))] w λe w'=>e=aV #[]/\c.St (c.aG s n).1 k w'/\w'.heap[B]?=some (ae (cs.setIfInBounds o (I (c.aG s n).2)) t (0,0))/\Keeps (λb=>b=c.r\/b=B) w w'
 JK:∀ {s k B o cs t n} (w:ai),c.St s (k+1) w->w.heap[B]?=some (ae cs t (0,0))->B≠c.r->cs[o]?=some (ag n)->mC .i32 n->
  Calls prog c.tk #[c.at,.pointer (some (ad B o ab))] w λe w'=>e=aV #[]/\c.St (c.r4 s n).1 k w'/\w'.heap[B]?=some (ae (cs.setIfInBounds o (ag (c.r4 s n).2)) t (0,0))/\Keeps (λb=>b=c.r\/b=B) w w'
 Ge:∀ s n,mC .i64 n->mC .i64 (c.aG s n).2
 ok:∀ s n,mC .i64 n->c.pO n->c.pO (c.aG s n).2
 okB:∀ n,0<=n->c.pO n
 okW:∀ s n,mC .u32 n->c.pO n->c.pO (IntKind.u32.wrap (c.aG s n).2)
 Gf:∀ s n,mC .i32 n->mC .i32 (c.r4 s n).2
def e4.step(c:e4 eb)(p:eb×(J->aa))(o:J):eb×(J->aa):=match dt o with
 | .i32=>((c.r4 p.1 (p.2 o)).1,bH p.2 o (c.r4 p.1 (p.2 o)).2)
 | .u32=>((c.aG p.1 (p.2 o)).1,bH p.2 o (IntKind.u32.wrap (c.aG p.1 (p.2 o)).2))
 | _=>((c.aG p.1 (p.2 o)).1,bH p.2 o (c.aG p.1 (p.2 o)).2)
structure Fr(c:e4 eb)(w:ai)(B:J)(p:eb×(J->aa))(k:J):ak where
 st:c.St p.1 k w
 bc:w.heap[B]?=some (ae (bo p.2) 99 (0,0))
 ne:B≠c.r
 fit:∀ j,j<60->mC (dt j) (p.2 j)/\(dt j≠.i32->c.pO (p.2 j))
def lv(c:e4 eb)(B:J)(b:J):ak:=b=c.r\/b=B
section
variable{c:e4 eb}{B:J}{p:eb×(J->aa)}{k:J}
theorem Fr.keeps(aq:c.oC){S:J->ak}{w w':ai}(h:Fr c w B p k)(hk:Keeps S w w')(h1:¬ S c.r)(h2:¬ S B):Fr c w' B p k:=⟨aq.keeps h.st hk h1,hk.heap h.bc h2,h.ne,h.fit⟩
def tn(aq:c.oC)(o:J)(b:o<60)(hk:dt o=.i64)(w:ai)(h:Fr c w B p (k+1)):Calls prog c.tj #[c.at,.pointer (some (ad B o ab))] w λe w'=>e=aV #[]/\Fr c w' B (c.step p o) k/\Keeps (lv c B) w w':=by
 have a:=h.fit o b;rw[hk]at a;have a1:=fl p.2 b;rw[hk]at a1;refine aT (aq.num w h.st h.bc h.ne a1 a.1 (a.2 aI)) ?_;rintro w' ⟨h1,h2,d⟩;refine⟨rfl,⟨?_,?_,h.ne,?_⟩,d⟩
 .simpa only[e4.step,hk]using h1
 .have:=yg p.2 o (c.aG p.1 (p.2 o)).2
  rw[hk]at this;rw[h2,this];simp only[e4.step,hk]
 intro j f;simp only[e4.step,hk,bH];by_cases e:j=o
 .subst e;rw[aD rfl,hk];exact⟨aq.Ge _ _ a.1,λ_=>aq.ok _ _ a.1 (a.2 aI)⟩
 rw[aA e];exact h.fit j f
def Gu(aq:c.oC)(o:J)(b:o<60)(hk:dt o=.i32)(w:ai)(h:Fr c w B p (k+1)):Calls prog c.tk #[c.at,.pointer (some (ad B o ab))] w λe w'=>e=aV #[]/\Fr c w' B (c.step p o) k/\Keeps (lv c B) w w':=by
 have a:=h.fit o b;rw[hk]at a;have a1:=fl p.2 b;rw[hk]at a1;refine aT (aq.JK w h.st h.bc h.ne a1 a.1) ?_;rintro w' ⟨h1,h2,d⟩;refine⟨rfl,⟨?_,?_,h.ne,?_⟩,d⟩
 .simpa only[e4.step,hk]using h1
 .have:=yg p.2 o (c.r4 p.1 (p.2 o)).2
  rw[hk]at this;rw[h2,this];simp only[e4.step,hk]
 intro j f;simp only[e4.step,hk,bH];by_cases e:j=o
 .subst e;rw[aD rfl,hk];exact⟨aq.Gf _ _ a.1,λh=>absurd rfl h⟩
 rw[aA e];exact h.fit j f
theorem Fr.drew(aq:c.oC){w:ai}(h:Fr c w B p k):Fr c w.drew B p k:=h.keeps aq (a_ w).drew id id
def xI(aq:c.oC)(o:J)(l:o+1<60)(h1:dt o=.i32)(h2:dt (o+1)=.i32)(w:ai)(h:Fr c w B p (k+2)):az 381 #[c.val,.pointer (some (ad B o ab))] w λe w'=>e=aV #[]/\Fr c w' B (c.step (c.step p o) (o+1)) k/\Keeps (lv c B) w w':=by
 have m:=aq.E2;have q:=aq.cB;have n:=aq.F2;have j:=λw p k=>Gu (B:=B) (p:=p) (k:=k) aq o U h1 w
 go_in
 go_wp2_with fail;refine cB 8 ?_;refine fk (λ_=>True) (.range 4) [4,5,6,7] 0 ?_;refine ig (cX (Keeps.refl _ _)) ?_;refine ig (cX (Keeps.refl _ _)) ?_;refine ig (cX (Keeps.refl _ _)) ?_;refine km λK a=>?_;go_simp;refine aT (j _ _ _ (h.drew aq)) ?_;rintro an ⟨f,b⟩;refine a _ _ (cX (b.mono λ_ _ _=>trivial)) ?_;refine ih ?_;have g:=f.drew aq;go_wp2_with fail;refine cB 8 ?_;refine fk (λ_=>True) (.range 4) [4,5,6,7] 0 ?_;refine ig (cX (Keeps.refl _ _)) ?_;refine ig (cX (Keeps.refl _ _)) ?_;refine ig (cX (Keeps.refl _ _)) ?_;refine km λK a=>?_;go_simp;refine aT ((λw p k=>Gu (B:=B) (p:=p) (k:=k) aq (o+1) l h2 w) _ _ _ g) ?_;rintro aB ⟨i,d⟩;refine a _ _ (cX (d.mono λ_ _ _=>trivial)) ?_;refine ih ?_;go_wp2;refine p7 (v:=aV #[]) jc rfl ?_;exact⟨rfl,i,((Keeps.refl _ w).drew.trans b).drew.trans d⟩
def e4.steps(c:e4 eb)(p:eb×(J->aa))(l:ah J):eb×(J->aa):=l.foldl c.step p
def r_(o:J):ah J:=[o,o+1,o+2,o+3,o+4,o+5]
def Qf(aq:c.oC)(o:J)(C:o+5<60)(f:dt o=.i32)(h1:dt (o+1)=.i32)(h2:dt (o+2)=.i32)(g:dt (o+3)=.i32)(i:dt (o+4)=.i64)(j:dt (o+5)=.i64)(w:ai)(h:Fr c w B p (k+6)):az 368 #[c.val,.pointer (some (ad B o ab))] w λe w'=>e=aV #[]/\Fr c w' B (c.steps p (r_ o)) k/\Keeps (lv c B) w w':=by
 have D:=aq.z6;have F:=aq.lq;have E:=aq.xw;have t:=λw p k=>tn (B:=B) (p:=p) (k:=k) aq (o+4) U i w;have u:=λw p k=>tn (B:=B) (p:=p) (k:=k) aq (o+5) C j w;have x:=λw p k=>xI (B:=B) (p:=p) (k:=k) aq o U f h1 w;have y:=λw p k=>xI (B:=B) (p:=p) (k:=k) aq (o+2) U h2 g w
 go_in
 go_wp2_with fail;refine aT (x _ _ _ h) ?_;rintro an ⟨l,z⟩;go_wp2_with fail;refine aT (y _ _ _ l) ?_;rintro aB ⟨m,A⟩;have n:=m.drew aq;go_wp2_with fail;refine cB 8 ?_;refine fk (λ_=>True) (.range 4) [4,5,6,7] 0 ?_;refine ig (cX (Keeps.refl _ _)) ?_;refine ig (cX (Keeps.refl _ _)) ?_;refine ig (cX (Keeps.refl _ _)) ?_;refine km λK a=>?_;go_simp;refine aT (t _ _ _ n) ?_;rintro bn ⟨q,b⟩;refine a _ _ (cX (b.mono λ_ _ _=>trivial)) ?_;refine ih ?_;have r:=q.drew aq;go_wp2_with fail;refine cB 8 ?_;refine fk (λ_=>True) (.range 4) [4,5,6,7] 0 ?_;refine ig (cX (Keeps.refl _ _)) ?_;refine ig (cX (Keeps.refl _ _)) ?_;refine ig (cX (Keeps.refl _ _)) ?_;refine km λK a=>?_;go_simp;refine aT (u _ _ _ r) ?_;rintro G ⟨s,d⟩;refine a _ _ (cX (d.mono λ_ _ _=>trivial)) ?_;refine ih ?_;go_wp2;refine p7 (v:=aV #[]) jc rfl ?_;exact⟨rfl,s,(((z.trans A).drew.trans b).drew.trans d)⟩
end
end
variable{eb:Type}{c:e4 eb}{B:J}{p:eb×(J->aa)}{k:J}
def pT(B o:J):a6 aw:=#[.pointer (some (ad B (o+4) ab)),.pointer (some (ad B (o+5) ab)),.pointer (some (ad B (o+6) ab)),.pointer (some (ad B (o+7) ab)),.pointer (some (ad B (o+8) ab)),.pointer (some (ad B (o+9) ab))]
def Ub(B o j:J)(h:j<6):(pT B o)[j]?=some (.pointer (some (ad B (o+4+j) ab))):=by
 match j,h with
 | 0,_=>rfl
 | 1,_=>rfl
 | 2,_=>rfl
 | 3,_=>rfl
 | 4,_=>rfl
 | 5,_=>rfl
def qM(o j:J):ah J:=[o,o+1,o+2,o+3]++(range j).map λi=>o+4+i
def Xb(c:e4 eb)(p:eb×(J->aa))(o j:J):c.steps p (qM o (j+1))=c.step (c.steps p (qM o j)) (o+4+j):=by
 unfold qM e4.steps;rw[q',jO,<-dD,nj];rfl
structure xa(c:e4 eb)(w wr:ai)(B N o k j:J)(p:eb×(J->aa)):ak where
 fr:Fr c wr B (c.steps p (qM o j)) (k+(6-j))
 ptr:wr.heap[N]?=some (ae (pT B o) 383 (0,0))
 new:N≠c.r/\N≠B
 keeps:Keeps (lv c B) w wr
theorem xa.cell{w wr:ai}{N o j:J}(h:xa c w wr B N o k j p)(i:J)(av:i<6):wr.cell? (ad N i ab)=some (.pointer (some (ad B (o+4+i) ab))):=bb h.ptr (Ub B o i av)
def Gt(aq:c.oC)(o:J)(T:o+9<60)(q:dt o=.i32)(h1:dt (o+1)=.i32)(h2:dt (o+2)=.i32)(a:dt (o+3)=.i32)(b:∀ j,j<6->dt (o+4+j)=.i64)(w:ai)(h:Fr c w B p (k+10)):az 367 #[c.val,.pointer (some (ad B o ab))] w λe w'=>e=aV #[]/\Fr c w' B (c.steps p (qM o 6)) k/\Keeps (lv c B) w w':=by
 have R:=aq.lq;have Q:=aq.xw;have y:=λj (D:j<6) w p k=>tn (B:=B) (p:=p) (k:=k) aq (o+4+j) U (b j D) w;have A:=λw p k=>xI (B:=B) (p:=p) (k:=k) aq o U q h1 w;have C:=λw p k=>xI (B:=B) (p:=p) (k:=k) aq (o+2) U h2 a w
 go_in
 go_wp2_with fail;refine(A _ _ _ h).mono ?_;rintro e an ⟨rfl,s,E⟩;go_wp2_with fail;refine(C _ _ _ s).mono ?_;rintro e aB ⟨rfl,f,F⟩;go_wp2_with fail;refine cB 21 ?_;refine fk (λ_=>False) [0,1,2,3,4,5,6,7,8,9,10,11,12,13,14,15,16,17,20] [18,19] 0 ?_;refine f_ λK d=>?_;go_simp;have l:Keeps aG aB.drew (aB.alloc (ae (pT B o) 383)).drew:=⟨rfl,rfl,rfl,aI,λk hk _=>y9 _ _ _ hk⟩;refine d _ _ (cX (l)) ?_;clear d K;refine km λK d=>?_;go_simp;refine d _ _ (cX (l)) ?_;clear d K;refine ih ?_;have m:Keeps aG aB (aB.alloc (ae (pT B o) 383)).drew:=((Keeps.refl _ aB).alloc _).drew;have z:(aB.alloc (ae (pT B o) 383)).drew.heap[aB.heap.size]?=some (ae (pT B o) 383 (0,0)):=aW aB _;have t:=f.keeps aq m id id;have O:=aq.there f.st;have P:=bR f.bc;have H:xa c w (aB.alloc (ae (pT B o) 383)).drew B aB.heap.size o k 0 p:=⟨t,z,⟨U,U⟩,(E.trans F).trans (m.mono λ_ _ x=>x.elim)⟩;have n:=af H;clear H t z m l s f E F h A C O P q h1 h2 a b;change Exit.then _ _ _ _ (aB.alloc (ae (pT B o) 383)).drew;generalize (aB.alloc (ae (pT B o) 383)).drew=bn at *;generalize aB.heap.size=N at *;have M:=af y;clear y;go_wp2_with fail;go_loopw [5,36] (λ_ i wr=>∃ j:J,j<=6/\i=I j/\Hid (xa c w wr B N o k j p)) (λ_ i _=>6-(intOf i).toNat)
 case atStart=>exact⟨0,U,rfl,n⟩
 obtain⟨j,D,rfl,aU⟩:=hrel;obtain⟨L,rfl⟩:∃ L:ai,L=wr:=⟨_,rfl⟩;clear n;by_cases S:(j:aa)<6
 .have W:=aU.out.cell j U;have r:=aU.out.fr;rw[show k+(6-j)=(k+(6-(j+1)))+1 by omega]at r;go_wp2_with fail;refine(M.o j U _ _ _ r).mono ?_;rintro e V ⟨rfl,u,G⟩;rw[<-Xb]at u;go_wp2_with fail;go_roundw
  case rel=>
   have⟨h1,h2,⟨a,b⟩,g⟩:=aU.out;exact⟨j+1,U,by go_num,⟨u,G.heap h2 (λh=>h.elim a b),⟨a,b⟩,g.trans G⟩⟩
  simp[intOf];omega
 obtain rfl:j=6:=U;obtain⟨h1,h2,a,g⟩:=aU.out;go_wp2;refine p7 (v:=aV #[]) jc rfl ?_;exact⟨rfl,h1,g⟩
end Go.Proofs.YtalagblioepadaaGreatDoor
