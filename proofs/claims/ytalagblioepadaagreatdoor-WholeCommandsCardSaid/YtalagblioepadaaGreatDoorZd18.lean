/- The proof, part 18. -/
import Derived.Test.YtalagblioepadaaGreatDoorZd06
import Derived.Test.YtalagblioepadaaGreatDoorZd15
namespace Go.Proofs.YtalagblioepadaaGreatDoor
set_option linter.all false
open Proofs.Tryz List Go.RowKit
set_option maxRecDepth 100000
def AB{p:al}(h:p:=by simp[et];omega):p:=h
def Nd{p:al}(h:p:=by have:=b3 a 0 (.string ⟨(S++L).toArray⟩);simpa[tr]using this):p:=h
variable{w:aj}
def tr(w:aj)(r:J)(S:ah aT):al:=w.heap[r]?=some (af #[.string ⟨S.toArray⟩] 484 (0,0))
def KJ{cs:a7 ay}{o:J}{v:ay}(h:cs[o]?=some v):cs.setIfInBounds o v=cs:=by
 apply pP;intro k;by_cases hk:k=o
 .subst hk
  have:=(jv.1 h).1
  rw[zN this,h]
 rw[w1 (λe=>hk e.symm)]
def ZW(r B o:J)(S:ah aT)(cs:a7 ay)(t:TypeId)(n:J)(h:tr w r S)(c:w.heap[B]?=some (af cs t (0,0)))(hne:B≠r)(an:cs[o]?=some (I (n:aa)))(av:n<=9223372036854775807)(aw:S.length+10<=9223372036854775807):aA 424 #[r,.pointer (some (ae B o ad))] w λe w'=>e=aY #[]/\tr w' r (S++num n)/\w'.heap[B]?=some (af cs t (0,0))/\Keeps (λb=>b=r) w w':=by
 have l:=jE (S:=aG) (w:=w.drew) (p:=ae r 0 ad) (bf h rfl) id;have h1:=jE (S:=aG) (w:=w.drew) (p:=ae B o ad) (bf c an) id;have i:=oA n qP;have m:=λw=>xQ w S (num n) U;have g:=λw=>yY n qP w;generalize num n=L at *;have j:=ag i
 go_in
 go_wp2_with fail;refine cJ 13 ?_;refine fu (λ_=>False) (.range 8) [8,9] 3 ?_;refine gu λK f=>?_;go_simp;refine aW (g _) λao ak=>?_;have hk:Keeps aG w.drew ao:=Keeps.bJ ak a8;refine f _ _ (c6 (hk)) ?_;refine ou (c6 (hk)) ?_;have a:=hk.heap h id;have d:Keeps (λb=>b=r) w ao:=⟨hk.os,hk.tape,hk.output,hk.size,λk h _=>hk.block k h id⟩;have q:=aO a;have s:=bP a;refine fu (λ_=>False) [10,11] [] 1 (hQ ?_);refine fu (λ_=>True) [] [12] 0 ?_;refine ou (c6 ((Keeps.refl _ ao).setCell trivial _)) ?_;refine iI ?_;go_wp2;refine qD (v:=aY #[]) jA rfl ?_;exact⟨rfl,Nd,e0 (hk.heap c id) hne _,d.setCell (p:=ae r 0 ad) rfl _⟩
def ZX(r B o:J)(S:ah aT)(cs:a7 ay)(t:TypeId)(n:aa)(h:tr w r S)(c:w.heap[B]?=some (af cs t (0,0)))(hne:B≠r)(an:cs[o]?=some (ai n))(av:-2147483648<=n/\n<=2147483647)(aw:S.length+10<=9223372036854775807):aA 425 #[r,.pointer (some (ae B o ad))] w λe w'=>e=aY #[]/\tr w' r (S++num (fN n))/\w'.heap[B]?=some (af cs t (0,0))/\Keeps (λb=>b=r) w w':=by
 have l:=jE (S:=aG) (w:=w.drew) (p:=ae r 0 ad) (bf h rfl) id;have h1:=jE (S:=aG) (w:=w.drew) (p:=ae B o ad) (bf c an) id;have i:=oA (fN n) (by unfold fL fN;split<;>omega);have m:=λw=>xQ w S (num (fN n)) U;have g:=λw=>Jz n U w;generalize num (fN n)=L at *;have j:=ag i
 go_in
 go_wp2_with fail;refine cJ 13 ?_;refine fu (λ_=>False) (.range 8) [8,9] 3 ?_;refine gu λK f=>?_;go_simp;refine aW (g _) λao ak=>?_;have hk:Keeps aG w.drew ao:=Keeps.bJ ak a8;refine f _ _ (c6 (hk)) ?_;refine ou (c6 (hk)) ?_;have a:=hk.heap h id;have d:Keeps (λb=>b=r) w ao:=⟨hk.os,hk.tape,hk.output,hk.size,λk h _=>hk.block k h id⟩;have q:=aO a;have s:=bP a;refine fu (λ_=>False) [10,11] [] 1 (hQ ?_);refine fu (λ_=>True) [] [12] 0 ?_;refine ou (c6 ((Keeps.refl _ ao).setCell trivial _)) ?_;refine iI ?_;go_wp2;refine qD (v:=aY #[]) jA rfl ?_;exact⟨rfl,Nd,e0 (hk.heap c id) hne _,d.setCell (p:=ae r 0 ad) rfl _⟩
section
variable{w:aj}
def dA(j:J):IntKind:=if j=1 then .u32 else if j<4 then .i64 else if j<24 then(if (j-4)%10<4 then .i32 else .i64)else if (j-24)%6<4 then .i32 else .i64
def br(v:J->aa):a7 ay:=((range 60).map λj=>Value.int (dA j) (v j)).toArray
def bK(v:J->aa)(o:J)(x:aa):J->aa:=λj=>if j=o then x else v j
def et(v:J->aa):(br v).size=60:=by simp[br]
def fD(v:J->aa){o:J}(h:o<60):(br v)[o]?=some (.int (dA o) (v o)):=by simp[br,h]
def yT(v:J->aa)(o:J)(x:aa):(br v).setIfInBounds o (.int (dA o) x)=br (bK v o x):=by
 apply pP;intro k;by_cases hk:k<60
 .rw[fD _ hk,Array.getElem?_setIfInBounds,et,fD _ hk];by_cases e:o=k
  .subst e;rw[aE rfl,aE hk];simp[bK]
  rw[aB e];simp[bK,show ¬ k=o from λh=>e h.symm]
 rw[mg AB,mg AB]
def nf(k:IntKind)(n:aa):al:=match k with
 | .i32=>-2147483648<=n/\n<=2147483647
 | .u32=>0<=n/\n<=4294967295
 | _=>-9223372036854775808<=n/\n<=9223372036854775807
structure fh(ej:Type) where
 T:TypeId
 r:J
 tO:FuncId
 tP:FuncId
 St:ej->J->aj->al
 aG:ej->aa->ej×aa
 sG:ej->aa->ej×aa
 qi:aa->al
variable{ej:Type}
abbrev fh.at(c:fh ej):ay:=.pointer (some (ae c.r 0 ad))
abbrev fh.val(c:fh ej):ay:=.iface c.T c.at
structure fh.o6(c:fh ej):al where
 AT:∀ w,(nilAhead 647 c.T c.at "promptbook/freeze.number").run prog w=.ok (some false) w
 F3:∀ w,(nilAhead 647 c.T c.at "promptbook/freeze.signed").run prog w=.ok (some false) w
 lZ:∀ w,(method 647 c.T c.at "promptbook/freeze.number").run prog w=.ok (c.tO,c.at) w
 cJ:∀ w,(method 647 c.T c.at "promptbook/freeze.signed").run prog w=.ok (c.tP,c.at) w
 x':∀ x y w,(callFunc c.tO #[x,y]).run prog w=.ok (.enter c.tO #[x,y]) w
 Hb:∀ x y w,(callFunc c.tP #[x,y]).run prog w=.ok (.enter c.tP #[x,y]) w
 keeps:∀ {S:J->al} {s k w w'},c.St s k w->Keeps S w w'->¬ S c.r->c.St s k w'
 less:∀ {s k j w},c.St s (k+j) w->c.St s k w
 there:∀ {s k w},c.St s k w->c.r<w.heap.size
 num:∀ {s k B o cs t n} (w:aj),c.St s (k+1) w->w.heap[B]?=some (af cs t (0,0))->B≠c.r->cs[o]?=some (I n)->nf .i64 n->c.qi n->
  Calls prog c.tO #[c.at,.pointer (some (ae B o ad))] w λe w'=>e=aY #[]/\c.St (c.aG s n).1 k w'/\w'.heap[B]?=some (af (cs.setIfInBounds o (I (c.aG s n).2)) t (0,0))/\Keeps (λb=>b=c.r\/b=B) w w'
 KO:∀ {s k B o cs t n} (w:aj),c.St s (k+1) w->w.heap[B]?=some (af cs t (0,0))->B≠c.r->cs[o]?=some (ai n)->nf .i32 n->
  Calls prog c.tP #[c.at,.pointer (some (ae B o ad))] w λe w'=>e=aY #[]/\c.St (c.sG s n).1 k w'/\w'.heap[B]?=some (af (cs.setIfInBounds o (ai (c.sG s n).2)) t (0,0))/\Keeps (λb=>b=c.r\/b=B) w w'
 Ho:∀ s n,nf .i64 n->nf .i64 (c.aG s n).2
 ok:∀ s n,nf .i64 n->c.qi n->c.qi (c.aG s n).2
 okB:∀ n,0<=n->c.qi n
 okW:∀ s n,nf .u32 n->c.qi n->c.qi (IntKind.u32.wrap (c.aG s n).2)
 Hp:∀ s n,nf .i32 n->nf .i32 (c.sG s n).2
def fh.step(c:fh ej)(p:ej×(J->aa))(o:J):ej×(J->aa):=match dA o with
 | .i32=>((c.sG p.1 (p.2 o)).1,bK p.2 o (c.sG p.1 (p.2 o)).2)
 | .u32=>((c.aG p.1 (p.2 o)).1,bK p.2 o (IntKind.u32.wrap (c.aG p.1 (p.2 o)).2))
 | _=>((c.aG p.1 (p.2 o)).1,bK p.2 o (c.aG p.1 (p.2 o)).2)
structure Fr(c:fh ej)(w:aj)(B:J)(p:ej×(J->aa))(k:J):al where
 st:c.St p.1 k w
 bd:w.heap[B]?=some (af (br p.2) 99 (0,0))
 ne:B≠c.r
 fit:∀ j,j<60->nf (dA j) (p.2 j)/\(dA j≠.i32->c.qi (p.2 j))
def l2(c:fh ej)(B:J)(b:J):al:=b=c.r\/b=B
section
variable{c:fh ej}{B:J}{p:ej×(J->aa)}{k:J}
theorem Fr.keeps(an:c.o6){S:J->al}{w w':aj}(h:Fr c w B p k)(hk:Keeps S w w')(h1:¬ S c.r)(h2:¬ S B):Fr c w' B p k:=⟨an.keeps h.st hk h1,hk.heap h.bd h2,h.ne,h.fit⟩
def tT(an:c.o6)(o:J)(b:o<60)(hk:dA o=.i64)(w:aj)(h:Fr c w B p (k+1)):Calls prog c.tO #[c.at,.pointer (some (ae B o ad))] w λe w'=>e=aY #[]/\Fr c w' B (c.step p o) k/\Keeps (l2 c B) w w':=by
 have a:=h.fit o b;rw[hk]at a;have aZ:=fD p.2 b;rw[hk]at aZ;refine aW (an.num w h.st h.bd h.ne aZ a.1 (a.2 aM)) ?_;rintro w' ⟨h1,h2,d⟩;refine⟨rfl,⟨?_,?_,h.ne,?_⟩,d⟩
 .simpa only[fh.step,hk]using h1
 .have:=yT p.2 o (c.aG p.1 (p.2 o)).2
  rw[hk]at this;rw[h2,this];simp only[fh.step,hk]
 intro j f;simp only[fh.step,hk,bK];by_cases e:j=o
 .subst e;rw[aE rfl,hk];exact⟨an.Ho _ _ a.1,λ_=>an.ok _ _ a.1 (a.2 aM)⟩
 rw[aB e];exact h.fit j f
def HD(an:c.o6)(o:J)(b:o<60)(hk:dA o=.i32)(w:aj)(h:Fr c w B p (k+1)):Calls prog c.tP #[c.at,.pointer (some (ae B o ad))] w λe w'=>e=aY #[]/\Fr c w' B (c.step p o) k/\Keeps (l2 c B) w w':=by
 have a:=h.fit o b;rw[hk]at a;have aZ:=fD p.2 b;rw[hk]at aZ;refine aW (an.KO w h.st h.bd h.ne aZ a.1) ?_;rintro w' ⟨h1,h2,d⟩;refine⟨rfl,⟨?_,?_,h.ne,?_⟩,d⟩
 .simpa only[fh.step,hk]using h1
 .have:=yT p.2 o (c.sG p.1 (p.2 o)).2
  rw[hk]at this;rw[h2,this];simp only[fh.step,hk]
 intro j f;simp only[fh.step,hk,bK];by_cases e:j=o
 .subst e;rw[aE rfl,hk];exact⟨an.Hp _ _ a.1,λh=>absurd rfl h⟩
 rw[aB e];exact h.fit j f
theorem Fr.drew(an:c.o6){w:aj}(h:Fr c w B p k):Fr c w.drew B p k:=h.keeps an (bb w).drew id id
def yl(an:c.o6)(o:J)(l:o+1<60)(h1:dA o=.i32)(h2:dA (o+1)=.i32)(w:aj)(h:Fr c w B p (k+2)):aA 381 #[c.val,.pointer (some (ae B o ad))] w λe w'=>e=aY #[]/\Fr c w' B (c.step (c.step p o) (o+1)) k/\Keeps (l2 c B) w w':=by
 have m:=an.F3;have q:=an.cJ;have n:=an.Hb;have j:=λw p k=>HD (B:=B) (p:=p) (k:=k) an o U h1 w
 go_in
 go_wp2_with fail;refine cJ 8 ?_;refine fu (λ_=>True) (.range 4) [4,5,6,7] 0 ?_;refine iH (c6 (Keeps.refl _ _)) ?_;refine iH (c6 (Keeps.refl _ _)) ?_;refine iH (c6 (Keeps.refl _ _)) ?_;refine ko λK a=>?_;go_simp;refine aW (j _ _ _ (h.drew an)) ?_;rintro ao ⟨f,b⟩;refine a _ _ (c6 (b.mono λ_ _ _=>trivial)) ?_;refine iI ?_;have g:=f.drew an;go_wp2_with fail;refine cJ 8 ?_;refine fu (λ_=>True) (.range 4) [4,5,6,7] 0 ?_;refine iH (c6 (Keeps.refl _ _)) ?_;refine iH (c6 (Keeps.refl _ _)) ?_;refine iH (c6 (Keeps.refl _ _)) ?_;refine ko λK a=>?_;go_simp;refine aW ((λw p k=>HD (B:=B) (p:=p) (k:=k) an (o+1) l h2 w) _ _ _ g) ?_;rintro aD ⟨i,d⟩;refine a _ _ (c6 (d.mono λ_ _ _=>trivial)) ?_;refine iI ?_;go_wp2;refine qD (v:=aY #[]) jA rfl ?_;exact⟨rfl,i,((Keeps.refl _ w).drew.trans b).drew.trans d⟩
def fh.steps(c:fh ej)(p:ej×(J->aa))(l:ah J):ej×(J->aa):=l.foldl c.step p
def sL(o:J):ah J:=[o,o+1,o+2,o+3,o+4,o+5]
def RA(an:c.o6)(o:J)(C:o+5<60)(f:dA o=.i32)(h1:dA (o+1)=.i32)(h2:dA (o+2)=.i32)(g:dA (o+3)=.i32)(i:dA (o+4)=.i64)(j:dA (o+5)=.i64)(w:aj)(h:Fr c w B p (k+6)):aA 368 #[c.val,.pointer (some (ae B o ad))] w λe w'=>e=aY #[]/\Fr c w' B (c.steps p (sL o)) k/\Keeps (l2 c B) w w':=by
 have D:=an.AT;have F:=an.lZ;have E:=an.x';have t:=λw p k=>tT (B:=B) (p:=p) (k:=k) an (o+4) U i w;have u:=λw p k=>tT (B:=B) (p:=p) (k:=k) an (o+5) C j w;have x:=λw p k=>yl (B:=B) (p:=p) (k:=k) an o U f h1 w;have y:=λw p k=>yl (B:=B) (p:=p) (k:=k) an (o+2) U h2 g w
 go_in
 go_wp2_with fail;refine aW (x _ _ _ h) ?_;rintro ao ⟨l,z⟩;go_wp2_with fail;refine aW (y _ _ _ l) ?_;rintro aD ⟨m,A⟩;have n:=m.drew an;go_wp2_with fail;refine cJ 8 ?_;refine fu (λ_=>True) (.range 4) [4,5,6,7] 0 ?_;refine iH (c6 (Keeps.refl _ _)) ?_;refine iH (c6 (Keeps.refl _ _)) ?_;refine iH (c6 (Keeps.refl _ _)) ?_;refine ko λK a=>?_;go_simp;refine aW (t _ _ _ n) ?_;rintro bq ⟨q,b⟩;refine a _ _ (c6 (b.mono λ_ _ _=>trivial)) ?_;refine iI ?_;have r:=q.drew an;go_wp2_with fail;refine cJ 8 ?_;refine fu (λ_=>True) (.range 4) [4,5,6,7] 0 ?_;refine iH (c6 (Keeps.refl _ _)) ?_;refine iH (c6 (Keeps.refl _ _)) ?_;refine iH (c6 (Keeps.refl _ _)) ?_;refine ko λK a=>?_;go_simp;refine aW (u _ _ _ r) ?_;rintro G ⟨s,d⟩;refine a _ _ (c6 (d.mono λ_ _ _=>trivial)) ?_;refine iI ?_;go_wp2;refine qD (v:=aY #[]) jA rfl ?_;exact⟨rfl,s,(((z.trans A).drew.trans b).drew.trans d)⟩
end
end
variable{ej:Type}{c:fh ej}{B:J}{p:ej×(J->aa)}{k:J}
def qn(B o:J):a7 ay:=#[.pointer (some (ae B (o+4) ad)),.pointer (some (ae B (o+5) ad)),.pointer (some (ae B (o+6) ad)),.pointer (some (ae B (o+7) ad)),.pointer (some (ae B (o+8) ad)),.pointer (some (ae B (o+9) ad))]
def Vr(B o j:J)(h:j<6):(qn B o)[j]?=some (.pointer (some (ae B (o+4+j) ad))):=by
 match j,h with
 | 0,_=>rfl
 | 1,_=>rfl
 | 2,_=>rfl
 | 3,_=>rfl
 | 4,_=>rfl
 | 5,_=>rfl
def rm(o j:J):ah J:=[o,o+1,o+2,o+3]++(range j).map λi=>o+4+i
def Yx(c:fh ej)(p:ej×(J->aa))(o j:J):c.steps p (rm o (j+1))=c.step (c.steps p (rm o j)) (o+4+j):=by
 unfold rm fh.steps;rw[qK,jx,<-dL,mX];rfl
structure xL(c:fh ej)(w wr:aj)(B N o k j:J)(p:ej×(J->aa)):al where
 fr:Fr c wr B (c.steps p (rm o j)) (k+(6-j))
 ptr:wr.heap[N]?=some (af (qn B o) 383 (0,0))
 new:N≠c.r/\N≠B
 keeps:Keeps (l2 c B) w wr
theorem xL.cell{w wr:aj}{N o j:J}(h:xL c w wr B N o k j p)(i:J)(ax:i<6):wr.cell? (ae N i ad)=some (.pointer (some (ae B (o+4+i) ad))):=bf h.ptr (Vr B o i ax)
def HC(an:c.o6)(o:J)(T:o+9<60)(q:dA o=.i32)(h1:dA (o+1)=.i32)(h2:dA (o+2)=.i32)(a:dA (o+3)=.i32)(b:∀ j,j<6->dA (o+4+j)=.i64)(w:aj)(h:Fr c w B p (k+10)):aA 367 #[c.val,.pointer (some (ae B o ad))] w λe w'=>e=aY #[]/\Fr c w' B (c.steps p (rm o 6)) k/\Keeps (l2 c B) w w':=by
 have R:=an.lZ;have Q:=an.x';have y:=λj (D:j<6) w p k=>tT (B:=B) (p:=p) (k:=k) an (o+4+j) U (b j D) w;have A:=λw p k=>yl (B:=B) (p:=p) (k:=k) an o U q h1 w;have C:=λw p k=>yl (B:=B) (p:=p) (k:=k) an (o+2) U h2 a w
 go_in
 go_wp2_with fail;refine(A _ _ _ h).mono ?_;rintro e ao ⟨rfl,s,E⟩;go_wp2_with fail;refine(C _ _ _ s).mono ?_;rintro e aD ⟨rfl,f,F⟩;go_wp2_with fail;refine cJ 21 ?_;refine fu (λ_=>False) [0,1,2,3,4,5,6,7,8,9,10,11,12,13,14,15,16,17,20] [18,19] 0 ?_;refine gu λK d=>?_;go_simp;have l:Keeps aG aD.drew (aD.alloc (af (qn B o) 383)).drew:=⟨rfl,rfl,rfl,aM,λk hk _=>zR _ _ _ hk⟩;refine d _ _ (c6 (l)) ?_;clear d K;refine ko λK d=>?_;go_simp;refine d _ _ (c6 (l)) ?_;clear d K;refine iI ?_;have m:Keeps aG aD (aD.alloc (af (qn B o) 383)).drew:=((Keeps.refl _ aD).alloc _).drew;have z:(aD.alloc (af (qn B o) 383)).drew.heap[aD.heap.size]?=some (af (qn B o) 383 (0,0)):=aX aD _;have t:=f.keeps an m id id;have O:=an.there f.st;have P:=bT f.bd;have H:xL c w (aD.alloc (af (qn B o) 383)).drew B aD.heap.size o k 0 p:=⟨t,z,⟨U,U⟩,(E.trans F).trans (m.mono λ_ _ x=>x.elim)⟩;have n:=ag H;clear H t z m l s f E F h A C O P q h1 h2 a b;change Exit.then _ _ _ _ (aD.alloc (af (qn B o) 383)).drew;generalize (aD.alloc (af (qn B o) 383)).drew=bq at *;generalize aD.heap.size=N at *;have M:=ag y;clear y;go_wp2_with fail;go_loopw [5,36] (λ_ i wr=>∃ j:J,j<=6/\i=I j/\Hid (xL c w wr B N o k j p)) (λ_ i _=>6-(intOf i).toNat)
 case atStart=>exact⟨0,U,rfl,n⟩
 obtain⟨j,D,rfl,aV⟩:=hrel;obtain⟨L,rfl⟩:∃ L:aj,L=wr:=⟨_,rfl⟩;clear n;by_cases S:(j:aa)<6
 .have W:=aV.out.cell j U;have r:=aV.out.fr;rw[show k+(6-j)=(k+(6-(j+1)))+1 by omega]at r;go_wp2_with fail;refine(M.o j U _ _ _ r).mono ?_;rintro e V ⟨rfl,u,G⟩;rw[<-Yx]at u;go_wp2_with fail;go_roundw
  case rel=>
   have⟨h1,h2,⟨a,b⟩,g⟩:=aV.out;exact⟨j+1,U,by go_num,⟨u,G.heap h2 (λh=>h.elim a b),⟨a,b⟩,g.trans G⟩⟩
  simp[intOf];omega
 obtain rfl:j=6:=U;obtain⟨h1,h2,a,g⟩:=aV.out;go_wp2;refine qD (v:=aY #[]) jA rfl ?_;exact⟨rfl,h1,g⟩
end Go.Proofs.YtalagblioepadaaGreatDoor
