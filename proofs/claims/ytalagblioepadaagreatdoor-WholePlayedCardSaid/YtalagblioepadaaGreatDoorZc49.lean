/- The proof, part 49. -/
import Derived.Test.YtalagblioepadaaGreatDoorZc48
namespace Go.Proofs.YtalagblioepadaaGreatDoor
set_option linter.all false
open Proofs.Tryz List Go.RowKit Go.Maps
set_option maxRecDepth 100000
set_option maxHeartbeats 2000000
def qA{p:ak}(h:p:=by cases c):p:=h
def Ab{p:ak}(h:p:=by unfold iv;omega):p:=h
def Mb{p:ak}(h:p:=by
 exact⟨v_.2 (.inl rfl),λx a ar=>v_.2 (.inr ⟨a,ar⟩)⟩
 ):p:=h
def Mh{p:ak}(h:p:=by
 exact⟨b.x,b.aE,b.aN,b.b1,b.ct,b.own,b.wt,b.ok,b.out⟩
 ):p:=h
structure l8(k:J)(r:aa)(a:Nm)(s:bJ):ak where
 x:s.x=fi k a
 aE:s.aE=a.aE
 aN:s.ld.aN=a.aN
 b1:s.b1=false
 ct:s.ct=a.ct
 own:s.own=if a.rep then [(16,r)]else []
 wt:s.wt=[]
 ok:a.fst<=a.cp
 out:∀ m∈a.aE.out,m.kind=4->m.sum=r
def CQ{r:aa}{l:b9}(lead:aa)(h:∀ m∈l.out,m.kind=4->m.sum=r):(∀ m∈(c1 l lead).1,m.kind=4->m.sum=r)/\∀ m∈(c1 l lead).2.out,m.kind=4->m.sum=r:=by
 have a:∀ m∈(gu l).out,m.kind=4->m.sum=r:=by
  unfold gu;split<;>exact h
 unfold c1;generalize gu l=b at a;unfold lX;split
 .split
  .exact⟨λm hm=>(by rw[fL.1 hm];intro c;cases c),a⟩
  exact⟨λm hm=>(nomatch hm),a⟩
 refine⟨λm hm=>?_,λm hm=>nomatch hm⟩;rcases e5.1 hm with hm|hm
 .exact a m hm
 split at hm
 .rw[fL.1 hm];intro c;cases c
 have aO:(nr b).kind=4->(nr b).sum=r:=by
  unfold nr;split<;>(intro c;cases c)
 unfold mB at hm;split at hm
 .rcases e6.1 hm with hm|hm
  .rw[hm];exact aO
  rw[fL.1 hm];intro c;cases c
 rw[fL.1 hm];exact aO
def Gx{k:J}(hk:k<2){r:aa}{a:Nm}{s:bJ}{cs:ah ca}{l:aa}(h:l8 k r a s)(m:J)(c:dV s.x=fi k {a with fst:=m})(hm:m<=a.cp)(d:(a.now:aa)-a.cp=l)(av:(c1 a.aE l).2.state≠2):l8 k r {a with fst:=m,aE:=(c1 a.aE l).2} (kZ (s,cs)).1/\(c1 s.aE (h8 {s with x:=dV s.x})).1=(c1 a.aE l).1:=by
 have b:h8 {s with x:=dV s.x}=l:=by
  show(((dV s.x).now:J):aa)-(((dV s.x).f (1-(dV s.x).aL)).next:aa)=l;rw[c,show(fi k {a with fst:=m}).aL=k from rfl,AE hk];exact d
 have e:(kZ (s,cs)).1={s with x:=dV s.x,aE:=(c1 a.aE l).2}:=by
  unfold kZ eX;simp only[b];simp only[h.aE];rw[az av]
 rw[e,b,h.aE];exact⟨⟨c,rfl,h.aN,h.b1,h.ct,h.own,h.wt,hm,(CQ l h.out).2⟩,rfl⟩
def Yb{k:J}(hk:k<2){r:aa}(G:r=iQ (lZ 16)){a a':Nm}{s:bJ}{A:ah a1}(h:l8 k r a s)(aO:CR r a=some (A,a')):l8 k r a' (cA 0 s).1/\ff 0 s=A/\∀ m∈A,m.kind=4->m.sum=r:=by
 have H:cM s=(s,[]):=by
  unfold cM;rw[h.x,Ln hk]
 have D:cA 0 s=kZ (da 0 s)/\ff 0 s=(c1 (da 0 s).1.aE (h8 {(da 0 s).1 with x:=dV (da 0 s).1.x})).1:=by
  unfold cA ff;rw[h.b1];exact⟨rfl,rfl⟩
 have T:c_ s=a.dO:=by
  unfold c_;rw[h.x,show(fi k a).aL=k from rfl,Pk hk];rfl
 have X:bN s=a.cp:=by
  unfold bN fv;rw[h.x,show(fi k a).aL=k from rfl,AE hk];rfl
 rw[D.1,D.2];unfold CR at aO;split at aO
 .rename_i al;obtain⟨h1,⟨bY,bo,eo,dM,fN,eb,c5,fy⟩,w⟩:=al;have bt:=h.ok;simp only[hr,jA]at aO;obtain⟨rfl,rfl⟩:=aO;have R:gd s=true:=by
   unfold gd sD h8 jn;rw[X,h.aE,h.ct,h.x,Gd hk];simp only[d',fZ,ll,Bool.and_eq_false_iff,px];refine⟨h1,?_,?_⟩
   .show ¬ 4<(a.now:aa)-_-_\/_;omega
   show ¬ ((4:J):aa)<=(a.now:aa)-_;omega
  obtain⟨i,c⟩:∃ i:Nm,i={a with now:=a.now+1,dO:=a.dO+1,aE:=j' a.aE a.dO 0}:=⟨_,rfl⟩;obtain⟨s1,d,es,b⟩:∃ s1 d,ei 0 (cM s)=(s1,d)/\l8 k r i s1:=by
   refine⟨(lj (ek s 0,[])).1,(lj (ek s 0,[])).2,by unfold ei;rw[H,aD R],?_⟩;have p:(ek s 0).x=fi k {a with dO:=a.dO+1}:=by
    show gx s.x s.x.aL 0=_;rw[h.x];exact I_ hk a hk _ (by rw[aD rfl]) (by rw[aD rfl];omega)
   rw[c];refine⟨?_,?_,h.aN,h.b1,h.ct,h.own,h.wt,bt,?_⟩
   .show {jd (ek s 0).x (ek s 0).x.now with now:=(ek s 0).x.now+1}=_;rw[p];exact XL (k:=k) {a with dO:=a.dO+1} (by show a.fst<=a.now;omega) (by show a.now<a.fst+64;omega)
   .show j' s.aE (c_ s) 0=j' a.aE a.dO 0;rw[T,h.aE]
   show ∀ m∈(j' a.aE a.dO 0).out,_;unfold j';split<;>exact h.out
  obtain⟨g,f⟩:∃ g:Nm,g={i with aN:=a.aN+1,aE:=k4 r a,rep:=a.rep || sf (a.aN+1)}:=⟨_,rfl⟩;have K:cY s1.x=a.aN+1:=by
   rw[b.x,Cy hk,c];show((min (min (a.dO+1) a.cp) (a.now+1):J):aa)-1=_;omega
  have j:s1.ld.aN=a.aN:=by rw[b.aN,c]
  obtain⟨s2,t,M,q⟩:∃ s2 t,da 0 s=(s2,t)/\l8 k r g s2:=by
   have e:da 0 s=Go.Proofs.YtalagblioepadaaGreatDoor.eH (s1,d):=by
    unfold da jr;rw[es];show eA (cY s1.x-s1.ld.aN).toNat (s1,d)=_;rw[K,j,show(a.aN+1-a.aN).toNat=0+1 by omega];unfold eA;rw[az (by show ¬ (s1.b1=true\/cY s1.x<=s1.ld.aN);rw[b.b1,K,j];simp;omega)];rfl
   refine⟨(Go.Proofs.YtalagblioepadaaGreatDoor.eH (s1,d)).1,(Go.Proofs.YtalagblioepadaaGreatDoor.eH (s1,d)).2,e,?_⟩;have E:(jJ s1.ld (s1.ld.aN+1)).aN=a.aN+1:=by rw[<-j];rfl
   by_cases au:(a.aN+2)%16=0
   .have n:sf (a.aN+1)=true:=ee U;have⟨fa,qH⟩:=fy n;have z:(s1.ld.aN+2)%16=0:=by rw[j];exact au
    have O:(s1.ld.aN+2).toNat=16:=by rw[j,fa];rfl
    have L:gU s1.x 16=lZ 16:=by
     rw[b.x];exact Ko i (by rw[c];show a.fst<=16;omega) (by rw[c];show 16<=a.now+1;omega)
    have V:s1.own=[]:=by rw[b.own,c];show(if a.rep then _ else _)=_;rw[qH];rfl
    have u:Go.Proofs.YtalagblioepadaaGreatDoor.eH (s1,d)=(sc {s1 with ld:=jJ s1.ld (s1.ld.aN+1)} 16,d++hL s1.ld (s1.ld.aN+1)):=by
     unfold Go.Proofs.YtalagblioepadaaGreatDoor.eH;simp only[];rw[aD z,O];unfold iM;rw[show lD ({s1 with ld:=jJ s1.ld (s1.ld.aN+1)}:bJ).wt ((16:J):aa)=none by show lD s1.wt _=none;rw[b.wt];rfl]
    rw[u,f];have o:k4 r a=lT (j' a.aE a.dO 0) 16 r:=by unfold k4;rw[aD n,fa];rfl
    have F:s1.aE=j' a.aE a.dO 0:=by rw[b.aE,c]
    refine⟨by rw[c]at b⊢;exact b.x,?_,E,b.b1,by rw[c]at b⊢;exact b.ct,?_,b.wt,by rw[c];exact bt,?_⟩
    .show lT s1.aE ((16:J):aa) (iQ (gU s1.x 16))=k4 r a;rw[L,<-G,o,F];rfl
    .show ly (q4 s1.own ((16:J):aa) (iQ (gU s1.x 16))) (((16:J):aa)-128)=if (a.rep || sf (a.aN+1))then _ else _
     rw[L,<-G,V,n,Bool.or_true];rfl
    show ∀ m∈(k4 r a).out,_;rw[o,<-F];have p:∀ m∈s1.aE.out,m.kind=4->m.sum=r:=by rw[b.aE];exact b.out
    unfold lT;split
    .intro m hm;rcases e5.1 hm with hm|hm
     .exact p m hm
     rw[fL.1 hm];exact λ_=>rfl
    exact p
   have n:sf (a.aN+1)=false:=dd U;have z:¬ (s1.ld.aN+2)%16=0:=by rw[j];exact au
   have u:Go.Proofs.YtalagblioepadaaGreatDoor.eH (s1,d)=({s1 with ld:=jJ s1.ld (s1.ld.aN+1)},d++hL s1.ld (s1.ld.aN+1)):=by
    unfold Go.Proofs.YtalagblioepadaaGreatDoor.eH;simp only[];rw[az z]
   have o:k4 r a=j' a.aE a.dO 0:=by unfold k4;rw[n];rfl
   have N:g={i with aN:=a.aN+1}:=by rw[f,o,n,wP,c]
   rw[u,N];exact⟨b.x,b.aE,E,b.b1,b.ct,b.own,b.wt,b.ok,b.out⟩
  have W:cY s2.x=a.aN+1:=by
   rw[q.x,Cy hk,f,c];show((min (min (a.dO+1) a.cp) (a.now+1):J):aa)-1=_;omega
  have y:g.aE=k4 r a:=by rw[f]
  have hfin:=Gx (cs:=t) (l:=(a.now:aa)+1-a.cp) hk q (a.aN+1).toNat (by
   unfold dV;rw[W,az U,q.x];refine PI g _ ?_ ?_ ?_ ?_<;>rw[f,c]
   .show a.fst<=_;omega
   .show _<=a.dO+1;omega
   .show _<=a.cp;omega
   .show _<=a.now+1;omega) (by rw[f,c];show _<=a.cp;omega) (by rw[f,c];show((a.now+1:J):aa)-(a.cp:aa)=_;omega) (by rw[y,w];omega)
  rw[M];rw[y]at hfin;have v:({g with fst:=(a.aN+1).toNat,aE:=(c1 (k4 r a) ((a.now:aa)+1-a.cp)).2}:Nm)=KJ r a:=by rw[f,c];rfl
  rw[v]at hfin;refine⟨hfin.1,hfin.2,?_⟩
  have:=q.out
  rw[y]at this;exact(CQ _ this).1
 split at aO
 .rename_i _ al;obtain⟨h1,h2,w,B,C,P,Q⟩:=al;simp only[hr,jA]at aO;obtain⟨rfl,rfl⟩:=aO;have gw:cY s.x=-1:=by
   rw[h.x,Cy hk,h2,w,B];rfl
  have S:da 0 s=(s,[]):=by
   have e:ei 0 (s,[])=(s,[]):=by
    unfold ei;rw[az];unfold gd;rw[h.aE,h1];simp
   unfold da jr;rw[H,e];show eA (cY s.x-s.ld.aN).toNat (s,[])=_;rw[gw,h.aN,P];rfl
  rw[S]
  have hfin:=Gx (cs:=[]) (l:=-1) hk h 0 (by
   unfold dV;rw[gw,aD U,h.x];show fi k a=fi k {a with fst:=0};rw[<-C]) (c' _) (by rw[h2,B];rfl) (by rw[Q];omega)
  have v:({a with fst:=0,aE:=(c1 a.aE (-1)).2}:Nm)={a with aE:=(c1 a.aE (-1)).2}:=by rw[<-C]
  rw[v]at hfin;exact⟨hfin.1,hfin.2,(CQ _ h.out).1⟩
 cases aO
def X2{r:aa}{l:b9}(m:a1)(h:∀ x∈l.out,x.kind=4->x.sum=r):(∀ x∈(cP l m).2.2.out,x.kind=4->x.sum=r)/\((cP l m).1.kind=4->m.kind=4/\(cP l m).1.sum=m.sum):=by
 have b:∀ s,(hK l s).out=l.out:=λs=>by
  unfold hK;simp only[];split<;>rfl
 unfold cP;split
 .refine⟨?_,λc=>qA⟩;split
  .exact h
  intro x a;rcases e5.1 a with a|a
  .exact h x a
  rw[fL.1 a];intro c;cases c
 split
 .split
  .exact⟨h,λc=>qA⟩
  exact⟨h,λc=>qA⟩
 split
 .exact⟨h,λc=>qA⟩
 split
 .unfold hR;split
  .rename_i e;unfold ja;simp only[];split
   .exact⟨by rw[b];exact h,λc=>qA⟩
   exact⟨by show ∀ x∈(hK l m.ch).out,_;rw[b];exact h,λc=>by rw[show m.kind=4 from c]at e;omega⟩
  split
  .rename_i e;exact⟨h,λ_=>⟨e,rfl⟩⟩
  split
  .exact⟨by show ∀ x∈(hK l m.ch).out,_;rw[b];exact h,λc=>qA⟩
  split
  .exact⟨h,λc=>qA⟩
  rename_i e _ _;exact⟨h,λc=>absurd c e⟩
 exact⟨h,λc=>qA⟩
def RY{k:J}(hk:k<2){r:aa}{a a':Nm}{s:bJ}{m:a1}(h:l8 k r a s)(hm:m.wf/\di m)(av:m.kind=4->m.sum=r)(aO:r0 a m=some a'):l8 k r a' (df (dn m) s).1/\i' (dn m) s=0:=by
 unfold r0 at aO;simp only at aO;split at aO
 .rename_i al;have⟨u,v,w,D,y⟩:=al;simp only[hr]at aO;have j:cJ s.aE (dn m)=pV a.aE m:=by rw[h.aE];exact R3 a.aE m u hm
  have A:(pV a.aE m).2.1=0/\(∀ x∈(pV a.aE m).2.2.out,x.kind=4->x.sum=r)/\((pV a.aE m).1.kind=4->(pV a.aE m).1.sum=r):=by
   have⟨o,p⟩:=X2 (l:={a.aE with heard:=a.aE.b_}) m h.out;unfold pV;split
   .exact⟨rfl,o,λc=>(p c).2.trans (av (p c).1)⟩
   exact⟨rfl,o,λc=>qA⟩
  have⟨g,q,t⟩:=A;generalize pV a.aE m=H at *;have z:i' (dn m) s=0:=by
   unfold i';rw[h.b1,j];exact g
  refine⟨?_,z⟩;have f:fk s.x H.1.a8=fi k {a with cp:=a.cp+H.1.a8.length}:=by
   rw[h.x];exact HU hk H.1.a8 a h.ok λx f=>by simpa using all_eq_true.1 w x f
  obtain⟨s1,n⟩:∃ s1:bJ,s1={s with x:=fk s.x H.1.a8,aE:=H.2.2}:=⟨_,rfl⟩;have b:l8 k r {a with aE:=H.2.2,cp:=a.cp+H.1.a8.length} s1:=by
   rw[n];exact⟨f,rfl,h.aN,h.b1,h.ct,h.own,h.wt,by show a.fst<=a.cp+_;have:=h.ok;omega,q⟩
  have i:l8 k r a' (fj H.1 s1).1:=by
   rw[<-aO];unfold Go.Proofs.YtalagblioepadaaGreatDoor.fj;by_cases d:H.1.kind=4
   .rw[aD d];have⟨fu,C⟩:=y d;unfold hB;have B:lD s1.own H.1.frame=some r:=by
     rw[b.own,C];rw[fu];rfl
    simp only[B];rw[aD (t d).symm,az U];exact Mh
   rw[az d];split
   .exact⟨b.x,b.aE,b.aN,b.b1,rfl,b.own,b.wt,b.ok,b.out⟩
   exact Mh
  have e:(df (dn m) s).1=(fj H.1 s1).1:=by
   have au:df (dn m) s=eX (fj H.1 s1):=by
    unfold df;rw[az (by rw[h.b1];simp),j,az (λc=>c g),n]
   rw[au];unfold eX;rw[az (by rw[i.aE,<-aO];exact v)]
  rw[e];exact i
 cases aO
variable{w w':ai}{B:jE}{M:dX}{mv:aa}{R:ah ay}{r:aa}{s s':Aw}{k:J}
def Aw.zc(s:Aw){k b j:J}(a:Nm)(l:ah a1)(n:J)(hk:k<2)(c:j<2):(((s.lS k a).lQ b l).up n).P j=if j=k then a else s.P j:=by
 have h1:k=0\/k=1:=U;have h2:j=0\/j=1:=U;unfold lQ;rcases h1 with rfl|rfl<;>rcases h2 with rfl|rfl<;>split<;>rfl
def Aw.pj(s:Aw){k b j:J}(a:Nm)(l:ah a1)(n:J)(hk:b<2)(c:j<2):(((s.lS k a).lQ b l).up n).F j=if j=b then l else s.F j:=by
 have h1:b=0\/b=1:=U;have h2:j=0\/j=1:=U;unfold lS;rcases h1 with rfl|rfl<;>rcases h2 with rfl|rfl<;>split<;>rfl
structure oM(r:aa)(s:Aw)(M:dX):ak where
 hx:∀ k,k<2->l8 k r (s.P k) (M.p k)
 f:∀ k:J,k<2->M.cs.get k=(s.F k).map dh
 ok:∀ k,k<2->∀ m∈s.F k,(m.wf/\di m)/\(m.kind=4->m.sum=r)
 bi:fm s.n 1 4 5 (pad 1 M)
 bM:gY 5 (pad 1 M)
theorem JW(a:J)(aZ:a<2)(j:J)(f:j<2):∀ (b:ah a1) (cs:cT),(∀ m∈b,m.wf/\di m)->(cs.get a).length+b.length<=60->(gB cs a b).get j=if j=a then cs.get j++b.map dh else cs.get j
 | [],cs,_,_=>by
  show cs.get j=_;split<;>simp
 | m :: l,cs,hm,g=>by
  have d:iv (a:aa):=by unfold iv;omega
  rw[ds]at g;have e:hD cs 64 a (dh m)=cs.put a (cs.get a++[dh m]):=by
   unfold hD;rw[aD ⟨d,(rj (hm m mI).2)⟩,aD U]
  show(gB (hD cs 64 a (dh m)) a l).get j=_;rw[e,JW a aZ j f l _ (λx h=>hm x (kg _ h)) (by rw[yd _ _ _ _ aZ d,aD rfl,cx,iT];omega),yd _ _ _ _ f d];by_cases c:j=a
  .subst c;rw[aD rfl,aD rfl,aD rfl,jz,dD];rfl
  rw[az c,az U,az c]
theorem oM.tick(h:oM r s M)(l:r=iQ (lZ 16))(hk:k<2)(aO:rk r k s=some s'):oM r s' (gJ k 0 M)/\s.n<=400:=by
 unfold rk at aO;split at aO
 .rename_i e a au;split at aO
  .rename_i ar;simp only[hr]at aO;subst aO;have⟨o,g,q⟩:=Yb hk l (h.hx k hk) au;have d:∀ m∈e,m.wf/\di m:=λm hm=>by
    have:=(wI h.bi U hk 0 bq).snd m (by show m∈ff 0 (M.p k);rw[g];exact hm)
    exact⟨this.1,this.2.1⟩
   have c:1-k<2:=U;have i:(M.cs.get ((1-k:J):aa)).length=(s.F (1-k)).length:=by rw[h.f _ c,gV]
   refine⟨⟨λj b=>?_,λj b=>?_,λj b m hm=>?_,yH 1 k 0 M▸h.bi.tick U hk 0 bq,yH 1 k 0 M▸h.bM.tick h.bi U hk 0 bq⟩,U⟩
   .rw[Aw.zc _ _ _ _ hk b];show l8 j r _ (b2 M.p k (cA 0 (M.p k)).1 j);unfold b2;split
    .subst j;exact o
    exact h.hx j b
   .rw[Aw.pj _ _ _ _ c b];show(gB M.cs (1-(k:aa)) (ff 0 (M.p k))).get j=_;rw[g,show(1:aa)-(k:aa)=((1-k:J):aa)by omega,JW (1-k) c j b e M.cs d (by rw[i];exact ar.2)];split
    .subst j;rw[h.f _ c,jy]
    exact h.f j b
   rw[Aw.pj _ _ _ _ c b]at hm;split at hm
   .subst j;rcases e5.1 hm with hm|hm
    .exact h.ok _ c m hm
    exact⟨d m hm,q m hm⟩
   exact h.ok j b m hm
  cases aO
 cases aO
section
variable{p lM:Nm}{m:a1}{l:ah a1}{n:J}
def oM.first(h:oM r (((s.lS k p).lQ k (m :: l)).up n) M)(hk:k<2):fP M.cs k 0=some (dh m)/\(∃ m',(dh m).data.toList=dn m'/\iV (4+1) ((pad 1 M).bE (1-k)) (bN (M.p (1-k))) m')/\(dh m).size<=256/\(m.wf/\di m)/\(m.kind=4->m.sum=r):=by
 have e:M.cs.get k=dh m :: l.map dh:=by rw[h.f k hk,Aw.pj _ _ _ _ hk hk,aD rfl];rfl
 have a:=h.ok k hk m (by rw[Aw.pj _ _ _ _ hk hk,aD rfl];exact mI);obtain⟨m',h1,h2⟩:=h.bi.vK k hk (dh m) (by show dh m∈M.cs.get k;rw[e];exact mI);refine⟨?_,⟨m',by rw[h1];rfl,h2⟩,(rj a.1.2).2,a⟩;unfold fP;rw[aD ⟨Ab,jw _⟩,e];rfl
def oM.take(h:oM r (((s.lS k p).lQ k (m :: l)).up n) M)(hk:k<2)(ar:n<400)(au:r0 p m=some lM):oM r (((s.lS k lM).lQ k l).up (n+1)) (yk k (dh m) (fH M.cs k 0) M)/\i' (dh m).data.toList (M.p k)=0:=by
 obtain⟨_,g,_,hm,av⟩:=h.first hk;have d:=h.hx k hk;rw[Aw.zc _ _ _ _ hk hk,aD rfl]at d;obtain⟨v,w⟩:=RY hk d hm av au;obtain⟨i,o,q,t,u⟩:=HJ (M.p k) (dh m).data.toList (.inl ⟨m,rfl,hm⟩) (h.bM.ct k hk);have aZ:∀ j:J,j<2->(fH M.cs k 0).get j=if j=k then l.map dh else M.cs.get j:=λj a=>by
  unfold fH;rw[aD ⟨Ab,jw _⟩,yd _ _ _ _ a Ab,h.f k hk,Aw.pj _ _ _ _ hk hk,aD rfl];by_cases e:j=k
  .subst e;rw[aD rfl,aD rfl];rfl
  rw[az e,az U]
 refine⟨⟨λj a=>?_,λj a=>?_,λj a x c=>?_,h.bi.goes hk (HK h.bi (by show n<=400;omega) hk (.inl g)) _ (fH M.cs k 0) (wG _ _ _) (by show M.cs.lost<=_/\_;rw[(CM M.cs k 0)];show _/\M.cs.lost<=M.cs.lost+1;omega),h.bM.still i o q t u⟩,w⟩
 .rw[Aw.zc _ _ _ _ hk a];show l8 j r _ (b2 M.p k (df (dn m) (M.p k)).1 j);unfold b2;split
  .subst j;exact v
  rename_i e
  have:=h.hx j a
  rwa [Aw.zc _ _ _ _ hk a,az e]at this
 .rw[Aw.pj _ _ _ _ hk a];show(fH M.cs k 0).get j=_;rw[aZ j a];split
  .rfl
  rename_i e
  have:=h.f j a
  rwa [Aw.pj _ _ _ _ hk a,az e]at this
 have b:=h.ok j a x;rw[Aw.pj _ _ _ _ hk a]at c b;split at c
 .rename_i e;rw[aD e]at b;exact b (kg _ c)
 rename_i e;rw[az e]at b;exact b c
end
def kK(r:aa)(B:jE)(R:ah ay)(s:Aw)(w:ai):ak:=∃ M mv,cu w B M mv R/\oM r s M
def xu(e:Ending):ak:=∃ (a:b5 Addr) (d b:J) (A:b5 Addr) (n c:J) (m:aY) (b0:aa),e=aV #[aQ #[aq a d b,aq A n c,.bool m],I b0]
def cu.forget{x:ay}(h:cu w B M mv (x :: R)):cu w B M mv R:=by
 have⟨V,T,d,h⟩:=h;exact⟨V,T,d,Sep.tail (r:=x) (Sep.perm h (qq (l₁:=bC (B.p 0) (M.p 0) (d 0)++mb 0 B M V T mv d) (l₂:=R) (a:=x)))⟩
def j0.out{cs:ah ca}{b0:aa}{e:Ending}(h:j0 B M mv cs b0 R e w):xu e/\cu w B M mv R:=by
 obtain⟨a,A,n,c,m,rfl,h⟩:=h;obtain⟨b,d,rfl,_⟩:=cS (show w.ownsRow 0 47 12 a cs.length (ep cs)from h.res (r:=ay.cR a cs) aK);exact⟨⟨_,_,_,A,n,c,m,b0,rfl⟩,h.forget⟩
def Ow(h:kK r B R s w)(a:r=iQ (lZ 16))(hk:k<2)(aO:rk r k s=some s'):aA 10 #[B.b,aQ #[I 1,I k,I 0,I 0,aF 0,aF 0]] w λe w'=>xu e/\kK r B R s' w':=by
 obtain⟨M,mv,aj,bd⟩:=h;obtain⟨h2,ar⟩:=bd.tick a hk aO;exact(Hl aj bd.bi bd.bM ar 1 k 0 0 0 0 rfl hk rfl bq).mono λe w' au=>⟨au.out.1,_,_,au.out.2,h2⟩
def Ov{p lM:Nm}{m:a1}{l:ah a1}{n:J}(h:kK r B R (((s.lS k p).lQ k (m :: l)).up n) w)(hk:k<2)(ar:n<400)(aO:r0 p m=some lM):aA 10 #[B.b,aQ #[I 2,I k,I 0,I 0,aF 0,aF 0]] w λe w'=>xu e/\kK r B R (((s.lS k lM).lQ k l).up (n+1)) w':=by
 obtain⟨M,mv,aj,bd⟩:=h;obtain⟨h2,i⟩:=bd.take hk ar aO;obtain⟨al,d,av,_⟩:=bd.first hk;refine(Hm aj bd.bi bd.bM (by show n<=400;omega) 2 k 0 0 0 0 U hk rfl (dh m) (fH M.cs k 0) av (.inl d) λg f c=>?_).mono λe w' au=>⟨au.out.1,_,_,au.out.2,h2⟩;refine Bj c k 0 0 0 0 (dh m) true (fH M.cs k 0) λW a=>?_
 have:=ts a k 0
 rw[al]at this;exact this
def FB(h:kK r B R s w)(hk:k<2):aA 30 #[B.b,I k] w λe w'=>e=.returned (I (s.F k).length)/\w=w':=by
 have⟨M,mv,aj,bd⟩:=h
 have:=Rh aj k
 rwa [show vY M.cs k=(s.F k).length by unfold vY;rw[aD Ab,bd.f k hk,gV]]at this
def Ot(h:kK r B R s w):aA 59 #[B.b] w λe w'=>e=.returned (.bool false)/\∃ q,w'=w.drewN q:=by
 have⟨M,mv,aj,bd⟩:=h;exact Rj aj (bd.hx 0 U).b1
theorem kK.keep(h:kK r B R s w)(hk:Keeps aI w w'):kK r B R s w':=by
 have⟨M,mv,aj,bd⟩:=h;exact⟨M,mv,aj.keep hk,bd⟩
def Aw.eta(s:Aw)(k:J):((s.lS k (s.P k)).lQ k (s.F k)).up s.n=s:=by
 by_cases e:k=0
 .subst e;rfl
 unfold lS lQ P F up;rw[az e,az e,az e,az e]
def OR{fF fr:Aw}(h:kK r B R fF w)(av:r=iQ (lZ 16))(s':runN r 20 fF=some fr):aA 35 #[B.b,I 20] w λe w'=>e=.returned (I 20)/\kK r B R fr w':=by
 have H:=af h;have lb:=af s';have Q':=af av;clear h s' av
 go_in
 go_wp2_with fail;go_loopg [5,6,7,23,31] 20 (λg n _ _ _ _ wr=>∃ j:J,g=20-j/\j<=20/\n=I j/\∃ s,runN r j fF=some s/\kK r B R s wr)
 case atStart=>exact⟨0,rfl,U,rfl,fF,rfl,H.o⟩
 obtain⟨j,aZ,ZL,rfl,s,av,mv⟩:=hrel;clear H;have O:=af mv;have t:=af av;clear mv av;by_cases ZG:j<20
 .obtain⟨y,M,u,d,v⟩:=yp lb.o j ZG;obtain rfl:y=s:=ij (u.symm.trans t.o);obtain⟨E,ys,v'⟩:∃ E,kq (rk r) 2 y=some E/\kq wF 2 E=some M:=by
   have d:(kq (rk r) 2 y).bind (kq wF 2)=some M:=d;cases V:kq (rk r) 2 y with
   | none=>rw[V]at d;cases d
   | some E=>rw[V]at d;exact⟨E,rfl,d⟩
  have Y:=af ys;have l':=af v';have St:=af (show runN r (j+1) fF=some M from v);clear u d v t ys v';go_wp2_with fail;refine aU (Ot O.out) ?_;rintro ao ⟨q,rfl⟩;have g':=af (O.out.keep ((Keeps.refl _ wr).drewN q));clear O;generalize wr.drewN q=ao at *;go_wp2_with fail;go_loopg [6,23] 2 (λg _ i gf=>∃ k:J,g=2-k/\k<=2/\i=I k/\∃ s,kq (rk r) k y=some s/\kK r B R s gf)
  case atStart=>exact⟨0,rfl,U,rfl,y,rfl,g'.o⟩
  clear g';obtain⟨k,ZJ,hk,rfl,s,av,m'⟩:=hrel;have Q:=af m';have t:=af av;clear m' av;by_cases sd:k<2
  .obtain⟨z,N,u,d,v⟩:=yp Y.out k sd;obtain rfl:z=s:=ij (u.symm.trans t.o);have K:=af (Ow Q.o Q'.out sd d);have X:=af v;have W':(k:aa)<2:=U;clear u d v Q t;go_wp2_with fail;refine K.o.mono ?_;rintro e aC ⟨⟨zp,D,V',A,n,c,m,b0,rfl⟩,Z⟩;clear K;go_wp2_with fail;go_roundg (2-(k+1))
   case rel=>exact⟨k+1,rfl,U,by go_num,N,X.out,Z⟩
   omega
  obtain rfl:k=2:=U;rw[show((2:J):aa)=2 from rfl];obtain rfl:s=E:=ij (t.out.symm.trans Y.out);clear t Y;go_wp2_with fail;go_loopg [7,31] 2 (λg _ i gf=>∃ k:J,g=2-k/\k<=2/\i=I k/\∃ x,kq wF k s=some x/\kK r B R x gf)
  case atStart=>exact⟨0,rfl,U,rfl,s,rfl,Q.out⟩
  clear Q;obtain⟨k,ZK,ZM,rfl,x,vl,ps⟩:=hrel;have W:=af ps;have S:=af vl;clear ps vl;by_cases C:k<2
  .obtain⟨z,N,u,d,v⟩:=yp l'.out k C;obtain rfl:z=x:=ij (u.symm.trans S.o);obtain⟨D,G,aJ,zd⟩:∃ D G,r1 z.n (z.P k) (z.F k)=some (D,G)/\N=((z.lS k G).lQ k []).up D:=by
    unfold wF at d;split at d
    .rename_i n a V;simp only[hr]at d;exact⟨n,a,V,d.symm⟩
    cases d
   have TS:=af aJ;have T':=af zd;have X:=af v;have W':(k:aa)<2:=U;clear u d v S aJ zd;go_wp2_with fail;go_loopg [] (z.F k).length (λg ZI=>∃ l p n,g=l.length/\r1 n p l=some (D,G)/\kK r B R (((z.lS k p).lQ k l).up n) ZI)
   case atStart=>exact⟨z.F k,z.P k,z.n,rfl,TS.o,by rw[Aw.eta];exact W.o⟩
   have⟨l,p,n,r',T,f⟩:=hrel;clear W;cases l with
   | nil=>
    have L:=af (by have:=FB f C;rwa [Aw.pj _ _ _ _ C C,aD rfl]at this);have a':(n,p)=(D,G):=ij T;have hd:=af f;clear f T;go_wp2_with fail;refine bA L.o ?_;have f:=hd.o;rw[(Prod.mk.inj a').1,(Prod.mk.inj a').2,<-T'.out]at f;clear hd L a';go_wp2_with fail;go_roundg (2-(k+1))
    case rel=>exact⟨k+1,rfl,U,by go_num,N,X.out,f⟩
    omega
   | cons m l=>
    obtain⟨ZH,h1,ar,h2⟩:=R5 T;have L:Hid (aA 30 #[B.b,I k] _ λe w'=>e=.returned (I ((l.length:aa)+1))/\_=w'):=af (by have:=FB f C;rw[Aw.pj _ _ _ _ C C,aD rfl]at this;simpa using this);have K:=af (Ov f C ar h1);have CW:=af h2;have Tq:=af r';have ZN:(0:aa)<(l.length:aa)+1:=U;clear f T h1 h2 r' ar;go_wp2_with fail;refine bA L.o ?_;go_wp2_with fail;refine K.o.mono ?_;rintro e aC ⟨⟨zp,ZP,V',A,n8,c,ZO,b0,rfl⟩,Z⟩;clear K L;go_wp2_with fail;go_roundg l.length
    case rel=>exact⟨l,ZH,_,rfl,CW.out,Z⟩
    have:=Tq.out;simp only[ds]at this;omega
  obtain rfl:k=2:=U;obtain rfl:x=M:=ij (S.out.symm.trans l'.out);clear S;go_wp2_with fail;go_roundg (20-(j+1))
  case rel=>exact⟨j+1,rfl,U,by go_num,x,St.out,W.out⟩
  omega
 obtain rfl:j=20:=U;obtain rfl:s=fr:=ij (t.out.symm.trans lb.out);go_wp2_with fail;go_ret;exact⟨rfl,O.out⟩
def Ou(r:aa):oM r tm (mZ 5 1 4 100 100):=by
 have⟨aj,a⟩:=II 5 1 4 100 100 U U U U U;refine⟨λk hk=>?_,λk _=>?_,λk _ m hm=>?_,aj,a⟩
 .have e:tm.P k=Nm.new k:=by
   have:k=0\/k=1:=U
   rcases this with rfl|rfl<;>rfl
  rw[e];refine⟨?_,rfl,rfl,rfl,rfl,rfl,rfl,c' _,λm hm=>nomatch hm⟩;refine xP ?_ rfl rfl rfl rfl rfl rfl rfl
  funext j
  show im 1=if j<2 then pQ 0 (if j=k then 1 else 1) 0 else im 1
  split
  .rw[ite_self];rfl
  rfl
 .have:k=0\/k=1:=U
  rcases this with rfl|rfl<;>rfl
 have e:tm.F k=[]:=by unfold Aw.F;split<;>rfl
 rw[e]at hm;cases hm
def cu.below{B:jE}{M:dX}{mv:aa}{R:ah ay}(h:cu w B M mv R):kM w/\Below B.o.bl B.o.w w:=by
 obtain⟨V,T,d,h⟩:=h;have a:=h.at' 9 rfl;exact⟨a.1,a.2.1⟩
theorem JX(b:kM w)(a:0<w.heap.size):Sep w [ay.kinds ⟨w,w⟩]:=
 ⟨λr c=>by rw[fL.1 c];exact⟨b,b3 _ _,a,c9 _⟩,DQ _ _⟩
def KL(t:kM w)(j:0<w.heap.size):aA 8 #[] w λe w'=>e=.returned (.bool true)/\Below w w w':=by
 have⟨r,A⟩:=cO (iQ (lZ 16));have⟨b,z,ar,al⟩:=VQ r;have i:=af A;have C:(3:aa)<(b.p.now:aa):=U
 go_in
 go_wp2_with fail;refine aU (Yh w) λao u=>?_;have h:=af (Hg ((JX t j).keep (Keeps.bD u a7)) 5 1 4 100 100 8 0 0 U U U U U);go_wp2_with fail;refine h.o.mono ?_;rintro e aC ⟨B,rfl,y,l⟩;have m:=af (OR (R:=_) ⟨_,_,y,Ou r⟩ i.out z);go_wp2_with fail;refine aU m.o ?_;rintro bm ⟨M,mv,a,bd⟩;have v:Below w w bm:=by have:=a.below.2;rwa [l]at this
 obtain⟨V,T,d,f⟩:=a.view (k:=0) U;obtain⟨E,D,d1,g⟩:=a.view (k:=1) U;have s:Hid (aA 22 #[.pointer (some (ad ((B.p 0).c.c) 0 ab))] bm λe w'=>e=.returned (I b.p.now)/\bm=w'):=af (by have:=vA (hz f);rwa [(bd.hx 0 U).x]at this);have n:Hid (aA 17 #[.pointer (some (ad ((B.p 1).lb) 0 ab))] bm λe w'=>e=.returned (I b.q.aN)/\bm=w'):=af (by have:=yv (o1 g);rwa [(bd.hx 1 U).aN]at this);go_wp2_with fail;refine bA ((Hh a (k:=0) U)) ?_;go_wp2_with fail;refine bA (yf f) ?_;go_wp2_with fail;refine bA s.o ?_;go_wp2_with fail;refine bA ((Hh a (k:=1) U)) ?_;go_wp2_with fail;refine bA (RC g) ?_;go_wp2_with fail;refine bA n.o ?_;go_wp2;go_ret;exact⟨rfl,v⟩
theorem Ic{α:Type}[DecidableEq α]:∀ {L K:List α},L.Pairwise (·≠·)->(∀ x∈L,x∈K)->L.length<=K.length
 | [],_,_,_=>Nat.zero_le _
 | a :: l,K,h,av=>by
  obtain⟨h1,h2⟩:=jg.1 h
  have:=Ic (K:=K.erase a) h2 λx b=>(mem_erase_of_ne (h1 x b).symm).2 (av x (kg _ b))
  rw[length_erase_of_mem (av a mI)]at this
  have:=length_pos_of_mem (av a mI)
  rw[mG];omega
def Oo{L:ah aB}(h:en L):(L.map aB.k).Pairwise (·≠·):=by
 rw[sS];exact h.imp λ{a b} c (e:a.k=b.k)=>mm b.k EA
def XG{most:aa}{L:ah aB}(h:en L){e:aB}{K:ah de}(i:(K.length:aa)<=most)(f:∀ x∈L,x.k∈K)(g:e.k∈K):e∈js most L e/\∀ x∈L,x.k≠e.k->x∈js most L e:=by
 unfold js;split
 .rename_i o b;split
  .rename_i c;exact⟨by rw[<-c];exact(A1 b).1,λx a _=>a⟩
  exact Mb
 rename_i b;split
 .rename_i c;have h1:(e.k :: L.map aB.k).length<=K.length:=Ic (jg.2 ⟨λx a c=>by
   obtain⟨y,d,rfl⟩:=e3.1 a;exact x1 b y d c.symm,Oo h⟩) λx a=>by
   rcases e6.1 a with rfl|a
   .exact g
   obtain⟨y,d,rfl⟩:=e3.1 a;exact f y d
  rw[mG,gV]at h1;omega
 exact Mb
def XE{most now:aa}{L:ah aB}(h:en L){K:ah de}(f:(K.length:aa)<=most)(g:∀ x∈L,x.k∈K):∀ xs:ah aB,en xs.reverse.reverse->(∀ e∈xs,e.k∈K)->(∀ e∈xs,e∈(e9 most now L xs).1)/\(∀ x∈L,(∀ e∈xs,e.k≠x.k)->x∈(e9 most now L xs).1)/\∀ x∈(e9 most now L xs).1,x.k∈K:=by
 intro xs;rw[<-kI xs];generalize xs.reverse=r
 induction r with
 | nil=>exact λ_ _=>⟨λe i=>(nomatch i),λx a _=>a,g⟩
 | cons e l n=>
  intro bd hk;rw[l4]at *;simp only[reverse_append,l4,reverse_nil,nD,kI,singleton_append]at bd;obtain⟨o,_,p⟩:=pq.1 bd;obtain⟨j,m,b⟩:=n (by rw[kI];exact o) λx a=>hk x (sO _ a);have av:=(wE (most:=most) (now:=now) h l.reverse).1;rw[rh];obtain⟨s1,s2⟩:=XG av f b (hk e (sP _ (fL.2 rfl)));refine⟨λx a=>?_,λx a ar=>s2 x (m x a λd hd=>ar d (sO _ hd)) (ar e (sP _ (fL.2 rfl))).symm,λx a=>?_⟩
  .rcases e5.1 a with a|a
   .exact s2 x (j x a) λc=>mm e.k (by have:=p x a e (fL.2 rfl);rwa [c]at this)
   rw[fL.1 a];exact s1
  rcases XJ a with rfl|a
  .exact hk _ (sP _ (fL.2 rfl))
  exact b x a
def jC(s:cD):ak:=∀ j,∀ e∈s.bW j,e∈s.bf
def jC.tell{s:cD}(bd:jC s)(n:tb s)(r:∀ j,∀ e∈s.bW j,e.k.fr=j)(fr:aa){xs:ah aB}(b:en xs)(t:∀ e∈xs,e.k.fr=fr)(K:ah aB)(q:(K.length:aa)<=s.most)(l:∀ j,∀ e∈fY s.bW fr xs j,e∈K):jC (ns s fr xs):=by
 have hd:en (hM s.bf (gg xs (fX s.bf fr))):=tv n.dL _;have o:∀ e∈xs,e.k∈K.map aB.k:=λe a=>e3.2 ⟨e,l fr e (by unfold fY;rw[if_pos rfl];exact a),rfl⟩;obtain⟨h1,h2,_⟩:=XE (most:=s.most) (now:=0) hd (K:=K.map aB.k) (by rw[gV];exact q) (λx b=>by
  have h:=(qP _ _).subset b;by_cases c:x.k.fr=fr
  .have p:x∈fX s.bf fr:=by unfold fX;exact eR.2 ⟨h,xj⟩
   have i:=(eR.1 b).2;simp only[ll,px]at i;cases av:stays xs x with
   | false=>exact absurd ⟨x,by unfold gg;exact eR.2 ⟨p,by simp[av]⟩,rfl⟩ i
   | true=>
    have⟨d,hd,f⟩:=wV.1 av;unfold sr at f;simp only[d',fZ]at f;rw[<-f.1];exact o d hd
  .exact e3.2 ⟨x,l x.k.fr x (by unfold fY;rw[if_neg c];exact n.lt x h),rfl⟩) xs (by rw[kI];exact b) o
 intro j e a;have a:e∈fY s.bW fr xs j:=a;unfold fY at a;split at a
 .exact h1 e a
 rename_i c;have m:=r j e a;refine h2 e (eR.2 ⟨bd j e a,?_⟩) λd hd bo=>c (by rw[<-m,<-bo];exact(t d hd));simp only[ll,px];rintro⟨g,aZ,bo⟩
 have:=(eR.1 (eR.1 aZ).1).2
 simp only[ll,px,Decidable.not_not]at this;exact c (by rw[<-m,<-bo];exact this)
def Pc{L:ah aB}(h:en L):∀ xs:ah aB,en xs->(∀ e∈xs,e∈L)->(∀ c∈(gE L xs).2,c.pl=true)/\∀ x∈L,(∀ e∈xs,e.k≠x.k)->x∈(gE L xs).1:=by
 intro xs;rw[<-kI xs];generalize xs.reverse=r
 induction r with
 | nil=>exact λ_ _=>⟨(λc al=>nomatch al),λx a _=>a⟩
 | cons e l i=>
  intro bd hk;rw[l4]at *;obtain⟨j,_,m⟩:=pq.1 bd;obtain⟨g,b⟩:=i j λx a=>hk x (sO _ a);have f:e∈(gE L l.reverse).1:=b e (hk e (sP _ (fL.2 rfl))) λd hd c=>mm e.k (by have:=m d hd e (fL.2 rfl);rwa [c]at this);rw[qM];refine⟨λc al=>?_,λx a ar=>eR.2 ⟨b x a λd hd=>ar d (sO _ hd),?_⟩⟩
  .rcases e5.1 al with al|al
   .exact g c al
   rw[fL.1 al,GU (h.sublist (xM L l.reverse)) f];rfl
  have:=ar e (sP _ (fL.2 rfl))
  simpa using this
def CS{s:bJ}{F:J}{a_ us:J->J->aa}(h:b8 s F a_ us)(j:aa):∀ e∈s.ld.bW j,e.k.fr=j:=λe a=>((h.wJ j).2.2 e a).2
def three(us cr:J->J->aa){aG:aa}(av:0<=aG/\aG<=4294967295)(a g m n:J)(h1:a<=g)(h2:g<=m)(c:m<=n)(ar:n<=a+17):((qG (λj=>if g<=j/\j<m then eM cr aG j else eM us aG j) a (n-a)).length:aa)<=256:=by
 rw[Ar,show n-a=(g-a)+((m-g)+(n-m))by omega,AD,AD,show a+(g-a)=g by omega,show g+(m-g)=m by omega];rw[xN (T':=eM us aG) a (g-a) λj _ b=>if_neg kh,xN (T':=eM cr aG) g (m-g) λj _ b=>if_pos kh,xN (T':=eM us aG) m (n-m) λj _ b=>if_neg kh];have bY:=vz us av a (g-a);have bo:=vz cr av g (m-g);have eo:=vz us av m (n-m);omega
theorem KG{s:bJ}{us cr:J->J->aa}(av:0<=s.x.aG/\s.x.aG<=4294967295){g:J}{P:J->J×ah aB}(b:∀ k,g+k<s.x.now->P k=(g+k,eM cr s.x.aG (g+k)))(al:-1<=s.ld.aN/\s.ld.aN<g)(d:pH s us cr g g (s,[]))(hm:s.ld.most=256)(l:s.x.now<=s.ld.aN+18)(bd:jC s.ld):∀ k,g+k<=s.x.now->jC (((range k).map P).foldl (ib s.x.now) (s,[])).1.ld
 | 0,_=>bd
 | k+1,hk=>by
  have m:=KG av b al d hm l bd k U;have aO:=CO av b al.2 d k U;have i:=aO.step av U U U;rw[qs,jy,w2,A4,b k U];have h:=nX cr av (g+k);refine m.tell aO.vX (λj e a=>?_) _ h.1 (λe a=>(h.2.2 e a).2) (qG (λj=>if g<=j/\j<g+k+1 then eM cr s.x.aG j else eM us s.x.aG j) (s.ld.aN+1).toNat (s.x.now-(s.ld.aN+1).toNat)) (by rw[aO.most,hm];exact three us cr av _ g (g+k+1) s.x.now U U U U) λj e a=>?_
  .rw[aO.bW]at a;split at a
   .rename_i c;have f:((j.toNat:J):aa)=j:=U;split at a
    .rw[((nX cr av j.toNat).2.2 e a).2,f]
    rw[((nX us av j.toNat).2.2 e a).2,f]
   cases a
  have a:e∈(ib s.x.now (((range k).map P).foldl (ib s.x.now) (s,[])) (g+k,eM cr s.x.aG (g+k))).1.ld.bW j:=a;rw[i.bW]at a;split at a
  .rename_i c;refine BL _ j.toNat U U ?_;split at a
   .rw[if_pos U];exact a
   rw[if_neg U];exact a
  cases a
def Vr{s:bJ}{F:J}{a_ us:J->J->aa}(h:b8 s F a_ us)(hm:s.ld.most=256)(m:s.x.now<=s.ld.aN+18)(bd:jC s.ld):jC (cM s).1.ld:=by
 cases c:fJ s.x with
 | none=>unfold cM;rw[c];exact bd
 | some g=>
  have⟨g1,r,t,u,D⟩:=h.hy.zo h.aL h.jk.1 c;have l:s.ld.aN<g:=by
   exact L6
  have v:=h.jk;have w:=h.lB;obtain⟨f,n,o,p,d,q⟩:=se s.x g (s.x.now-g);obtain⟨s1,b⟩:∃ s1:bJ,s1={s with x:=replay s.x g (s.x.now-g)}:=⟨_,rfl⟩;have cp:s1.x.now=s.x.now:=by rw[b];exact d
  have d1:s1.x.aG=s.x.aG:=by rw[b];exact f
  have a:s1.ld=s.ld:=by rw[b]
  have i:pH s1 us (ju s.x a_ us g s.x.now) g g (s1,[]):=⟨rfl,rfl,rfl,rfl,rfl,by rw[a];exact⟨h.dL,h.k5,h.lt⟩,λj=>by rw[a,cp,d1,h.bW];split<;>first|rw[if_neg U]|rfl⟩;have aO:=KG (s:=s1) (by rw[d1];exact h.aG) (P:=λj=>(g+j,hi (replay s.x g j) (g+j))) (λk hk=>by
   rw[d1];show(g+k,_)=_;rw[yI h.hy g1 U k U]) (by rw[a];exact⟨h.aN.1,l⟩) i (by rw[a];exact hm) (by rw[a,cp];exact m) (by rw[a];exact bd) (s.x.now-g) U
  have e:cM s=((range (s.x.now-g)).map λj=>(g+j,hi (replay s.x g j) (g+j))).foldl (ib s1.x.now) (s1,[]):=by
   unfold cM;rw[c,b];simp only[];rw[d];rfl
  rw[e];exact aO
def XM{s:bJ}{F:J}{a_ us:J->J->aa}(h:b8 s F a_ us)(ar:ha s a_ us)(d:jn s.x=false)(f:s.x.now<=100000)(c:s.x.now<=F+s.x.dv+1)(v:aR)(aW:v.toNat<=63)(o:ah ca)(hm:s.ld.most=256)(i:s.x.now<=s.ld.aN+18)(bd:jC s.ld):jC (lj (ek s v,o)).1.ld:=by
 have⟨cr,_,_,_,g,_⟩:=h.step ar d f c v aW o;have al:=h.aN;show jC (ns s.ld s.x.now (hi (ek s v).x s.x.now));rw[g];have b:=nX cr h.aG s.x.now;refine bd.tell ⟨h.dL,h.k5,h.lt⟩ (CS h) _ b.1 (λe a=>(b.2.2 e a).2) (qG (eM us s.x.aG) (s.ld.aN+1).toNat (s.x.now-(s.ld.aN+1).toNat)++eM cr s.x.aG s.x.now) ?_ λj e a=>?_
 .rw[pn,Ar,hm];have bY:=vz us h.aG (s.ld.aN+1).toNat (s.x.now-(s.ld.aN+1).toNat);have bo:=vz cr h.aG s.x.now 1;have e:j5 (eM cr s.x.aG) s.x.now 1=(eM cr s.x.aG s.x.now).length:=qu _;rw[e]at bo;omega
 unfold fY at a;split at a
 .exact sP _ a
 rw[h.bW]at a;split at a
 .exact sO _ (BL _ j.toNat U U a)
 cases a
def HM(f v:aa)(p:cl)(aJ:(hB f v p).1.b1=false):(hB f v p).1.ld=p.1.ld:=by
 revert aJ;unfold hB;split
 .split
  .exact λ_=>rfl
  exact λc=>absurd ((pT 13 p).2.2.2.2.2.1.symm.trans c) aK
 split<;>exact λ_=>rfl
def Hw(p:cl)(aJ:(eX p).1.b1=false):(eX p).1.ld=p.1.ld:=by rw[((rZ p).2.2.2.2.2 aJ).2]
theorem J7{F:J}{a_ us:J->J->aa}:∀ (n:J) {p:cl},b8 p.1 F a_ us->ha p.1 a_ us->(p.1.b1=false->jC p.1.ld)->(∀ c∈cZ p.2,c.pl=true)->((eA n p).1.b1=false->jC (eA n p).1.ld)/\∀ c∈cZ (eA n p).2,c.pl=true
 | 0,p,_,_,bd,au=>⟨bd,au⟩
 | n+1,p,h,ar,bd,au=>by
  unfold eA;split
  .exact⟨bd,au⟩
  rename_i al;have i:p.1.ld.aN<cY p.1.x:=U
  have aJ:p.1.b1=false:=by cases e:p.1.b1 with
   | false=>rfl
   | true=>exact absurd (.inl e) al
  obtain⟨h1,h2,_⟩:=h.eH ar i p.2;have f:=bd aJ;have k:=h.wJ (p.1.ld.aN+1);obtain⟨l,m⟩:=Pc h.dL _ k.1 (f (p.1.ld.aN+1));have b:jC (jJ p.1.ld (p.1.ld.aN+1)):=λj e a=>by
   have a:e∈fY p.1.ld.bW (p.1.ld.aN+1) [] j:=a;unfold fY at a;split at a
   .cases a
   rename_i c;exact m e (f j e a) λd hd bo=>c (by rw[<-CS h j e a,<-bo];exact CS h _ d hd)
  have g:∀ c∈cZ (p.2++hL p.1.ld (p.1.ld.aN+1)),c.pl=true:=λc al=>by
   rw[vV]at al;rcases e5.1 al with al|al
   .exact au c al
   exact l c (eR.1 al).1
  refine J7 n h1 (by unfold ha bN at *;rw[h2];exact ar) (λaJ=>?_) ?_
  .revert aJ;unfold Go.Proofs.YtalagblioepadaaGreatDoor.eH;simp only[];split
   .unfold iM;split
    .exact λaJ=>by rw[HM _ _ _ aJ];exact b
    exact λ_=>b
   exact λ_=>b
  unfold Go.Proofs.YtalagblioepadaaGreatDoor.eH;simp only[];split
  .rw[Jt];exact g
  exact g
def Yc{s:bJ}{F:J}{a_ us:J->J->aa}(h:b8 s F a_ us)(aJ:s.b1=false)(d:s.x.now<=F+s.x.dv+1)(k:s.x.now<=100000)(v:aR)(aW:v.toNat<=63)(hm:s.ld.most=256)(l:s.x.now<=s.ld.aN+18)(bd:jC s.ld):((cA v s).1.b1=false->jC (cA v s).1.ld)/\∀ c∈cZ (cA v s).2,c.pl=true:=by
 have⟨C,m,_⟩:=t_ h aJ d k v aW;have⟨B,u,w,_,a,b,_,o,_,q,_,r,_,_,_,_,n⟩:=q5 h;have cp:ha (cM s).1 a_ B:=λj i g=>by
  have A:bN (cM s).1=bN s:=by unfold bN fv;rw[q,b]
  rw[b];rw[a]at i;rw[A]at g;exact w j i g
 have f:=Vr h hm l bd;have an:jC (ei v (cM s)).1.ld:=by
  unfold ei;split
  .rename_i al;exact XM u cp (xI al).1 (by rw[a];exact k) (by rw[a,o];exact d) v aW _ (by rw[n];exact hm) (by rw[a,r];exact l) f
  exact f
 obtain⟨y,z⟩:=J7 (cY (ei v (cM s)).1.x-(ei v (cM s)).1.ld.aN).toNat (p:=ei v (cM s)) m.cK m.gH (λ_=>an) (by rw[Ky,Jq];exact λc al=>nomatch al);have e:cA v s=kZ (da v s):=by unfold cA;rw[aJ];rfl
 rw[e];unfold kZ;rw[Bn];exact⟨λaZ=>by
  have t:=(((rZ _).2.2.2.2.2 aZ).2);rw[Hw _ aZ];rw[t]at aZ;exact y aZ,z⟩
def RZ{s:bJ}(t:ah aR)(aJ:(df t s).1.b1=false):(df t s).1.ld=s.ld:=by
 revert aJ;unfold df;split
 .exact λ_=>rfl
 split
 .exact λ_=>rfl
 intro aJ;rw[Hw _ aJ];have a:=(((rZ _).2.2.2.2.2 aJ).2);rw[a]at aJ;revert aJ;unfold Go.Proofs.YtalagblioepadaaGreatDoor.fj;split
 .exact λaJ=>HM _ _ _ aJ
 split<;>exact λ_=>rfl
def Bu(r:aa)(p:cl):(fT r p).1.ld.most=p.1.ld.most:=by
 unfold fT;split
 .rfl
 show(gO p.1.ld).most=_;unfold gO;split<;>rfl
def Hy(p:cl):(eX p).1.ld.most=p.1.ld.most:=by
 unfold eX;split
 .exact Bu _ _
 rfl
def HN(f v:aa)(p:cl):(hB f v p).1.ld.most=p.1.ld.most:=by
 unfold hB;split
 .split
  .rfl
  exact Bu _ _
 split<;>rfl
def WV(p:cl):(eH p).1.ld.most=p.1.ld.most:=by
 unfold eH;simp only[];split
 .unfold iM;split
  .exact HN _ _ _
  rfl
 rfl
theorem J_:∀ (n:J) (p:cl),(eA n p).1.ld.most=p.1.ld.most
 | 0,_=>rfl
 | n+1,p=>by
  unfold eA;split
  .rfl
  rw[J_ n,WV]
theorem KH(now:aa):∀ (l:ah (J×ah aB)) (p:cl),(l.foldl (ib now) p).1.ld.most=p.1.ld.most
 | [],_=>rfl
 | g :: l,p=>KH now l (ib now p g)
def Tz(v:aR)(s:bJ):(da v s).1.ld.most=s.ld.most:=by
 have a:(cM s).1.ld.most=s.ld.most:=by
  unfold cM;split
  .rfl
  exact KH _ _ _
 unfold da jr;rw[J_];unfold ei;split<;>exact a
theorem oN.most{s s':bJ}{cW:ah ca}(h:oN s s' cW):s'.ld.most=s.ld.most:=by
 cases h with
 | tick v aW=>
  unfold cA;split
  .rfl
  unfold kZ;rw[Hy];exact Tz v s
 | tL t=>
  unfold df;split
  .rfl
  split
  .rfl
  rw[Hy];unfold Go.Proofs.YtalagblioepadaaGreatDoor.fj;split
  .exact HN _ _ _
  split<;>rfl
 | leave=>
  unfold fV;split
  .rfl
  exact Bu _ _
 | none=>rfl
theorem xt.most{M eK:dX}{bg b0:aa}{cW:ah ca}(h:xt M eK bg cW b0)(j:J):(eK.p j).ld.most=(M.p j).ld.most:=by
 have⟨k,_,_,h1,h2,_⟩:=h.ex;by_cases e:j=k
 .rw[e];exact h1.most
 rw[h2 j e]
structure vj(M:dX):ak where
 bZ:∀ k,(M.p k).ld.most=256
 dw:∀ k,k<2->(M.p k).b1=false->jC (M.p k).ld
 pl:∀ k,k<2->∀ c∈M.st k,c.pl=true
def vj.move{n d w:J}{cy:aa}{M eK:dX}{bg b0:aa}{cW:ah ca}(h:vj M)(aj:fm n d w cy (pad d M))(g:gY cy (pad d M))(ar:n<=400)(hm:xt M eK bg cW b0):vj eK:=by
 have o:∀ k,(eK.p k).ld.most=256:=λk=>(hm.most k).trans (h.bZ k);have⟨k,hk,_,au,q,_,av⟩:=hm.ex;have key:((eK.p k).b1=false->jC (eK.p k).ld)/\∀ c∈cZ cW,c.pl=true:=by
  generalize eK.p k=s' at au;have a:=h.dw k hk;cases au with
  | tick v aW=>
   cases aJ:(M.p k).b1 with
   | true=>
    have e:cA v (M.p k)=({M.p k with aE:=(c1 (M.p k).aE 0).2},[]):=by unfold cA;rw[if_pos aJ]
    rw[e];exact⟨λc=>absurd (aJ.symm.trans c) aK,λc al=>nomatch al⟩
   | false=>
    obtain⟨F,us,A,aw⟩:=aj.ps k hk;have h1:=aw.E;have h2:=aw.tZ;have i:=g.gF k hk aJ;have l:=aw.cK.hy.eQ;have m:=aw.cK.lB;have f:=aw.wn;have e:(pad d M).p k=M.p k:=rfl;rw[e]at h1 h2 i l m f;exact Yc (s:=M.p k) aw.cK aJ (by rw[f];exact h1) U v aW (h.bZ k) U (a aJ)
  | tL t=>
   refine⟨λaJ=>?_,λc al=>?_⟩
   .rw[RZ t aJ];cases e:(M.p k).b1 with
    | false=>exact a e
    | true=>
     unfold df at aJ;rw[if_pos e]at aJ;exact absurd (e.symm.trans aJ) aK
   have r:cZ (df t (M.p k)).2=[]:=by
    unfold df;split
    .rfl
    split
    .rfl
    exact LP
   rw[r]at al;cases al
  | leave=>
   have⟨_,u,_,_,x⟩:=Ia (M.p k) (g.ct k hk);rw[x];refine⟨λaJ=>?_,λc al=>nomatch al⟩;exfalso
   have:=u aJ
   unfold fV at aJ;rw[if_neg (by rw[this];simp)]at aJ;exact absurd ((pT 12 ({M.p k with aE:=mc (M.p k).aE},[])).2.2.2.2.2.1.symm.trans aJ) aK
  | none=>exact⟨a,λc al=>nomatch al⟩
 refine⟨o,λj b=>?_,λj b c al=>?_⟩
 .by_cases e:j=k
  .rw[e];exact key.1
  rw[q j e];exact h.dw j b
 rcases av j c al with h1|⟨rfl,h1⟩
 .exact h.pl j b c h1
 exact key.2 c h1
def T3(aG:aa)(d n:J)(pat:aa):vj (mZ aG d n pat 256):=⟨λ_=>rfl,(λ_ _ _ _ _ a=>nomatch a),(λ_ _ _ al=>nomatch al)⟩
end Go.Proofs.YtalagblioepadaaGreatDoor
